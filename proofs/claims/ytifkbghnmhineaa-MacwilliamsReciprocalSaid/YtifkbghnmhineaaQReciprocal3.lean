/- What functions of the program do and come to, for the statement MacwilliamsReciprocal, part 3. Conditions: as each theorem says. -/
import Derived.Test.YtifkbghnmhineaaQReciprocal2

namespace Go.Proofs.Ytifkbghnmhineaa.PAll
open Go.RowKit Go.Proofs.YtifkbghnmhineaaW.PrintWords Go.Proofs.YtifkbghnmhineaaW.PrintLast Go.Proofs.YtifkbghnmhineaaW.PrintMore
attribute [local go_sem] max2_int min2_int max_two min_two max_three min_three max_four min_four
set_option linter.unusedVariables false
set_option linter.unusedSimpArgs false
set_option maxHeartbeats 8000000 in
set_option maxRecDepth 100000 in
theorem codewrightlaw24_choose.calls (k : Nat) (a0 : Int) (a1 : Int) (r1 : Bool) (r2 : List Int) (r3 : List Int) (w : World) (h : codewrightlaw24_choose.f k a0 a1 = some (r1, r2, r3)) :
    Calls Try.prog 53 #[.int .i64 a0, .int .i64 a1] w fun e w' => ∃ v1_ v2_ : Value, e = .returned (.agg #[.bool r1, v1_, v2_]) ∧ Kd.R (Kd.int .u32) 97 w' w.heap.size (fun k_ => some k_ ≠ (v2_ : Value).ownBlock) v1_ r2 ∧ Kd.R (Kd.int .u32) 97 w' w.heap.size (fun k_ => some k_ ≠ (v1_ : Value).ownBlock) v2_ r3 ∧ Below w.heap.size w w' := by
 have hu60 := Try.underlying60
 have HB := Aside0.mk (Below.refl w.heap.size w)
 have H : ((codewrightref01_Choose.f k a0 a1).bind fun t102 => ((codewrightref02_Nat.f k t102).bind fun bt105 => (some (bt105.1, bt105.2.1, bt105.2.2)))) = some (r1, r2, r3) := h
 clear h
 replace H := zb H
 obtain ⟨t102, A3, H⟩ := H
 replace H := zb H
 obtain ⟨⟨t105, t106, t109⟩, A4, H⟩ := H
 dsimp only at H
 simp only [Option.some.injEq, Prod.mk.injEq] at H
 obtain ⟨rfl, rfl, rfl⟩ := H
 go_enter Try.func53, Try.ntmps53
 go_wp2_with (first | ((with_reducible refine gate_dst (N := 4) rfl ?_); refine box_event ?hg (N := 4) ?hd (cs := #[.bool false, .slice none 0 0, .slice none 0 0]) (t := 60) ?hr ?_; (case hd => rfl); (case hg => rfl); (case hr => first | (go_simp; done) | (go_simp; rfl)); intro gb101 hg w5 hbox hb; have BK101 := Aside0.mk (hbox); have GW101 := yg hg HB; have GE101 := yg hg HB; replace HB := yS HB hb; clear hb hbox hg) | ((with_reducible refine gate_callee (f := 78) rfl ?_); refine zG (some 7) Try.func78 #[.int .i64 a0, .int .i64 a1] ?_; (with_reducible refine (codewrightref01_Choose.calls k a0 a1 t102 _ A3.out).mono ?_); rintro e w6 ⟨v103, rfl, ho0, hb⟩; refine ⟨_, rfl, ?_⟩; have HO104 := yRl1 ho0 HB GE101; replace BK101 := yK BK101 hb; replace HB := yS1 HB GE101 hb; (try clear hb ho0); obtain ⟨Ao7, co7, rfl⟩ := Kd.R_slice HO104.out) | ((with_reducible refine gate_callee (f := 95) rfl ?_); refine zG (some 8) Try.func95 #[.slice Ao7 t102.length co7] ?_; (with_reducible refine (codewrightref02_Nat.calls k _ _ t102 t105 t106 t109 _ ?side1 ?side2 A4.out).mono ?_); (case side1 => exact zC (Kd.R_reads' HO104.out).2.2); (case side2 => exact (Kd.R_reads' HO104.out).2.1); rintro e w8 ⟨v107, v110, rfl, ho0, ho1, hb⟩; refine ⟨_, rfl, ?_⟩; replace ho0 := yn ho0 HO104; have HO108 := yRl1 ho0 HB GE101; replace ho1 := yn ho1 HO104; have HO111 := yRl1 ho1 HB GE101; replace HO104 := yRt HO104 hb ho0 ho1; replace BK101 := yK BK101 hb; replace HB := yS1 HB GE101 hb; (try clear hb ho0); (try clear ho1); have hcz9_0 : w8.cell? ⟨gb101, 0, none⟩ = some (.bool false) := (blk_cell BK101.out 0).trans rfl; have hcz9_1 : w8.cell? ⟨gb101, 1, none⟩ = some (.slice none 0 0) := (blk_cell BK101.out 1).trans rfl; have hcz9_2 : w8.cell? ⟨gb101, 2, none⟩ = some (.slice none 0 0) := (blk_cell BK101.out 2).trans rfl; have hfz9_0 := blk_frozen BK101.out 0; have hfz9_1 := blk_frozen BK101.out 1; have hfz9_2 := blk_frozen BK101.out 2; obtain ⟨Ao10, co10, rfl⟩ := Kd.R_slice HO108.out; obtain ⟨Ao11, co11, rfl⟩ := Kd.R_slice HO111.out))
 refine bodyPost_ret (results_cell_row rfl _ _ gb101 60 #[.bool t105, .slice Ao10 t106.length co10, .slice Ao11 t109.length co11] (0, 0) _ rfl (by (with_reducible repeat (first | refine blk_drewN ?_ _ | refine blk_drew ?_ | refine blk_alloc ?_ _)); refine blk_put (cs := #[.bool t105, .slice Ao10 t106.length co10, .slice none 0 0]) ?_ 2 _ rfl; (with_reducible repeat (first | refine blk_drewN ?_ _ | refine blk_drew ?_ | refine blk_alloc ?_ _)); refine blk_put (cs := #[.bool t105, .slice none 0 0, .slice none 0 0]) ?_ 1 _ rfl; (with_reducible repeat (first | refine blk_drewN ?_ _ | refine blk_drew ?_ | refine blk_alloc ?_ _)); refine blk_put (cs := #[.bool false, .slice none 0 0, .slice none 0 0]) ?_ 0 _ rfl; (with_reducible repeat (first | refine blk_drewN ?_ _ | refine blk_drew ?_ | refine blk_alloc ?_ _)); exact BK101.out) Try.underlying60 rfl (by kernel_rfl)) rfl ?_
 exact ⟨_, _, zE, by (with_reducible repeat (first | apply Kd.R_alloc | apply Kd.R_drewN | apply Kd.R_drew)); exact yf HO108.out BK101.out (fun _ hk => hk.1.1), by (with_reducible repeat (first | apply Kd.R_alloc | apply Kd.R_drewN | apply Kd.R_drew)); exact yf HO111.out BK101.out (fun _ hk => hk.1.1), zB1 HB.out GE101.out⟩
set_option maxHeartbeats 8000000 in
set_option maxRecDepth 100000 in
theorem codewrightref01_Pow.calls (k : Nat) (A0 : Option Addr) (c0 : Nat) (l0 : List Int) (a1 : Int) (r1 : List Int) (r2 : Int) (w : World) (hr0 : Kd.C (Kd.int .u32) w A0 l0.length l0) (hc0 : l0.length ≤ c0) (h : codewrightref01_Pow.f k l0 a1 = some (r1, r2)) :
    Calls Try.prog 22 #[.slice A0 l0.length c0, .int .i64 a1] w fun e w' => ∃ v0_ : Value, e = .returned (.tuple #[v0_, .int .i64 r2]) ∧ Kd.R (Kd.int .u32) 97 w' w.heap.size (fun _ => True) v0_ r1 ∧ Below w.heap.size w w' := by
 have HR0 := Aside0.mk hr0
 have HC0 := Aside0.mk hc0
 clear hr0 hc0
 have HB := Aside0.mk (Below.refl w.heap.size w)
 have H : (if a1 < 0 then (some (([] : List Int), 6)) else ((codewrightref01_Trim.f k l0).bind fun t101 => (if a1 = 0 then (some ((([1] : List Int)), 0)) else ((codewrightref01_Bits.f k t101).bind fun t107 => (if t107 ≤ 1 then (some (t101, 0)) else (if a1 > 131072 then (some (([] : List Int), 8)) else (codewrightref01_Pow.l0 k t101 a1 (([1] : List Int)) 262144))))))) = some (r1, r2) := h
 clear h
 replace H := zi H
 rcases H with ⟨c3, H⟩ | ⟨c3, H⟩
 · have c3b0 := decide_eq_true c3
   clear c3
   simp only [Option.some.injEq, Prod.mk.injEq] at H
   obtain ⟨rfl, rfl⟩ := H
   go_enter Try.func22, Try.ntmps22
   go_wp2
   go_ret2
   exact ⟨_, zE, z0, zB HB.out⟩
 have c3b0 := decide_eq_false c3
 clear c3
 replace H := zb H
 obtain ⟨t101, A4, H⟩ := H
 replace H := zi H
 rcases H with ⟨c5, H⟩ | ⟨c5, H⟩
 · have c5b0 := beq_iff_eq.mpr c5
   have c5b1 := bne_eq_false_iff_eq.mpr c5
   clear c5
   obtain ⟨y104, hy104⟩ : ∃ y_ : List Int, y_ = (([1] : List Int)) := ⟨_, rfl⟩
   replace H : (some (y104, 0)) = some (r1, r2) := zY hy104 H
   have Ny104 := Aside0.mk hy104
   clear hy104
   simp only [Option.some.injEq, Prod.mk.injEq] at H
   obtain ⟨rfl, rfl⟩ := H
   go_enter Try.func22, Try.ntmps22
   go_wp2_with (first | ((with_reducible refine gate_callee (f := 75) rfl ?_); refine zG (some 11) Try.func75 #[.slice A0 l0.length c0] ?_; (with_reducible refine (codewrightref01_Trim.calls k _ _ l0 t101 _ ?side1 ?side2 A4.out).mono ?_); (case side1 => exact zC HR0.out); (case side2 => exact HC0.out); rintro e w6 ⟨v102, rfl, ho0, hb⟩; refine ⟨_, rfl, ?_⟩; have HO103 := yRl ho0 HB; replace HB := yS HB hb; (try clear hb ho0)) | ((with_reducible refine gate_dst (N := 14) rfl ?_); refine Kd.R_lit (Kd.int .u32) _ 97 ?hg (N := 14) ?hd (xs := ([1] : List Int)) (inner := [.int .u32 1]) (ok := fun _ => True) (okp := fun _ => True) ?hr ?hp (fun _ hk => hk) trivial (Below.refl _ _) (Nat.le_refl _) (by simp) ?_; (case hd => rfl); (case hg => rfl); (case hr => first | (go_simp; done) | (go_simp; rfl)); (case hp => exact (Reps.one (show Kd.M (Kd.int .u32) _ _ _ 1 [.int .u32 1] from rfl) (Reps.none _ _))); intro v105 w7 ho8 hb hg_ hnew_; clear hg_ hnew_; (first | rw [← Ny104.out] at ho8 | (simp only [Int.reduceToNat] at ho8; rw [← Ny104.out] at ho8)); replace ho8 := yn ho8 HO103; have HO106 := yRl ho8 HB; replace HO103 := yRe HO103 ho8 hb; replace HB := yS HB hb; clear hb ho8))
   go_ret2
   exact ⟨_, zE, by (with_reducible repeat (first | apply Kd.R_alloc | apply Kd.R_drewN | apply Kd.R_drew)); exact Kd.R_mono HO106.out (fun _ hk => trivial), zB HB.out⟩
 have c5b0 := beq_eq_false_iff_ne.mpr c5
 have c5b1 := bne_iff_ne.mpr c5
 replace H := zb H
 obtain ⟨t107, A9, H⟩ := H
 replace H := zi H
 rcases H with ⟨c10, H⟩ | ⟨c10, H⟩
 · have c10b0 := decide_eq_true c10
   clear c10
   simp only [Option.some.injEq, Prod.mk.injEq] at H
   obtain ⟨rfl, rfl⟩ := H
   go_enter Try.func22, Try.ntmps22
   go_wp2_with (first | ((with_reducible refine gate_callee (f := 75) rfl ?_); refine zG (some 11) Try.func75 #[.slice A0 l0.length c0] ?_; (with_reducible refine (codewrightref01_Trim.calls k _ _ l0 t101 _ ?side1 ?side2 A4.out).mono ?_); (case side1 => exact zC HR0.out); (case side2 => exact HC0.out); rintro e w11 ⟨v102, rfl, ho0, hb⟩; refine ⟨_, rfl, ?_⟩; have HO103 := yRl ho0 HB; replace HB := yS HB hb; (try clear hb ho0); obtain ⟨Ao12, co12, rfl⟩ := Kd.R_slice HO103.out) | ((with_reducible refine gate_callee (f := 76) rfl ?_); refine zG (some 16) Try.func76 #[.slice Ao12 t101.length co12] ?_; (with_reducible refine (codewrightref01_Bits.calls k _ _ t101 t107 _ ?side1 ?side2 A9.out).mono ?_); (case side1 => exact zC (Kd.R_reads' HO103.out).2.2); (case side2 => exact (Kd.R_reads' HO103.out).2.1); rintro e w13 ⟨rfl, hb⟩; refine ⟨_, rfl, ?_⟩; replace HO103 := yRb HO103 hb; replace HB := yS HB hb; (try clear hb); (try clear hb2); (try clear hk); (try clear hi)))
   go_ret2
   exact ⟨_, zE, zR HO103.out, zB HB.out⟩
 have c10b0 := decide_eq_false c10
 clear c10
 replace H := zi H
 rcases H with ⟨c14, H⟩ | ⟨c14, H⟩
 · have c14b0 : decide (131072 < a1) = true := decide_eq_true c14
   clear c14
   simp only [Option.some.injEq, Prod.mk.injEq] at H
   obtain ⟨rfl, rfl⟩ := H
   go_enter Try.func22, Try.ntmps22
   go_wp2_with (first | ((with_reducible refine gate_callee (f := 75) rfl ?_); refine zG (some 11) Try.func75 #[.slice A0 l0.length c0] ?_; (with_reducible refine (codewrightref01_Trim.calls k _ _ l0 t101 _ ?side1 ?side2 A4.out).mono ?_); (case side1 => exact zC HR0.out); (case side2 => exact HC0.out); rintro e w15 ⟨v102, rfl, ho0, hb⟩; refine ⟨_, rfl, ?_⟩; have HO103 := yRl ho0 HB; replace HB := yS HB hb; (try clear hb ho0); obtain ⟨Ao16, co16, rfl⟩ := Kd.R_slice HO103.out) | ((with_reducible refine gate_callee (f := 76) rfl ?_); refine zG (some 16) Try.func76 #[.slice Ao16 t101.length co16] ?_; (with_reducible refine (codewrightref01_Bits.calls k _ _ t101 t107 _ ?side1 ?side2 A9.out).mono ?_); (case side1 => exact zC (Kd.R_reads' HO103.out).2.2); (case side2 => exact (Kd.R_reads' HO103.out).2.1); rintro e w17 ⟨rfl, hb⟩; refine ⟨_, rfl, ?_⟩; replace HO103 := yRb HO103 hb; replace HB := yS HB hb; (try clear hb); (try clear hb2); (try clear hk); (try clear hi)))
   go_ret2
   exact ⟨_, zE, z0, zB HB.out⟩
 have c14b0 : decide (131072 < a1) = false := decide_eq_false c14
 clear c14
 obtain ⟨y108, hy108⟩ : ∃ y_ : List Int, y_ = (([1] : List Int)) := ⟨_, rfl⟩
 replace H : (codewrightref01_Pow.l0 k t101 a1 y108 262144) = some (r1, r2) := zY hy108 H
 have Ny108 := Aside0.mk hy108
 clear hy108
 have H' := Aside0.mk H
 clear H
 go_enter Try.func22, Try.ntmps22
 go_wp2_with (first | ((with_reducible refine gate_callee (f := 75) rfl ?_); refine zG (some 11) Try.func75 #[.slice A0 l0.length c0] ?_; (with_reducible refine (codewrightref01_Trim.calls k _ _ l0 t101 _ ?side1 ?side2 A4.out).mono ?_); (case side1 => exact zC HR0.out); (case side2 => exact HC0.out); rintro e w18 ⟨v102, rfl, ho0, hb⟩; refine ⟨_, rfl, ?_⟩; have HO103 := yRl ho0 HB; replace HB := yS HB hb; (try clear hb ho0); obtain ⟨Ao19, co19, rfl⟩ := Kd.R_slice HO103.out) | ((with_reducible refine gate_callee (f := 76) rfl ?_); refine zG (some 16) Try.func76 #[.slice Ao19 t101.length co19] ?_; (with_reducible refine (codewrightref01_Bits.calls k _ _ t101 t107 _ ?side1 ?side2 A9.out).mono ?_); (case side1 => exact zC (Kd.R_reads' HO103.out).2.2); (case side2 => exact (Kd.R_reads' HO103.out).2.1); rintro e w20 ⟨rfl, hb⟩; refine ⟨_, rfl, ?_⟩; replace HO103 := yRb HO103 hb; replace HB := yS HB hb; (try clear hb); (try clear hb2); (try clear hk); (try clear hi)) | ((with_reducible refine gate_dst (N := 21) rfl ?_); refine Kd.R_lit (Kd.int .u32) _ 97 ?hg (N := 21) ?hd (xs := ([1] : List Int)) (inner := [.int .u32 1]) (ok := fun _ => True) (okp := fun _ => True) ?hr ?hp (fun _ hk => hk) trivial (Below.refl _ _) (Nat.le_refl _) (by simp) ?_; (case hd => rfl); (case hg => rfl); (case hr => first | (go_simp; done) | (go_simp; rfl)); (case hp => exact (Reps.one (show Kd.M (Kd.int .u32) _ _ _ 1 [.int .u32 1] from rfl) (Reps.none _ _))); intro v109 w21 ho22 hb hg_ hnew_; clear hg_ hnew_; (first | rw [← Ny108.out] at ho22 | (simp only [Int.reduceToNat] at ho22; rw [← Ny108.out] at ho22)); replace ho22 := yn ho22 HO103; have HO110 := yRl ho22 HB; replace HO103 := yRe HO103 ho22 hb; replace HB := yS HB hb; clear hb ho22))
 go_loopg [6, 7] k (fun kq v6 v7 w' => ∃ (x6_1 : List Int) (x7_1 : Int), v7 = .int .i64 x7_1 ∧ Aside0 (codewrightref01_Pow.l0 kq t101 a1 x6_1 x7_1 = some (r1, r2)) ∧ Aside0 (kq ≤ k) ∧ Aside0 (Kd.R (Kd.int .u32) 97 w' w.heap.size (fun k_ => some k_ ≠ (v6 : Value).ownBlock) (.slice Ao19 t101.length co19) t101) ∧ Aside0 (Kd.R (Kd.int .u32) 97 w' w.heap.size (fun k_ => some k_ ≠ ((.slice Ao19 t101.length co19) : Value).ownBlock) v6 x6_1) ∧ Aside0 (Below w.heap.size w w'))
 case atStart => exact ⟨(y108), (262144), zF, H', ⟨Nat.le_refl _⟩, ⟨by (with_reducible repeat (first | apply Kd.R_alloc | apply Kd.R_drewN | apply Kd.R_drew)); exact Kd.R_mono HO103.out (fun _ hk => hk.2)⟩, ⟨by (with_reducible repeat (first | apply Kd.R_alloc | apply Kd.R_drewN | apply Kd.R_drew)); exact Kd.R_mono HO110.out (fun _ hk => hk.2)⟩, ⟨zB HB.out⟩⟩
 clear H'
 (try clear c1);(try clear c2);(try clear p2);(try clear c3);(try clear c3b0);(try clear c5);(try clear c5b0);(try clear c5b1);(try clear c7);(try clear c10);(try clear c10b0);(try clear c14);(try clear c14b0);(try clear c22)
 obtain ⟨x6_1, x7_1, rfl, HA, HK1, HO_0, HO_6, HB⟩ := hrel
 cases gk with | zero => exact absurd HA.out (by simp [codewrightref01_Pow.l0]) | succ k1 => ?_
 have H := HA.out
 clear HA
 simp only [codewrightref01_Pow.l0] at H
 replace H := zi H
 rcases H with ⟨c23, H⟩ | ⟨c23, H⟩
 · have c23b0 : decide (0 < x7_1) = true := decide_eq_true c23
   clear c23
   replace H := zb H
   obtain ⟨t111, A24, H⟩ := H
   replace H := zh H
   obtain ⟨c25, H⟩ := H
   have c25b0 := beq_eq_false_iff_ne.mpr c25
   have c25b1 := bne_iff_ne.mpr c25
   replace H := zi H
   rcases H with ⟨c26, H⟩ | ⟨c26, H⟩
   · have c26b0 := beq_iff_eq.mpr c26
     have c26b1 := bne_eq_false_iff_eq.mpr c26
     clear c26
     replace H := zb H
     obtain ⟨t114, A27, H⟩ := H
     replace H := zi H
     rcases H with ⟨c28, H⟩ | ⟨c28, H⟩
     · have c28b0 : decide (4096 < (t114.length : Int)) = true := decide_eq_true c28
       have c28b1 : decide (4096 < t114.length) = true := decide_eq_true (by omega)
       clear c28
       simp only [Option.some.injEq, Prod.mk.injEq] at H
       obtain ⟨rfl, rfl⟩ := H
       obtain ⟨Ao29, co29, rfl⟩ := Kd.R_slice HO_6.out
       go_wp2_with (first | ((with_reducible refine gate_callee (f := 26) rfl ?_); refine zG (some 28) Try.func26 #[.slice Ao29 x6_1.length co29, .slice Ao29 x6_1.length co29] ?_; (with_reducible refine (codewrightref01_Mul.calls k1 _ _ x6_1 _ _ x6_1 t111 _ ?side1 ?side2 ?side3 ?side4 A24.out).mono ?_); (case side1 => exact zC (Kd.R_reads' HO_6.out).2.2); (case side2 => exact (Kd.R_reads' HO_6.out).2.1); (case side3 => exact zC (Kd.R_reads' HO_6.out).2.2); (case side4 => exact (Kd.R_reads' HO_6.out).2.1); rintro e w30 ⟨v112, rfl, ho0, hb⟩; refine ⟨_, rfl, ?_⟩; replace ho0 := yn ho0 HO_0; replace ho0 := yn ho0 HO_6; have HO113 := yRl ho0 HB; replace HO_0 := yRe HO_0 ho0 hb; replace HO_6 := yRe HO_6 ho0 hb; replace HB := yS HB hb; (try clear hb ho0); obtain ⟨Ao31, co31, rfl⟩ := Kd.R_slice HO113.out) | ((with_reducible refine gate_callee (f := 26) rfl ?_); refine zG (some 36) Try.func26 #[.slice Ao31 t111.length co31, .slice Ao19 t101.length co19] ?_; (with_reducible refine (codewrightref01_Mul.calls k1 _ _ t111 _ _ t101 t114 _ ?side1 ?side2 ?side3 ?side4 A27.out).mono ?_); (case side1 => exact zC (Kd.R_reads' HO113.out).2.2); (case side2 => exact (Kd.R_reads' HO113.out).2.1); (case side3 => exact zC (Kd.R_reads' HO_0.out).2.2); (case side4 => exact (Kd.R_reads' HO_0.out).2.1); rintro e w32 ⟨v115, rfl, ho0, hb⟩; refine ⟨_, rfl, ?_⟩; replace ho0 := yn ho0 HO_0; replace ho0 := yn ho0 HO_6; replace ho0 := yn ho0 HO113; have HO116 := yRl ho0 HB; replace HO_0 := yRe HO_0 ho0 hb; replace HO_6 := yRe HO_6 ho0 hb; replace HO113 := yRe HO113 ho0 hb; replace HB := yS HB hb; (try clear hb ho0); obtain ⟨Ao33, co33, rfl⟩ := Kd.R_slice HO116.out))
       go_ret2
       exact ⟨_, zE, z0, zB HB.out⟩
     have c28b0 : decide (4096 < (t114.length : Int)) = false := decide_eq_false c28
     have c28b1 : decide (4096 < t114.length) = false := decide_eq_false (by omega)
     clear c28
     have H' := Aside0.mk H
     clear H
     obtain ⟨Ao34, co34, rfl⟩ := Kd.R_slice HO_6.out
     go_wp2_with (first | ((with_reducible refine gate_callee (f := 26) rfl ?_); refine zG (some 28) Try.func26 #[.slice Ao34 x6_1.length co34, .slice Ao34 x6_1.length co34] ?_; (with_reducible refine (codewrightref01_Mul.calls k1 _ _ x6_1 _ _ x6_1 t111 _ ?side1 ?side2 ?side3 ?side4 A24.out).mono ?_); (case side1 => exact zC (Kd.R_reads' HO_6.out).2.2); (case side2 => exact (Kd.R_reads' HO_6.out).2.1); (case side3 => exact zC (Kd.R_reads' HO_6.out).2.2); (case side4 => exact (Kd.R_reads' HO_6.out).2.1); rintro e w35 ⟨v112, rfl, ho0, hb⟩; refine ⟨_, rfl, ?_⟩; replace ho0 := yn ho0 HO_0; replace ho0 := yn ho0 HO_6; have HO113 := yRl ho0 HB; replace HO_0 := yRe HO_0 ho0 hb; replace HO_6 := yRe HO_6 ho0 hb; replace HB := yS HB hb; (try clear hb ho0); obtain ⟨Ao36, co36, rfl⟩ := Kd.R_slice HO113.out) | ((with_reducible refine gate_callee (f := 26) rfl ?_); refine zG (some 36) Try.func26 #[.slice Ao36 t111.length co36, .slice Ao19 t101.length co19] ?_; (with_reducible refine (codewrightref01_Mul.calls k1 _ _ t111 _ _ t101 t114 _ ?side1 ?side2 ?side3 ?side4 A27.out).mono ?_); (case side1 => exact zC (Kd.R_reads' HO113.out).2.2); (case side2 => exact (Kd.R_reads' HO113.out).2.1); (case side3 => exact zC (Kd.R_reads' HO_0.out).2.2); (case side4 => exact (Kd.R_reads' HO_0.out).2.1); rintro e w37 ⟨v115, rfl, ho0, hb⟩; refine ⟨_, rfl, ?_⟩; replace ho0 := yn ho0 HO_0; replace ho0 := yn ho0 HO_6; replace ho0 := yn ho0 HO113; have HO116 := yRl ho0 HB; replace HO_0 := yRe HO_0 ho0 hb; replace HO_6 := yRe HO_6 ho0 hb; replace HO113 := yRe HO113 ho0 hb; replace HB := yS HB hb; (try clear hb ho0); obtain ⟨Ao38, co38, rfl⟩ := Kd.R_slice HO116.out))
     go_roundg k1
     case measure => have := HK1.out; omega
     case rel => exact ⟨(t114), (wrap64 (Int.tdiv x7_1 2)), zF, H', ⟨zo1 HK1⟩, ⟨by (with_reducible repeat (first | apply Kd.R_alloc | apply Kd.R_drewN | apply Kd.R_drew)); exact Kd.R_mono HO_0.out (fun _ hk => hk.2)⟩, ⟨by (with_reducible repeat (first | apply Kd.R_alloc | apply Kd.R_drewN | apply Kd.R_drew)); exact Kd.R_mono HO116.out (fun _ hk => hk.1.1.2)⟩, ⟨zB HB.out⟩⟩
   have c26b0 := beq_eq_false_iff_ne.mpr c26
   have c26b1 := bne_iff_ne.mpr c26
   replace H := zi H
   rcases H with ⟨c39, H⟩ | ⟨c39, H⟩
   · have c39b0 : decide (4096 < (t111.length : Int)) = true := decide_eq_true c39
     have c39b1 : decide (4096 < t111.length) = true := decide_eq_true (by omega)
     clear c39
     simp only [Option.some.injEq, Prod.mk.injEq] at H
     obtain ⟨rfl, rfl⟩ := H
     obtain ⟨Ao40, co40, rfl⟩ := Kd.R_slice HO_6.out
     go_wp2_with (first | ((with_reducible refine gate_callee (f := 26) rfl ?_); refine zG (some 28) Try.func26 #[.slice Ao40 x6_1.length co40, .slice Ao40 x6_1.length co40] ?_; (with_reducible refine (codewrightref01_Mul.calls k1 _ _ x6_1 _ _ x6_1 t111 _ ?side1 ?side2 ?side3 ?side4 A24.out).mono ?_); (case side1 => exact zC (Kd.R_reads' HO_6.out).2.2); (case side2 => exact (Kd.R_reads' HO_6.out).2.1); (case side3 => exact zC (Kd.R_reads' HO_6.out).2.2); (case side4 => exact (Kd.R_reads' HO_6.out).2.1); rintro e w41 ⟨v112, rfl, ho0, hb⟩; refine ⟨_, rfl, ?_⟩; replace ho0 := yn ho0 HO_0; replace ho0 := yn ho0 HO_6; have HO113 := yRl ho0 HB; replace HO_0 := yRe HO_0 ho0 hb; replace HO_6 := yRe HO_6 ho0 hb; replace HB := yS HB hb; (try clear hb ho0); obtain ⟨Ao42, co42, rfl⟩ := Kd.R_slice HO113.out))
     go_ret2
     exact ⟨_, zE, z0, zB HB.out⟩
   have c39b0 : decide (4096 < (t111.length : Int)) = false := decide_eq_false c39
   have c39b1 : decide (4096 < t111.length) = false := decide_eq_false (by omega)
   clear c39
   have H' := Aside0.mk H
   clear H
   obtain ⟨Ao43, co43, rfl⟩ := Kd.R_slice HO_6.out
   go_wp2_with (first | ((with_reducible refine gate_callee (f := 26) rfl ?_); refine zG (some 28) Try.func26 #[.slice Ao43 x6_1.length co43, .slice Ao43 x6_1.length co43] ?_; (with_reducible refine (codewrightref01_Mul.calls k1 _ _ x6_1 _ _ x6_1 t111 _ ?side1 ?side2 ?side3 ?side4 A24.out).mono ?_); (case side1 => exact zC (Kd.R_reads' HO_6.out).2.2); (case side2 => exact (Kd.R_reads' HO_6.out).2.1); (case side3 => exact zC (Kd.R_reads' HO_6.out).2.2); (case side4 => exact (Kd.R_reads' HO_6.out).2.1); rintro e w44 ⟨v112, rfl, ho0, hb⟩; refine ⟨_, rfl, ?_⟩; replace ho0 := yn ho0 HO_0; replace ho0 := yn ho0 HO_6; have HO113 := yRl ho0 HB; replace HO_0 := yRe HO_0 ho0 hb; replace HO_6 := yRe HO_6 ho0 hb; replace HB := yS HB hb; (try clear hb ho0); obtain ⟨Ao45, co45, rfl⟩ := Kd.R_slice HO113.out))
   go_roundg k1
   case measure => have := HK1.out; omega
   case rel => exact ⟨(t111), (wrap64 (Int.tdiv x7_1 2)), zF, H', ⟨zo1 HK1⟩, ⟨by (with_reducible repeat (first | apply Kd.R_alloc | apply Kd.R_drewN | apply Kd.R_drew)); exact Kd.R_mono HO_0.out (fun _ hk => hk.2)⟩, ⟨by (with_reducible repeat (first | apply Kd.R_alloc | apply Kd.R_drewN | apply Kd.R_drew)); exact Kd.R_mono HO113.out (fun _ hk => hk.1.2)⟩, ⟨zB HB.out⟩⟩
 have c23b0 : decide (0 < x7_1) = false := decide_eq_false c23
 clear c23
 simp only [Option.some.injEq, Prod.mk.injEq] at H
 obtain ⟨rfl, rfl⟩ := H
 go_wp2
 go_ret2
 exact ⟨_, zE, by (with_reducible repeat (first | apply Kd.R_alloc | apply Kd.R_drewN | apply Kd.R_drew)); exact Kd.R_mono HO_6.out (fun _ hk => trivial), zB HB.out⟩
set_option maxHeartbeats 8000000 in
set_option maxRecDepth 100000 in
theorem codewrightlaw24_pow.calls (k : Nat) (a0 : Int) (a1 : Int) (r1 : Bool) (r2 : List Int) (r3 : List Int) (w : World) (h : codewrightlaw24_pow.f k a0 a1 = some (r1, r2, r3)) :
    Calls Try.prog 54 #[.int .i64 a0, .int .i64 a1] w fun e w' => ∃ v1_ v2_ : Value, e = .returned (.agg #[.bool r1, v1_, v2_]) ∧ Kd.R (Kd.int .u32) 97 w' w.heap.size (fun k_ => some k_ ≠ (v2_ : Value).ownBlock) v1_ r2 ∧ Kd.R (Kd.int .u32) 97 w' w.heap.size (fun k_ => some k_ ≠ (v1_ : Value).ownBlock) v2_ r3 ∧ Below w.heap.size w w' := by
 have hu60 := Try.underlying60
 have HB := Aside0.mk (Below.refl w.heap.size w)
 have H : ((codewrightref01_Of.f k (IntKind.u64.wrap (a0))).bind fun t102 => ((codewrightref01_Pow.f k t102 a1).bind fun bt105 => ((codewrightref02_Nat.f k bt105.1).bind fun bt109 => (some (bt109.1, bt109.2.1, bt109.2.2))))) = some (r1, r2, r3) := h
 clear h
 replace H := zb H
 obtain ⟨t102, A3, H⟩ := H
 replace H := zb H
 obtain ⟨⟨t105, t106⟩, A4, H⟩ := H
 dsimp only at H
 replace H := zb H
 obtain ⟨⟨t109, t110, t113⟩, A5, H⟩ := H
 dsimp only at H
 simp only [Option.some.injEq, Prod.mk.injEq] at H
 obtain ⟨rfl, rfl, rfl⟩ := H
 go_enter Try.func54, Try.ntmps54
 go_wp2_with (first | ((with_reducible refine gate_dst (N := 4) rfl ?_); refine box_event ?hg (N := 4) ?hd (cs := #[.bool false, .slice none 0 0, .slice none 0 0]) (t := 60) ?hr ?_; (case hd => rfl); (case hg => rfl); (case hr => first | (go_simp; done) | (go_simp; rfl)); intro gb101 hg w6 hbox hb; have BK101 := Aside0.mk (hbox); have GW101 := yg hg HB; have GE101 := yg hg HB; replace HB := yS HB hb; clear hb hbox hg) | ((with_reducible refine gate_callee (f := 23) rfl ?_); refine zG (some 10) Try.func23 #[.int .u64 (IntKind.u64.wrap (a0))] ?_; (with_reducible refine (codewrightref01_Of.calls k (IntKind.u64.wrap (a0)) t102 _ A3.out).mono ?_); rintro e w7 ⟨v103, rfl, ho0, hb⟩; refine ⟨_, rfl, ?_⟩; have HO104 := yRl1 ho0 HB GE101; replace BK101 := yK BK101 hb; replace HB := yS1 HB GE101 hb; (try clear hb ho0); obtain ⟨Ao8, co8, rfl⟩ := Kd.R_slice HO104.out) | ((with_reducible refine gate_callee (f := 22) rfl ?_); refine zG (some 12) Try.func22 #[.slice Ao8 t102.length co8, .int .i64 a1] ?_; (with_reducible refine (codewrightref01_Pow.calls k _ _ t102 a1 t105 t106 _ ?side1 ?side2 A4.out).mono ?_); (case side1 => exact zC (Kd.R_reads' HO104.out).2.2); (case side2 => exact (Kd.R_reads' HO104.out).2.1); rintro e w9 ⟨v107, rfl, ho0, hb⟩; refine ⟨_, rfl, ?_⟩; replace ho0 := yn ho0 HO104; have HO108 := yRl1 ho0 HB GE101; replace HO104 := yRe HO104 ho0 hb; replace BK101 := yK BK101 hb; replace HB := yS1 HB GE101 hb; (try clear hb ho0); obtain ⟨Ao10, co10, rfl⟩ := Kd.R_slice HO108.out) | ((with_reducible refine gate_callee (f := 95) rfl ?_); refine zG (some 16) Try.func95 #[.slice Ao10 t105.length co10] ?_; (with_reducible refine (codewrightref02_Nat.calls k _ _ t105 t109 t110 t113 _ ?side1 ?side2 A5.out).mono ?_); (case side1 => exact zC (Kd.R_reads' HO108.out).2.2); (case side2 => exact (Kd.R_reads' HO108.out).2.1); rintro e w11 ⟨v111, v114, rfl, ho0, ho1, hb⟩; refine ⟨_, rfl, ?_⟩; replace ho0 := yn ho0 HO104; replace ho0 := yn ho0 HO108; have HO112 := yRl1 ho0 HB GE101; replace ho1 := yn ho1 HO104; replace ho1 := yn ho1 HO108; have HO115 := yRl1 ho1 HB GE101; replace HO104 := yRt HO104 hb ho0 ho1; replace HO108 := yRt HO108 hb ho0 ho1; replace BK101 := yK BK101 hb; replace HB := yS1 HB GE101 hb; (try clear hb ho0); (try clear ho1); have hcz12_0 : w11.cell? ⟨gb101, 0, none⟩ = some (.bool false) := (blk_cell BK101.out 0).trans rfl; have hcz12_1 : w11.cell? ⟨gb101, 1, none⟩ = some (.slice none 0 0) := (blk_cell BK101.out 1).trans rfl; have hcz12_2 : w11.cell? ⟨gb101, 2, none⟩ = some (.slice none 0 0) := (blk_cell BK101.out 2).trans rfl; have hfz12_0 := blk_frozen BK101.out 0; have hfz12_1 := blk_frozen BK101.out 1; have hfz12_2 := blk_frozen BK101.out 2; obtain ⟨Ao13, co13, rfl⟩ := Kd.R_slice HO112.out; obtain ⟨Ao14, co14, rfl⟩ := Kd.R_slice HO115.out))
 refine bodyPost_ret (results_cell_row rfl _ _ gb101 60 #[.bool t109, .slice Ao13 t110.length co13, .slice Ao14 t113.length co14] (0, 0) _ rfl (by (with_reducible repeat (first | refine blk_drewN ?_ _ | refine blk_drew ?_ | refine blk_alloc ?_ _)); refine blk_put (cs := #[.bool t109, .slice Ao13 t110.length co13, .slice none 0 0]) ?_ 2 _ rfl; (with_reducible repeat (first | refine blk_drewN ?_ _ | refine blk_drew ?_ | refine blk_alloc ?_ _)); refine blk_put (cs := #[.bool t109, .slice none 0 0, .slice none 0 0]) ?_ 1 _ rfl; (with_reducible repeat (first | refine blk_drewN ?_ _ | refine blk_drew ?_ | refine blk_alloc ?_ _)); refine blk_put (cs := #[.bool false, .slice none 0 0, .slice none 0 0]) ?_ 0 _ rfl; (with_reducible repeat (first | refine blk_drewN ?_ _ | refine blk_drew ?_ | refine blk_alloc ?_ _)); exact BK101.out) Try.underlying60 rfl (by kernel_rfl)) rfl ?_
 exact ⟨_, _, zE, by (with_reducible repeat (first | apply Kd.R_alloc | apply Kd.R_drewN | apply Kd.R_drew)); exact yf HO112.out BK101.out (fun _ hk => hk.1.1.1), by (with_reducible repeat (first | apply Kd.R_alloc | apply Kd.R_drewN | apply Kd.R_drew)); exact yf HO115.out BK101.out (fun _ hk => hk.1.1.1), zB1 HB.out GE101.out⟩
def codewrightlaw24_MacwilliamsReciprocal.T6 : Bool × List (List Nat × List Nat) := (true, [([], []), ([0], [0]), ([1], [1]), ([2], [2]), ([3, 2], [2, 3]), ([2, 4], [2, 4]), ([5, 2], [5]), ([6], [6]), ([7, 6], [6, 7]), ([6, 8], [6, 8]), ([9, 6], [9]), ([10], [10]), ([10, 10], [10]), ([11, 12, 12, 10], [10, 11, 12]), ([13, 10], [10, 13]), ([10, 14], [10, 14])])
def codewrightlaw24_MacwilliamsReciprocal.B6 : List Nat := [0, 1, 3, 7, 15, 31, 63, 127, 255, 511, 1023, 2047, 2047, 8191, 16383, 32767]
theorem codewrightlaw24_MacwilliamsReciprocal.tab6 : rtab .any (opsOf Try.f12 6) = codewrightlaw24_MacwilliamsReciprocal.T6 := by kernel_rfl
theorem codewrightlaw24_MacwilliamsReciprocal.bits6 : waitsOk codewrightlaw24_MacwilliamsReciprocal.T6.2 codewrightlaw24_MacwilliamsReciprocal.B6 = true := by kernel_rfl
def codewrightlaw24_MacwilliamsReciprocal.T8 : Bool × List (List Nat × List Nat) := (true, [([], []), ([], []), ([1], [1]), ([2], [2]), ([], []), ([4], [4]), ([3, 5], [3, 5]), ([], []), ([7], [7]), ([], []), ([9], [9]), ([8, 10, 6], [8, 10]), ([6, 11, 11], [6, 11]), ([0, 12, 12], [0, 12]), ([], []), ([], []), ([15], [15]), ([16], [16]), ([], []), ([18], [18]), ([17, 19, 13], [17, 19]), ([], []), ([21], [21]), ([], []), ([23], [23]), ([22, 24, 20], [22, 24]), ([20, 25, 25], [20, 25]), ([14, 26, 26], [14, 26]), ([13, 27, 27], [13, 27]), ([28, 28, 0, 1, 2, 3, 4, 5, 6, 7, 8, 9, 10, 11, 12, 13, 14, 15, 16, 17, 18, 19, 20, 21, 22, 23, 24, 25, 26, 27, 28], [28])])
def codewrightlaw24_MacwilliamsReciprocal.B8 : List Nat := [0, 0, 2, 6, 0, 16, 62, 0, 128, 0, 512, 2046, 4094, 8191, 0, 0, 32768, 98304, 0, 262144, 1032191, 0, 2097152, 0, 8388608, 33538047, 67092479, 134217727, 268435455, 536870911]
theorem codewrightlaw24_MacwilliamsReciprocal.tab8 : rtab .any (opsOf Try.f12 8) = codewrightlaw24_MacwilliamsReciprocal.T8 := by kernel_rfl
theorem codewrightlaw24_MacwilliamsReciprocal.bits8 : waitsOk codewrightlaw24_MacwilliamsReciprocal.T8.2 codewrightlaw24_MacwilliamsReciprocal.B8 = true := by kernel_rfl
set_option maxHeartbeats 8000000 in
set_option maxRecDepth 100000 in
theorem codewrightlaw24_MacwilliamsReciprocal.calls (k : Nat) (a0 : Int) (a1 : Int) (a2 : Int) (a3 : Int) (r : Bool) (w : World) (h : codewrightlaw24_MacwilliamsReciprocal.f k a0 a1 a2 a3 = some r) :
    Calls Try.prog 12 #[.int .u8 a0, .int .u8 a1, .int .u8 a2, .int .u8 a3] w fun e w' => e = .returned (.bool r) ∧ Below w.heap.size w w' := by
 have hu60 := Try.underlying60
 have HB := Aside0.mk (Below.refl w.heap.size w)
 have H : (if a0 < 2 then (codewrightlaw24_MacwilliamsReciprocal.j0 k a0 a1 a2 a3 true) else (if a1 > 32 then (codewrightlaw24_MacwilliamsReciprocal.j0 k a0 a1 a2 a3 true) else (if a2 > a1 then (codewrightlaw24_MacwilliamsReciprocal.j0 k a0 a1 a2 a3 true) else (codewrightlaw24_MacwilliamsReciprocal.j0 k a0 a1 a2 a3 (decide (a3 > a1)))))) = some r := h
 clear h
 have HC5 := Aside0.mk H
 clear H
 go_enter Try.func12, Try.ntmps12
 go_upto_region 1 with (fail)
 go_cut [30] (fun v30 wc => ∃ (kq : Nat) (x30_4 : Bool), v30 = .bool x30_4 ∧ Aside0 (codewrightlaw24_MacwilliamsReciprocal.j0 kq a0 a1 a2 a3 x30_4 = some r) ∧ Aside0 (kq ≤ k) ∧ Aside0 (Below w.heap.size w wc))
 case first =>
  have H := HC5.out
  clear HC5
  replace H := zi H
  rcases H with ⟨c6, H⟩ | ⟨c6, H⟩
  · have c6b0 := decide_eq_true c6
    clear c6
    (first | rw [c6b0] | (simp only [i64_w, i32_w]; rw [c6b0]) | rw [c6b1] | skip)
    have H' := Aside0.mk H
    clear H
    go_wp2
    go_meet
    case rel => exact ⟨_, (true), zF, H', ⟨zO⟩, ⟨zB HB.out⟩⟩
  have c6b0 := decide_eq_false c6
  clear c6
  (first | rw [c6b0] | (simp only [i64_w, i32_w]; rw [c6b0]) | rw [c6b1] | skip)
  replace H := zi H
  rcases H with ⟨c7, H⟩ | ⟨c7, H⟩
  · have c7b0 : decide (32 < a1) = true := decide_eq_true c7
    clear c7
    have H' := Aside0.mk H
    clear H
    go_wp2
    go_meet
    case rel => exact ⟨_, (true), zF, H', ⟨zO⟩, ⟨zB HB.out⟩⟩
  have c7b0 : decide (32 < a1) = false := decide_eq_false c7
  clear c7
  replace H := zi H
  rcases H with ⟨c8, H⟩ | ⟨c8, H⟩
  · have c8b0 : decide (a1 < a2) = true := decide_eq_true c8
    clear c8
    have H' := Aside0.mk H
    clear H
    go_wp2
    go_meet
    case rel => exact ⟨_, (true), zF, H', ⟨zO⟩, ⟨zB HB.out⟩⟩
  have c8b0 : decide (a1 < a2) = false := decide_eq_false c8
  clear c8
  have H' := Aside0.mk H
  clear H
  go_wp2
  go_meet
  case rel => exact ⟨_, (decide (a3 > a1)), zF, H', ⟨zO⟩, ⟨zB HB.out⟩⟩
 clear HC5
 (try clear c1);(try clear p2);(try clear c6);(try clear c6b0);(try clear c6b1);(try clear c7);(try clear c7b0);(try clear c8);(try clear c8b0)
 obtain ⟨kq, x30_4, rfl, HA, HJ4, HB⟩ := hcut
 cases kq with | zero => exact absurd HA.out (by simp [codewrightlaw24_MacwilliamsReciprocal.j0]) | succ kj4 => ?_
 have H := HA.out
 clear HA
 simp only [codewrightlaw24_MacwilliamsReciprocal.j0] at H
 by_cases c9 : x30_4 = true
 · subst c9
   rw [if_pos rfl] at H
   obtain rfl := Option.some.inj H
   go_wp2
   go_ret
   exact ⟨zE, zB HB.out⟩
 replace c9 := Bool.eq_false_iff.mpr c9
 subst c9
 rw [if_neg Bool.false_ne_true] at H
 replace H := zb H
 obtain ⟨⟨t101, t102, t105, t108⟩, A10, H⟩ := H
 dsimp only at H
 replace H := zb H
 obtain ⟨⟨t110, t111, t114, t117⟩, A11, H⟩ := H
 dsimp only at H
 replace H := zb H
 obtain ⟨⟨t119, t120, t123, t126⟩, A12, H⟩ := H
 dsimp only at H
 have HC13 := Aside0.mk H
 clear H
 go_upto_region 6 with (first | ((with_reducible refine gate_callee (f := 49) rfl ?_); refine zG (some 40) Try.func49 #[.int .i64 (wrap64 (a0)), .int .i64 (wrap64 (a1)), .int .i64 (wrap64 (a3)), .int .i64 (wrap64 (a2))] ?_; (with_reducible refine (codewrightlaw24_k.calls kj4 (wrap64 (a0)) (wrap64 (a1)) (wrap64 (a3)) (wrap64 (a2)) t101 t102 t105 t108 _ A10.out).mono ?_); rintro e w14 ⟨v103, v106, rfl, ho0, ho1, hb⟩; refine ⟨_, rfl, ?_⟩; have HO104 := yVm ho0 HB; have HO107 := yVm ho1 HB; replace HB := yS HB hb; (try clear hb ho0); (try clear ho1)) | ((with_reducible refine gate_dst (N := 9) rfl ?_); refine box_event ?hg (N := 9) ?hd (cs := #[.bool false, .slice none 0 0, .slice none 0 0]) (t := 60) ?hr ?_; (case hd => rfl); (case hg => rfl); (case hr => first | (go_simp; done) | (go_simp; rfl)); intro gb109 hg w15 hbox hb; replace HO104 := yVB HO104 hg hb; replace HO107 := yVB HO107 hg hb; have BK109 := Aside0.mk (hbox); have GW109 := yg hg HB; have GE109 := yg hg HB; replace HB := yS HB hb; clear hb hbox hg; have hcz16_0 : w15.cell? ⟨gb109, 0, none⟩ = some (.bool false) := (blk_cell BK109.out 0).trans rfl; have hcz16_1 : w15.cell? ⟨gb109, 1, none⟩ = some (.slice none 0 0) := (blk_cell BK109.out 1).trans rfl; have hcz16_2 : w15.cell? ⟨gb109, 2, none⟩ = some (.slice none 0 0) := (blk_cell BK109.out 2).trans rfl; have hfz16_0 := blk_frozen BK109.out 0; have hfz16_1 := blk_frozen BK109.out 1; have hfz16_2 := blk_frozen BK109.out 2; obtain ⟨Ao17, co17, rfl⟩ := Kd.V_slice HO104.out; obtain ⟨Ao18, co18, rfl⟩ := Kd.V_slice HO107.out) | ((with_reducible refine gate_callee (f := 49) rfl ?_); refine zG (some 52) Try.func49 #[.int .i64 (wrap64 (a0)), .int .i64 (wrap64 (a1)), .int .i64 (wrap64 (a2)), .int .i64 (wrap64 (a3))] ?_; (with_reducible refine (codewrightlaw24_k.calls kj4 (wrap64 (a0)) (wrap64 (a1)) (wrap64 (a2)) (wrap64 (a3)) t110 t111 t114 t117 _ A11.out).mono ?_); rintro e w19 ⟨v112, v115, rfl, ho0, ho1, hb⟩; refine ⟨_, rfl, ?_⟩; replace HO104 := Aside0.mk (Kd.V_below (by (with_reducible repeat (first | apply Kd.V_alloc | apply Kd.V_drewN | apply Kd.V_drew)); exact (Kd.V_mono (Kd.V_far (p := ⟨gb109, 2, none⟩) (Kd.V_far (p := ⟨gb109, 1, none⟩) (Kd.V_far (p := ⟨gb109, 0, none⟩) (Kd.V_mono HO104.out (fun k_ hk => (⟨hk, hk.2⟩ : _ ∧ k_ ≠ gb109))) (fun _ hk => hk.2) (.bool t101)) (fun _ hk => hk.2) (.slice Ao17 t102.length co17)) (fun _ hk => hk.2) (.slice Ao18 t105.length co18)) (fun _ h_ => h_.1))) hb); replace HO107 := Aside0.mk (Kd.V_below (by (with_reducible repeat (first | apply Kd.V_alloc | apply Kd.V_drewN | apply Kd.V_drew)); exact (Kd.V_mono (Kd.V_far (p := ⟨gb109, 2, none⟩) (Kd.V_far (p := ⟨gb109, 1, none⟩) (Kd.V_far (p := ⟨gb109, 0, none⟩) (Kd.V_mono HO107.out (fun k_ hk => (⟨hk, hk.2⟩ : _ ∧ k_ ≠ gb109))) (fun _ hk => hk.2) (.bool t101)) (fun _ hk => hk.2) (.slice Ao17 t102.length co17)) (fun _ hk => hk.2) (.slice Ao18 t105.length co18)) (fun _ h_ => h_.1))) hb); have HO113 := Aside0.mk (Kd.V_lower (Kd.V_mono (ok' := fun k_ => k_ ≠ gb109) ho0 (fun k_ hk_ => (Kd.freshB (g := gb109) (o := .cells #[.bool t101, .slice Ao17 t102.length co17, .slice Ao18 t105.length co18] 60 (0, 0)) (by (with_reducible repeat (first | refine blk_drewN ?_ _ | refine blk_drew ?_ | refine blk_alloc ?_ _)); refine blk_put (cs := #[.bool t101, .slice Ao17 t102.length co17, .slice none 0 0]) ?_ 2 _ rfl; (with_reducible repeat (first | refine blk_drewN ?_ _ | refine blk_drew ?_ | refine blk_alloc ?_ _)); refine blk_put (cs := #[.bool t101, .slice none 0 0, .slice none 0 0]) ?_ 1 _ rfl; (with_reducible repeat (first | refine blk_drewN ?_ _ | refine blk_drew ?_ | refine blk_alloc ?_ _)); refine blk_put (cs := #[.bool false, .slice none 0 0, .slice none 0 0]) ?_ 0 _ rfl; (with_reducible repeat (first | refine blk_drewN ?_ _ | refine blk_drew ?_ | refine blk_alloc ?_ _)); exact BK109.out) k_ hk_))) (below_size (zB1 HB.out GE109.out))); have HO116 := Aside0.mk (Kd.V_lower (Kd.V_mono (ok' := fun k_ => k_ ≠ gb109) ho1 (fun k_ hk_ => (Kd.freshB (g := gb109) (o := .cells #[.bool t101, .slice Ao17 t102.length co17, .slice Ao18 t105.length co18] 60 (0, 0)) (by (with_reducible repeat (first | refine blk_drewN ?_ _ | refine blk_drew ?_ | refine blk_alloc ?_ _)); refine blk_put (cs := #[.bool t101, .slice Ao17 t102.length co17, .slice none 0 0]) ?_ 2 _ rfl; (with_reducible repeat (first | refine blk_drewN ?_ _ | refine blk_drew ?_ | refine blk_alloc ?_ _)); refine blk_put (cs := #[.bool t101, .slice none 0 0, .slice none 0 0]) ?_ 1 _ rfl; (with_reducible repeat (first | refine blk_drewN ?_ _ | refine blk_drew ?_ | refine blk_alloc ?_ _)); refine blk_put (cs := #[.bool false, .slice none 0 0, .slice none 0 0]) ?_ 0 _ rfl; (with_reducible repeat (first | refine blk_drewN ?_ _ | refine blk_drew ?_ | refine blk_alloc ?_ _)); exact BK109.out) k_ hk_))) (below_size (zB1 HB.out GE109.out))); replace BK109 := Aside0.mk (blk_below (g := gb109) (o := .cells #[.bool t101, .slice Ao17 t102.length co17, .slice Ao18 t105.length co18] 60 (0, 0)) (by (with_reducible repeat (first | refine blk_drewN ?_ _ | refine blk_drew ?_ | refine blk_alloc ?_ _)); refine blk_put (cs := #[.bool t101, .slice Ao17 t102.length co17, .slice none 0 0]) ?_ 2 _ rfl; (with_reducible repeat (first | refine blk_drewN ?_ _ | refine blk_drew ?_ | refine blk_alloc ?_ _)); refine blk_put (cs := #[.bool t101, .slice none 0 0, .slice none 0 0]) ?_ 1 _ rfl; (with_reducible repeat (first | refine blk_drewN ?_ _ | refine blk_drew ?_ | refine blk_alloc ?_ _)); refine blk_put (cs := #[.bool false, .slice none 0 0, .slice none 0 0]) ?_ 0 _ rfl; (with_reducible repeat (first | refine blk_drewN ?_ _ | refine blk_drew ?_ | refine blk_alloc ?_ _)); exact BK109.out) hb); replace HB := yS1 HB GE109 hb; (try clear hb ho0); (try clear ho1)) | ((with_reducible refine gate_dst (N := 11) rfl ?_); refine box_event ?hg (N := 11) ?hd (cs := #[.bool false, .slice none 0 0, .slice none 0 0]) (t := 60) ?hr ?_; (case hd => rfl); (case hg => rfl); (case hr => first | (go_simp; done) | (go_simp; rfl)); intro gb118 hg w20 hbox hb; replace HO104 := yVB HO104 hg hb; replace HO107 := yVB HO107 hg hb; replace HO113 := yVB HO113 hg hb; replace HO116 := yVB HO116 hg hb; have BK118 := Aside0.mk (hbox); have GW118 := yg1 hg HB GE109; have GE118 := yg1 hg HB GE109; replace HB := yS1 HB GE109 hb; have NB109_118 := ynl hg BK109; have NB118_109 := yng hg BK109; replace BK109 := yK BK109 hb; clear hb hbox hg; have hnb21 := NB118_109.out; have hnc21 := NB109_118.out; have hcz22_0 : w20.cell? ⟨gb118, 0, none⟩ = some (.bool false) := (blk_cell BK118.out 0).trans rfl; have hcz22_1 : w20.cell? ⟨gb118, 1, none⟩ = some (.slice none 0 0) := (blk_cell BK118.out 1).trans rfl; have hcz22_2 : w20.cell? ⟨gb118, 2, none⟩ = some (.slice none 0 0) := (blk_cell BK118.out 2).trans rfl; have hfz22_0 := blk_frozen BK118.out 0; have hfz22_1 := blk_frozen BK118.out 1; have hfz22_2 := blk_frozen BK118.out 2; obtain ⟨Ao23, co23, rfl⟩ := Kd.V_slice HO113.out; obtain ⟨Ao24, co24, rfl⟩ := Kd.V_slice HO116.out) | ((with_reducible refine gate_callee (f := 49) rfl ?_); refine zG (some 56) Try.func49 #[.int .i64 2, .int .i64 1, .int .i64 1, .int .i64 1] ?_; (with_reducible refine (codewrightlaw24_k.calls kj4 2 1 1 1 t119 t120 t123 t126 _ A12.out).mono ?_); rintro e w25 ⟨v121, v124, rfl, ho0, ho1, hb⟩; refine ⟨_, rfl, ?_⟩; replace HO104 := Aside0.mk (Kd.V_below (by (with_reducible repeat (first | apply Kd.V_alloc | apply Kd.V_drewN | apply Kd.V_drew)); exact (Kd.V_mono (Kd.V_far (p := ⟨gb118, 2, none⟩) (Kd.V_far (p := ⟨gb118, 1, none⟩) (Kd.V_far (p := ⟨gb118, 0, none⟩) (Kd.V_mono HO104.out (fun k_ hk => (⟨hk, hk.2⟩ : _ ∧ k_ ≠ gb118))) (fun _ hk => hk.2) (.bool t110)) (fun _ hk => hk.2) (.slice Ao23 t111.length co23)) (fun _ hk => hk.2) (.slice Ao24 t114.length co24)) (fun _ h_ => h_.1))) hb); replace HO107 := Aside0.mk (Kd.V_below (by (with_reducible repeat (first | apply Kd.V_alloc | apply Kd.V_drewN | apply Kd.V_drew)); exact (Kd.V_mono (Kd.V_far (p := ⟨gb118, 2, none⟩) (Kd.V_far (p := ⟨gb118, 1, none⟩) (Kd.V_far (p := ⟨gb118, 0, none⟩) (Kd.V_mono HO107.out (fun k_ hk => (⟨hk, hk.2⟩ : _ ∧ k_ ≠ gb118))) (fun _ hk => hk.2) (.bool t110)) (fun _ hk => hk.2) (.slice Ao23 t111.length co23)) (fun _ hk => hk.2) (.slice Ao24 t114.length co24)) (fun _ h_ => h_.1))) hb); replace HO113 := Aside0.mk (Kd.V_below (by (with_reducible repeat (first | apply Kd.V_alloc | apply Kd.V_drewN | apply Kd.V_drew)); exact (Kd.V_mono (Kd.V_far (p := ⟨gb118, 2, none⟩) (Kd.V_far (p := ⟨gb118, 1, none⟩) (Kd.V_far (p := ⟨gb118, 0, none⟩) (Kd.V_mono HO113.out (fun k_ hk => (⟨hk, hk.2⟩ : _ ∧ k_ ≠ gb118))) (fun _ hk => hk.2) (.bool t110)) (fun _ hk => hk.2) (.slice Ao23 t111.length co23)) (fun _ hk => hk.2) (.slice Ao24 t114.length co24)) (fun _ h_ => h_.1))) hb); replace HO116 := Aside0.mk (Kd.V_below (by (with_reducible repeat (first | apply Kd.V_alloc | apply Kd.V_drewN | apply Kd.V_drew)); exact (Kd.V_mono (Kd.V_far (p := ⟨gb118, 2, none⟩) (Kd.V_far (p := ⟨gb118, 1, none⟩) (Kd.V_far (p := ⟨gb118, 0, none⟩) (Kd.V_mono HO116.out (fun k_ hk => (⟨hk, hk.2⟩ : _ ∧ k_ ≠ gb118))) (fun _ hk => hk.2) (.bool t110)) (fun _ hk => hk.2) (.slice Ao23 t111.length co23)) (fun _ hk => hk.2) (.slice Ao24 t114.length co24)) (fun _ h_ => h_.1))) hb); have HO122 := Aside0.mk (Kd.V_lower (Kd.V_mono (ok' := fun k_ => k_ ≠ gb109 ∧ k_ ≠ gb118) ho0 (fun k_ hk_ => ⟨(Kd.freshB (g := gb109) (o := .cells #[.bool t101, .slice Ao17 t102.length co17, .slice Ao18 t105.length co18] 60 (0, 0)) (by (with_reducible repeat (first | refine blk_drewN ?_ _ | refine blk_drew ?_ | refine blk_alloc ?_ _)); refine blk_far ?_ NB109_118.out _; (with_reducible repeat (first | refine blk_drewN ?_ _ | refine blk_drew ?_ | refine blk_alloc ?_ _)); refine blk_far ?_ NB109_118.out _; (with_reducible repeat (first | refine blk_drewN ?_ _ | refine blk_drew ?_ | refine blk_alloc ?_ _)); refine blk_far ?_ NB109_118.out _; (with_reducible repeat (first | refine blk_drewN ?_ _ | refine blk_drew ?_ | refine blk_alloc ?_ _)); exact BK109.out) k_ hk_), (Kd.freshB (g := gb118) (o := .cells #[.bool t110, .slice Ao23 t111.length co23, .slice Ao24 t114.length co24] 60 (0, 0)) (by (with_reducible repeat (first | refine blk_drewN ?_ _ | refine blk_drew ?_ | refine blk_alloc ?_ _)); refine blk_put (cs := #[.bool t110, .slice Ao23 t111.length co23, .slice none 0 0]) ?_ 2 _ rfl; (with_reducible repeat (first | refine blk_drewN ?_ _ | refine blk_drew ?_ | refine blk_alloc ?_ _)); refine blk_put (cs := #[.bool t110, .slice none 0 0, .slice none 0 0]) ?_ 1 _ rfl; (with_reducible repeat (first | refine blk_drewN ?_ _ | refine blk_drew ?_ | refine blk_alloc ?_ _)); refine blk_put (cs := #[.bool false, .slice none 0 0, .slice none 0 0]) ?_ 0 _ rfl; (with_reducible repeat (first | refine blk_drewN ?_ _ | refine blk_drew ?_ | refine blk_alloc ?_ _)); exact BK118.out) k_ hk_)⟩)) (below_size (zB2 HB.out GE109.out GE118.out))); have HO125 := Aside0.mk (Kd.V_lower (Kd.V_mono (ok' := fun k_ => k_ ≠ gb109 ∧ k_ ≠ gb118) ho1 (fun k_ hk_ => ⟨(Kd.freshB (g := gb109) (o := .cells #[.bool t101, .slice Ao17 t102.length co17, .slice Ao18 t105.length co18] 60 (0, 0)) (by (with_reducible repeat (first | refine blk_drewN ?_ _ | refine blk_drew ?_ | refine blk_alloc ?_ _)); refine blk_far ?_ NB109_118.out _; (with_reducible repeat (first | refine blk_drewN ?_ _ | refine blk_drew ?_ | refine blk_alloc ?_ _)); refine blk_far ?_ NB109_118.out _; (with_reducible repeat (first | refine blk_drewN ?_ _ | refine blk_drew ?_ | refine blk_alloc ?_ _)); refine blk_far ?_ NB109_118.out _; (with_reducible repeat (first | refine blk_drewN ?_ _ | refine blk_drew ?_ | refine blk_alloc ?_ _)); exact BK109.out) k_ hk_), (Kd.freshB (g := gb118) (o := .cells #[.bool t110, .slice Ao23 t111.length co23, .slice Ao24 t114.length co24] 60 (0, 0)) (by (with_reducible repeat (first | refine blk_drewN ?_ _ | refine blk_drew ?_ | refine blk_alloc ?_ _)); refine blk_put (cs := #[.bool t110, .slice Ao23 t111.length co23, .slice none 0 0]) ?_ 2 _ rfl; (with_reducible repeat (first | refine blk_drewN ?_ _ | refine blk_drew ?_ | refine blk_alloc ?_ _)); refine blk_put (cs := #[.bool t110, .slice none 0 0, .slice none 0 0]) ?_ 1 _ rfl; (with_reducible repeat (first | refine blk_drewN ?_ _ | refine blk_drew ?_ | refine blk_alloc ?_ _)); refine blk_put (cs := #[.bool false, .slice none 0 0, .slice none 0 0]) ?_ 0 _ rfl; (with_reducible repeat (first | refine blk_drewN ?_ _ | refine blk_drew ?_ | refine blk_alloc ?_ _)); exact BK118.out) k_ hk_)⟩)) (below_size (zB2 HB.out GE109.out GE118.out))); replace BK109 := Aside0.mk (blk_below (g := gb109) (o := .cells #[.bool t101, .slice Ao17 t102.length co17, .slice Ao18 t105.length co18] 60 (0, 0)) (by (with_reducible repeat (first | refine blk_drewN ?_ _ | refine blk_drew ?_ | refine blk_alloc ?_ _)); refine blk_far ?_ NB109_118.out _; (with_reducible repeat (first | refine blk_drewN ?_ _ | refine blk_drew ?_ | refine blk_alloc ?_ _)); refine blk_far ?_ NB109_118.out _; (with_reducible repeat (first | refine blk_drewN ?_ _ | refine blk_drew ?_ | refine blk_alloc ?_ _)); refine blk_far ?_ NB109_118.out _; (with_reducible repeat (first | refine blk_drewN ?_ _ | refine blk_drew ?_ | refine blk_alloc ?_ _)); exact BK109.out) hb); replace BK118 := Aside0.mk (blk_below (g := gb118) (o := .cells #[.bool t110, .slice Ao23 t111.length co23, .slice Ao24 t114.length co24] 60 (0, 0)) (by (with_reducible repeat (first | refine blk_drewN ?_ _ | refine blk_drew ?_ | refine blk_alloc ?_ _)); refine blk_put (cs := #[.bool t110, .slice Ao23 t111.length co23, .slice none 0 0]) ?_ 2 _ rfl; (with_reducible repeat (first | refine blk_drewN ?_ _ | refine blk_drew ?_ | refine blk_alloc ?_ _)); refine blk_put (cs := #[.bool t110, .slice none 0 0, .slice none 0 0]) ?_ 1 _ rfl; (with_reducible repeat (first | refine blk_drewN ?_ _ | refine blk_drew ?_ | refine blk_alloc ?_ _)); refine blk_put (cs := #[.bool false, .slice none 0 0, .slice none 0 0]) ?_ 0 _ rfl; (with_reducible repeat (first | refine blk_drewN ?_ _ | refine blk_drew ?_ | refine blk_alloc ?_ _)); exact BK118.out) hb); replace HB := yS2 HB GE109 GE118 hb; (try clear hb ho0); (try clear ho1)) | ((with_reducible refine gate_dst (N := 13) rfl ?_); refine box_event ?hg (N := 13) ?hd (cs := #[.bool false, .slice none 0 0, .slice none 0 0]) (t := 60) ?hr ?_; (case hd => rfl); (case hg => rfl); (case hr => first | (go_simp; done) | (go_simp; rfl)); intro gb127 hg w26 hbox hb; replace HO104 := yVB HO104 hg hb; replace HO107 := yVB HO107 hg hb; replace HO113 := yVB HO113 hg hb; replace HO116 := yVB HO116 hg hb; replace HO122 := yVB HO122 hg hb; replace HO125 := yVB HO125 hg hb; have BK127 := Aside0.mk (hbox); have GW127 := yg2 hg HB GE109 GE118; have GE127 := yg2 hg HB GE109 GE118; replace HB := yS2 HB GE109 GE118 hb; have NB109_127 := ynl hg BK109; have NB127_109 := yng hg BK109; replace BK109 := yK BK109 hb; have NB118_127 := ynl hg BK118; have NB127_118 := yng hg BK118; replace BK118 := yK BK118 hb; clear hb hbox hg; have hnb27 := NB127_109.out; have hnc27 := NB109_127.out; have hnb28 := NB127_118.out; have hnc28 := NB118_127.out; have hcz29_0 : w26.cell? ⟨gb127, 0, none⟩ = some (.bool false) := (blk_cell BK127.out 0).trans rfl; have hcz29_1 : w26.cell? ⟨gb127, 1, none⟩ = some (.slice none 0 0) := (blk_cell BK127.out 1).trans rfl; have hcz29_2 : w26.cell? ⟨gb127, 2, none⟩ = some (.slice none 0 0) := (blk_cell BK127.out 2).trans rfl; have hfz29_0 := blk_frozen BK127.out 0; have hfz29_1 := blk_frozen BK127.out 1; have hfz29_2 := blk_frozen BK127.out 2; obtain ⟨Ao30, co30, rfl⟩ := Kd.V_slice HO122.out; obtain ⟨Ao31, co31, rfl⟩ := Kd.V_slice HO125.out))
 (try simp only [Act.put, List.setIfInBounds_toArray, List.set_cons_zero, List.set_cons_succ])
 go_cut [74] (fun v74 wc => ∃ (kq : Nat) (x74_12 : Bool), v74 = .bool x74_12 ∧ Aside0 (codewrightlaw24_MacwilliamsReciprocal.j1 kq a0 a1 a2 a3 x74_12 t101 t102 t105 t110 t111 t114 = some r) ∧ Aside0 (kq ≤ kj4) ∧ Aside0 (Kd.V (Kd.int .u32) 97 wc w.heap.size (fun k_ => k_ ≠ gb109 ∧ k_ ≠ gb118 ∧ k_ ≠ gb127) (.slice Ao17 t102.length co17) t102) ∧ Aside0 (Kd.V (Kd.int .u32) 97 wc w.heap.size (fun k_ => k_ ≠ gb109 ∧ k_ ≠ gb118 ∧ k_ ≠ gb127) (.slice Ao18 t105.length co18) t105) ∧ Aside0 (Kd.V (Kd.int .u32) 97 wc w.heap.size (fun k_ => k_ ≠ gb109 ∧ k_ ≠ gb118 ∧ k_ ≠ gb127) (.slice Ao23 t111.length co23) t111) ∧ Aside0 (Kd.V (Kd.int .u32) 97 wc w.heap.size (fun k_ => k_ ≠ gb109 ∧ k_ ≠ gb118 ∧ k_ ≠ gb127) (.slice Ao24 t114.length co24) t114) ∧ Aside0 (Kd.V (Kd.int .u32) 97 wc w.heap.size (fun k_ => k_ ≠ gb109 ∧ k_ ≠ gb118 ∧ k_ ≠ gb127) (.slice Ao30 t120.length co30) t120) ∧ Aside0 (Kd.V (Kd.int .u32) 97 wc w.heap.size (fun k_ => k_ ≠ gb109 ∧ k_ ≠ gb118 ∧ k_ ≠ gb127) (.slice Ao31 t123.length co31) t123) ∧ Aside0 (wc.heap[gb109]? = some (.cells #[.bool t101, (.slice Ao17 t102.length co17), (.slice Ao18 t105.length co18)] 60 (0, 0))) ∧ Aside0 (wc.heap[gb118]? = some (.cells #[.bool t110, (.slice Ao23 t111.length co23), (.slice Ao24 t114.length co24)] 60 (0, 0))) ∧ Aside0 (wc.heap[gb127]? = some (.cells #[.bool t119, (.slice Ao30 t120.length co30), (.slice Ao31 t123.length co31)] 60 (0, 0))) ∧ Aside0 (Below w.heap.size w wc))
 case first =>
  have H := HC13.out
  clear HC13
  by_cases c32 : t108 = true
  · subst c32
    rw [if_pos rfl] at H
    by_cases c33 : t117 = true
    · subst c33
      rw [if_pos rfl] at H
      by_cases c34 : t126 = true
      · subst c34
        rw [if_pos rfl] at H
        replace H := zb H
        obtain ⟨⟨t128, t129, t132⟩, A35, H⟩ := H
        dsimp only at H
        replace H := zb H
        obtain ⟨t135, A36, H⟩ := H
        have H' := Aside0.mk H
        clear H
        try go_wp2
        have n0_ : Aside0 (Kd.V (Kd.int .u32) 97 (((w26.setCell ⟨gb127, 0, none⟩ (.bool t119)).setCell ⟨gb127, 1, none⟩ (.slice Ao30 t120.length co30)).setCell ⟨gb127, 2, none⟩ (.slice Ao31 t123.length co31)) w.heap.size (fun k_ => k_ ≠ gb109 ∧ k_ ≠ gb118 ∧ k_ ≠ gb127) (.slice Ao17 t102.length co17) t102) := ⟨by (with_reducible repeat (first | apply Kd.V_alloc | apply Kd.V_drewN | apply Kd.V_drew)); exact Kd.V_mono (Kd.V_far (p := ⟨gb127, 2, none⟩) (Kd.V_far (p := ⟨gb127, 1, none⟩) (Kd.V_far (p := ⟨gb127, 0, none⟩) (Kd.V_mono HO104.out (fun k_ hk => (⟨hk, hk.2⟩ : _ ∧ k_ ≠ gb127))) (fun _ hk => hk.2) (.bool t119)) (fun _ hk => hk.2) (.slice Ao30 t120.length co30)) (fun _ hk => hk.2) (.slice Ao31 t123.length co31)) (fun _ hk => ⟨hk.1.1.1.2, ⟨hk.1.1.2, hk.1.2⟩⟩)⟩
        have n1_ : Aside0 (Kd.V (Kd.int .u32) 97 (((w26.setCell ⟨gb127, 0, none⟩ (.bool t119)).setCell ⟨gb127, 1, none⟩ (.slice Ao30 t120.length co30)).setCell ⟨gb127, 2, none⟩ (.slice Ao31 t123.length co31)) w.heap.size (fun k_ => k_ ≠ gb109 ∧ k_ ≠ gb118 ∧ k_ ≠ gb127) (.slice Ao18 t105.length co18) t105) := ⟨by (with_reducible repeat (first | apply Kd.V_alloc | apply Kd.V_drewN | apply Kd.V_drew)); exact Kd.V_mono (Kd.V_far (p := ⟨gb127, 2, none⟩) (Kd.V_far (p := ⟨gb127, 1, none⟩) (Kd.V_far (p := ⟨gb127, 0, none⟩) (Kd.V_mono HO107.out (fun k_ hk => (⟨hk, hk.2⟩ : _ ∧ k_ ≠ gb127))) (fun _ hk => hk.2) (.bool t119)) (fun _ hk => hk.2) (.slice Ao30 t120.length co30)) (fun _ hk => hk.2) (.slice Ao31 t123.length co31)) (fun _ hk => ⟨hk.1.1.1.2, ⟨hk.1.1.2, hk.1.2⟩⟩)⟩
        have n2_ : Aside0 (Kd.V (Kd.int .u32) 97 (((w26.setCell ⟨gb127, 0, none⟩ (.bool t119)).setCell ⟨gb127, 1, none⟩ (.slice Ao30 t120.length co30)).setCell ⟨gb127, 2, none⟩ (.slice Ao31 t123.length co31)) w.heap.size (fun k_ => k_ ≠ gb109 ∧ k_ ≠ gb118 ∧ k_ ≠ gb127) (.slice Ao23 t111.length co23) t111) := ⟨by (with_reducible repeat (first | apply Kd.V_alloc | apply Kd.V_drewN | apply Kd.V_drew)); exact Kd.V_mono (Kd.V_far (p := ⟨gb127, 2, none⟩) (Kd.V_far (p := ⟨gb127, 1, none⟩) (Kd.V_far (p := ⟨gb127, 0, none⟩) (Kd.V_mono HO113.out (fun k_ hk => (⟨hk, hk.2⟩ : _ ∧ k_ ≠ gb127))) (fun _ hk => hk.2) (.bool t119)) (fun _ hk => hk.2) (.slice Ao30 t120.length co30)) (fun _ hk => hk.2) (.slice Ao31 t123.length co31)) (fun _ hk => ⟨hk.1.1.1, ⟨hk.1.1.2, hk.1.2⟩⟩)⟩
        have n3_ : Aside0 (Kd.V (Kd.int .u32) 97 (((w26.setCell ⟨gb127, 0, none⟩ (.bool t119)).setCell ⟨gb127, 1, none⟩ (.slice Ao30 t120.length co30)).setCell ⟨gb127, 2, none⟩ (.slice Ao31 t123.length co31)) w.heap.size (fun k_ => k_ ≠ gb109 ∧ k_ ≠ gb118 ∧ k_ ≠ gb127) (.slice Ao24 t114.length co24) t114) := ⟨by (with_reducible repeat (first | apply Kd.V_alloc | apply Kd.V_drewN | apply Kd.V_drew)); exact Kd.V_mono (Kd.V_far (p := ⟨gb127, 2, none⟩) (Kd.V_far (p := ⟨gb127, 1, none⟩) (Kd.V_far (p := ⟨gb127, 0, none⟩) (Kd.V_mono HO116.out (fun k_ hk => (⟨hk, hk.2⟩ : _ ∧ k_ ≠ gb127))) (fun _ hk => hk.2) (.bool t119)) (fun _ hk => hk.2) (.slice Ao30 t120.length co30)) (fun _ hk => hk.2) (.slice Ao31 t123.length co31)) (fun _ hk => ⟨hk.1.1.1, ⟨hk.1.1.2, hk.1.2⟩⟩)⟩
        have n4_ : Aside0 (Kd.V (Kd.int .u32) 97 (((w26.setCell ⟨gb127, 0, none⟩ (.bool t119)).setCell ⟨gb127, 1, none⟩ (.slice Ao30 t120.length co30)).setCell ⟨gb127, 2, none⟩ (.slice Ao31 t123.length co31)) w.heap.size (fun k_ => k_ ≠ gb109 ∧ k_ ≠ gb118 ∧ k_ ≠ gb127) (.slice Ao30 t120.length co30) t120) := ⟨by (with_reducible repeat (first | apply Kd.V_alloc | apply Kd.V_drewN | apply Kd.V_drew)); exact Kd.V_mono (Kd.V_far (p := ⟨gb127, 2, none⟩) (Kd.V_far (p := ⟨gb127, 1, none⟩) (Kd.V_far (p := ⟨gb127, 0, none⟩) (Kd.V_mono HO122.out (fun k_ hk => (⟨hk, hk.2⟩ : _ ∧ k_ ≠ gb127))) (fun _ hk => hk.2) (.bool t119)) (fun _ hk => hk.2) (.slice Ao30 t120.length co30)) (fun _ hk => hk.2) (.slice Ao31 t123.length co31)) (fun _ hk => ⟨hk.1.1.1, ⟨hk.1.1.2, hk.1.2⟩⟩)⟩
        have n5_ : Aside0 (Kd.V (Kd.int .u32) 97 (((w26.setCell ⟨gb127, 0, none⟩ (.bool t119)).setCell ⟨gb127, 1, none⟩ (.slice Ao30 t120.length co30)).setCell ⟨gb127, 2, none⟩ (.slice Ao31 t123.length co31)) w.heap.size (fun k_ => k_ ≠ gb109 ∧ k_ ≠ gb118 ∧ k_ ≠ gb127) (.slice Ao31 t123.length co31) t123) := ⟨by (with_reducible repeat (first | apply Kd.V_alloc | apply Kd.V_drewN | apply Kd.V_drew)); exact Kd.V_mono (Kd.V_far (p := ⟨gb127, 2, none⟩) (Kd.V_far (p := ⟨gb127, 1, none⟩) (Kd.V_far (p := ⟨gb127, 0, none⟩) (Kd.V_mono HO125.out (fun k_ hk => (⟨hk, hk.2⟩ : _ ∧ k_ ≠ gb127))) (fun _ hk => hk.2) (.bool t119)) (fun _ hk => hk.2) (.slice Ao30 t120.length co30)) (fun _ hk => hk.2) (.slice Ao31 t123.length co31)) (fun _ hk => ⟨hk.1.1.1, ⟨hk.1.1.2, hk.1.2⟩⟩)⟩
        have n6_ : Aside0 ((((w26.setCell ⟨gb127, 0, none⟩ (.bool t119)).setCell ⟨gb127, 1, none⟩ (.slice Ao30 t120.length co30)).setCell ⟨gb127, 2, none⟩ (.slice Ao31 t123.length co31)).heap[gb109]? = some (.cells #[.bool t101, .slice Ao17 t102.length co17, .slice Ao18 t105.length co18] 60 (0, 0))) := ⟨by (with_reducible repeat (first | refine blk_drewN ?_ _ | refine blk_drew ?_ | refine blk_alloc ?_ _)); refine blk_far ?_ NB109_127.out _; (with_reducible repeat (first | refine blk_drewN ?_ _ | refine blk_drew ?_ | refine blk_alloc ?_ _)); refine blk_far ?_ NB109_127.out _; (with_reducible repeat (first | refine blk_drewN ?_ _ | refine blk_drew ?_ | refine blk_alloc ?_ _)); refine blk_far ?_ NB109_127.out _; (with_reducible repeat (first | refine blk_drewN ?_ _ | refine blk_drew ?_ | refine blk_alloc ?_ _)); exact BK109.out⟩
        have n7_ : Aside0 ((((w26.setCell ⟨gb127, 0, none⟩ (.bool t119)).setCell ⟨gb127, 1, none⟩ (.slice Ao30 t120.length co30)).setCell ⟨gb127, 2, none⟩ (.slice Ao31 t123.length co31)).heap[gb118]? = some (.cells #[.bool t110, .slice Ao23 t111.length co23, .slice Ao24 t114.length co24] 60 (0, 0))) := ⟨by (with_reducible repeat (first | refine blk_drewN ?_ _ | refine blk_drew ?_ | refine blk_alloc ?_ _)); refine blk_far ?_ NB118_127.out _; (with_reducible repeat (first | refine blk_drewN ?_ _ | refine blk_drew ?_ | refine blk_alloc ?_ _)); refine blk_far ?_ NB118_127.out _; (with_reducible repeat (first | refine blk_drewN ?_ _ | refine blk_drew ?_ | refine blk_alloc ?_ _)); refine blk_far ?_ NB118_127.out _; (with_reducible repeat (first | refine blk_drewN ?_ _ | refine blk_drew ?_ | refine blk_alloc ?_ _)); exact BK118.out⟩
        have n8_ : Aside0 ((((w26.setCell ⟨gb127, 0, none⟩ (.bool t119)).setCell ⟨gb127, 1, none⟩ (.slice Ao30 t120.length co30)).setCell ⟨gb127, 2, none⟩ (.slice Ao31 t123.length co31)).heap[gb127]? = some (.cells #[.bool t119, .slice Ao30 t120.length co30, .slice Ao31 t123.length co31] 60 (0, 0))) := ⟨by (with_reducible repeat (first | refine blk_drewN ?_ _ | refine blk_drew ?_ | refine blk_alloc ?_ _)); refine blk_put (cs := #[.bool t119, .slice Ao30 t120.length co30, .slice none 0 0]) ?_ 2 _ rfl; (with_reducible repeat (first | refine blk_drewN ?_ _ | refine blk_drew ?_ | refine blk_alloc ?_ _)); refine blk_put (cs := #[.bool t119, .slice none 0 0, .slice none 0 0]) ?_ 1 _ rfl; (with_reducible repeat (first | refine blk_drewN ?_ _ | refine blk_drew ?_ | refine blk_alloc ?_ _)); refine blk_put (cs := #[.bool false, .slice none 0 0, .slice none 0 0]) ?_ 0 _ rfl; (with_reducible repeat (first | refine blk_drewN ?_ _ | refine blk_drew ?_ | refine blk_alloc ?_ _)); exact BK127.out⟩
        have n9_ : Aside0 (Below w.heap.size w (((w26.setCell ⟨gb127, 0, none⟩ (.bool t119)).setCell ⟨gb127, 1, none⟩ (.slice Ao30 t120.length co30)).setCell ⟨gb127, 2, none⟩ (.slice Ao31 t123.length co31))) := ⟨zB3 HB.out GE109.out GE118.out GE127.out⟩
        (try clear HO104)
        (try clear HO107)
        (try clear HO113)
        (try clear HO116)
        (try clear HO122)
        (try clear HO125)
        (try clear BK109)
        (try clear BK118)
        (try clear BK127)
        (try clear HB)
        generalize (((w26.setCell ⟨gb127, 0, none⟩ (.bool t119)).setCell ⟨gb127, 1, none⟩ (.slice Ao30 t120.length co30)).setCell ⟨gb127, 2, none⟩ (.slice Ao31 t123.length co31)) = w37 at n0_ n1_ n2_ n3_ n4_ n5_ n6_ n7_ n8_ n9_ ⊢
        have HO104 := n0_
        have HO107 := n1_
        have HO113 := n2_
        have HO116 := n3_
        have HO122 := n4_
        have HO125 := n5_
        have BK109 := n6_
        have BK118 := n7_
        have BK127 := n8_
        have HB := n9_
        clear n0_ n1_ n2_ n3_ n4_ n5_ n6_ n7_ n8_ n9_
        replace HO104 := Aside0.mk (Kd.V_drew HO104.out)
        replace HO107 := Aside0.mk (Kd.V_drew HO107.out)
        replace HO113 := Aside0.mk (Kd.V_drew HO113.out)
        replace HO116 := Aside0.mk (Kd.V_drew HO116.out)
        replace HO122 := Aside0.mk (Kd.V_drew HO122.out)
        replace HO125 := Aside0.mk (Kd.V_drew HO125.out)
        replace BK109 := Aside0.mk (blk_drew BK109.out)
        replace BK118 := Aside0.mk (blk_drew BK118.out)
        replace BK127 := Aside0.mk (blk_drew BK127.out)
        replace HB := Aside0.mk (below_drew1 HB.out)
        refine start_ (n := 16) (S := fun w' => w'.cell? ⟨gb127, 0, none⟩ = some (.bool t119) ∧ w'.cell? ⟨gb127, 1, none⟩ = some (.slice Ao30 t120.length co30) ∧ w'.cell? ⟨gb127, 2, none⟩ = some (.slice Ao31 t123.length co31)) (ds := []) #[false, false, false, false, false, false, false, false, false, false, false, false, false, false, false, false] (by kernel_rfl) rfl rfl ⟨(blk_cell BK127.out 0).trans rfl, (blk_cell BK127.out 1).trans rfl, (blk_cell BK127.out 2).trans rfl⟩ (fun hHeld => ?_); refine with_tabW codewrightlaw24_MacwilliamsReciprocal.tab6 codewrightlaw24_MacwilliamsReciprocal.bits6 (fun HT_ HW_ => ?_)
        generalize w37.drew = w38 at HO104 HO107 HO113 HO116 HO122 HO125 BK109 BK118 BK127 HB hHeld ⊢
        refine zp (i := 0) (N := some 59) HT_ ?_
        refine zp (i := 1) (N := some 60) HT_ ?_
        refine zp (i := 2) (N := some 61) HT_ ?_
        refine zp (i := 3) (N := some 62) HT_ ?_
        refine zp (i := 4) (N := some 63) HT_ ?_
        refine zp (i := 5) (N := some 64) HT_ ?_
        refine zp (i := 6) (N := some 65) HT_ ?_
        refine zp (i := 7) (N := some 66) HT_ ?_
        refine zp (i := 8) (N := some 67) HT_ ?_
        refine zp (i := 9) (N := some 68) HT_ ?_
        refine zp (i := 10) (N := some 69) HT_ ?_
        refine take_ (i := 11) (N := some 70) (v := ?_) (a' := ?_) #[true, true, true, true, true, true, true, true, true, true, true, true, false, false, false, false] rfl rfl (take_ofW HT_.out HW_.out (by kernel_rfl)) (fun _ _ _ h => h) (Or.inl ⟨by rfl, ?_⟩) hHeld ?_ ?_
        rotate_left
        · rintro w' ⟨s0, s1, s2⟩
          go_simp
          with_reducible rfl
        rotate_left
        · simp only [Act.put, List.setIfInBounds_toArray, List.set_cons_zero, List.set_cons_succ, i64_w, i32_w]
          rfl
        refine one_ (i := 12) (N := some 71) #[true, true, true, true, true, true, true, true, true, true, true, true, true, false, false, false] rfl rfl (one_of HT_.out (by kernel_rfl)) (by decide) (fun K hK => ?_)
        refine goes_ Try.func48 (by kernel_rfl) rfl #[.int .i64 (-1)] (by rfl) rfl rfl (by (try simp only [List.map_toArray, List.map_cons, List.map_nil]); first | done | rfl | (simp only [List.length_drop, List.length_take]; rfl)) ?_
        with_reducible refine (codewrightref02_Int.calls kj4 (-1) t128 t129 t132 _ A35.out).mono ?_
        rintro e w39 ⟨v130, v133, rfl, ho0, ho1, hb⟩
        refine ⟨_, rfl, ?_⟩
        replace HO104 := yVt HO104 hb ho0 ho1
        replace HO107 := yVt HO107 hb ho0 ho1
        replace HO113 := yVt HO113 hb ho0 ho1
        replace HO116 := yVt HO116 hb ho0 ho1
        replace HO122 := yVt HO122 hb ho0 ho1
        replace HO125 := yVt HO125 hb ho0 ho1
        have HO131 := yRl3 ho0 HB GE109 GE118 GE127
        have HO134 := yRl3 ho1 HB GE109 GE118 GE127
        replace BK109 := yK BK109 hb
        replace BK118 := yK BK118 hb
        replace BK127 := yK BK127 hb
        replace HB := yS3 HB GE109 GE118 GE127 hb
        (try clear hb)
        (try clear hb2)
        (try clear hk)
        (try clear hi)
        (try clear ho0)
        (try clear ho1)
        obtain ⟨Ao40, co40, eo40⟩ := Kd.R_slice HO131.out
        (first | subst eo40 | (injection eo40 with f1_ f2_ f3_; have f4_ := f1_.symm; have f5_ := f3_.symm; clear f1_ f2_ f3_; subst f4_; subst f5_))
        obtain ⟨Ao41, co41, eo41⟩ := Kd.R_slice HO134.out
        (first | subst eo41 | (injection eo41 with f1_ f2_ f3_; have f4_ := f1_.symm; have f5_ := f3_.symm; clear f1_ f2_ f3_; subst f4_; subst f5_))
        refine hK.out _ _ ⟨(blk_cell BK127.out 0).trans rfl, (blk_cell BK127.out 1).trans rfl, (blk_cell BK127.out 2).trans rfl⟩ (fun hHeld => ?_)
        clear hK K
        refine norm_ (a' := ?_) ?_ ?_
        rotate_left
        · show Act.put _ (some 71) _ = _
          simp only [Act.put, List.setIfInBounds_toArray, List.set_cons_zero, List.set_cons_succ, i64_w, i32_w]
          rfl
        refine one_ (i := 13) (N := some 72) #[true, true, true, true, true, true, true, true, true, true, true, true, true, true, false, false] rfl rfl (one_of HT_.out (by kernel_rfl)) (by decide) (fun K hK => ?_)
        refine goes_ Try.func45 (by kernel_rfl) rfl #[.agg #[.bool t119, .slice Ao30 t120.length co30, .slice Ao31 t123.length co31], .agg #[.bool t128, .slice Ao40 t129.length co40, .slice Ao41 t132.length co41]] (by rfl) rfl rfl (by (try simp only [List.map_toArray, List.map_cons, List.map_nil]); first | done | rfl | (simp only [List.length_drop, List.length_take]; rfl)) ?_
        with_reducible refine (codewrightref02_Same.calls kj4 t119 _ _ t120 _ _ t123 t128 _ _ t129 _ _ t132 t135 _ ?side1 ?side2 ?side3 ?side4 ?side5 ?side6 ?side7 ?side8 A36.out).mono ?_
        (case side1 => exact zC (Kd.V_reads' HO122.out).2.2)
        (case side2 => exact (Kd.V_reads' HO122.out).2.1)
        (case side3 => exact zC (Kd.V_reads' HO125.out).2.2)
        (case side4 => exact (Kd.V_reads' HO125.out).2.1)
        (case side5 => exact zC (Kd.R_reads' HO131.out).2.2)
        (case side6 => exact (Kd.R_reads' HO131.out).2.1)
        (case side7 => exact zC (Kd.R_reads' HO134.out).2.2)
        (case side8 => exact (Kd.R_reads' HO134.out).2.1)
        rintro e w42 ⟨rfl, hb⟩
        refine ⟨_, rfl, ?_⟩
        replace HO104 := yVb HO104 hb
        replace HO107 := yVb HO107 hb
        replace HO113 := yVb HO113 hb
        replace HO116 := yVb HO116 hb
        replace HO122 := yVb HO122 hb
        replace HO125 := yVb HO125 hb
        replace HO131 := yRb HO131 hb
        replace HO134 := yRb HO134 hb
        replace BK109 := yK BK109 hb
        replace BK118 := yK BK118 hb
        replace BK127 := yK BK127 hb
        replace HB := yS3 HB GE109 GE118 GE127 hb
        (try clear hb)
        (try clear hb2)
        (try clear hk)
        (try clear hi)
        refine hK.out _ _ ⟨(blk_cell BK127.out 0).trans rfl, (blk_cell BK127.out 1).trans rfl, (blk_cell BK127.out 2).trans rfl⟩ (fun hHeld => ?_)
        clear hK K
        refine norm_ (a' := ?_) ?_ ?_
        rotate_left
        · show Act.put _ (some 72) _ = _
          simp only [Act.put, List.setIfInBounds_toArray, List.set_cons_zero, List.set_cons_succ, i64_w, i32_w]
          rfl
        refine zp (i := 14) (N := some 73) HT_ ?_
        refine zp (i := 15) (N := some 74) HT_ ?_
        refine done_ (done_of HT_.out (by kernel_rfl)) ?_
        try go_wp2
        go_meet
        case rel => exact ⟨_, (!t135), zF, H', ⟨by have := HJ4.out; first | omega | exact Nat.le_refl _⟩, ⟨by (with_reducible repeat (first | apply Kd.V_alloc | apply Kd.V_drewN | apply Kd.V_drew)); exact Kd.V_mono HO104.out (fun _ hk => ⟨hk.1.1.1, ⟨hk.1.1.2.1, hk.1.1.2.2⟩⟩)⟩, ⟨by (with_reducible repeat (first | apply Kd.V_alloc | apply Kd.V_drewN | apply Kd.V_drew)); exact Kd.V_mono HO107.out (fun _ hk => ⟨hk.1.1.1, ⟨hk.1.1.2.1, hk.1.1.2.2⟩⟩)⟩, ⟨by (with_reducible repeat (first | apply Kd.V_alloc | apply Kd.V_drewN | apply Kd.V_drew)); exact Kd.V_mono HO113.out (fun _ hk => ⟨hk.1.1.1, ⟨hk.1.1.2.1, hk.1.1.2.2⟩⟩)⟩, ⟨by (with_reducible repeat (first | apply Kd.V_alloc | apply Kd.V_drewN | apply Kd.V_drew)); exact Kd.V_mono HO116.out (fun _ hk => ⟨hk.1.1.1, ⟨hk.1.1.2.1, hk.1.1.2.2⟩⟩)⟩, ⟨by (with_reducible repeat (first | apply Kd.V_alloc | apply Kd.V_drewN | apply Kd.V_drew)); exact Kd.V_mono HO122.out (fun _ hk => ⟨hk.1.1.1, ⟨hk.1.1.2.1, hk.1.1.2.2⟩⟩)⟩, ⟨by (with_reducible repeat (first | apply Kd.V_alloc | apply Kd.V_drewN | apply Kd.V_drew)); exact Kd.V_mono HO125.out (fun _ hk => ⟨hk.1.1.1, ⟨hk.1.1.2.1, hk.1.1.2.2⟩⟩)⟩, ⟨by (with_reducible repeat (first | refine blk_drewN ?_ _ | refine blk_drew ?_ | refine blk_alloc ?_ _)); exact BK109.out⟩, ⟨by (with_reducible repeat (first | refine blk_drewN ?_ _ | refine blk_drew ?_ | refine blk_alloc ?_ _)); exact BK118.out⟩, ⟨by (with_reducible repeat (first | refine blk_drewN ?_ _ | refine blk_drew ?_ | refine blk_alloc ?_ _)); exact BK127.out⟩, ⟨zB3 HB.out GE109.out GE118.out GE127.out⟩⟩
      replace c34 := Bool.eq_false_iff.mpr c34
      subst c34
      rw [if_neg Bool.false_ne_true] at H
      have H' := Aside0.mk H
      clear H
      try go_wp2
      have n0_ : Aside0 (Kd.V (Kd.int .u32) 97 (((w26.setCell ⟨gb127, 0, none⟩ (.bool t119)).setCell ⟨gb127, 1, none⟩ (.slice Ao30 t120.length co30)).setCell ⟨gb127, 2, none⟩ (.slice Ao31 t123.length co31)) w.heap.size (fun k_ => k_ ≠ gb109 ∧ k_ ≠ gb118 ∧ k_ ≠ gb127) (.slice Ao17 t102.length co17) t102) := ⟨by (with_reducible repeat (first | apply Kd.V_alloc | apply Kd.V_drewN | apply Kd.V_drew)); exact Kd.V_mono (Kd.V_far (p := ⟨gb127, 2, none⟩) (Kd.V_far (p := ⟨gb127, 1, none⟩) (Kd.V_far (p := ⟨gb127, 0, none⟩) (Kd.V_mono HO104.out (fun k_ hk => (⟨hk, hk.2⟩ : _ ∧ k_ ≠ gb127))) (fun _ hk => hk.2) (.bool t119)) (fun _ hk => hk.2) (.slice Ao30 t120.length co30)) (fun _ hk => hk.2) (.slice Ao31 t123.length co31)) (fun _ hk => ⟨hk.1.1.1.2, ⟨hk.1.1.2, hk.1.2⟩⟩)⟩
      have n1_ : Aside0 (Kd.V (Kd.int .u32) 97 (((w26.setCell ⟨gb127, 0, none⟩ (.bool t119)).setCell ⟨gb127, 1, none⟩ (.slice Ao30 t120.length co30)).setCell ⟨gb127, 2, none⟩ (.slice Ao31 t123.length co31)) w.heap.size (fun k_ => k_ ≠ gb109 ∧ k_ ≠ gb118 ∧ k_ ≠ gb127) (.slice Ao18 t105.length co18) t105) := ⟨by (with_reducible repeat (first | apply Kd.V_alloc | apply Kd.V_drewN | apply Kd.V_drew)); exact Kd.V_mono (Kd.V_far (p := ⟨gb127, 2, none⟩) (Kd.V_far (p := ⟨gb127, 1, none⟩) (Kd.V_far (p := ⟨gb127, 0, none⟩) (Kd.V_mono HO107.out (fun k_ hk => (⟨hk, hk.2⟩ : _ ∧ k_ ≠ gb127))) (fun _ hk => hk.2) (.bool t119)) (fun _ hk => hk.2) (.slice Ao30 t120.length co30)) (fun _ hk => hk.2) (.slice Ao31 t123.length co31)) (fun _ hk => ⟨hk.1.1.1.2, ⟨hk.1.1.2, hk.1.2⟩⟩)⟩
      have n2_ : Aside0 (Kd.V (Kd.int .u32) 97 (((w26.setCell ⟨gb127, 0, none⟩ (.bool t119)).setCell ⟨gb127, 1, none⟩ (.slice Ao30 t120.length co30)).setCell ⟨gb127, 2, none⟩ (.slice Ao31 t123.length co31)) w.heap.size (fun k_ => k_ ≠ gb109 ∧ k_ ≠ gb118 ∧ k_ ≠ gb127) (.slice Ao23 t111.length co23) t111) := ⟨by (with_reducible repeat (first | apply Kd.V_alloc | apply Kd.V_drewN | apply Kd.V_drew)); exact Kd.V_mono (Kd.V_far (p := ⟨gb127, 2, none⟩) (Kd.V_far (p := ⟨gb127, 1, none⟩) (Kd.V_far (p := ⟨gb127, 0, none⟩) (Kd.V_mono HO113.out (fun k_ hk => (⟨hk, hk.2⟩ : _ ∧ k_ ≠ gb127))) (fun _ hk => hk.2) (.bool t119)) (fun _ hk => hk.2) (.slice Ao30 t120.length co30)) (fun _ hk => hk.2) (.slice Ao31 t123.length co31)) (fun _ hk => ⟨hk.1.1.1, ⟨hk.1.1.2, hk.1.2⟩⟩)⟩
      have n3_ : Aside0 (Kd.V (Kd.int .u32) 97 (((w26.setCell ⟨gb127, 0, none⟩ (.bool t119)).setCell ⟨gb127, 1, none⟩ (.slice Ao30 t120.length co30)).setCell ⟨gb127, 2, none⟩ (.slice Ao31 t123.length co31)) w.heap.size (fun k_ => k_ ≠ gb109 ∧ k_ ≠ gb118 ∧ k_ ≠ gb127) (.slice Ao24 t114.length co24) t114) := ⟨by (with_reducible repeat (first | apply Kd.V_alloc | apply Kd.V_drewN | apply Kd.V_drew)); exact Kd.V_mono (Kd.V_far (p := ⟨gb127, 2, none⟩) (Kd.V_far (p := ⟨gb127, 1, none⟩) (Kd.V_far (p := ⟨gb127, 0, none⟩) (Kd.V_mono HO116.out (fun k_ hk => (⟨hk, hk.2⟩ : _ ∧ k_ ≠ gb127))) (fun _ hk => hk.2) (.bool t119)) (fun _ hk => hk.2) (.slice Ao30 t120.length co30)) (fun _ hk => hk.2) (.slice Ao31 t123.length co31)) (fun _ hk => ⟨hk.1.1.1, ⟨hk.1.1.2, hk.1.2⟩⟩)⟩
      have n4_ : Aside0 (Kd.V (Kd.int .u32) 97 (((w26.setCell ⟨gb127, 0, none⟩ (.bool t119)).setCell ⟨gb127, 1, none⟩ (.slice Ao30 t120.length co30)).setCell ⟨gb127, 2, none⟩ (.slice Ao31 t123.length co31)) w.heap.size (fun k_ => k_ ≠ gb109 ∧ k_ ≠ gb118 ∧ k_ ≠ gb127) (.slice Ao30 t120.length co30) t120) := ⟨by (with_reducible repeat (first | apply Kd.V_alloc | apply Kd.V_drewN | apply Kd.V_drew)); exact Kd.V_mono (Kd.V_far (p := ⟨gb127, 2, none⟩) (Kd.V_far (p := ⟨gb127, 1, none⟩) (Kd.V_far (p := ⟨gb127, 0, none⟩) (Kd.V_mono HO122.out (fun k_ hk => (⟨hk, hk.2⟩ : _ ∧ k_ ≠ gb127))) (fun _ hk => hk.2) (.bool t119)) (fun _ hk => hk.2) (.slice Ao30 t120.length co30)) (fun _ hk => hk.2) (.slice Ao31 t123.length co31)) (fun _ hk => ⟨hk.1.1.1, ⟨hk.1.1.2, hk.1.2⟩⟩)⟩
      have n5_ : Aside0 (Kd.V (Kd.int .u32) 97 (((w26.setCell ⟨gb127, 0, none⟩ (.bool t119)).setCell ⟨gb127, 1, none⟩ (.slice Ao30 t120.length co30)).setCell ⟨gb127, 2, none⟩ (.slice Ao31 t123.length co31)) w.heap.size (fun k_ => k_ ≠ gb109 ∧ k_ ≠ gb118 ∧ k_ ≠ gb127) (.slice Ao31 t123.length co31) t123) := ⟨by (with_reducible repeat (first | apply Kd.V_alloc | apply Kd.V_drewN | apply Kd.V_drew)); exact Kd.V_mono (Kd.V_far (p := ⟨gb127, 2, none⟩) (Kd.V_far (p := ⟨gb127, 1, none⟩) (Kd.V_far (p := ⟨gb127, 0, none⟩) (Kd.V_mono HO125.out (fun k_ hk => (⟨hk, hk.2⟩ : _ ∧ k_ ≠ gb127))) (fun _ hk => hk.2) (.bool t119)) (fun _ hk => hk.2) (.slice Ao30 t120.length co30)) (fun _ hk => hk.2) (.slice Ao31 t123.length co31)) (fun _ hk => ⟨hk.1.1.1, ⟨hk.1.1.2, hk.1.2⟩⟩)⟩
      have n6_ : Aside0 ((((w26.setCell ⟨gb127, 0, none⟩ (.bool t119)).setCell ⟨gb127, 1, none⟩ (.slice Ao30 t120.length co30)).setCell ⟨gb127, 2, none⟩ (.slice Ao31 t123.length co31)).heap[gb109]? = some (.cells #[.bool t101, .slice Ao17 t102.length co17, .slice Ao18 t105.length co18] 60 (0, 0))) := ⟨by (with_reducible repeat (first | refine blk_drewN ?_ _ | refine blk_drew ?_ | refine blk_alloc ?_ _)); refine blk_far ?_ NB109_127.out _; (with_reducible repeat (first | refine blk_drewN ?_ _ | refine blk_drew ?_ | refine blk_alloc ?_ _)); refine blk_far ?_ NB109_127.out _; (with_reducible repeat (first | refine blk_drewN ?_ _ | refine blk_drew ?_ | refine blk_alloc ?_ _)); refine blk_far ?_ NB109_127.out _; (with_reducible repeat (first | refine blk_drewN ?_ _ | refine blk_drew ?_ | refine blk_alloc ?_ _)); exact BK109.out⟩
      have n7_ : Aside0 ((((w26.setCell ⟨gb127, 0, none⟩ (.bool t119)).setCell ⟨gb127, 1, none⟩ (.slice Ao30 t120.length co30)).setCell ⟨gb127, 2, none⟩ (.slice Ao31 t123.length co31)).heap[gb118]? = some (.cells #[.bool t110, .slice Ao23 t111.length co23, .slice Ao24 t114.length co24] 60 (0, 0))) := ⟨by (with_reducible repeat (first | refine blk_drewN ?_ _ | refine blk_drew ?_ | refine blk_alloc ?_ _)); refine blk_far ?_ NB118_127.out _; (with_reducible repeat (first | refine blk_drewN ?_ _ | refine blk_drew ?_ | refine blk_alloc ?_ _)); refine blk_far ?_ NB118_127.out _; (with_reducible repeat (first | refine blk_drewN ?_ _ | refine blk_drew ?_ | refine blk_alloc ?_ _)); refine blk_far ?_ NB118_127.out _; (with_reducible repeat (first | refine blk_drewN ?_ _ | refine blk_drew ?_ | refine blk_alloc ?_ _)); exact BK118.out⟩
      have n8_ : Aside0 ((((w26.setCell ⟨gb127, 0, none⟩ (.bool t119)).setCell ⟨gb127, 1, none⟩ (.slice Ao30 t120.length co30)).setCell ⟨gb127, 2, none⟩ (.slice Ao31 t123.length co31)).heap[gb127]? = some (.cells #[.bool t119, .slice Ao30 t120.length co30, .slice Ao31 t123.length co31] 60 (0, 0))) := ⟨by (with_reducible repeat (first | refine blk_drewN ?_ _ | refine blk_drew ?_ | refine blk_alloc ?_ _)); refine blk_put (cs := #[.bool t119, .slice Ao30 t120.length co30, .slice none 0 0]) ?_ 2 _ rfl; (with_reducible repeat (first | refine blk_drewN ?_ _ | refine blk_drew ?_ | refine blk_alloc ?_ _)); refine blk_put (cs := #[.bool t119, .slice none 0 0, .slice none 0 0]) ?_ 1 _ rfl; (with_reducible repeat (first | refine blk_drewN ?_ _ | refine blk_drew ?_ | refine blk_alloc ?_ _)); refine blk_put (cs := #[.bool false, .slice none 0 0, .slice none 0 0]) ?_ 0 _ rfl; (with_reducible repeat (first | refine blk_drewN ?_ _ | refine blk_drew ?_ | refine blk_alloc ?_ _)); exact BK127.out⟩
      have n9_ : Aside0 (Below w.heap.size w (((w26.setCell ⟨gb127, 0, none⟩ (.bool t119)).setCell ⟨gb127, 1, none⟩ (.slice Ao30 t120.length co30)).setCell ⟨gb127, 2, none⟩ (.slice Ao31 t123.length co31))) := ⟨zB3 HB.out GE109.out GE118.out GE127.out⟩
      (try clear HO104)
      (try clear HO107)
      (try clear HO113)
      (try clear HO116)
      (try clear HO122)
      (try clear HO125)
      (try clear BK109)
      (try clear BK118)
      (try clear BK127)
      (try clear HB)
      generalize (((w26.setCell ⟨gb127, 0, none⟩ (.bool t119)).setCell ⟨gb127, 1, none⟩ (.slice Ao30 t120.length co30)).setCell ⟨gb127, 2, none⟩ (.slice Ao31 t123.length co31)) = w43 at n0_ n1_ n2_ n3_ n4_ n5_ n6_ n7_ n8_ n9_ ⊢
      have HO104 := n0_
      have HO107 := n1_
      have HO113 := n2_
      have HO116 := n3_
      have HO122 := n4_
      have HO125 := n5_
      have BK109 := n6_
      have BK118 := n7_
      have BK127 := n8_
      have HB := n9_
      clear n0_ n1_ n2_ n3_ n4_ n5_ n6_ n7_ n8_ n9_
      replace HO104 := Aside0.mk (Kd.V_drew HO104.out)
      replace HO107 := Aside0.mk (Kd.V_drew HO107.out)
      replace HO113 := Aside0.mk (Kd.V_drew HO113.out)
      replace HO116 := Aside0.mk (Kd.V_drew HO116.out)
      replace HO122 := Aside0.mk (Kd.V_drew HO122.out)
      replace HO125 := Aside0.mk (Kd.V_drew HO125.out)
      replace BK109 := Aside0.mk (blk_drew BK109.out)
      replace BK118 := Aside0.mk (blk_drew BK118.out)
      replace BK127 := Aside0.mk (blk_drew BK127.out)
      replace HB := Aside0.mk (below_drew1 HB.out)
      refine start_ (n := 16) (S := fun w' => True) (ds := []) #[false, false, false, false, false, false, false, false, false, false, false, false, false, false, false, false] (by kernel_rfl) rfl rfl trivial (fun hHeld => ?_); refine with_tabW codewrightlaw24_MacwilliamsReciprocal.tab6 codewrightlaw24_MacwilliamsReciprocal.bits6 (fun HT_ HW_ => ?_)
      generalize w43.drew = w44 at HO104 HO107 HO113 HO116 HO122 HO125 BK109 BK118 BK127 HB hHeld ⊢
      refine zp (i := 0) (N := some 59) HT_ ?_
      refine zp (i := 1) (N := some 60) HT_ ?_
      refine zp (i := 2) (N := some 61) HT_ ?_
      refine zp (i := 3) (N := some 62) HT_ ?_
      refine zp (i := 4) (N := some 63) HT_ ?_
      refine zp (i := 5) (N := some 64) HT_ ?_
      refine zp (i := 6) (N := some 65) HT_ ?_
      refine zp (i := 7) (N := some 66) HT_ ?_
      refine zp (i := 8) (N := some 67) HT_ ?_
      refine zp (i := 9) (N := some 68) HT_ ?_
      refine zp (i := 10) (N := some 69) HT_ ?_
      refine pure_ (i := 11) (N := some 70) (v := undef) (a' := ?_) #[true, true, true, true, true, true, true, true, true, true, true, true, false, false, false, false] rfl rfl (any_of HT_.out (by kernel_rfl)) (fun _ _ _ h => h) (Or.inr ⟨by rfl, rfl⟩) ?_ ?_
      rotate_left
      · simp only [Act.put, List.setIfInBounds_toArray, List.set_cons_zero, List.set_cons_succ, i64_w, i32_w]
        rfl
      refine pure_ (i := 12) (N := some 71) (v := undef) (a' := ?_) #[true, true, true, true, true, true, true, true, true, true, true, true, true, false, false, false] rfl rfl (any_of HT_.out (by kernel_rfl)) (fun _ _ _ h => h) (Or.inr ⟨by rfl, rfl⟩) ?_ ?_
      rotate_left
      · simp only [Act.put, List.setIfInBounds_toArray, List.set_cons_zero, List.set_cons_succ, i64_w, i32_w]
        rfl
      refine pure_ (i := 13) (N := some 72) (v := undef) (a' := ?_) #[true, true, true, true, true, true, true, true, true, true, true, true, true, true, false, false] rfl rfl (any_of HT_.out (by kernel_rfl)) (fun _ _ _ h => h) (Or.inr ⟨by rfl, rfl⟩) ?_ ?_
      rotate_left
      · simp only [Act.put, List.setIfInBounds_toArray, List.set_cons_zero, List.set_cons_succ, i64_w, i32_w]
        rfl
      refine pure_ (i := 14) (N := some 73) (v := undef) (a' := ?_) #[true, true, true, true, true, true, true, true, true, true, true, true, true, true, true, false] rfl rfl (any_of HT_.out (by kernel_rfl)) (fun _ _ _ h => h) (Or.inr ⟨by rfl, rfl⟩) ?_ ?_
      rotate_left
      · simp only [Act.put, List.setIfInBounds_toArray, List.set_cons_zero, List.set_cons_succ, i64_w, i32_w]
        rfl
      refine zp (i := 15) (N := some 74) HT_ ?_
      refine done_ (done_of HT_.out (by kernel_rfl)) ?_
      try go_wp2
      go_meet
      case rel => exact ⟨_, (true), zF, H', ⟨by have := HJ4.out; first | omega | exact Nat.le_refl _⟩, ⟨zV HO104.out⟩, ⟨zV HO107.out⟩, ⟨zV HO113.out⟩, ⟨zV HO116.out⟩, ⟨zV HO122.out⟩, ⟨zV HO125.out⟩, ⟨by (with_reducible repeat (first | refine blk_drewN ?_ _ | refine blk_drew ?_ | refine blk_alloc ?_ _)); exact BK109.out⟩, ⟨by (with_reducible repeat (first | refine blk_drewN ?_ _ | refine blk_drew ?_ | refine blk_alloc ?_ _)); exact BK118.out⟩, ⟨by (with_reducible repeat (first | refine blk_drewN ?_ _ | refine blk_drew ?_ | refine blk_alloc ?_ _)); exact BK127.out⟩, ⟨zB3 HB.out GE109.out GE118.out GE127.out⟩⟩
    replace c33 := Bool.eq_false_iff.mpr c33
    subst c33
    rw [if_neg Bool.false_ne_true] at H
    have H' := Aside0.mk H
    clear H
    try go_wp2
    have n0_ : Aside0 (Kd.V (Kd.int .u32) 97 (((w26.setCell ⟨gb127, 0, none⟩ (.bool t119)).setCell ⟨gb127, 1, none⟩ (.slice Ao30 t120.length co30)).setCell ⟨gb127, 2, none⟩ (.slice Ao31 t123.length co31)) w.heap.size (fun k_ => k_ ≠ gb109 ∧ k_ ≠ gb118 ∧ k_ ≠ gb127) (.slice Ao17 t102.length co17) t102) := ⟨by (with_reducible repeat (first | apply Kd.V_alloc | apply Kd.V_drewN | apply Kd.V_drew)); exact Kd.V_mono (Kd.V_far (p := ⟨gb127, 2, none⟩) (Kd.V_far (p := ⟨gb127, 1, none⟩) (Kd.V_far (p := ⟨gb127, 0, none⟩) (Kd.V_mono HO104.out (fun k_ hk => (⟨hk, hk.2⟩ : _ ∧ k_ ≠ gb127))) (fun _ hk => hk.2) (.bool t119)) (fun _ hk => hk.2) (.slice Ao30 t120.length co30)) (fun _ hk => hk.2) (.slice Ao31 t123.length co31)) (fun _ hk => ⟨hk.1.1.1.2, ⟨hk.1.1.2, hk.1.2⟩⟩)⟩
    have n1_ : Aside0 (Kd.V (Kd.int .u32) 97 (((w26.setCell ⟨gb127, 0, none⟩ (.bool t119)).setCell ⟨gb127, 1, none⟩ (.slice Ao30 t120.length co30)).setCell ⟨gb127, 2, none⟩ (.slice Ao31 t123.length co31)) w.heap.size (fun k_ => k_ ≠ gb109 ∧ k_ ≠ gb118 ∧ k_ ≠ gb127) (.slice Ao18 t105.length co18) t105) := ⟨by (with_reducible repeat (first | apply Kd.V_alloc | apply Kd.V_drewN | apply Kd.V_drew)); exact Kd.V_mono (Kd.V_far (p := ⟨gb127, 2, none⟩) (Kd.V_far (p := ⟨gb127, 1, none⟩) (Kd.V_far (p := ⟨gb127, 0, none⟩) (Kd.V_mono HO107.out (fun k_ hk => (⟨hk, hk.2⟩ : _ ∧ k_ ≠ gb127))) (fun _ hk => hk.2) (.bool t119)) (fun _ hk => hk.2) (.slice Ao30 t120.length co30)) (fun _ hk => hk.2) (.slice Ao31 t123.length co31)) (fun _ hk => ⟨hk.1.1.1.2, ⟨hk.1.1.2, hk.1.2⟩⟩)⟩
    have n2_ : Aside0 (Kd.V (Kd.int .u32) 97 (((w26.setCell ⟨gb127, 0, none⟩ (.bool t119)).setCell ⟨gb127, 1, none⟩ (.slice Ao30 t120.length co30)).setCell ⟨gb127, 2, none⟩ (.slice Ao31 t123.length co31)) w.heap.size (fun k_ => k_ ≠ gb109 ∧ k_ ≠ gb118 ∧ k_ ≠ gb127) (.slice Ao23 t111.length co23) t111) := ⟨by (with_reducible repeat (first | apply Kd.V_alloc | apply Kd.V_drewN | apply Kd.V_drew)); exact Kd.V_mono (Kd.V_far (p := ⟨gb127, 2, none⟩) (Kd.V_far (p := ⟨gb127, 1, none⟩) (Kd.V_far (p := ⟨gb127, 0, none⟩) (Kd.V_mono HO113.out (fun k_ hk => (⟨hk, hk.2⟩ : _ ∧ k_ ≠ gb127))) (fun _ hk => hk.2) (.bool t119)) (fun _ hk => hk.2) (.slice Ao30 t120.length co30)) (fun _ hk => hk.2) (.slice Ao31 t123.length co31)) (fun _ hk => ⟨hk.1.1.1, ⟨hk.1.1.2, hk.1.2⟩⟩)⟩
    have n3_ : Aside0 (Kd.V (Kd.int .u32) 97 (((w26.setCell ⟨gb127, 0, none⟩ (.bool t119)).setCell ⟨gb127, 1, none⟩ (.slice Ao30 t120.length co30)).setCell ⟨gb127, 2, none⟩ (.slice Ao31 t123.length co31)) w.heap.size (fun k_ => k_ ≠ gb109 ∧ k_ ≠ gb118 ∧ k_ ≠ gb127) (.slice Ao24 t114.length co24) t114) := ⟨by (with_reducible repeat (first | apply Kd.V_alloc | apply Kd.V_drewN | apply Kd.V_drew)); exact Kd.V_mono (Kd.V_far (p := ⟨gb127, 2, none⟩) (Kd.V_far (p := ⟨gb127, 1, none⟩) (Kd.V_far (p := ⟨gb127, 0, none⟩) (Kd.V_mono HO116.out (fun k_ hk => (⟨hk, hk.2⟩ : _ ∧ k_ ≠ gb127))) (fun _ hk => hk.2) (.bool t119)) (fun _ hk => hk.2) (.slice Ao30 t120.length co30)) (fun _ hk => hk.2) (.slice Ao31 t123.length co31)) (fun _ hk => ⟨hk.1.1.1, ⟨hk.1.1.2, hk.1.2⟩⟩)⟩
    have n4_ : Aside0 (Kd.V (Kd.int .u32) 97 (((w26.setCell ⟨gb127, 0, none⟩ (.bool t119)).setCell ⟨gb127, 1, none⟩ (.slice Ao30 t120.length co30)).setCell ⟨gb127, 2, none⟩ (.slice Ao31 t123.length co31)) w.heap.size (fun k_ => k_ ≠ gb109 ∧ k_ ≠ gb118 ∧ k_ ≠ gb127) (.slice Ao30 t120.length co30) t120) := ⟨by (with_reducible repeat (first | apply Kd.V_alloc | apply Kd.V_drewN | apply Kd.V_drew)); exact Kd.V_mono (Kd.V_far (p := ⟨gb127, 2, none⟩) (Kd.V_far (p := ⟨gb127, 1, none⟩) (Kd.V_far (p := ⟨gb127, 0, none⟩) (Kd.V_mono HO122.out (fun k_ hk => (⟨hk, hk.2⟩ : _ ∧ k_ ≠ gb127))) (fun _ hk => hk.2) (.bool t119)) (fun _ hk => hk.2) (.slice Ao30 t120.length co30)) (fun _ hk => hk.2) (.slice Ao31 t123.length co31)) (fun _ hk => ⟨hk.1.1.1, ⟨hk.1.1.2, hk.1.2⟩⟩)⟩
    have n5_ : Aside0 (Kd.V (Kd.int .u32) 97 (((w26.setCell ⟨gb127, 0, none⟩ (.bool t119)).setCell ⟨gb127, 1, none⟩ (.slice Ao30 t120.length co30)).setCell ⟨gb127, 2, none⟩ (.slice Ao31 t123.length co31)) w.heap.size (fun k_ => k_ ≠ gb109 ∧ k_ ≠ gb118 ∧ k_ ≠ gb127) (.slice Ao31 t123.length co31) t123) := ⟨by (with_reducible repeat (first | apply Kd.V_alloc | apply Kd.V_drewN | apply Kd.V_drew)); exact Kd.V_mono (Kd.V_far (p := ⟨gb127, 2, none⟩) (Kd.V_far (p := ⟨gb127, 1, none⟩) (Kd.V_far (p := ⟨gb127, 0, none⟩) (Kd.V_mono HO125.out (fun k_ hk => (⟨hk, hk.2⟩ : _ ∧ k_ ≠ gb127))) (fun _ hk => hk.2) (.bool t119)) (fun _ hk => hk.2) (.slice Ao30 t120.length co30)) (fun _ hk => hk.2) (.slice Ao31 t123.length co31)) (fun _ hk => ⟨hk.1.1.1, ⟨hk.1.1.2, hk.1.2⟩⟩)⟩
    have n6_ : Aside0 ((((w26.setCell ⟨gb127, 0, none⟩ (.bool t119)).setCell ⟨gb127, 1, none⟩ (.slice Ao30 t120.length co30)).setCell ⟨gb127, 2, none⟩ (.slice Ao31 t123.length co31)).heap[gb109]? = some (.cells #[.bool t101, .slice Ao17 t102.length co17, .slice Ao18 t105.length co18] 60 (0, 0))) := ⟨by (with_reducible repeat (first | refine blk_drewN ?_ _ | refine blk_drew ?_ | refine blk_alloc ?_ _)); refine blk_far ?_ NB109_127.out _; (with_reducible repeat (first | refine blk_drewN ?_ _ | refine blk_drew ?_ | refine blk_alloc ?_ _)); refine blk_far ?_ NB109_127.out _; (with_reducible repeat (first | refine blk_drewN ?_ _ | refine blk_drew ?_ | refine blk_alloc ?_ _)); refine blk_far ?_ NB109_127.out _; (with_reducible repeat (first | refine blk_drewN ?_ _ | refine blk_drew ?_ | refine blk_alloc ?_ _)); exact BK109.out⟩
    have n7_ : Aside0 ((((w26.setCell ⟨gb127, 0, none⟩ (.bool t119)).setCell ⟨gb127, 1, none⟩ (.slice Ao30 t120.length co30)).setCell ⟨gb127, 2, none⟩ (.slice Ao31 t123.length co31)).heap[gb118]? = some (.cells #[.bool t110, .slice Ao23 t111.length co23, .slice Ao24 t114.length co24] 60 (0, 0))) := ⟨by (with_reducible repeat (first | refine blk_drewN ?_ _ | refine blk_drew ?_ | refine blk_alloc ?_ _)); refine blk_far ?_ NB118_127.out _; (with_reducible repeat (first | refine blk_drewN ?_ _ | refine blk_drew ?_ | refine blk_alloc ?_ _)); refine blk_far ?_ NB118_127.out _; (with_reducible repeat (first | refine blk_drewN ?_ _ | refine blk_drew ?_ | refine blk_alloc ?_ _)); refine blk_far ?_ NB118_127.out _; (with_reducible repeat (first | refine blk_drewN ?_ _ | refine blk_drew ?_ | refine blk_alloc ?_ _)); exact BK118.out⟩
    have n8_ : Aside0 ((((w26.setCell ⟨gb127, 0, none⟩ (.bool t119)).setCell ⟨gb127, 1, none⟩ (.slice Ao30 t120.length co30)).setCell ⟨gb127, 2, none⟩ (.slice Ao31 t123.length co31)).heap[gb127]? = some (.cells #[.bool t119, .slice Ao30 t120.length co30, .slice Ao31 t123.length co31] 60 (0, 0))) := ⟨by (with_reducible repeat (first | refine blk_drewN ?_ _ | refine blk_drew ?_ | refine blk_alloc ?_ _)); refine blk_put (cs := #[.bool t119, .slice Ao30 t120.length co30, .slice none 0 0]) ?_ 2 _ rfl; (with_reducible repeat (first | refine blk_drewN ?_ _ | refine blk_drew ?_ | refine blk_alloc ?_ _)); refine blk_put (cs := #[.bool t119, .slice none 0 0, .slice none 0 0]) ?_ 1 _ rfl; (with_reducible repeat (first | refine blk_drewN ?_ _ | refine blk_drew ?_ | refine blk_alloc ?_ _)); refine blk_put (cs := #[.bool false, .slice none 0 0, .slice none 0 0]) ?_ 0 _ rfl; (with_reducible repeat (first | refine blk_drewN ?_ _ | refine blk_drew ?_ | refine blk_alloc ?_ _)); exact BK127.out⟩
    have n9_ : Aside0 (Below w.heap.size w (((w26.setCell ⟨gb127, 0, none⟩ (.bool t119)).setCell ⟨gb127, 1, none⟩ (.slice Ao30 t120.length co30)).setCell ⟨gb127, 2, none⟩ (.slice Ao31 t123.length co31))) := ⟨zB3 HB.out GE109.out GE118.out GE127.out⟩
    (try clear HO104)
    (try clear HO107)
    (try clear HO113)
    (try clear HO116)
    (try clear HO122)
    (try clear HO125)
    (try clear BK109)
    (try clear BK118)
    (try clear BK127)
    (try clear HB)
    generalize (((w26.setCell ⟨gb127, 0, none⟩ (.bool t119)).setCell ⟨gb127, 1, none⟩ (.slice Ao30 t120.length co30)).setCell ⟨gb127, 2, none⟩ (.slice Ao31 t123.length co31)) = w45 at n0_ n1_ n2_ n3_ n4_ n5_ n6_ n7_ n8_ n9_ ⊢
    have HO104 := n0_
    have HO107 := n1_
    have HO113 := n2_
    have HO116 := n3_
    have HO122 := n4_
    have HO125 := n5_
    have BK109 := n6_
    have BK118 := n7_
    have BK127 := n8_
    have HB := n9_
    clear n0_ n1_ n2_ n3_ n4_ n5_ n6_ n7_ n8_ n9_
    replace HO104 := Aside0.mk (Kd.V_drew HO104.out)
    replace HO107 := Aside0.mk (Kd.V_drew HO107.out)
    replace HO113 := Aside0.mk (Kd.V_drew HO113.out)
    replace HO116 := Aside0.mk (Kd.V_drew HO116.out)
    replace HO122 := Aside0.mk (Kd.V_drew HO122.out)
    replace HO125 := Aside0.mk (Kd.V_drew HO125.out)
    replace BK109 := Aside0.mk (blk_drew BK109.out)
    replace BK118 := Aside0.mk (blk_drew BK118.out)
    replace BK127 := Aside0.mk (blk_drew BK127.out)
    replace HB := Aside0.mk (below_drew1 HB.out)
    refine start_ (n := 16) (S := fun w' => True) (ds := []) #[false, false, false, false, false, false, false, false, false, false, false, false, false, false, false, false] (by kernel_rfl) rfl rfl trivial (fun hHeld => ?_); refine with_tabW codewrightlaw24_MacwilliamsReciprocal.tab6 codewrightlaw24_MacwilliamsReciprocal.bits6 (fun HT_ HW_ => ?_)
    generalize w45.drew = w46 at HO104 HO107 HO113 HO116 HO122 HO125 BK109 BK118 BK127 HB hHeld ⊢
    refine zp (i := 0) (N := some 59) HT_ ?_
    refine zp (i := 1) (N := some 60) HT_ ?_
    refine zp (i := 2) (N := some 61) HT_ ?_
    refine zp (i := 3) (N := some 62) HT_ ?_
    refine zp (i := 4) (N := some 63) HT_ ?_
    refine zp (i := 5) (N := some 64) HT_ ?_
    refine zp (i := 6) (N := some 65) HT_ ?_
    refine pure_ (i := 7) (N := some 66) (v := undef) (a' := ?_) #[true, true, true, true, true, true, true, true, false, false, false, false, false, false, false, false] rfl rfl (any_of HT_.out (by kernel_rfl)) (fun _ _ _ h => h) (Or.inr ⟨by rfl, rfl⟩) ?_ ?_
    rotate_left
    · simp only [Act.put, List.setIfInBounds_toArray, List.set_cons_zero, List.set_cons_succ, i64_w, i32_w]
      rfl
    refine pure_ (i := 8) (N := some 67) (v := undef) (a' := ?_) #[true, true, true, true, true, true, true, true, true, false, false, false, false, false, false, false] rfl rfl (any_of HT_.out (by kernel_rfl)) (fun _ _ _ h => h) (Or.inr ⟨by rfl, rfl⟩) ?_ ?_
    rotate_left
    · simp only [Act.put, List.setIfInBounds_toArray, List.set_cons_zero, List.set_cons_succ, i64_w, i32_w]
      rfl
    refine zp (i := 9) (N := some 68) HT_ ?_
    refine zp (i := 10) (N := some 69) HT_ ?_
    refine pure_ (i := 11) (N := some 70) (v := undef) (a' := ?_) #[true, true, true, true, true, true, true, true, true, true, true, true, false, false, false, false] rfl rfl (any_of HT_.out (by kernel_rfl)) (fun _ _ _ h => h) (Or.inr ⟨by rfl, rfl⟩) ?_ ?_
    rotate_left
    · simp only [Act.put, List.setIfInBounds_toArray, List.set_cons_zero, List.set_cons_succ, i64_w, i32_w]
      rfl
    refine pure_ (i := 12) (N := some 71) (v := undef) (a' := ?_) #[true, true, true, true, true, true, true, true, true, true, true, true, true, false, false, false] rfl rfl (any_of HT_.out (by kernel_rfl)) (fun _ _ _ h => h) (Or.inr ⟨by rfl, rfl⟩) ?_ ?_
    rotate_left
    · simp only [Act.put, List.setIfInBounds_toArray, List.set_cons_zero, List.set_cons_succ, i64_w, i32_w]
      rfl
    refine pure_ (i := 13) (N := some 72) (v := undef) (a' := ?_) #[true, true, true, true, true, true, true, true, true, true, true, true, true, true, false, false] rfl rfl (any_of HT_.out (by kernel_rfl)) (fun _ _ _ h => h) (Or.inr ⟨by rfl, rfl⟩) ?_ ?_
    rotate_left
    · simp only [Act.put, List.setIfInBounds_toArray, List.set_cons_zero, List.set_cons_succ, i64_w, i32_w]
      rfl
    refine pure_ (i := 14) (N := some 73) (v := undef) (a' := ?_) #[true, true, true, true, true, true, true, true, true, true, true, true, true, true, true, false] rfl rfl (any_of HT_.out (by kernel_rfl)) (fun _ _ _ h => h) (Or.inr ⟨by rfl, rfl⟩) ?_ ?_
    rotate_left
    · simp only [Act.put, List.setIfInBounds_toArray, List.set_cons_zero, List.set_cons_succ, i64_w, i32_w]
      rfl
    refine zp (i := 15) (N := some 74) HT_ ?_
    refine done_ (done_of HT_.out (by kernel_rfl)) ?_
    try go_wp2
    go_meet
    case rel => exact ⟨_, (true), zF, H', ⟨by have := HJ4.out; first | omega | exact Nat.le_refl _⟩, ⟨zV HO104.out⟩, ⟨zV HO107.out⟩, ⟨zV HO113.out⟩, ⟨zV HO116.out⟩, ⟨zV HO122.out⟩, ⟨zV HO125.out⟩, ⟨by (with_reducible repeat (first | refine blk_drewN ?_ _ | refine blk_drew ?_ | refine blk_alloc ?_ _)); exact BK109.out⟩, ⟨by (with_reducible repeat (first | refine blk_drewN ?_ _ | refine blk_drew ?_ | refine blk_alloc ?_ _)); exact BK118.out⟩, ⟨by (with_reducible repeat (first | refine blk_drewN ?_ _ | refine blk_drew ?_ | refine blk_alloc ?_ _)); exact BK127.out⟩, ⟨zB3 HB.out GE109.out GE118.out GE127.out⟩⟩
  replace c32 := Bool.eq_false_iff.mpr c32
  subst c32
  rw [if_neg Bool.false_ne_true] at H
  have H' := Aside0.mk H
  clear H
  try go_wp2
  have n0_ : Aside0 (Kd.V (Kd.int .u32) 97 (((w26.setCell ⟨gb127, 0, none⟩ (.bool t119)).setCell ⟨gb127, 1, none⟩ (.slice Ao30 t120.length co30)).setCell ⟨gb127, 2, none⟩ (.slice Ao31 t123.length co31)) w.heap.size (fun k_ => k_ ≠ gb109 ∧ k_ ≠ gb118 ∧ k_ ≠ gb127) (.slice Ao17 t102.length co17) t102) := ⟨by (with_reducible repeat (first | apply Kd.V_alloc | apply Kd.V_drewN | apply Kd.V_drew)); exact Kd.V_mono (Kd.V_far (p := ⟨gb127, 2, none⟩) (Kd.V_far (p := ⟨gb127, 1, none⟩) (Kd.V_far (p := ⟨gb127, 0, none⟩) (Kd.V_mono HO104.out (fun k_ hk => (⟨hk, hk.2⟩ : _ ∧ k_ ≠ gb127))) (fun _ hk => hk.2) (.bool t119)) (fun _ hk => hk.2) (.slice Ao30 t120.length co30)) (fun _ hk => hk.2) (.slice Ao31 t123.length co31)) (fun _ hk => ⟨hk.1.1.1.2, ⟨hk.1.1.2, hk.1.2⟩⟩)⟩
  have n1_ : Aside0 (Kd.V (Kd.int .u32) 97 (((w26.setCell ⟨gb127, 0, none⟩ (.bool t119)).setCell ⟨gb127, 1, none⟩ (.slice Ao30 t120.length co30)).setCell ⟨gb127, 2, none⟩ (.slice Ao31 t123.length co31)) w.heap.size (fun k_ => k_ ≠ gb109 ∧ k_ ≠ gb118 ∧ k_ ≠ gb127) (.slice Ao18 t105.length co18) t105) := ⟨by (with_reducible repeat (first | apply Kd.V_alloc | apply Kd.V_drewN | apply Kd.V_drew)); exact Kd.V_mono (Kd.V_far (p := ⟨gb127, 2, none⟩) (Kd.V_far (p := ⟨gb127, 1, none⟩) (Kd.V_far (p := ⟨gb127, 0, none⟩) (Kd.V_mono HO107.out (fun k_ hk => (⟨hk, hk.2⟩ : _ ∧ k_ ≠ gb127))) (fun _ hk => hk.2) (.bool t119)) (fun _ hk => hk.2) (.slice Ao30 t120.length co30)) (fun _ hk => hk.2) (.slice Ao31 t123.length co31)) (fun _ hk => ⟨hk.1.1.1.2, ⟨hk.1.1.2, hk.1.2⟩⟩)⟩
  have n2_ : Aside0 (Kd.V (Kd.int .u32) 97 (((w26.setCell ⟨gb127, 0, none⟩ (.bool t119)).setCell ⟨gb127, 1, none⟩ (.slice Ao30 t120.length co30)).setCell ⟨gb127, 2, none⟩ (.slice Ao31 t123.length co31)) w.heap.size (fun k_ => k_ ≠ gb109 ∧ k_ ≠ gb118 ∧ k_ ≠ gb127) (.slice Ao23 t111.length co23) t111) := ⟨by (with_reducible repeat (first | apply Kd.V_alloc | apply Kd.V_drewN | apply Kd.V_drew)); exact Kd.V_mono (Kd.V_far (p := ⟨gb127, 2, none⟩) (Kd.V_far (p := ⟨gb127, 1, none⟩) (Kd.V_far (p := ⟨gb127, 0, none⟩) (Kd.V_mono HO113.out (fun k_ hk => (⟨hk, hk.2⟩ : _ ∧ k_ ≠ gb127))) (fun _ hk => hk.2) (.bool t119)) (fun _ hk => hk.2) (.slice Ao30 t120.length co30)) (fun _ hk => hk.2) (.slice Ao31 t123.length co31)) (fun _ hk => ⟨hk.1.1.1, ⟨hk.1.1.2, hk.1.2⟩⟩)⟩
  have n3_ : Aside0 (Kd.V (Kd.int .u32) 97 (((w26.setCell ⟨gb127, 0, none⟩ (.bool t119)).setCell ⟨gb127, 1, none⟩ (.slice Ao30 t120.length co30)).setCell ⟨gb127, 2, none⟩ (.slice Ao31 t123.length co31)) w.heap.size (fun k_ => k_ ≠ gb109 ∧ k_ ≠ gb118 ∧ k_ ≠ gb127) (.slice Ao24 t114.length co24) t114) := ⟨by (with_reducible repeat (first | apply Kd.V_alloc | apply Kd.V_drewN | apply Kd.V_drew)); exact Kd.V_mono (Kd.V_far (p := ⟨gb127, 2, none⟩) (Kd.V_far (p := ⟨gb127, 1, none⟩) (Kd.V_far (p := ⟨gb127, 0, none⟩) (Kd.V_mono HO116.out (fun k_ hk => (⟨hk, hk.2⟩ : _ ∧ k_ ≠ gb127))) (fun _ hk => hk.2) (.bool t119)) (fun _ hk => hk.2) (.slice Ao30 t120.length co30)) (fun _ hk => hk.2) (.slice Ao31 t123.length co31)) (fun _ hk => ⟨hk.1.1.1, ⟨hk.1.1.2, hk.1.2⟩⟩)⟩
  have n4_ : Aside0 (Kd.V (Kd.int .u32) 97 (((w26.setCell ⟨gb127, 0, none⟩ (.bool t119)).setCell ⟨gb127, 1, none⟩ (.slice Ao30 t120.length co30)).setCell ⟨gb127, 2, none⟩ (.slice Ao31 t123.length co31)) w.heap.size (fun k_ => k_ ≠ gb109 ∧ k_ ≠ gb118 ∧ k_ ≠ gb127) (.slice Ao30 t120.length co30) t120) := ⟨by (with_reducible repeat (first | apply Kd.V_alloc | apply Kd.V_drewN | apply Kd.V_drew)); exact Kd.V_mono (Kd.V_far (p := ⟨gb127, 2, none⟩) (Kd.V_far (p := ⟨gb127, 1, none⟩) (Kd.V_far (p := ⟨gb127, 0, none⟩) (Kd.V_mono HO122.out (fun k_ hk => (⟨hk, hk.2⟩ : _ ∧ k_ ≠ gb127))) (fun _ hk => hk.2) (.bool t119)) (fun _ hk => hk.2) (.slice Ao30 t120.length co30)) (fun _ hk => hk.2) (.slice Ao31 t123.length co31)) (fun _ hk => ⟨hk.1.1.1, ⟨hk.1.1.2, hk.1.2⟩⟩)⟩
  have n5_ : Aside0 (Kd.V (Kd.int .u32) 97 (((w26.setCell ⟨gb127, 0, none⟩ (.bool t119)).setCell ⟨gb127, 1, none⟩ (.slice Ao30 t120.length co30)).setCell ⟨gb127, 2, none⟩ (.slice Ao31 t123.length co31)) w.heap.size (fun k_ => k_ ≠ gb109 ∧ k_ ≠ gb118 ∧ k_ ≠ gb127) (.slice Ao31 t123.length co31) t123) := ⟨by (with_reducible repeat (first | apply Kd.V_alloc | apply Kd.V_drewN | apply Kd.V_drew)); exact Kd.V_mono (Kd.V_far (p := ⟨gb127, 2, none⟩) (Kd.V_far (p := ⟨gb127, 1, none⟩) (Kd.V_far (p := ⟨gb127, 0, none⟩) (Kd.V_mono HO125.out (fun k_ hk => (⟨hk, hk.2⟩ : _ ∧ k_ ≠ gb127))) (fun _ hk => hk.2) (.bool t119)) (fun _ hk => hk.2) (.slice Ao30 t120.length co30)) (fun _ hk => hk.2) (.slice Ao31 t123.length co31)) (fun _ hk => ⟨hk.1.1.1, ⟨hk.1.1.2, hk.1.2⟩⟩)⟩
  have n6_ : Aside0 ((((w26.setCell ⟨gb127, 0, none⟩ (.bool t119)).setCell ⟨gb127, 1, none⟩ (.slice Ao30 t120.length co30)).setCell ⟨gb127, 2, none⟩ (.slice Ao31 t123.length co31)).heap[gb109]? = some (.cells #[.bool t101, .slice Ao17 t102.length co17, .slice Ao18 t105.length co18] 60 (0, 0))) := ⟨by (with_reducible repeat (first | refine blk_drewN ?_ _ | refine blk_drew ?_ | refine blk_alloc ?_ _)); refine blk_far ?_ NB109_127.out _; (with_reducible repeat (first | refine blk_drewN ?_ _ | refine blk_drew ?_ | refine blk_alloc ?_ _)); refine blk_far ?_ NB109_127.out _; (with_reducible repeat (first | refine blk_drewN ?_ _ | refine blk_drew ?_ | refine blk_alloc ?_ _)); refine blk_far ?_ NB109_127.out _; (with_reducible repeat (first | refine blk_drewN ?_ _ | refine blk_drew ?_ | refine blk_alloc ?_ _)); exact BK109.out⟩
  have n7_ : Aside0 ((((w26.setCell ⟨gb127, 0, none⟩ (.bool t119)).setCell ⟨gb127, 1, none⟩ (.slice Ao30 t120.length co30)).setCell ⟨gb127, 2, none⟩ (.slice Ao31 t123.length co31)).heap[gb118]? = some (.cells #[.bool t110, .slice Ao23 t111.length co23, .slice Ao24 t114.length co24] 60 (0, 0))) := ⟨by (with_reducible repeat (first | refine blk_drewN ?_ _ | refine blk_drew ?_ | refine blk_alloc ?_ _)); refine blk_far ?_ NB118_127.out _; (with_reducible repeat (first | refine blk_drewN ?_ _ | refine blk_drew ?_ | refine blk_alloc ?_ _)); refine blk_far ?_ NB118_127.out _; (with_reducible repeat (first | refine blk_drewN ?_ _ | refine blk_drew ?_ | refine blk_alloc ?_ _)); refine blk_far ?_ NB118_127.out _; (with_reducible repeat (first | refine blk_drewN ?_ _ | refine blk_drew ?_ | refine blk_alloc ?_ _)); exact BK118.out⟩
  have n8_ : Aside0 ((((w26.setCell ⟨gb127, 0, none⟩ (.bool t119)).setCell ⟨gb127, 1, none⟩ (.slice Ao30 t120.length co30)).setCell ⟨gb127, 2, none⟩ (.slice Ao31 t123.length co31)).heap[gb127]? = some (.cells #[.bool t119, .slice Ao30 t120.length co30, .slice Ao31 t123.length co31] 60 (0, 0))) := ⟨by (with_reducible repeat (first | refine blk_drewN ?_ _ | refine blk_drew ?_ | refine blk_alloc ?_ _)); refine blk_put (cs := #[.bool t119, .slice Ao30 t120.length co30, .slice none 0 0]) ?_ 2 _ rfl; (with_reducible repeat (first | refine blk_drewN ?_ _ | refine blk_drew ?_ | refine blk_alloc ?_ _)); refine blk_put (cs := #[.bool t119, .slice none 0 0, .slice none 0 0]) ?_ 1 _ rfl; (with_reducible repeat (first | refine blk_drewN ?_ _ | refine blk_drew ?_ | refine blk_alloc ?_ _)); refine blk_put (cs := #[.bool false, .slice none 0 0, .slice none 0 0]) ?_ 0 _ rfl; (with_reducible repeat (first | refine blk_drewN ?_ _ | refine blk_drew ?_ | refine blk_alloc ?_ _)); exact BK127.out⟩
  have n9_ : Aside0 (Below w.heap.size w (((w26.setCell ⟨gb127, 0, none⟩ (.bool t119)).setCell ⟨gb127, 1, none⟩ (.slice Ao30 t120.length co30)).setCell ⟨gb127, 2, none⟩ (.slice Ao31 t123.length co31))) := ⟨zB3 HB.out GE109.out GE118.out GE127.out⟩
  (try clear HO104)
  (try clear HO107)
  (try clear HO113)
  (try clear HO116)
  (try clear HO122)
  (try clear HO125)
  (try clear BK109)
  (try clear BK118)
  (try clear BK127)
  (try clear HB)
  generalize (((w26.setCell ⟨gb127, 0, none⟩ (.bool t119)).setCell ⟨gb127, 1, none⟩ (.slice Ao30 t120.length co30)).setCell ⟨gb127, 2, none⟩ (.slice Ao31 t123.length co31)) = w47 at n0_ n1_ n2_ n3_ n4_ n5_ n6_ n7_ n8_ n9_ ⊢
  have HO104 := n0_
  have HO107 := n1_
  have HO113 := n2_
  have HO116 := n3_
  have HO122 := n4_
  have HO125 := n5_
  have BK109 := n6_
  have BK118 := n7_
  have BK127 := n8_
  have HB := n9_
  clear n0_ n1_ n2_ n3_ n4_ n5_ n6_ n7_ n8_ n9_
  replace HO104 := Aside0.mk (Kd.V_drew HO104.out)
  replace HO107 := Aside0.mk (Kd.V_drew HO107.out)
  replace HO113 := Aside0.mk (Kd.V_drew HO113.out)
  replace HO116 := Aside0.mk (Kd.V_drew HO116.out)
  replace HO122 := Aside0.mk (Kd.V_drew HO122.out)
  replace HO125 := Aside0.mk (Kd.V_drew HO125.out)
  replace BK109 := Aside0.mk (blk_drew BK109.out)
  replace BK118 := Aside0.mk (blk_drew BK118.out)
  replace BK127 := Aside0.mk (blk_drew BK127.out)
  replace HB := Aside0.mk (below_drew1 HB.out)
  refine start_ (n := 16) (S := fun w' => True) (ds := []) #[false, false, false, false, false, false, false, false, false, false, false, false, false, false, false, false] (by kernel_rfl) rfl rfl trivial (fun hHeld => ?_); refine with_tabW codewrightlaw24_MacwilliamsReciprocal.tab6 codewrightlaw24_MacwilliamsReciprocal.bits6 (fun HT_ HW_ => ?_)
  generalize w47.drew = w48 at HO104 HO107 HO113 HO116 HO122 HO125 BK109 BK118 BK127 HB hHeld ⊢
  refine zp (i := 0) (N := some 59) HT_ ?_
  refine zp (i := 1) (N := some 60) HT_ ?_
  refine zp (i := 2) (N := some 61) HT_ ?_
  refine pure_ (i := 3) (N := some 62) (v := undef) (a' := ?_) #[true, true, true, true, false, false, false, false, false, false, false, false, false, false, false, false] rfl rfl (any_of HT_.out (by kernel_rfl)) (fun _ _ _ h => h) (Or.inr ⟨by rfl, rfl⟩) ?_ ?_
  rotate_left
  · simp only [Act.put, List.setIfInBounds_toArray, List.set_cons_zero, List.set_cons_succ, i64_w, i32_w]
    rfl
  refine pure_ (i := 4) (N := some 63) (v := undef) (a' := ?_) #[true, true, true, true, true, false, false, false, false, false, false, false, false, false, false, false] rfl rfl (any_of HT_.out (by kernel_rfl)) (fun _ _ _ h => h) (Or.inr ⟨by rfl, rfl⟩) ?_ ?_
  rotate_left
  · simp only [Act.put, List.setIfInBounds_toArray, List.set_cons_zero, List.set_cons_succ, i64_w, i32_w]
    rfl
  refine zp (i := 5) (N := some 64) HT_ ?_
  refine zp (i := 6) (N := some 65) HT_ ?_
  refine pure_ (i := 7) (N := some 66) (v := undef) (a' := ?_) #[true, true, true, true, true, true, true, true, false, false, false, false, false, false, false, false] rfl rfl (any_of HT_.out (by kernel_rfl)) (fun _ _ _ h => h) (Or.inr ⟨by rfl, rfl⟩) ?_ ?_
  rotate_left
  · simp only [Act.put, List.setIfInBounds_toArray, List.set_cons_zero, List.set_cons_succ, i64_w, i32_w]
    rfl
  refine pure_ (i := 8) (N := some 67) (v := undef) (a' := ?_) #[true, true, true, true, true, true, true, true, true, false, false, false, false, false, false, false] rfl rfl (any_of HT_.out (by kernel_rfl)) (fun _ _ _ h => h) (Or.inr ⟨by rfl, rfl⟩) ?_ ?_
  rotate_left
  · simp only [Act.put, List.setIfInBounds_toArray, List.set_cons_zero, List.set_cons_succ, i64_w, i32_w]
    rfl
  refine zp (i := 9) (N := some 68) HT_ ?_
  refine zp (i := 10) (N := some 69) HT_ ?_
  refine pure_ (i := 11) (N := some 70) (v := undef) (a' := ?_) #[true, true, true, true, true, true, true, true, true, true, true, true, false, false, false, false] rfl rfl (any_of HT_.out (by kernel_rfl)) (fun _ _ _ h => h) (Or.inr ⟨by rfl, rfl⟩) ?_ ?_
  rotate_left
  · simp only [Act.put, List.setIfInBounds_toArray, List.set_cons_zero, List.set_cons_succ, i64_w, i32_w]
    rfl
  refine pure_ (i := 12) (N := some 71) (v := undef) (a' := ?_) #[true, true, true, true, true, true, true, true, true, true, true, true, true, false, false, false] rfl rfl (any_of HT_.out (by kernel_rfl)) (fun _ _ _ h => h) (Or.inr ⟨by rfl, rfl⟩) ?_ ?_
  rotate_left
  · simp only [Act.put, List.setIfInBounds_toArray, List.set_cons_zero, List.set_cons_succ, i64_w, i32_w]
    rfl
  refine pure_ (i := 13) (N := some 72) (v := undef) (a' := ?_) #[true, true, true, true, true, true, true, true, true, true, true, true, true, true, false, false] rfl rfl (any_of HT_.out (by kernel_rfl)) (fun _ _ _ h => h) (Or.inr ⟨by rfl, rfl⟩) ?_ ?_
  rotate_left
  · simp only [Act.put, List.setIfInBounds_toArray, List.set_cons_zero, List.set_cons_succ, i64_w, i32_w]
    rfl
  refine pure_ (i := 14) (N := some 73) (v := undef) (a' := ?_) #[true, true, true, true, true, true, true, true, true, true, true, true, true, true, true, false] rfl rfl (any_of HT_.out (by kernel_rfl)) (fun _ _ _ h => h) (Or.inr ⟨by rfl, rfl⟩) ?_ ?_
  rotate_left
  · simp only [Act.put, List.setIfInBounds_toArray, List.set_cons_zero, List.set_cons_succ, i64_w, i32_w]
    rfl
  refine zp (i := 15) (N := some 74) HT_ ?_
  refine done_ (done_of HT_.out (by kernel_rfl)) ?_
  try go_wp2
  go_meet
  case rel => exact ⟨_, (true), zF, H', ⟨by have := HJ4.out; first | omega | exact Nat.le_refl _⟩, ⟨zV HO104.out⟩, ⟨zV HO107.out⟩, ⟨zV HO113.out⟩, ⟨zV HO116.out⟩, ⟨zV HO122.out⟩, ⟨zV HO125.out⟩, ⟨by (with_reducible repeat (first | refine blk_drewN ?_ _ | refine blk_drew ?_ | refine blk_alloc ?_ _)); exact BK109.out⟩, ⟨by (with_reducible repeat (first | refine blk_drewN ?_ _ | refine blk_drew ?_ | refine blk_alloc ?_ _)); exact BK118.out⟩, ⟨by (with_reducible repeat (first | refine blk_drewN ?_ _ | refine blk_drew ?_ | refine blk_alloc ?_ _)); exact BK127.out⟩, ⟨zB3 HB.out GE109.out GE118.out GE127.out⟩⟩
 clear HC13
 (try clear p2);(try clear c3);(try clear c32);(try clear c33);(try clear c34)
 obtain ⟨kq, x74_12, rfl, HA, HJ12, HO_110001, HO_110002, HO_119001, HO_119002, HO_128001, HO_128002, BK109, BK118, BK127, HB⟩ := hcut
 cases kq with | zero => exact absurd HA.out (by simp [codewrightlaw24_MacwilliamsReciprocal.j1]) | succ kj12 => ?_
 have H := HA.out
 clear HA
 simp only [codewrightlaw24_MacwilliamsReciprocal.j1] at H
 by_cases c49 : x74_12 = true
 · subst c49
   rw [if_pos rfl] at H
   obtain rfl := Option.some.inj H
   go_wp2
   go_ret
   exact ⟨zE, zB3 HB.out GE109.out GE118.out GE127.out⟩
 replace c49 := Bool.eq_false_iff.mpr c49
 subst c49
 rw [if_neg Bool.false_ne_true] at H
 replace H := zb H
 obtain ⟨⟨t136, t137, t140⟩, A50, H⟩ := H
 dsimp only at H
 replace H := zb H
 obtain ⟨⟨t143, t144, t147⟩, A51, H⟩ := H
 dsimp only at H
 replace H := zb H
 obtain ⟨⟨t150, t151, t154⟩, A52, H⟩ := H
 dsimp only at H
 replace H := zb H
 obtain ⟨⟨t157, t158, t161⟩, A53, H⟩ := H
 dsimp only at H
 replace H := zb H
 obtain ⟨⟨t164, t165, t168⟩, A54, H⟩ := H
 dsimp only at H
 replace H := zb H
 obtain ⟨⟨t171, t172, t175⟩, A55, H⟩ := H
 dsimp only at H
 replace H := zb H
 obtain ⟨⟨t178, t179, t182⟩, A56, H⟩ := H
 dsimp only at H
 replace H := zb H
 obtain ⟨⟨t185, t186, t189⟩, A57, H⟩ := H
 dsimp only at H
 replace H := zb H
 obtain ⟨t192, A58, H⟩ := H
 obtain rfl := Option.some.inj H
 try go_wp2
 replace HO_110001 := Aside0.mk (Kd.V_drew HO_110001.out)
 replace HO_110002 := Aside0.mk (Kd.V_drew HO_110002.out)
 replace HO_119001 := Aside0.mk (Kd.V_drew HO_119001.out)
 replace HO_119002 := Aside0.mk (Kd.V_drew HO_119002.out)
 replace HO_128001 := Aside0.mk (Kd.V_drew HO_128001.out)
 replace HO_128002 := Aside0.mk (Kd.V_drew HO_128002.out)
 replace BK109 := Aside0.mk (blk_drew BK109.out)
 replace BK118 := Aside0.mk (blk_drew BK118.out)
 replace BK127 := Aside0.mk (blk_drew BK127.out)
 replace HB := Aside0.mk (below_drew1 HB.out)
 refine start_ (n := 30) (S := fun w' => w'.cell? ⟨gb109, 0, none⟩ = some (.bool t101) ∧ w'.cell? ⟨gb109, 1, none⟩ = some (.slice Ao17 t102.length co17) ∧ w'.cell? ⟨gb109, 2, none⟩ = some (.slice Ao18 t105.length co18) ∧ w'.cell? ⟨gb118, 0, none⟩ = some (.bool t110) ∧ w'.cell? ⟨gb118, 1, none⟩ = some (.slice Ao23 t111.length co23) ∧ w'.cell? ⟨gb118, 2, none⟩ = some (.slice Ao24 t114.length co24)) (ds := []) #[false, false, false, false, false, false, false, false, false, false, false, false, false, false, false, false, false, false, false, false, false, false, false, false, false, false, false, false, false, false] (by kernel_rfl) rfl rfl ⟨(blk_cell BK109.out 0).trans rfl, (blk_cell BK109.out 1).trans rfl, (blk_cell BK109.out 2).trans rfl, (blk_cell BK118.out 0).trans rfl, (blk_cell BK118.out 1).trans rfl, (blk_cell BK118.out 2).trans rfl⟩ (fun hHeld => ?_); refine with_tabW codewrightlaw24_MacwilliamsReciprocal.tab8 codewrightlaw24_MacwilliamsReciprocal.bits8 (fun HT_ HW_ => ?_)
 generalize wc.drew = w59 at HO_110001 HO_110002 HO_119001 HO_119002 HO_128001 HO_128002 BK109 BK118 BK127 HB hHeld ⊢
 refine zp (i := 1) (N := some 76) HT_ ?_
 refine zp (i := 2) (N := some 77) HT_ ?_
 refine zp (i := 3) (N := some 78) HT_ ?_
 refine zp (i := 4) (N := some 79) HT_ ?_
 refine zp (i := 5) (N := some 80) HT_ ?_
 refine zp (i := 7) (N := some 82) HT_ ?_
 refine zp (i := 8) (N := some 83) HT_ ?_
 refine zp (i := 9) (N := some 84) HT_ ?_
 refine zp (i := 10) (N := some 85) HT_ ?_
 refine zp (i := 15) (N := some 90) HT_ ?_
 refine zp (i := 16) (N := some 91) HT_ ?_
 refine zp (i := 17) (N := some 92) HT_ ?_
 refine zp (i := 18) (N := some 93) HT_ ?_
 refine zp (i := 19) (N := some 94) HT_ ?_
 refine zp (i := 21) (N := some 96) HT_ ?_
 refine zp (i := 22) (N := some 97) HT_ ?_
 refine zp (i := 23) (N := some 98) HT_ ?_
 refine zp (i := 24) (N := some 99) HT_ ?_
 refine take_ (i := 0) (N := some 75) (v := ?_) (a' := ?_) #[true, true, true, true, true, true, false, true, true, true, true, false, false, false, false, true, true, true, true, true, false, true, true, true, true, false, false, false, false, false] rfl rfl (take_ofW HT_.out HW_.out (by kernel_rfl)) (fun _ _ _ h => h) (Or.inl ⟨by rfl, ?_⟩) hHeld ?_ ?_
 rotate_left
 · rintro w' ⟨s0, s1, s2, s3, s4, s5⟩
   go_simp
   with_reducible rfl
 rotate_left
 · simp only [Act.put, List.setIfInBounds_toArray, List.set_cons_zero, List.set_cons_succ, i64_w, i32_w]
   rfl
 refine take_ (i := 14) (N := some 89) (v := ?_) (a' := ?_) #[true, true, true, true, true, true, false, true, true, true, true, false, false, false, true, true, true, true, true, true, false, true, true, true, true, false, false, false, false, false] rfl rfl (take_ofW HT_.out HW_.out (by kernel_rfl)) (fun _ _ _ h => h) (Or.inl ⟨by rfl, ?_⟩) hHeld ?_ ?_
 rotate_left
 · rintro w' ⟨s0, s1, s2, s3, s4, s5⟩
   go_simp
   with_reducible rfl
 rotate_left
 · simp only [Act.put, List.setIfInBounds_toArray, List.set_cons_zero, List.set_cons_succ, i64_w, i32_w]
   rfl
 refine one_ (i := 6) (N := some 81) #[true, true, true, true, true, true, true, true, true, true, true, false, false, false, true, true, true, true, true, true, false, true, true, true, true, false, false, false, false, false] rfl rfl (one_of HT_.out (by kernel_rfl)) (by decide) (fun K hK => ?_)
 refine goes_ Try.func54 (by kernel_rfl) rfl #[.int .i64 (wrap64 ((wrap64 (a0)) - 1)), .int .i64 (wrap64 (a2))] (by rfl) rfl rfl (by (try simp only [List.map_toArray, List.map_cons, List.map_nil]); first | done | rfl | (simp only [List.length_drop, List.length_take]; rfl)) ?_
 with_reducible refine (codewrightlaw24_pow.calls kj12 (wrap64 ((wrap64 (a0)) - 1)) (wrap64 (a2)) t136 t137 t140 _ A50.out).mono ?_
 rintro e w60 ⟨v138, v141, rfl, ho0, ho1, hb⟩
 refine ⟨_, rfl, ?_⟩
 replace HO_110001 := yVt HO_110001 hb ho0 ho1
 replace HO_110002 := yVt HO_110002 hb ho0 ho1
 replace HO_119001 := yVt HO_119001 hb ho0 ho1
 replace HO_119002 := yVt HO_119002 hb ho0 ho1
 replace HO_128001 := yVt HO_128001 hb ho0 ho1
 replace HO_128002 := yVt HO_128002 hb ho0 ho1
 have HO139 := yRl3 ho0 HB GE109 GE118 GE127
 have HO142 := yRl3 ho1 HB GE109 GE118 GE127
 replace BK109 := yK BK109 hb
 replace BK118 := yK BK118 hb
 replace BK127 := yK BK127 hb
 replace HB := yS3 HB GE109 GE118 GE127 hb
 (try clear hb)
 (try clear hb2)
 (try clear hk)
 (try clear hi)
 (try clear ho0)
 (try clear ho1)
 refine hK.out _ _ ⟨(blk_cell BK109.out 0).trans rfl, (blk_cell BK109.out 1).trans rfl, (blk_cell BK109.out 2).trans rfl, (blk_cell BK118.out 0).trans rfl, (blk_cell BK118.out 1).trans rfl, (blk_cell BK118.out 2).trans rfl⟩ (fun hHeld => ?_)
 clear hK K
 refine norm_ (a' := ?_) ?_ ?_
 rotate_left
 · show Act.put _ (some 81) _ = _
   simp only [Act.put, List.setIfInBounds_toArray, List.set_cons_zero, List.set_cons_succ, i64_w, i32_w]
   rfl
 refine one_ (i := 11) (N := some 86) #[true, true, true, true, true, true, true, true, true, true, true, true, false, false, true, true, true, true, true, true, false, true, true, true, true, false, false, false, false, false] rfl rfl (one_of HT_.out (by kernel_rfl)) (by decide) (fun K hK => ?_)
 refine goes_ Try.func53 (by kernel_rfl) rfl #[.int .i64 (wrap64 (a1)), .int .i64 (wrap64 (a2))] (by rfl) rfl rfl (by (try simp only [List.map_toArray, List.map_cons, List.map_nil]); first | done | rfl | (simp only [List.length_drop, List.length_take]; rfl)) ?_
 with_reducible refine (codewrightlaw24_choose.calls kj12 (wrap64 (a1)) (wrap64 (a2)) t143 t144 t147 _ A51.out).mono ?_
 rintro e w61 ⟨v145, v148, rfl, ho0, ho1, hb⟩
 refine ⟨_, rfl, ?_⟩
 replace HO_110001 := yVt HO_110001 hb ho0 ho1
 replace HO_110002 := yVt HO_110002 hb ho0 ho1
 replace HO_119001 := yVt HO_119001 hb ho0 ho1
 replace HO_119002 := yVt HO_119002 hb ho0 ho1
 replace HO_128001 := yVt HO_128001 hb ho0 ho1
 replace HO_128002 := yVt HO_128002 hb ho0 ho1
 replace ho0 := yn ho0 HO139
 replace ho0 := yn ho0 HO142
 have HO146 := yRl3 ho0 HB GE109 GE118 GE127
 replace ho1 := yn ho1 HO139
 replace ho1 := yn ho1 HO142
 have HO149 := yRl3 ho1 HB GE109 GE118 GE127
 replace HO139 := yRt HO139 hb ho0 ho1
 replace HO142 := yRt HO142 hb ho0 ho1
 replace BK109 := yK BK109 hb
 replace BK118 := yK BK118 hb
 replace BK127 := yK BK127 hb
 replace HB := yS3 HB GE109 GE118 GE127 hb
 (try clear hb)
 (try clear hb2)
 (try clear hk)
 (try clear hi)
 (try clear ho0)
 (try clear ho1)
 obtain ⟨Ao62, co62, eo62⟩ := Kd.R_slice HO139.out
 (first | subst eo62 | (injection eo62 with f1_ f2_ f3_; have f4_ := f1_.symm; have f5_ := f3_.symm; clear f1_ f2_ f3_; subst f4_; subst f5_))
 obtain ⟨Ao63, co63, eo63⟩ := Kd.R_slice HO142.out
 (first | subst eo63 | (injection eo63 with f1_ f2_ f3_; have f4_ := f1_.symm; have f5_ := f3_.symm; clear f1_ f2_ f3_; subst f4_; subst f5_))
 obtain ⟨Ao64, co64, eo64⟩ := Kd.R_slice HO146.out
 (first | subst eo64 | (injection eo64 with f1_ f2_ f3_; have f4_ := f1_.symm; have f5_ := f3_.symm; clear f1_ f2_ f3_; subst f4_; subst f5_))
 obtain ⟨Ao65, co65, eo65⟩ := Kd.R_slice HO149.out
 (first | subst eo65 | (injection eo65 with f1_ f2_ f3_; have f4_ := f1_.symm; have f5_ := f3_.symm; clear f1_ f2_ f3_; subst f4_; subst f5_))
 refine hK.out _ _ ⟨(blk_cell BK109.out 0).trans rfl, (blk_cell BK109.out 1).trans rfl, (blk_cell BK109.out 2).trans rfl, (blk_cell BK118.out 0).trans rfl, (blk_cell BK118.out 1).trans rfl, (blk_cell BK118.out 2).trans rfl⟩ (fun hHeld => ?_)
 clear hK K
 refine norm_ (a' := ?_) ?_ ?_
 rotate_left
 · show Act.put _ (some 86) _ = _
   simp only [Act.put, List.setIfInBounds_toArray, List.set_cons_zero, List.set_cons_succ, i64_w, i32_w]
   rfl
 refine one_ (i := 12) (N := some 87) #[true, true, true, true, true, true, true, true, true, true, true, true, true, false, true, true, true, true, true, true, false, true, true, true, true, false, false, false, false, false] rfl rfl (one_of HT_.out (by kernel_rfl)) (by decide) (fun K hK => ?_)
 refine goes_ Try.func51 (by kernel_rfl) rfl #[.agg #[.bool t136, .slice Ao62 t137.length co62, .slice Ao63 t140.length co63], .agg #[.bool t143, .slice Ao64 t144.length co64, .slice Ao65 t147.length co65]] (by rfl) rfl rfl (by (try simp only [List.map_toArray, List.map_cons, List.map_nil]); first | done | rfl | (simp only [List.length_drop, List.length_take]; rfl)) ?_
 with_reducible refine (codewrightref02_Mul.calls kj12 t136 _ _ t137 _ _ t140 t143 _ _ t144 _ _ t147 t150 t151 t154 _ ?side1 ?side2 ?side3 ?side4 ?side5 ?side6 ?side7 ?side8 A52.out).mono ?_
 (case side1 => exact zC (Kd.R_reads' HO139.out).2.2)
 (case side2 => exact (Kd.R_reads' HO139.out).2.1)
 (case side3 => exact zC (Kd.R_reads' HO142.out).2.2)
 (case side4 => exact (Kd.R_reads' HO142.out).2.1)
 (case side5 => exact zC (Kd.R_reads' HO146.out).2.2)
 (case side6 => exact (Kd.R_reads' HO146.out).2.1)
 (case side7 => exact zC (Kd.R_reads' HO149.out).2.2)
 (case side8 => exact (Kd.R_reads' HO149.out).2.1)
 rintro e w66 ⟨v152, v155, rfl, ho0, ho1, hb⟩
 refine ⟨_, rfl, ?_⟩
 replace HO_110001 := yVt HO_110001 hb ho0 ho1
 replace HO_110002 := yVt HO_110002 hb ho0 ho1
 replace HO_119001 := yVt HO_119001 hb ho0 ho1
 replace HO_119002 := yVt HO_119002 hb ho0 ho1
 replace HO_128001 := yVt HO_128001 hb ho0 ho1
 replace HO_128002 := yVt HO_128002 hb ho0 ho1
 replace ho0 := yn ho0 HO139
 replace ho0 := yn ho0 HO142
 replace ho0 := yn ho0 HO146
 replace ho0 := yn ho0 HO149
 have HO153 := yRl3 ho0 HB GE109 GE118 GE127
 replace ho1 := yn ho1 HO139
 replace ho1 := yn ho1 HO142
 replace ho1 := yn ho1 HO146
 replace ho1 := yn ho1 HO149
 have HO156 := yRl3 ho1 HB GE109 GE118 GE127
 replace HO139 := yRt HO139 hb ho0 ho1
 replace HO142 := yRt HO142 hb ho0 ho1
 replace HO146 := yRt HO146 hb ho0 ho1
 replace HO149 := yRt HO149 hb ho0 ho1
 replace BK109 := yK BK109 hb
 replace BK118 := yK BK118 hb
 replace BK127 := yK BK127 hb
 replace HB := yS3 HB GE109 GE118 GE127 hb
 (try clear hb)
 (try clear hb2)
 (try clear hk)
 (try clear hi)
 (try clear ho0)
 (try clear ho1)
 obtain ⟨Ao67, co67, eo67⟩ := Kd.R_slice HO153.out
 (first | subst eo67 | (injection eo67 with f1_ f2_ f3_; have f4_ := f1_.symm; have f5_ := f3_.symm; clear f1_ f2_ f3_; subst f4_; subst f5_))
 obtain ⟨Ao68, co68, eo68⟩ := Kd.R_slice HO156.out
 (first | subst eo68 | (injection eo68 with f1_ f2_ f3_; have f4_ := f1_.symm; have f5_ := f3_.symm; clear f1_ f2_ f3_; subst f4_; subst f5_))
 refine hK.out _ _ ⟨(blk_cell BK109.out 0).trans rfl, (blk_cell BK109.out 1).trans rfl, (blk_cell BK109.out 2).trans rfl, (blk_cell BK118.out 0).trans rfl, (blk_cell BK118.out 1).trans rfl, (blk_cell BK118.out 2).trans rfl⟩ (fun hHeld => ?_)
 clear hK K
 refine norm_ (a' := ?_) ?_ ?_
 rotate_left
 · show Act.put _ (some 87) _ = _
   simp only [Act.put, List.setIfInBounds_toArray, List.set_cons_zero, List.set_cons_succ, i64_w, i32_w]
   rfl
 refine one_ (i := 13) (N := some 88) #[true, true, true, true, true, true, true, true, true, true, true, true, true, true, true, true, true, true, true, true, false, true, true, true, true, false, false, false, false, false] rfl rfl (one_of HT_.out (by kernel_rfl)) (by decide) (fun K hK => ?_)
 refine goes_ Try.func51 (by kernel_rfl) rfl #[.agg #[.bool t101, .slice Ao17 t102.length co17, .slice Ao18 t105.length co18], .agg #[.bool t150, .slice Ao67 t151.length co67, .slice Ao68 t154.length co68]] (by rfl) rfl rfl (by (try simp only [List.map_toArray, List.map_cons, List.map_nil]); first | done | rfl | (simp only [List.length_drop, List.length_take]; rfl)) ?_
 with_reducible refine (codewrightref02_Mul.calls kj12 t101 _ _ t102 _ _ t105 t150 _ _ t151 _ _ t154 t157 t158 t161 _ ?side1 ?side2 ?side3 ?side4 ?side5 ?side6 ?side7 ?side8 A53.out).mono ?_
 (case side1 => exact zC (Kd.V_reads' HO_110001.out).2.2)
 (case side2 => exact (Kd.V_reads' HO_110001.out).2.1)
 (case side3 => exact zC (Kd.V_reads' HO_110002.out).2.2)
 (case side4 => exact (Kd.V_reads' HO_110002.out).2.1)
 (case side5 => exact zC (Kd.R_reads' HO153.out).2.2)
 (case side6 => exact (Kd.R_reads' HO153.out).2.1)
 (case side7 => exact zC (Kd.R_reads' HO156.out).2.2)
 (case side8 => exact (Kd.R_reads' HO156.out).2.1)
 rintro e w69 ⟨v159, v162, rfl, ho0, ho1, hb⟩
 refine ⟨_, rfl, ?_⟩
 replace HO_110001 := yVt HO_110001 hb ho0 ho1
 replace HO_110002 := yVt HO_110002 hb ho0 ho1
 replace HO_119001 := yVt HO_119001 hb ho0 ho1
 replace HO_119002 := yVt HO_119002 hb ho0 ho1
 replace HO_128001 := yVt HO_128001 hb ho0 ho1
 replace HO_128002 := yVt HO_128002 hb ho0 ho1
 replace ho0 := yn ho0 HO139
 replace ho0 := yn ho0 HO142
 replace ho0 := yn ho0 HO146
 replace ho0 := yn ho0 HO149
 replace ho0 := yn ho0 HO153
 replace ho0 := yn ho0 HO156
 have HO160 := yRl3 ho0 HB GE109 GE118 GE127
 replace ho1 := yn ho1 HO139
 replace ho1 := yn ho1 HO142
 replace ho1 := yn ho1 HO146
 replace ho1 := yn ho1 HO149
 replace ho1 := yn ho1 HO153
 replace ho1 := yn ho1 HO156
 have HO163 := yRl3 ho1 HB GE109 GE118 GE127
 replace HO139 := yRt HO139 hb ho0 ho1
 replace HO142 := yRt HO142 hb ho0 ho1
 replace HO146 := yRt HO146 hb ho0 ho1
 replace HO149 := yRt HO149 hb ho0 ho1
 replace HO153 := yRt HO153 hb ho0 ho1
 replace HO156 := yRt HO156 hb ho0 ho1
 replace BK109 := yK BK109 hb
 replace BK118 := yK BK118 hb
 replace BK127 := yK BK127 hb
 replace HB := yS3 HB GE109 GE118 GE127 hb
 (try clear hb)
 (try clear hb2)
 (try clear hk)
 (try clear hi)
 (try clear ho0)
 (try clear ho1)
 refine hK.out _ _ ⟨(blk_cell BK109.out 0).trans rfl, (blk_cell BK109.out 1).trans rfl, (blk_cell BK109.out 2).trans rfl, (blk_cell BK118.out 0).trans rfl, (blk_cell BK118.out 1).trans rfl, (blk_cell BK118.out 2).trans rfl⟩ (fun hHeld => ?_)
 clear hK K
 refine norm_ (a' := ?_) ?_ ?_
 rotate_left
 · show Act.put _ (some 88) _ = _
   simp only [Act.put, List.setIfInBounds_toArray, List.set_cons_zero, List.set_cons_succ, i64_w, i32_w]
   rfl
 refine one_ (i := 20) (N := some 95) #[true, true, true, true, true, true, true, true, true, true, true, true, true, true, true, true, true, true, true, true, true, true, true, true, true, false, false, false, false, false] rfl rfl (one_of HT_.out (by kernel_rfl)) (by decide) (fun K hK => ?_)
 refine goes_ Try.func54 (by kernel_rfl) rfl #[.int .i64 (wrap64 ((wrap64 (a0)) - 1)), .int .i64 (wrap64 (a3))] (by rfl) rfl rfl (by (try simp only [List.map_toArray, List.map_cons, List.map_nil]); first | done | rfl | (simp only [List.length_drop, List.length_take]; rfl)) ?_
 with_reducible refine (codewrightlaw24_pow.calls kj12 (wrap64 ((wrap64 (a0)) - 1)) (wrap64 (a3)) t164 t165 t168 _ A54.out).mono ?_
 rintro e w70 ⟨v166, v169, rfl, ho0, ho1, hb⟩
 refine ⟨_, rfl, ?_⟩
 replace HO_110001 := yVt HO_110001 hb ho0 ho1
 replace HO_110002 := yVt HO_110002 hb ho0 ho1
 replace HO_119001 := yVt HO_119001 hb ho0 ho1
 replace HO_119002 := yVt HO_119002 hb ho0 ho1
 replace HO_128001 := yVt HO_128001 hb ho0 ho1
 replace HO_128002 := yVt HO_128002 hb ho0 ho1
 replace ho0 := yn ho0 HO139
 replace ho0 := yn ho0 HO142
 replace ho0 := yn ho0 HO146
 replace ho0 := yn ho0 HO149
 replace ho0 := yn ho0 HO153
 replace ho0 := yn ho0 HO156
 replace ho0 := yn ho0 HO160
 replace ho0 := yn ho0 HO163
 have HO167 := yRl3 ho0 HB GE109 GE118 GE127
 replace ho1 := yn ho1 HO139
 replace ho1 := yn ho1 HO142
 replace ho1 := yn ho1 HO146
 replace ho1 := yn ho1 HO149
 replace ho1 := yn ho1 HO153
 replace ho1 := yn ho1 HO156
 replace ho1 := yn ho1 HO160
 replace ho1 := yn ho1 HO163
 have HO170 := yRl3 ho1 HB GE109 GE118 GE127
 replace HO139 := yRt HO139 hb ho0 ho1
 replace HO142 := yRt HO142 hb ho0 ho1
 replace HO146 := yRt HO146 hb ho0 ho1
 replace HO149 := yRt HO149 hb ho0 ho1
 replace HO153 := yRt HO153 hb ho0 ho1
 replace HO156 := yRt HO156 hb ho0 ho1
 replace HO160 := yRt HO160 hb ho0 ho1
 replace HO163 := yRt HO163 hb ho0 ho1
 replace BK109 := yK BK109 hb
 replace BK118 := yK BK118 hb
 replace BK127 := yK BK127 hb
 replace HB := yS3 HB GE109 GE118 GE127 hb
 (try clear hb)
 (try clear hb2)
 (try clear hk)
 (try clear hi)
 (try clear ho0)
 (try clear ho1)
 refine hK.out _ _ ⟨(blk_cell BK109.out 0).trans rfl, (blk_cell BK109.out 1).trans rfl, (blk_cell BK109.out 2).trans rfl, (blk_cell BK118.out 0).trans rfl, (blk_cell BK118.out 1).trans rfl, (blk_cell BK118.out 2).trans rfl⟩ (fun hHeld => ?_)
 clear hK K
 refine norm_ (a' := ?_) ?_ ?_
 rotate_left
 · show Act.put _ (some 95) _ = _
   simp only [Act.put, List.setIfInBounds_toArray, List.set_cons_zero, List.set_cons_succ, i64_w, i32_w]
   rfl
 refine one_ (i := 25) (N := some 100) #[true, true, true, true, true, true, true, true, true, true, true, true, true, true, true, true, true, true, true, true, true, true, true, true, true, true, false, false, false, false] rfl rfl (one_of HT_.out (by kernel_rfl)) (by decide) (fun K hK => ?_)
 refine goes_ Try.func53 (by kernel_rfl) rfl #[.int .i64 (wrap64 (a1)), .int .i64 (wrap64 (a3))] (by rfl) rfl rfl (by (try simp only [List.map_toArray, List.map_cons, List.map_nil]); first | done | rfl | (simp only [List.length_drop, List.length_take]; rfl)) ?_
 with_reducible refine (codewrightlaw24_choose.calls kj12 (wrap64 (a1)) (wrap64 (a3)) t171 t172 t175 _ A55.out).mono ?_
 rintro e w71 ⟨v173, v176, rfl, ho0, ho1, hb⟩
 refine ⟨_, rfl, ?_⟩
 replace HO_110001 := yVt HO_110001 hb ho0 ho1
 replace HO_110002 := yVt HO_110002 hb ho0 ho1
 replace HO_119001 := yVt HO_119001 hb ho0 ho1
 replace HO_119002 := yVt HO_119002 hb ho0 ho1
 replace HO_128001 := yVt HO_128001 hb ho0 ho1
 replace HO_128002 := yVt HO_128002 hb ho0 ho1
 replace ho0 := yn ho0 HO139
 replace ho0 := yn ho0 HO142
 replace ho0 := yn ho0 HO146
 replace ho0 := yn ho0 HO149
 replace ho0 := yn ho0 HO153
 replace ho0 := yn ho0 HO156
 replace ho0 := yn ho0 HO160
 replace ho0 := yn ho0 HO163
 replace ho0 := yn ho0 HO167
 replace ho0 := yn ho0 HO170
 have HO174 := yRl3 ho0 HB GE109 GE118 GE127
 replace ho1 := yn ho1 HO139
 replace ho1 := yn ho1 HO142
 replace ho1 := yn ho1 HO146
 replace ho1 := yn ho1 HO149
 replace ho1 := yn ho1 HO153
 replace ho1 := yn ho1 HO156
 replace ho1 := yn ho1 HO160
 replace ho1 := yn ho1 HO163
 replace ho1 := yn ho1 HO167
 replace ho1 := yn ho1 HO170
 have HO177 := yRl3 ho1 HB GE109 GE118 GE127
 replace HO139 := yRt HO139 hb ho0 ho1
 replace HO142 := yRt HO142 hb ho0 ho1
 replace HO146 := yRt HO146 hb ho0 ho1
 replace HO149 := yRt HO149 hb ho0 ho1
 replace HO153 := yRt HO153 hb ho0 ho1
 replace HO156 := yRt HO156 hb ho0 ho1
 replace HO160 := yRt HO160 hb ho0 ho1
 replace HO163 := yRt HO163 hb ho0 ho1
 replace HO167 := yRt HO167 hb ho0 ho1
 replace HO170 := yRt HO170 hb ho0 ho1
 replace BK109 := yK BK109 hb
 replace BK118 := yK BK118 hb
 replace BK127 := yK BK127 hb
 replace HB := yS3 HB GE109 GE118 GE127 hb
 (try clear hb)
 (try clear hb2)
 (try clear hk)
 (try clear hi)
 (try clear ho0)
 (try clear ho1)
 obtain ⟨Ao72, co72, eo72⟩ := Kd.R_slice HO167.out
 (first | subst eo72 | (injection eo72 with f1_ f2_ f3_; have f4_ := f1_.symm; have f5_ := f3_.symm; clear f1_ f2_ f3_; subst f4_; subst f5_))
 obtain ⟨Ao73, co73, eo73⟩ := Kd.R_slice HO170.out
 (first | subst eo73 | (injection eo73 with f1_ f2_ f3_; have f4_ := f1_.symm; have f5_ := f3_.symm; clear f1_ f2_ f3_; subst f4_; subst f5_))
 obtain ⟨Ao74, co74, eo74⟩ := Kd.R_slice HO174.out
 (first | subst eo74 | (injection eo74 with f1_ f2_ f3_; have f4_ := f1_.symm; have f5_ := f3_.symm; clear f1_ f2_ f3_; subst f4_; subst f5_))
 obtain ⟨Ao75, co75, eo75⟩ := Kd.R_slice HO177.out
 (first | subst eo75 | (injection eo75 with f1_ f2_ f3_; have f4_ := f1_.symm; have f5_ := f3_.symm; clear f1_ f2_ f3_; subst f4_; subst f5_))
 refine hK.out _ _ ⟨(blk_cell BK109.out 0).trans rfl, (blk_cell BK109.out 1).trans rfl, (blk_cell BK109.out 2).trans rfl, (blk_cell BK118.out 0).trans rfl, (blk_cell BK118.out 1).trans rfl, (blk_cell BK118.out 2).trans rfl⟩ (fun hHeld => ?_)
 clear hK K
 refine norm_ (a' := ?_) ?_ ?_
 rotate_left
 · show Act.put _ (some 100) _ = _
   simp only [Act.put, List.setIfInBounds_toArray, List.set_cons_zero, List.set_cons_succ, i64_w, i32_w]
   rfl
 refine one_ (i := 26) (N := some 101) #[true, true, true, true, true, true, true, true, true, true, true, true, true, true, true, true, true, true, true, true, true, true, true, true, true, true, true, false, false, false] rfl rfl (one_of HT_.out (by kernel_rfl)) (by decide) (fun K hK => ?_)
 refine goes_ Try.func51 (by kernel_rfl) rfl #[.agg #[.bool t164, .slice Ao72 t165.length co72, .slice Ao73 t168.length co73], .agg #[.bool t171, .slice Ao74 t172.length co74, .slice Ao75 t175.length co75]] (by rfl) rfl rfl (by (try simp only [List.map_toArray, List.map_cons, List.map_nil]); first | done | rfl | (simp only [List.length_drop, List.length_take]; rfl)) ?_
 with_reducible refine (codewrightref02_Mul.calls kj12 t164 _ _ t165 _ _ t168 t171 _ _ t172 _ _ t175 t178 t179 t182 _ ?side1 ?side2 ?side3 ?side4 ?side5 ?side6 ?side7 ?side8 A56.out).mono ?_
 (case side1 => exact zC (Kd.R_reads' HO167.out).2.2)
 (case side2 => exact (Kd.R_reads' HO167.out).2.1)
 (case side3 => exact zC (Kd.R_reads' HO170.out).2.2)
 (case side4 => exact (Kd.R_reads' HO170.out).2.1)
 (case side5 => exact zC (Kd.R_reads' HO174.out).2.2)
 (case side6 => exact (Kd.R_reads' HO174.out).2.1)
 (case side7 => exact zC (Kd.R_reads' HO177.out).2.2)
 (case side8 => exact (Kd.R_reads' HO177.out).2.1)
 rintro e w76 ⟨v180, v183, rfl, ho0, ho1, hb⟩
 refine ⟨_, rfl, ?_⟩
 replace HO_110001 := yVt HO_110001 hb ho0 ho1
 replace HO_110002 := yVt HO_110002 hb ho0 ho1
 replace HO_119001 := yVt HO_119001 hb ho0 ho1
 replace HO_119002 := yVt HO_119002 hb ho0 ho1
 replace HO_128001 := yVt HO_128001 hb ho0 ho1
 replace HO_128002 := yVt HO_128002 hb ho0 ho1
 replace ho0 := yn ho0 HO139
 replace ho0 := yn ho0 HO142
 replace ho0 := yn ho0 HO146
 replace ho0 := yn ho0 HO149
 replace ho0 := yn ho0 HO153
 replace ho0 := yn ho0 HO156
 replace ho0 := yn ho0 HO160
 replace ho0 := yn ho0 HO163
 replace ho0 := yn ho0 HO167
 replace ho0 := yn ho0 HO170
 replace ho0 := yn ho0 HO174
 replace ho0 := yn ho0 HO177
 have HO181 := yRl3 ho0 HB GE109 GE118 GE127
 replace ho1 := yn ho1 HO139
 replace ho1 := yn ho1 HO142
 replace ho1 := yn ho1 HO146
 replace ho1 := yn ho1 HO149
 replace ho1 := yn ho1 HO153
 replace ho1 := yn ho1 HO156
 replace ho1 := yn ho1 HO160
 replace ho1 := yn ho1 HO163
 replace ho1 := yn ho1 HO167
 replace ho1 := yn ho1 HO170
 replace ho1 := yn ho1 HO174
 replace ho1 := yn ho1 HO177
 have HO184 := yRl3 ho1 HB GE109 GE118 GE127
 replace HO139 := yRt HO139 hb ho0 ho1
 replace HO142 := yRt HO142 hb ho0 ho1
 replace HO146 := yRt HO146 hb ho0 ho1
 replace HO149 := yRt HO149 hb ho0 ho1
 replace HO153 := yRt HO153 hb ho0 ho1
 replace HO156 := yRt HO156 hb ho0 ho1
 replace HO160 := yRt HO160 hb ho0 ho1
 replace HO163 := yRt HO163 hb ho0 ho1
 replace HO167 := yRt HO167 hb ho0 ho1
 replace HO170 := yRt HO170 hb ho0 ho1
 replace HO174 := yRt HO174 hb ho0 ho1
 replace HO177 := yRt HO177 hb ho0 ho1
 replace BK109 := yK BK109 hb
 replace BK118 := yK BK118 hb
 replace BK127 := yK BK127 hb
 replace HB := yS3 HB GE109 GE118 GE127 hb
 (try clear hb)
 (try clear hb2)
 (try clear hk)
 (try clear hi)
 (try clear ho0)
 (try clear ho1)
 obtain ⟨Ao77, co77, eo77⟩ := Kd.R_slice HO181.out
 (first | subst eo77 | (injection eo77 with f1_ f2_ f3_; have f4_ := f1_.symm; have f5_ := f3_.symm; clear f1_ f2_ f3_; subst f4_; subst f5_))
 obtain ⟨Ao78, co78, eo78⟩ := Kd.R_slice HO184.out
 (first | subst eo78 | (injection eo78 with f1_ f2_ f3_; have f4_ := f1_.symm; have f5_ := f3_.symm; clear f1_ f2_ f3_; subst f4_; subst f5_))
 refine hK.out _ _ ⟨(blk_cell BK109.out 0).trans rfl, (blk_cell BK109.out 1).trans rfl, (blk_cell BK109.out 2).trans rfl, (blk_cell BK118.out 0).trans rfl, (blk_cell BK118.out 1).trans rfl, (blk_cell BK118.out 2).trans rfl⟩ (fun hHeld => ?_)
 clear hK K
 refine norm_ (a' := ?_) ?_ ?_
 rotate_left
 · show Act.put _ (some 101) _ = _
   simp only [Act.put, List.setIfInBounds_toArray, List.set_cons_zero, List.set_cons_succ, i64_w, i32_w]
   rfl
 refine one_ (i := 27) (N := some 102) #[true, true, true, true, true, true, true, true, true, true, true, true, true, true, true, true, true, true, true, true, true, true, true, true, true, true, true, true, false, false] rfl rfl (one_of HT_.out (by kernel_rfl)) (by decide) (fun K hK => ?_)
 refine goes_ Try.func51 (by kernel_rfl) rfl #[.agg #[.bool t110, .slice Ao23 t111.length co23, .slice Ao24 t114.length co24], .agg #[.bool t178, .slice Ao77 t179.length co77, .slice Ao78 t182.length co78]] (by rfl) rfl rfl (by (try simp only [List.map_toArray, List.map_cons, List.map_nil]); first | done | rfl | (simp only [List.length_drop, List.length_take]; rfl)) ?_
 with_reducible refine (codewrightref02_Mul.calls kj12 t110 _ _ t111 _ _ t114 t178 _ _ t179 _ _ t182 t185 t186 t189 _ ?side1 ?side2 ?side3 ?side4 ?side5 ?side6 ?side7 ?side8 A57.out).mono ?_
 (case side1 => exact zC (Kd.V_reads' HO_119001.out).2.2)
 (case side2 => exact (Kd.V_reads' HO_119001.out).2.1)
 (case side3 => exact zC (Kd.V_reads' HO_119002.out).2.2)
 (case side4 => exact (Kd.V_reads' HO_119002.out).2.1)
 (case side5 => exact zC (Kd.R_reads' HO181.out).2.2)
 (case side6 => exact (Kd.R_reads' HO181.out).2.1)
 (case side7 => exact zC (Kd.R_reads' HO184.out).2.2)
 (case side8 => exact (Kd.R_reads' HO184.out).2.1)
 rintro e w79 ⟨v187, v190, rfl, ho0, ho1, hb⟩
 refine ⟨_, rfl, ?_⟩
 replace HO_110001 := yVt HO_110001 hb ho0 ho1
 replace HO_110002 := yVt HO_110002 hb ho0 ho1
 replace HO_119001 := yVt HO_119001 hb ho0 ho1
 replace HO_119002 := yVt HO_119002 hb ho0 ho1
 replace HO_128001 := yVt HO_128001 hb ho0 ho1
 replace HO_128002 := yVt HO_128002 hb ho0 ho1
 replace ho0 := yn ho0 HO139
 replace ho0 := yn ho0 HO142
 replace ho0 := yn ho0 HO146
 replace ho0 := yn ho0 HO149
 replace ho0 := yn ho0 HO153
 replace ho0 := yn ho0 HO156
 replace ho0 := yn ho0 HO160
 replace ho0 := yn ho0 HO163
 replace ho0 := yn ho0 HO167
 replace ho0 := yn ho0 HO170
 replace ho0 := yn ho0 HO174
 replace ho0 := yn ho0 HO177
 replace ho0 := yn ho0 HO181
 replace ho0 := yn ho0 HO184
 have HO188 := yRl3 ho0 HB GE109 GE118 GE127
 replace ho1 := yn ho1 HO139
 replace ho1 := yn ho1 HO142
 replace ho1 := yn ho1 HO146
 replace ho1 := yn ho1 HO149
 replace ho1 := yn ho1 HO153
 replace ho1 := yn ho1 HO156
 replace ho1 := yn ho1 HO160
 replace ho1 := yn ho1 HO163
 replace ho1 := yn ho1 HO167
 replace ho1 := yn ho1 HO170
 replace ho1 := yn ho1 HO174
 replace ho1 := yn ho1 HO177
 replace ho1 := yn ho1 HO181
 replace ho1 := yn ho1 HO184
 have HO191 := yRl3 ho1 HB GE109 GE118 GE127
 replace HO139 := yRt HO139 hb ho0 ho1
 replace HO142 := yRt HO142 hb ho0 ho1
 replace HO146 := yRt HO146 hb ho0 ho1
 replace HO149 := yRt HO149 hb ho0 ho1
 replace HO153 := yRt HO153 hb ho0 ho1
 replace HO156 := yRt HO156 hb ho0 ho1
 replace HO160 := yRt HO160 hb ho0 ho1
 replace HO163 := yRt HO163 hb ho0 ho1
 replace HO167 := yRt HO167 hb ho0 ho1
 replace HO170 := yRt HO170 hb ho0 ho1
 replace HO174 := yRt HO174 hb ho0 ho1
 replace HO177 := yRt HO177 hb ho0 ho1
 replace HO181 := yRt HO181 hb ho0 ho1
 replace HO184 := yRt HO184 hb ho0 ho1
 replace BK109 := yK BK109 hb
 replace BK118 := yK BK118 hb
 replace BK127 := yK BK127 hb
 replace HB := yS3 HB GE109 GE118 GE127 hb
 (try clear hb)
 (try clear hb2)
 (try clear hk)
 (try clear hi)
 (try clear ho0)
 (try clear ho1)
 obtain ⟨Ao80, co80, eo80⟩ := Kd.R_slice HO160.out
 (first | subst eo80 | (injection eo80 with f1_ f2_ f3_; have f4_ := f1_.symm; have f5_ := f3_.symm; clear f1_ f2_ f3_; subst f4_; subst f5_))
 obtain ⟨Ao81, co81, eo81⟩ := Kd.R_slice HO163.out
 (first | subst eo81 | (injection eo81 with f1_ f2_ f3_; have f4_ := f1_.symm; have f5_ := f3_.symm; clear f1_ f2_ f3_; subst f4_; subst f5_))
 obtain ⟨Ao82, co82, eo82⟩ := Kd.R_slice HO188.out
 (first | subst eo82 | (injection eo82 with f1_ f2_ f3_; have f4_ := f1_.symm; have f5_ := f3_.symm; clear f1_ f2_ f3_; subst f4_; subst f5_))
 obtain ⟨Ao83, co83, eo83⟩ := Kd.R_slice HO191.out
 (first | subst eo83 | (injection eo83 with f1_ f2_ f3_; have f4_ := f1_.symm; have f5_ := f3_.symm; clear f1_ f2_ f3_; subst f4_; subst f5_))
 refine hK.out _ _ ⟨(blk_cell BK109.out 0).trans rfl, (blk_cell BK109.out 1).trans rfl, (blk_cell BK109.out 2).trans rfl, (blk_cell BK118.out 0).trans rfl, (blk_cell BK118.out 1).trans rfl, (blk_cell BK118.out 2).trans rfl⟩ (fun hHeld => ?_)
 clear hK K
 refine norm_ (a' := ?_) ?_ ?_
 rotate_left
 · show Act.put _ (some 102) _ = _
   simp only [Act.put, List.setIfInBounds_toArray, List.set_cons_zero, List.set_cons_succ, i64_w, i32_w]
   rfl
 refine one_ (i := 28) (N := some 103) #[true, true, true, true, true, true, true, true, true, true, true, true, true, true, true, true, true, true, true, true, true, true, true, true, true, true, true, true, true, false] rfl rfl (one_of HT_.out (by kernel_rfl)) (by decide) (fun K hK => ?_)
 refine goes_ Try.func45 (by kernel_rfl) rfl #[.agg #[.bool t157, .slice Ao80 t158.length co80, .slice Ao81 t161.length co81], .agg #[.bool t185, .slice Ao82 t186.length co82, .slice Ao83 t189.length co83]] (by rfl) rfl rfl (by (try simp only [List.map_toArray, List.map_cons, List.map_nil]); first | done | rfl | (simp only [List.length_drop, List.length_take]; rfl)) ?_
 with_reducible refine (codewrightref02_Same.calls kj12 t157 _ _ t158 _ _ t161 t185 _ _ t186 _ _ t189 t192 _ ?side1 ?side2 ?side3 ?side4 ?side5 ?side6 ?side7 ?side8 A58.out).mono ?_
 (case side1 => exact zC (Kd.R_reads' HO160.out).2.2)
 (case side2 => exact (Kd.R_reads' HO160.out).2.1)
 (case side3 => exact zC (Kd.R_reads' HO163.out).2.2)
 (case side4 => exact (Kd.R_reads' HO163.out).2.1)
 (case side5 => exact zC (Kd.R_reads' HO188.out).2.2)
 (case side6 => exact (Kd.R_reads' HO188.out).2.1)
 (case side7 => exact zC (Kd.R_reads' HO191.out).2.2)
 (case side8 => exact (Kd.R_reads' HO191.out).2.1)
 rintro e w84 ⟨rfl, hb⟩
 refine ⟨_, rfl, ?_⟩
 replace HO_110001 := yVb HO_110001 hb
 replace HO_110002 := yVb HO_110002 hb
 replace HO_119001 := yVb HO_119001 hb
 replace HO_119002 := yVb HO_119002 hb
 replace HO_128001 := yVb HO_128001 hb
 replace HO_128002 := yVb HO_128002 hb
 replace HO139 := yRb HO139 hb
 replace HO142 := yRb HO142 hb
 replace HO146 := yRb HO146 hb
 replace HO149 := yRb HO149 hb
 replace HO153 := yRb HO153 hb
 replace HO156 := yRb HO156 hb
 replace HO160 := yRb HO160 hb
 replace HO163 := yRb HO163 hb
 replace HO167 := yRb HO167 hb
 replace HO170 := yRb HO170 hb
 replace HO174 := yRb HO174 hb
 replace HO177 := yRb HO177 hb
 replace HO181 := yRb HO181 hb
 replace HO184 := yRb HO184 hb
 replace HO188 := yRb HO188 hb
 replace HO191 := yRb HO191 hb
 replace BK109 := yK BK109 hb
 replace BK118 := yK BK118 hb
 replace BK127 := yK BK127 hb
 replace HB := yS3 HB GE109 GE118 GE127 hb
 (try clear hb)
 (try clear hb2)
 (try clear hk)
 (try clear hi)
 refine hK.out _ _ ⟨(blk_cell BK109.out 0).trans rfl, (blk_cell BK109.out 1).trans rfl, (blk_cell BK109.out 2).trans rfl, (blk_cell BK118.out 0).trans rfl, (blk_cell BK118.out 1).trans rfl, (blk_cell BK118.out 2).trans rfl⟩ (fun hHeld => ?_)
 clear hK K
 refine norm_ (a' := ?_) ?_ ?_
 rotate_left
 · show Act.put _ (some 103) _ = _
   simp only [Act.put, List.setIfInBounds_toArray, List.set_cons_zero, List.set_cons_succ, i64_w, i32_w]
   rfl
 refine zp (i := 29) (N := some 8) HT_ ?_
 refine done_ (done_of HT_.out (by kernel_rfl)) ?_
 try go_wp2
 go_ret
 exact ⟨zE, zB3 HB.out GE109.out GE118.out GE127.out⟩
def codewrightlaw24_MacwilliamsReciprocal.Pure : Prop := ∀ (a0 : Int) (a1 : Int) (a2 : Int) (a3 : Int), (Lit.int .u8 a0).wf = true → (Lit.int .u8 a1).wf = true → (Lit.int .u8 a2).wf = true → (Lit.int .u8 a3).wf = true → ∃ k, codewrightlaw24_MacwilliamsReciprocal.f k a0 a1 a2 a3 = some true
theorem codewrightlaw24_MacwilliamsReciprocal.walk (P : codewrightlaw24_MacwilliamsReciprocal.Pure) (a0 : Int) (a1 : Int) (a2 : Int) (a3 : Int) (w : World) (w0 : (Lit.int .u8 a0).wf = true) (w1 : (Lit.int .u8 a1).wf = true) (w2 : (Lit.int .u8 a2).wf = true) (w3 : (Lit.int .u8 a3).wf = true) :
    Calls Try.prog 12 #[.int .u8 a0, .int .u8 a1, .int .u8 a2, .int .u8 a3] w fun e w' => e = .returned (.bool true) ∧ Below w.heap.size w w' := by
  obtain ⟨k, h⟩ := P a0 a1 a2 a3 w0 w1 w2 w3
  refine (codewrightlaw24_MacwilliamsReciprocal.calls k a0 a1 a2 a3 true w h).mono ?_
  rintro e w' ⟨rfl, hd⟩
  exact ⟨rfl, hd⟩
end Go.Proofs.Ytifkbghnmhineaa.PAll
section
set_option linter.unusedVariables false
set_option linter.unusedSimpArgs false
namespace Mw
open Go Go.RowKit Go.Proofs.YtifkbghnmhineaaW.PrintWords
def Ev {α : Type} (g : Nat → Option α) (r : α) : Prop := ∃ K, ∀ k, K ≤ k → g k = some r
theorem Ev.some {α : Type} (r : α) : Ev (fun _ => some r) r := ⟨0, fun _ _ => rfl⟩
theorem Ev.succ {α : Type} {g : Nat → Option α} {r : α} (h : Ev (fun k => g (k + 1)) r) : Ev g r := by
  obtain ⟨K, h⟩ := h
  refine ⟨K + 1, fun k hk => ?_⟩
  obtain ⟨m, rfl⟩ : ∃ m, k = m + 1 := ⟨k - 1, by omega⟩
  exact h m (by omega)
theorem Ev.bind {α β : Type} {g : Nat → Option α} {f : Nat → α → Option β} {a : α} {r : β} (hg : Ev g a) (hf : Ev (fun k => f k a) r) : Ev (fun k => (g k).bind (f k)) r := by
  obtain ⟨K, hg⟩ := hg
  obtain ⟨L, hf⟩ := hf
  refine ⟨K + L, fun k hk => ?_⟩
  show (g k).bind (f k) = _
  rw [hg k (by omega)]
  exact hf k (by omega)
theorem Ev.cast {α : Type} {g : Nat → Option α} {r s : α} (h : Ev g r) (e : r = s) : Ev g s := e ▸ h
theorem Ev.get {α : Type} {g : Nat → Option α} {r : α} (h : Ev g r) : ∃ k, g k = Option.some r := by
  obtain ⟨K, h⟩ := h
  exact ⟨K, h K (Nat.le_refl K)⟩
theorem w64 {x : Int} (h0 : -9223372036854775808 ≤ x) (h1 : x ≤ 9223372036854775807) : wrap64 x = x := by unfold wrap64; omega
theorem wn {x : Int} {n : Nat} (h : x = (n : Int)) (hn : n < 9223372036854775808) : wrap64 x = (n : Int) := by subst h; exact w64 (by omega) (by omega)
theorem u64w {x : Int} (h0 : 0 ≤ x) (h1 : x < 18446744073709551616) : IntKind.u64.wrap x = x := by
  simp [IntKind.wrap, IntKind.bits, IntKind.signed]; omega
theorem u64m (x : Int) : IntKind.u64.wrap x = x % 18446744073709551616 := by
  simp [IntKind.wrap, IntKind.bits, IntKind.signed]
def bp : Nat → Nat
  | 0 => 1
  | n + 1 => 4294967296 * bp n
theorem bp_pos : ∀ n, 0 < bp n
  | 0 => by decide
  | n + 1 => by have := bp_pos n; simp only [bp]; omega
theorem bp_mono : ∀ {m n : Nat}, m ≤ n → bp m ≤ bp n := by
  intro m n h
  induction n with
  | zero => have : m = 0 := by omega
            subst this; exact Nat.le_refl _
  | succ n ih =>
    by_cases e : m = n + 1
    · subst e; exact Nat.le_refl _
    · have := ih (by omega); simp only [bp]; omega
theorem bp_add : ∀ (m n : Nat), bp (m + n) = bp m * bp n
  | m, 0 => by simp [bp]
  | m, n + 1 => by rw [← Nat.add_assoc, bp, bp, bp_add m n, Nat.mul_left_comm]
def lv : List Int → Int
  | [] => 0
  | a :: l => a + 4294967296 * lv l
def Lm (l : List Int) : Prop := ∀ x ∈ l, 0 ≤ x ∧ x < 4294967296
def dg (n : Nat) : List Int := if n = 0 then [] else ((n % 4294967296 : Nat) : Int) :: dg (n / 4294967296)
termination_by n
decreasing_by omega
theorem dg_zero : dg 0 = [] := by rw [dg]; rfl
theorem dg_pos {n : Nat} (h : n ≠ 0) : dg n = ((n % 4294967296 : Nat) : Int) :: dg (n / 4294967296) := by rw [dg, if_neg h]
theorem lv_dg : ∀ n : Nat, lv (dg n) = n := by
  intro n
  induction n using Nat.strongRecOn with
  | _ n ih =>
    by_cases h : n = 0
    · subst h; rw [dg_zero]; rfl
    · rw [dg_pos h, lv, ih _ (by omega)]; omega
theorem lm_nil : Lm [] := by intro x hx; simp at hx
theorem lm_cons {a : Int} {l : List Int} : Lm (a :: l) ↔ (0 ≤ a ∧ a < 4294967296) ∧ Lm l := by
  constructor
  · intro h; exact ⟨h a (by simp), fun x hx => h x (by simp [hx])⟩
  · intro h x hx
    exact (List.mem_cons.mp hx).elim (fun e => e ▸ h.1) (fun e => h.2 x e)
theorem lm_dg : ∀ n : Nat, Lm (dg n) := by
  intro n
  induction n using Nat.strongRecOn with
  | _ n ih =>
    by_cases h : n = 0
    · subst h; rw [dg_zero]; exact lm_nil
    · rw [dg_pos h, lm_cons]; exact ⟨by omega, ih _ (by omega)⟩
theorem lv_nonneg : ∀ {l : List Int}, Lm l → 0 ≤ lv l
  | [], _ => Int.le_refl 0
  | a :: l, h => by have := lv_nonneg (lm_cons.mp h).2; have := (lm_cons.mp h).1; simp only [lv]; omega
theorem lv_lt : ∀ {l : List Int}, Lm l → lv l < bp l.length
  | [], _ => by simp [lv, bp]
  | a :: l, h => by
    have h1 := lv_lt (lm_cons.mp h).2
    have h2 := (lm_cons.mp h).1
    simp only [lv, List.length_cons, bp]
    omega
theorem lv_append : ∀ (l m : List Int), lv (l ++ m) = lv l + (bp l.length : Int) * lv m
  | [], m => by simp [lv, bp]
  | a :: l, m => by
    simp only [List.cons_append, lv, List.length_cons, bp, Int.natCast_mul]
    rw [lv_append l m, Int.mul_add, Int.mul_assoc]
    omega
theorem lv_rep : ∀ n : Nat, lv (List.replicate n 0) = 0
  | 0 => rfl
  | n + 1 => by rw [List.replicate_succ, lv, lv_rep n]; rfl
theorem lm_rep (n : Nat) : Lm (List.replicate n 0) := by
  intro x hx; rw [(List.mem_replicate.mp hx).2]; omega
theorem dg_lv : ∀ {l : List Int}, Lm l → (∀ h : l ≠ [], l.getLast h ≠ 0) → dg (lv l).toNat = l
  | [], _, _ => by simp only [lv]; exact dg_zero
  | a :: l, h, hl => by
    have h1 := lm_cons.mp h
    have h0 := lv_nonneg h1.2
    have ih : l ≠ [] → dg (lv l).toNat = l := fun hne => dg_lv h1.2 (fun hh => by
      have := hl (by simp)
      rwa [List.getLast_cons hh] at this)
    by_cases hne : l = []
    · subst hne
      have ha := hl (by simp)
      simp only [List.getLast_singleton] at ha
      simp only [lv]
      rw [dg_pos (by omega), show (a + 4294967296 * 0).toNat / 4294967296 = 0 by omega, dg_zero]
      congr 1
      omega
    · have ih := ih hne
      have hpos : lv l ≠ 0 := by
        intro e
        rw [e] at ih
        rw [show (0 : Int).toNat = 0 from rfl, dg_zero] at ih
        exact hne ih.symm
      simp only [lv]
      rw [dg_pos (by omega), show (a + 4294967296 * lv l).toNat / 4294967296 = (lv l).toNat by omega, ih]
      congr 1
      omega
theorem dg_last : ∀ (n : Nat) (h : dg n ≠ []), (dg n).getLast h ≠ 0 := by
  intro n
  induction n using Nat.strongRecOn with
  | _ n ih =>
    intro h
    by_cases h0 : n = 0
    · subst h0; exact absurd dg_zero h
    · have e := dg_pos h0
      by_cases hd : n / 4294967296 = 0
      · rw [hd, dg_zero] at e
        simp only [e, List.getLast_singleton]
        omega
      · have hne : dg (n / 4294967296) ≠ [] := by rw [dg_pos hd]; simp
        have := ih (n / 4294967296) (by omega) hne
        simp only [e]
        rw [List.getLast_cons hne]
        exact this
theorem dg_inj {m n : Nat} (h : dg m = dg n) : m = n := by
  have := lv_dg m
  rw [h, lv_dg] at this
  omega
theorem dg_len_le {n m : Nat} (h : n < bp m) : (dg n).length ≤ m := by
  induction m generalizing n with
  | zero => have : n = 0 := by simp only [bp] at h; omega
            subst this; rw [dg_zero]; simp
  | succ m ih =>
    by_cases h0 : n = 0
    · subst h0; rw [dg_zero]; simp
    · rw [dg_pos h0, List.length_cons]
      have := ih (n := n / 4294967296) (by simp only [bp] at h; omega)
      omega
theorem dg_lt_len (n : Nat) : n < bp (dg n).length := by
  have h := lv_lt (lm_dg n)
  rw [lv_dg] at h
  omega
theorem dg_len_zero {n : Nat} : (dg n).length = 0 ↔ n = 0 := by
  constructor
  · intro h
    by_cases h0 : n = 0
    · exact h0
    · rw [dg_pos h0] at h; simp at h
  · intro h; subst h; rw [dg_zero]; rfl
theorem dg_len_mono {m n : Nat} (h : m ≤ n) : (dg m).length ≤ (dg n).length := dg_len_le (Nat.lt_of_le_of_lt h (dg_lt_len n))
theorem dg_small {n : Nat} (h0 : n ≠ 0) (h : n < 4294967296) : dg n = [(n : Int)] := by
  rw [dg_pos h0, show n / 4294967296 = 0 by omega, dg_zero, show n % 4294967296 = n by omega]
theorem dg_one : dg 1 = [1] := dg_small (by decide) (by decide)
theorem lv_le_of_len {l : List Int} (h : Lm l) {m : Nat} (hm : l.length ≤ m) : (lv l).toNat < bp m := by
  have h1 := lv_lt h
  have h2 := bp_mono hm
  have h3 := lv_nonneg h
  omega
theorem rd_lt {l : List Int} {i : Nat} (h : i < l.length) : rd l (i : Int) = l[i] := by
  unfold rd
  simp [List.getD_eq_getElem?_getD, h]
theorem rd_ge {l : List Int} {i : Nat} (h : l.length ≤ i) : rd l (i : Int) = 0 := by
  unfold rd
  simp [List.getD_eq_getElem?_getD, h]
theorem rd_lm {l : List Int} (hl : Lm l) (i : Int) : 0 ≤ rd l i ∧ rd l i < 4294967296 := by
  unfold rd
  rw [List.getD_eq_getElem?_getD]
  by_cases h : i.toNat < l.length
  · rw [List.getElem?_eq_getElem h]
    exact hl _ (List.getElem_mem h)
  · rw [List.getElem?_eq_none (by omega)]; simp
theorem take_succ_rd {l : List Int} {i : Nat} (h : i < l.length) : l.take (i + 1) = l.take i ++ [rd l (i : Int)] := by
  rw [List.take_succ_eq_append_getElem h, rd_lt h]
theorem lv_take_succ {l : List Int} {i : Nat} (h : i < l.length) : lv (l.take (i + 1)) = lv (l.take i) + (bp i : Int) * rd l (i : Int) := by
  rw [take_succ_rd h, lv_append, List.length_take, Nat.min_eq_left (by omega)]
  simp [lv]
theorem lv_set : ∀ {l : List Int} {i : Nat} (v : Int), i < l.length → lv (l.set i v) = lv l + (bp i : Int) * (v - rd l (i : Int))
  | [], i, v, h => by simp at h
  | a :: l, 0, v, _ => by
    rw [show ((0 : Nat) : Int) = ((0 : Nat) : Int) from rfl, rd_lt (by simp)]
    simp only [List.set_cons_zero, lv, List.getElem_cons_zero, bp]; omega
  | a :: l, i + 1, v, h => by
    have h' : i < l.length := by simpa using h
    have ih := lv_set v h'
    rw [rd_lt h'] at ih
    rw [rd_lt h]
    simp only [List.set_cons_succ, lv, List.getElem_cons_succ, bp, Int.natCast_mul]
    rw [ih, Int.mul_add, Int.mul_assoc]
    omega
theorem lm_set {l : List Int} {i : Nat} {v : Int} (h : Lm l) (h0 : 0 ≤ v) (h1 : v < 4294967296) : Lm (l.set i v) := by
  intro x hx
  rcases List.mem_or_eq_of_mem_set hx with e | e
  · exact h x e
  · subst e; exact ⟨h0, h1⟩
theorem rd_set_ne {l : List Int} {i j : Nat} (v : Int) (h : i ≠ j) : rd (l.set i v) (j : Int) = rd l (j : Int) := by
  unfold rd
  simp [List.getD_eq_getElem?_getD, h]
theorem lm_take {l : List Int} (h : Lm l) (n : Nat) : Lm (l.take n) := fun x hx => h x (List.mem_of_mem_take hx)
theorem lm_append {l m : List Int} (h1 : Lm l) (h2 : Lm m) : Lm (l ++ m) := by
  intro x hx
  rcases List.mem_append.mp hx with e | e
  · exact h1 x e
  · exact h2 x e
theorem dg_take {l : List Int} (h : Lm l) {n : Nat} (hn : n ≤ l.length) (hz : ∀ i : Nat, n ≤ i → i < l.length → rd l (i : Int) = 0) (hl : n = 0 ∨ rd l ((n - 1 : Nat) : Int) ≠ 0) :
    l.take n = dg (lv l).toNat := by
  have hv : lv l = lv (l.take n) := by
    have : ∀ m : Nat, n + m ≤ l.length → lv (l.take (n + m)) = lv (l.take n) := by
      intro m
      induction m with
      | zero => intro _; rfl
      | succ m ih =>
        intro hm
        rw [← Nat.add_assoc, lv_take_succ (by omega), hz (n + m) (by omega) (by omega), ih (by omega)]; simp
    have := this (l.length - n) (by omega)
    rw [show n + (l.length - n) = l.length by omega, List.take_of_length_le (Nat.le_refl _)] at this
    exact this
  rw [hv]
  symm
  refine dg_lv (lm_take h n) (fun hne => ?_)
  rcases hl with e | e
  · subst e; simp at hne
  · rw [List.getLast_eq_getElem]
    simp only [List.length_take, Nat.min_eq_left hn]
    have hp : n ≠ 0 := by intro e0; subst e0; simp at hne
    rw [List.getElem_take]
    rw [rd_lt (by omega)] at e
    exact e
theorem lv_nil : lv [] = 0 := rfl
theorem lv_cons (a : Int) (l : List Int) : lv (a :: l) = a + 4294967296 * lv l := rfl
theorem bp_zero : bp 0 = 1 := rfl
theorem bp_succ (n : Nat) : bp (n + 1) = 4294967296 * bp n := rfl
attribute [irreducible] lv bp
end Mw
end
section
set_option linter.unusedVariables false
set_option linter.unusedSimpArgs false
namespace Mw
open Go Go.RowKit Go.Proofs.YtifkbghnmhineaaW.PrintWords Go.Proofs.YtifkbghnmhineaaW.PrintLast Go.Proofs.YtifkbghnmhineaaW.PrintMore Go.Proofs.Ytifkbghnmhineaa.PAll
theorem short_loop {l : List Int} (hl : Lm l) (hlen : l.length < 1099511627776) : ∀ n : Nat, n ≤ l.length → (∀ i : Nat, n ≤ i → i < l.length → rd l (i : Int) = 0) →
    Ev (fun k => nat_short.l0 k l (n : Int)) (dg (lv l).toNat) := by
  intro n
  induction n with
  | zero =>
    intro hn hz
    refine Ev.succ ?_
    simp only [nat_short.l0, if_neg (show ¬ ((0 : Nat) : Int) > 0 by omega), if_pos (show (0 : Int) ≤ ((0 : Nat) : Int) by omega), if_pos (show ((0 : Nat) : Int) ≤ (l.length : Int) by omega)]
    refine Ev.cast (Ev.some _) ?_
    rw [show (((0 : Nat) : Int)).toNat = 0 from rfl]
    exact dg_take hl hn hz (.inl rfl)
  | succ n ih =>
    intro hn hz
    refine Ev.succ ?_
    have e : wrap64 (((n + 1 : Nat) : Int) - 1) = (n : Int) := by rw [w64 (by omega) (by omega)]; omega
    by_cases h : rd l (n : Int) = 0
    · simp only [nat_short.l0, e, if_pos (show ((n + 1 : Nat) : Int) > 0 by omega), if_pos (show (0 : Int) ≤ (n : Int) by omega), if_pos (show (n : Int) < (l.length : Int) by omega), if_pos h]
      exact ih (by omega) (fun i h1 h2 => by
        by_cases e2 : i = n
        · subst e2; exact h
        · exact hz i (by omega) h2)
    · simp only [nat_short.l0, e, if_pos (show ((n + 1 : Nat) : Int) > 0 by omega), if_pos (show (0 : Int) ≤ (n : Int) by omega), if_pos (show (n : Int) < (l.length : Int) by omega), if_neg h, if_pos (show (0 : Int) ≤ ((n + 1 : Nat) : Int) by omega), if_pos (show ((n + 1 : Nat) : Int) ≤ (l.length : Int) by omega)]
      refine Ev.cast (Ev.some _) ?_
      rw [show (((n + 1 : Nat) : Int)).toNat = n + 1 by omega]
      exact dg_take hl hn hz (.inr h)
theorem short_ev {l : List Int} (hl : Lm l) (hlen : l.length < 1099511627776) : Ev (fun k => nat_short.f k l) (dg (lv l).toNat) := by
  simp only [nat_short.f]
  exact short_loop hl hlen l.length (Nat.le_refl _) (fun i h1 h2 => by omega)
theorem dg_len_of {l : List Int} (hl : Lm l) : (dg (lv l).toNat).length ≤ l.length := dg_len_le (lv_le_of_len hl (Nat.le_refl _))
theorem trim_ev {l : List Int} (hl : Lm l) (hlen : l.length < 1099511627776) : Ev (fun k => nat_Trim.f k l) (dg (lv l).toNat) := by
  simp only [nat_Trim.f]
  refine Ev.bind (short_ev hl hlen) ?_
  have := dg_len_of hl
  simp only [List.length_nil, List.nil_append, if_pos (show 0 + (dg (lv l).toNat).length < 35184372088832 by omega)]
  exact Ev.some _
theorem of_ev {n : Nat} (hn : n < 18446744073709551616) : Ev (fun k => nat_Of.f k (n : Int)) (dg n) := by
  simp only [nat_Of.f]
  have hl : Lm [(n : Int) % 4294967296, ((n : Int) / 4294967296) % 4294967296] := by
    rw [lm_cons, lm_cons]
    exact ⟨by omega, by omega, lm_nil⟩
  refine Ev.bind (trim_ev hl (by simp)) ?_
  refine Ev.cast (Ev.some _) ?_
  congr 1
  simp only [lv_cons, lv_nil]
  omega
theorem plus_loop {a b : List Int} (ha : Lm a) (hb : Lm b) (hab : b.length ≤ a.length) (hlen : a.length < 549755813888) : ∀ (d : Nat) (i : Nat) (o : List Int) (c : Int), i + d = a.length → o.length = a.length + 1 → Lm o →
    0 ≤ c → c ≤ 1 → (∀ j : Nat, i ≤ j → rd o (j : Int) = 0) → Aside0 (lv o + (bp i : Int) * c = lv (a.take i) + lv (b.take i)) →
    Ev (fun k => nat_plus.l0 k a b o c (a.length : Int) (i : Int)) (dg (lv a + lv b).toNat) := by
  intro d
  induction d with
  | zero =>
    intro i o c hi ho hol hc0 hc1 hz hv
    have hi : i = a.length := by omega
    subst hi
    refine Ev.succ ?_
    simp only [nat_plus.l0, if_neg (show ¬ ((a.length : Nat) : Int) < (a.length : Int) by omega), if_pos (show (0 : Int) ≤ (a.length : Int) by omega), if_pos (show (a.length : Int) < (o.length : Int) by omega)]
    have hs : Lm (o.set ((a.length : Int) : Int).toNat (c % 4294967296)) := lm_set hol (by omega) (by omega)
    refine Ev.bind (short_ev hs (by rw [List.length_set]; omega)) ?_
    refine Ev.cast (Ev.some _) ?_
    congr 2
    rw [Int.toNat_natCast, lv_set _ (by omega), hz _ (Nat.le_refl _), show c % 4294967296 = c by omega, Int.sub_zero, hv.out, List.take_of_length_le (Nat.le_refl _), List.take_of_length_le hab]
  | succ d ih =>
    intro i o c hi ho hol hc0 hc1 hz hv
    have hia : i < a.length := by omega
    refine Ev.succ ?_
    have ra := rd_lm ha (i : Int)
    have rb := rd_lm hb (i : Int)
    have e1 : wrap64 ((i : Int) + 1) = ((i + 1 : Nat) : Int) := by rw [w64 (by omega) (by omega)]; omega
    have step : ∀ s : Int, 0 ≤ s → s ≤ 8589934591 → s = rd a (i : Int) + c + rd b (i : Int) →
        Ev (fun k => nat_plus.l0 k a b (o.set ((i : Int)).toNat (s % 4294967296)) (s / 4294967296) (a.length : Int) ((i + 1 : Nat) : Int)) (dg (lv a + lv b).toNat) := by
      intro s hs0 hs1 hs
      refine ih (i + 1) _ _ (by omega) (by rw [List.length_set]; exact ho) (lm_set hol (by omega) (by omega)) (by omega) (by omega) (fun j hj => ?_) ?_
      · rw [Int.toNat_natCast, rd_set_ne _ (by omega)]; exact hz j (by omega)
      · refine ⟨?_⟩
        rw [Int.toNat_natCast, lv_set _ (by omega), hz i (Nat.le_refl _), lv_take_succ hia]
        have hbt : lv (b.take (i + 1)) = lv (b.take i) + (bp i : Int) * rd b (i : Int) := by
          by_cases hib : i < b.length
          · exact lv_take_succ hib
          · rw [rd_ge (by omega), List.take_of_length_le (by omega), List.take_of_length_le (by omega)]; simp
        rw [hbt]
        have hdiv : s % 4294967296 + 4294967296 * (s / 4294967296) = rd a (i : Int) + c + rd b (i : Int) := by omega
        have hm := congrArg (fun z => (bp i : Int) * z) hdiv
        simp only [Int.mul_add] at hm
        rw [Int.mul_left_comm] at hm
        rw [Int.sub_zero, bp_succ, Int.natCast_mul, Int.mul_assoc]
        have hv := hv.out
        clear ih hz hdiv hs hs0 hs1 ra rb e1 hc0 hc1
        omega
    by_cases hib : i < b.length
    · have e2 : IntKind.u64.wrap (IntKind.u64.wrap (IntKind.u64.wrap (rd a (i : Int)) + c) + IntKind.u64.wrap (rd b (i : Int))) = rd a (i : Int) + c + rd b (i : Int) := by
        rw [u64w ra.1 (by omega), u64w rb.1 (by omega), u64w (x := rd a (i : Int) + c) (by omega) (by omega), u64w (x := rd a (i : Int) + c + rd b (i : Int)) (by omega) (by omega)]
      simp only [nat_plus.l0, e1, e2, if_pos (show (i : Int) < (a.length : Int) by omega), if_pos (show (0 : Int) ≤ (i : Int) by omega), if_pos (show (i : Int) < (b.length : Int) by omega), if_pos (show (i : Int) < (o.length : Int) by omega)]
      exact step (rd a (i : Int) + c + rd b (i : Int)) (by omega) (by omega) rfl
    · have e2 : IntKind.u64.wrap (IntKind.u64.wrap (rd a (i : Int)) + c) = rd a (i : Int) + c := by
        rw [u64w ra.1 (by omega), u64w (x := rd a (i : Int) + c) (by omega) (by omega)]
      simp only [nat_plus.l0, e1, e2, if_pos (show (i : Int) < (a.length : Int) by omega), if_pos (show (0 : Int) ≤ (i : Int) by omega), if_neg (show ¬ (i : Int) < (b.length : Int) by omega), if_pos (show (i : Int) < (o.length : Int) by omega)]
      exact step (rd a (i : Int) + c) (by omega) (by omega) (by rw [rd_ge (l := b) (by omega)]; omega)
theorem plus_long {a b : List Int} (ha : Lm a) (hb : Lm b) (hab : b.length ≤ a.length) (hlen : a.length < 549755813888) : Ev (fun k => nat_plus.j0 k a b) (dg (lv a + lv b).toNat) := by
  refine Ev.succ ?_
  have e1 : wrap64 ((a.length : Int) + 1) = ((a.length + 1 : Nat) : Int) := by rw [w64 (by omega) (by omega)]; omega
  simp only [nat_plus.j0, e1, Int.toNat_natCast, if_pos (show (0 : Int) ≤ ((a.length + 1 : Nat) : Int) by omega), if_pos (show a.length + 1 ≤ 70368744177664 by omega)]
  exact plus_loop ha hb hab hlen a.length 0 _ 0 (by omega) (by simp) (lm_rep _) (by omega) (by omega) (fun j _ => by
    by_cases h : j < a.length + 1
    · rw [rd_lt (by simpa using h)]; simp
    · exact rd_ge (by simp; omega)) ⟨by rw [lv_rep]; simp [lv_nil]⟩
theorem plus_ev {a b : List Int} (ha : Lm a) (hb : Lm b) (h1 : a.length < 549755813888) (h2 : b.length < 549755813888) : Ev (fun k => nat_plus.f k a b) (dg (lv a + lv b).toNat) := by
  simp only [nat_plus.f]
  by_cases h : (a.length : Int) < (b.length : Int)
  · simp only [if_pos h]
    rw [Int.add_comm]
    exact plus_long hb ha (by omega) h2
  · simp only [if_neg h]
    exact plus_long ha hb (by omega) h1
def lsum : List (List Int) → Int
  | [] => 0
  | a :: l => lv a + lsum l
def Lms (l : List (List Int)) : Prop := ∀ x ∈ l, Lm x ∧ x.length < 1073741824
theorem rd3_lt {l : List (List Int)} {i : Nat} (h : i < l.length) : rd_L3 l (i : Int) = l[i] := by
  unfold rd_L3
  simp [List.getD_eq_getElem?_getD, h]
theorem lsum_take {l : List (List Int)} {i : Nat} (h : i < l.length) : lsum (l.take (i + 1)) = lsum (l.take i) + lv l[i] := by
  have app : ∀ (a b : List (List Int)), lsum (a ++ b) = lsum a + lsum b := by
    intro a
    induction a with
    | nil => intro b; simp [lsum]
    | cons x a ih => intro b; simp only [List.cons_append, lsum]; rw [ih]; omega
  rw [List.take_succ_eq_append_getElem h, app]
  simp [lsum]
theorem lv_dg_toNat {x : Int} (h : 0 ≤ x) : lv (dg x.toNat) = x := by rw [lv_dg]; omega
theorem add_loop {l : List (List Int)} (hl : Lms l) (hlen : l.length < 1073741824) : ∀ (d i : Nat) (s : List Int), i + d = l.length → Lm s → s.length ≤ 1073741824 + i → lv s = lsum (l.take i) →
    Ev (fun k => nat_Add.l0 k s l (l.length : Int) (i : Int)) (dg (lsum l).toNat) := by
  intro d
  induction d with
  | zero =>
    intro i s hi hs hsl hv
    have hi : i = l.length := by omega
    subst hi
    refine Ev.succ ?_
    simp only [nat_Add.l0, if_neg (show ¬ ((l.length : Nat) : Int) < (l.length : Int) by omega)]
    refine Ev.bind (trim_ev hs (by omega)) ?_
    refine Ev.cast (Ev.some _) ?_
    rw [hv, List.take_of_length_le (Nat.le_refl _)]
  | succ d ih =>
    intro i s hi hs hsl hv
    have hil : i < l.length := by omega
    have hx := hl l[i] (List.getElem_mem hil)
    refine Ev.succ ?_
    have e1 : wrap64 ((i : Int) + 1) = ((i + 1 : Nat) : Int) := by rw [w64 (by omega) (by omega)]; omega
    simp only [nat_Add.l0, e1, rd3_lt hil, if_pos (show (i : Int) < (l.length : Int) by omega), if_pos (show (0 : Int) ≤ (i : Int) by omega)]
    refine Ev.bind (short_ev hx.1 (by omega)) ?_
    have h2 := dg_len_of hx.1
    refine Ev.bind (plus_ev hs (lm_dg _) (by omega) (by omega)) ?_
    have h3 : 0 ≤ lv s := lv_nonneg hs
    have h4 : 0 ≤ lv l[i] := lv_nonneg hx.1
    refine ih (i + 1) _ (by omega) (lm_dg _) ?_ ?_
    · rw [lv_dg_toNat h4]
      have h5 := lv_le_of_len hs hsl
      have h6 := lv_le_of_len hx.1 (m := 1073741824 + i) (by omega)
      refine dg_len_le ?_
      rw [show 1073741824 + (i + 1) = (1073741824 + i) + 1 by omega, bp_succ]
      generalize bp (1073741824 + i) = p at *
      omega
    · rw [lv_dg_toNat h4, lv_dg_toNat (by omega), hv, lsum_take hil]
theorem add_ev {l : List (List Int)} (hl : Lms l) (hlen : l.length < 1073741824) : Ev (fun k => nat_Add.f k l) (dg (lsum l).toNat) := by
  simp only [nat_Add.f]
  exact add_loop hl hlen l.length 0 [] (by omega) lm_nil (by simp) (by simp [lv_nil, lsum])
theorem add2_ev {a b : Nat} (ha : (dg a).length < 1073741824) (hb : (dg b).length < 1073741824) : Ev (fun k => nat_Add.f k [dg a, dg b]) (dg (a + b)) := by
  refine Ev.cast (add_ev (l := [dg a, dg b]) (fun x hx => ?_) (by simp)) ?_
  · rcases List.mem_cons.mp hx with e | e
    · exact e ▸ ⟨lm_dg a, ha⟩
    · rw [List.mem_singleton.mp e]; exact ⟨lm_dg b, hb⟩
  · congr 1
    simp only [lsum, lv_dg]
    omega
end Mw
end
section
namespace Mw
def sm : Nat → (Nat → Int) → Int
  | 0, _ => 0
  | n + 1, f => sm n f + f n
theorem sm_congr {n : Nat} {f g : Nat → Int} (h : ∀ i, i < n → f i = g i) : sm n f = sm n g := by
  induction n with
  | zero => rfl
  | succ n ih => simp only [sm]; rw [ih (fun i hi => h i (by omega)), h n (by omega)]
theorem sm_zero {n : Nat} {f : Nat → Int} (h : ∀ i, i < n → f i = 0) : sm n f = 0 := by
  induction n with
  | zero => rfl
  | succ n ih => simp only [sm]; rw [ih (fun i hi => h i (by omega)), h n (by omega)]; rfl
theorem sm_sub (n : Nat) (f g : Nat → Int) : sm n (fun i => f i - g i) = sm n f - sm n g := by
  induction n with
  | zero => rfl
  | succ n ih => simp only [sm]; rw [ih]; omega
theorem sm_mul_right (n : Nat) (c : Int) (f : Nat → Int) : sm n (fun i => f i * c) = sm n f * c := by
  induction n with
  | zero => simp [sm]
  | succ n ih => simp only [sm]; rw [ih, Int.add_mul]
theorem sm_head (n : Nat) (f : Nat → Int) : sm (n + 1) f = f 0 + sm n (fun i => f (i + 1)) := by
  induction n with
  | zero => simp [sm]
  | succ n ih => rw [sm, ih]; simp only [sm]; omega
theorem sm_single {n a : Nat} {f : Nat → Int} (ha : a < n) (h : ∀ i, i < n → i ≠ a → f i = 0) : sm n f = f a := by
  induction n with
  | zero => omega
  | succ n ih =>
    simp only [sm]
    by_cases e : a = n
    · subst e; rw [sm_zero (fun i hi => h i (by omega) (by omega))]; omega
    · rw [ih (by omega) (fun i hi hne => h i (by omega) hne), h n (by omega) (by omega)]; omega
theorem sm_more {m n : Nat} (h : m ≤ n) {f : Nat → Int} (hf : ∀ i, m ≤ i → f i = 0) : sm n f = sm m f := by
  induction n with
  | zero => have : m = 0 := by omega
            subst this; rfl
  | succ n ih =>
    by_cases e : m = n + 1
    · subst e; rfl
    · simp only [sm]; rw [ih (by omega), hf n (by omega)]; omega
def bin : Nat → Nat → Nat
  | _, 0 => 1
  | 0, _ + 1 => 0
  | n + 1, k + 1 => bin n k + bin n (k + 1)
theorem bin_zero (n : Nat) : bin n 0 = 1 := by cases n <;> rfl
theorem bin_succ (n k : Nat) : bin (n + 1) (k + 1) = bin n k + bin n (k + 1) := rfl
theorem bin_above : ∀ {n k : Nat}, n < k → bin n k = 0
  | 0, 0, h => by omega
  | 0, _ + 1, _ => rfl
  | n + 1, 0, h => by omega
  | n + 1, k + 1, h => by rw [bin_succ, bin_above (n := n) (k := k) (by omega), bin_above (n := n) (k := k + 1) (by omega)]
theorem bin_self (n : Nat) : bin n n = 1 := by
  induction n with
  | zero => rfl
  | succ n ih => rw [bin_succ, ih, bin_above (by omega)]
theorem bin_one (n : Nat) : bin n 1 = n := by
  induction n with
  | zero => rfl
  | succ n ih => rw [bin_succ, ih, bin_zero]; omega
theorem bin_step : ∀ (n k : Nat), (k + 1) * bin n (k + 1) = (n - k) * bin n k
  | 0, k => by rw [bin_above (by omega)]; simp
  | n + 1, 0 => by rw [bin_one, bin_zero]; omega
  | n + 1, k + 1 => by
    rw [bin_succ, bin_succ]
    have h1 := bin_step n k
    have h2 := bin_step n (k + 1)
    by_cases hk : k + 1 ≤ n
    · obtain ⟨m, rfl⟩ : ∃ m, n = m + (k + 1) := ⟨n - (k + 1), by omega⟩
      rw [show m + (k + 1) - k = m + 1 by omega] at h1
      rw [show m + (k + 1) - (k + 1) = m by omega] at h2
      rw [show m + (k + 1) + 1 - (k + 1) = m + 1 by omega]
      grind
    · by_cases hk2 : k = n
      · subst hk2
        rw [bin_above (n := k) (k := k + 1 + 1) (by omega), bin_above (n := k) (k := k + 1) (by omega)]; simp
      · rw [bin_above (n := n) (k := k + 1 + 1) (by omega), bin_above (n := n) (k := k + 1) (by omega), bin_above (n := n) (k := k) (by omega)]; simp
theorem bin_symm : ∀ {n k : Nat}, k ≤ n → bin n (n - k) = bin n k
  | 0, k, h => by have : k = 0 := by omega
                  subst this; rfl
  | n + 1, 0, _ => by rw [Nat.sub_zero, bin_self, bin_zero]
  | n + 1, k + 1, h => by
    rw [Nat.add_sub_add_right]
    by_cases e : k = n
    · subst e; rw [Nat.sub_self, bin_zero, bin_self]
    · obtain ⟨m, hm⟩ : ∃ m, n - k = m + 1 := ⟨n - k - 1, by omega⟩
      rw [hm, bin_succ, bin_succ]
      have h1 := bin_symm (n := n) (k := k) (by omega)
      have h2 := bin_symm (n := n) (k := k + 1) (by omega)
      rw [hm] at h1
      rw [show n - (k + 1) = m by omega] at h2
      omega
theorem bin_two : ∀ (n a b : Nat), bin n a * bin (n - a) b = bin n b * bin (n - b) a
  | 0, a, b => by
    simp only [Nat.zero_sub]
    rw [Nat.mul_comm]
  | n + 1, 0, b => by rw [bin_zero, bin_zero]; simp
  | n + 1, a + 1, 0 => by rw [bin_zero, bin_zero]; simp
  | n + 1, a + 1, b + 1 => by
    have h1 := bin_two n a (b + 1)
    have h2 := bin_two n (a + 1) b
    have h3 := bin_two n (a + 1) (b + 1)
    rw [Nat.add_sub_add_right, Nat.add_sub_add_right]
    by_cases ha : a + 1 ≤ n
    · by_cases hb : b + 1 ≤ n
      · have ea : bin (n - a) (b + 1) = bin (n - (a + 1)) b + bin (n - (a + 1)) (b + 1) := by
          rw [show n - a = (n - (a + 1)) + 1 by omega, bin_succ]
        have eb : bin (n - b) (a + 1) = bin (n - (b + 1)) a + bin (n - (b + 1)) (a + 1) := by
          rw [show n - b = (n - (b + 1)) + 1 by omega, bin_succ]
        rw [bin_succ n a, bin_succ n b, Nat.add_mul, Nat.add_mul, h1, ea, eb]
        rw [Nat.mul_add, Nat.mul_add, h2, h3, eb]
        simp only [Nat.mul_add]
        omega
      · have e1 : bin (n - a) (b + 1) = 0 := bin_above (by omega)
        rw [e1, Nat.mul_zero]
        by_cases e : b = n
        · subst e; rw [Nat.sub_self]; rfl
        · rw [bin_above (n := n + 1) (k := b + 1) (by omega), Nat.zero_mul]
    · by_cases e : a = n
      · subst e
        rw [Nat.sub_self]
        by_cases hb : b = a
        · subst hb; rw [Nat.sub_self]
        · rw [show bin 0 (b + 1) = 0 from rfl, bin_above (n := a - b) (k := a + 1) (by omega)]; simp
      · rw [bin_above (n := n + 1) (k := a + 1) (by omega), bin_above (n := n - b) (k := a + 1) (by omega)]; simp
def kr (g : Int) : Nat → Nat → Nat → Int
  | 0, 0, 0 => 1
  | 0, 0, _ + 1 => 0
  | a + 1, 0, 0 => kr g a 0 0
  | a + 1, 0, k + 1 => kr g a 0 (k + 1) + g * kr g a 0 k
  | a, b + 1, 0 => kr g a b 0
  | a, b + 1, k + 1 => kr g a b (k + 1) - kr g a b k
theorem kr_b0 (g : Int) (a b : Nat) : kr g a (b + 1) 0 = kr g a b 0 := by cases a <;> simp [kr]
theorem kr_b (g : Int) (a b k : Nat) : kr g a (b + 1) (k + 1) = kr g a b (k + 1) - kr g a b k := by cases a <;> simp [kr]
theorem kr_zero (g : Int) (a b : Nat) : kr g a b 0 = 1 := by
  induction b with
  | zero => induction a with
    | zero => simp [kr]
    | succ a ih => simp [kr, ih]
  | succ b ih => rw [kr_b0, ih]
theorem kr_a (g : Int) (a b k : Nat) : kr g (a + 1) b (k + 1) = kr g a b (k + 1) + g * kr g a b k := by
  induction b generalizing k with
  | zero => simp [kr]
  | succ b ih =>
    rw [kr_b, kr_b, ih]
    cases k with
    | zero => rw [kr_zero, kr_zero, kr_zero]; omega
    | succ k => rw [ih, kr_b]; grind
theorem kr_first (g : Int) (a k : Nat) : kr g a 0 k = (bin a k : Int) * g ^ k := by
  induction a generalizing k with
  | zero => cases k with
    | zero => simp [kr, bin]
    | succ k => simp [kr, bin]
  | succ a ih => cases k with
    | zero => simp [kr_zero, bin_zero]
    | succ k => rw [kr_a, ih, ih, bin_succ, Int.pow_succ, Int.natCast_add]; grind
theorem kr_row (g : Int) (a b k : Nat) : kr g a (b + 1) (k + 1) = kr g (a + 1) b (k + 1) - kr g (a + 1) b k - g * kr g a (b + 1) k := by
  have h := kr_a g a (b + 1) k
  rw [kr_b] at h
  omega
def krF (g : Int) (a b k : Nat) : Int := sm (k + 1) (fun j => (-1) ^ j * (g ^ (k - j) * ((bin b j : Int) * (bin a (k - j) : Int))))
theorem kr_formula (g : Int) (a b k : Nat) : kr g a b k = krF g a b k := by
  induction b generalizing k with
  | zero =>
    rw [kr_first, krF]
    rw [sm_single (a := 0) (by omega)]
    · simp [bin_zero]; grind
    · intro i _ hne
      obtain ⟨m, rfl⟩ : ∃ m, i = m + 1 := ⟨i - 1, by omega⟩
      simp [bin]
  | succ b ih =>
    cases k with
    | zero => rw [kr_zero]; simp [krF, sm, bin_zero]
    | succ k =>
      rw [kr_b, ih, ih, krF, krF, krF]
      rw [sm_head (k + 1) (fun j => (-1) ^ j * (g ^ (k + 1 - j) * ((bin (b + 1) j : Int) * (bin a (k + 1 - j) : Int))))]
      rw [sm_head (k + 1) (fun j => (-1) ^ j * (g ^ (k + 1 - j) * ((bin b j : Int) * (bin a (k + 1 - j) : Int))))]
      simp only [bin_zero, Nat.add_sub_add_right]
      rw [Int.add_sub_assoc]
      congr 1
      rw [← sm_sub]
      refine sm_congr fun i hi => ?_
      rw [bin_succ, Int.natCast_add, Int.pow_succ]
      grind
theorem kr_recip (g : Int) (n i s : Nat) (hi : i ≤ n) (hs : s ≤ n) :
    kr g (n - i) i s * (g ^ i * (bin n i : Int)) = kr g (n - s) s i * (g ^ s * (bin n s : Int)) := by
  rw [kr_formula, kr_formula, krF, krF]
  have ext : ∀ (x y : Nat), x ≤ n → y ≤ n → sm (y + 1) (fun j => (-1) ^ j * (g ^ (y - j) * ((bin x j : Int) * (bin (n - x) (y - j) : Int)))) * (g ^ x * (bin n x : Int)) =
      sm (n + 1) (fun j => if j ≤ x ∧ j ≤ y then (-1) ^ j * (g ^ (x + y - j) * ((bin n x : Int) * (bin x j : Int) * (bin (n - x) (y - j) : Int))) else 0) := by
    intro x y hx hy
    rw [← sm_mul_right]
    rw [sm_more (m := y + 1) (n := n + 1) (by omega) (f := fun j => if j ≤ x ∧ j ≤ y then _ else 0) (fun j hj => if_neg (by omega))]
    refine sm_congr fun j hj => ?_
    by_cases h : j ≤ x
    · rw [if_pos ⟨h, by omega⟩, show x + y - j = (y - j) + x by omega, Int.pow_add]; grind
    · rw [if_neg (by omega), bin_above (by omega)]; simp
  rw [ext i s hi hs, ext s i hs hi]
  refine sm_congr fun j _ => ?_
  by_cases h : j ≤ i ∧ j ≤ s
  · rw [if_pos h, if_pos ⟨h.2, h.1⟩, Nat.add_comm s i]
    congr 2
    have key : ∀ (x y : Nat), x ≤ n → y ≤ n → j ≤ x → j ≤ y → bin n x * bin x j * bin (n - x) (y - j) = bin n j * (bin (n - j) (x - j) * bin (n - j - (x - j)) (y - j)) := by
      intro x y hx hy h1 h2
      have a1 := bin_two n j (x - j)
      have a2 := bin_two n (n - x) j
      rw [bin_symm hx, show n - (n - x) = x by omega] at a2
      have a3 : bin (n - j) (n - x) = bin (n - j) (x - j) := by
        rw [← bin_symm (n := n - j) (k := x - j) (by omega)]; congr 1; omega
      rw [a2, a3, show n - j - (x - j) = n - x by omega, Nat.mul_assoc]
    have k1 := key i s hi hs h.1 h.2
    have k2 := key s i hs hi h.2 h.1
    have k3 := bin_two (n - j) (i - j) (s - j)
    have : bin n i * bin i j * bin (n - i) (s - j) = bin n s * bin s j * bin (n - s) (i - j) := by rw [k1, k2, k3]
    have c := congrArg (fun x : Nat => (x : Int)) this
    simpa [Int.natCast_mul] using c
  · rw [if_neg h, if_neg (fun e => h ⟨e.2, e.1⟩)]
end Mw
end
section
set_option linter.unusedVariables false
set_option linter.unusedSimpArgs false
namespace Mw
open Go Go.RowKit Go.Proofs.YtifkbghnmhineaaW.PrintWords Go.Proofs.YtifkbghnmhineaaW.PrintLast Go.Proofs.YtifkbghnmhineaaW.PrintMore Go.Proofs.Ytifkbghnmhineaa.PAll
theorem rd_rep (n : Nat) (j : Nat) : rd (List.replicate n 0) (j : Int) = 0 := by
  by_cases h : j < n
  · rw [rd_lt (by simpa using h)]; simp
  · exact rd_ge (by simp; omega)
theorem mac_bound {x y z c : Int} (hx0 : 0 ≤ x) (hx1 : x < 4294967296) (hy0 : 0 ≤ y) (hy1 : y < 4294967296) (hz0 : 0 ≤ z) (hz1 : z < 4294967296) (hc0 : 0 ≤ c) (hc1 : c < 4294967296) :
    0 ≤ x * y ∧ x * y + z + c < 18446744073709551616 := by
  have hp0 : 0 ≤ x * y := Int.mul_nonneg hx0 hy0
  have hp1 : x * y ≤ 4294967295 * 4294967295 := Int.mul_le_mul (by omega) (by omega) hy0 (by decide)
  generalize x * y = p at *
  omega
theorem mac_wrap {x y z c : Int} (hx0 : 0 ≤ x) (hx1 : x < 4294967296) (hy0 : 0 ≤ y) (hy1 : y < 4294967296) (hz0 : 0 ≤ z) (hz1 : z < 4294967296) (hc0 : 0 ≤ c) (hc1 : c < 4294967296) :
    IntKind.u64.wrap (IntKind.u64.wrap (IntKind.u64.wrap (IntKind.u64.wrap x * IntKind.u64.wrap y) + IntKind.u64.wrap z) + c) = x * y + z + c := by
  have hb := mac_bound hx0 hx1 hy0 hy1 hz0 hz1 hc0 hc1
  rw [u64w (x := x) (by omega) (by omega), u64w (x := y) (by omega) (by omega), u64w (x := z) (by omega) (by omega)]
  generalize x * y = p at *
  rw [u64w (x := p) (by omega) (by omega), u64w (x := p + z) (by omega) (by omega), u64w (x := p + z + c) (by omega) (by omega)]
theorem split_div (s : Int) : s % 4294967296 + 4294967296 * (s / 4294967296) = s := by omega
theorem div_bound {s : Int} (h0 : 0 ≤ s) (h1 : s < 18446744073709551616) : 0 ≤ s % 4294967296 ∧ s % 4294967296 < 4294967296 ∧ 0 ≤ s / 4294967296 ∧ s / 4294967296 < 4294967296 := by omega
theorem times_inner {x : Int} {b l18 : List Int} (hx0 : 0 ≤ x) (hx1 : x < 4294967296) (hb : Lm b) (hbl : b.length < 536870912) (x19 : Int) (i L : Nat) (hL : i + b.length + 1 ≤ L) (hL2 : L < 1073741824) (V : Int) (R : List Int)
    (next : ∀ o : List Int, o.length = L → Lm o → (∀ j : Nat, i + 1 + b.length ≤ j → rd o (j : Int) = 0) → Aside0 (lv o = V + (bp i : Int) * (x * lv b)) → Ev (fun k => nat_times.l0 k b o l18 x19 ((i + 1 : Nat) : Int)) R) :
    ∀ (d j : Nat) (o : List Int) (c : Int), j + d = b.length → o.length = L → Lm o → 0 ≤ c → c < 4294967296 → (∀ m : Nat, i + b.length ≤ m → rd o (m : Int) = 0) →
      Aside0 (lv o + (bp (i + j) : Int) * c = V + (bp i : Int) * (x * lv (b.take j))) →
      Ev (fun k => nat_times.l1 k b o (i : Int) x c l18 x19 (i : Int) b (b.length : Int) (j : Int)) R := by
  intro d
  induction d with
  | zero =>
    intro j o c hj ho hol hc0 hc1 hz hv
    have hj : j = b.length := by omega
    subst hj
    refine Ev.succ ?_
    simp only [nat_times.l1, wn (show (i : Int) + (b.length : Int) = ((i + b.length : Nat) : Int) by omega) (by omega), wn (show (i : Int) + 1 = ((i + 1 : Nat) : Int) by omega) (by omega), if_neg (show ¬ ((b.length : Nat) : Int) < (b.length : Int) by omega), if_pos (show (0 : Int) ≤ ((i + b.length : Nat) : Int) by omega), if_pos (show ((i + b.length : Nat) : Int) < (o.length : Int) by omega)]
    rw [Int.toNat_natCast, show c % 4294967296 = c by omega]
    refine next _ (by rw [List.length_set]; omega) (lm_set hol hc0 hc1) (fun m hm => ?_) ⟨?_⟩
    · rw [rd_set_ne _ (by omega)]; exact hz m (by omega)
    · rw [lv_set _ (by omega), hz _ (Nat.le_refl _), Int.sub_zero, hv.out, List.take_of_length_le (Nat.le_refl _)]
  | succ d ih =>
    intro j o c hj ho hol hc0 hc1 hz hv
    have hjb : j < b.length := by omega
    refine Ev.succ ?_
    have rb := rd_lm hb (j : Int)
    have ro := rd_lm hol ((i + j : Nat) : Int)
    simp only [nat_times.l1, wn (show (i : Int) + (j : Int) = ((i + j : Nat) : Int) by omega) (by omega), wn (show (j : Int) + 1 = ((j + 1 : Nat) : Int) by omega) (by omega), if_pos (show (j : Int) < (b.length : Int) by omega), if_pos (show (0 : Int) ≤ (j : Int) by omega), if_pos (show (0 : Int) ≤ ((i + j : Nat) : Int) by omega), if_pos (show ((i + j : Nat) : Int) < (o.length : Int) by omega), mac_wrap hx0 hx1 rb.1 rb.2 ro.1 ro.2 hc0 hc1]
    have hb2 := mac_bound hx0 hx1 rb.1 rb.2 ro.1 ro.2 hc0 hc1
    have hdef : ∃ s, s = x * rd b (j : Int) + rd o ((i + j : Nat) : Int) + c := ⟨_, rfl⟩
    obtain ⟨s, hs⟩ := hdef
    have hs0 : 0 ≤ s := by rw [hs]; exact Int.add_nonneg (Int.add_nonneg hb2.1 ro.1) hc0
    have hs1 : s < 18446744073709551616 := by rw [hs]; exact hb2.2
    have hd := div_bound hs0 hs1
    clear hb2
    rw [← hs]
    rw [Int.toNat_natCast]
    have hs := Aside0.mk hs
    refine ih (j + 1) _ _ (by omega) (by rw [List.length_set]; omega) (lm_set hol hd.1 hd.2.1) hd.2.2.1 hd.2.2.2 (fun m hm => ?_) ⟨?_⟩
    · rw [rd_set_ne _ (by omega)]; exact hz m hm
    · rw [lv_set _ (by omega), lv_take_succ hjb, ← Nat.add_assoc, bp_succ, Int.natCast_mul]
      have hdiv : s % 4294967296 + 4294967296 * (s / 4294967296) = x * rd b (j : Int) + rd o ((i + j : Nat) : Int) + c := by rw [split_div]; exact hs.out
      have hv := hv.out
      have hbp : ((bp (i + j) : Nat) : Int) = (bp i : Int) * (bp j : Int) := by rw [bp_add, Int.natCast_mul]
      clear ih hz next hs hs0 hs1 hd rb ro hc0 hc1
      generalize s % 4294967296 = y at *
      generalize s / 4294967296 = u at *
      generalize (bp (i + j) : Int) = p at *
      generalize (bp i : Int) = pi at *
      generalize (bp j : Int) = pj at *
      generalize rd b (j : Int) = rb at *
      generalize rd o ((i + j : Nat) : Int) = ro at *
      generalize lv o = lo at *
      generalize lv (b.take j) = lt at *
      subst hbp
      have h1 : lo + pi * pj * c = V + pi * (x * lt) := hv
      have h2 : y + 4294967296 * u = x * rb + ro + c := hdiv
      show lo + pi * pj * (y - ro) + 4294967296 * (pi * pj) * u = V + pi * (x * (lt + pj * rb))
      have h3 : pi * pj * (y + 4294967296 * u) = pi * pj * (x * rb + ro + c) := by rw [h2]
      grind
theorem times_outer {b l : List Int} (hb : Lm b) (hl : Lm l) (hbl : b.length < 268435456) (hll : l.length < 268435456) : ∀ (d i : Nat) (o : List Int), i + d = l.length → o.length = l.length + b.length → Lm o → (∀ m : Nat, i + b.length ≤ m → rd o (m : Int) = 0) →
    Aside0 (lv o = lv (l.take i) * lv b) → Ev (fun k => nat_times.l0 k b o l (l.length : Int) (i : Int)) (dg (lv l * lv b).toNat) := by
  intro d
  induction d with
  | zero =>
    intro i o hi ho hol hz hv
    have hi : i = l.length := by omega
    subst hi
    refine Ev.succ ?_
    simp only [nat_times.l0, if_neg (show ¬ ((l.length : Nat) : Int) < (l.length : Int) by omega)]
    refine Ev.bind (short_ev hol (by omega)) ?_
    refine Ev.cast (Ev.some _) ?_
    rw [hv.out, List.take_of_length_le (Nat.le_refl _)]
  | succ d ih =>
    intro i o hi ho hol hz hv
    have hil : i < l.length := by omega
    refine Ev.succ ?_
    have rl := rd_lm hl (i : Int)
    simp only [nat_times.l0, if_pos (show (i : Int) < (l.length : Int) by omega), if_pos (show (0 : Int) ≤ (i : Int) by omega)]
    refine times_inner (l18 := l) rl.1 rl.2 hb (by omega) (l.length : Int) i (l.length + b.length) (by omega) (by omega) (lv (l.take i) * lv b) _ (fun o2 h1 h2 h3 h4 => ?_) b.length 0 o 0 (by omega) ho hol (by omega) (by omega) hz ⟨?_⟩
    · refine ih (i + 1) o2 (by omega) h1 h2 (fun m hm => h3 m hm) ⟨?_⟩
      rw [h4.out, lv_take_succ hil, Int.add_mul, Int.mul_assoc]
    · rw [hv.out]; simp [lv_nil]
theorem times_ev {a b : List Int} (ha : Lm a) (hb : Lm b) (h1 : a.length < 268435456) (h2 : b.length < 268435456) : Ev (fun k => nat_times.f k a b) (dg (lv a * lv b).toNat) := by
  simp only [nat_times.f]
  simp only [wn (show (a.length : Int) + (b.length : Int) = ((a.length + b.length : Nat) : Int) by omega) (by omega), Int.toNat_natCast, if_pos (show (0 : Int) ≤ ((a.length + b.length : Nat) : Int) by omega), if_pos (show a.length + b.length ≤ 70368744177664 by omega)]
  exact times_outer hb ha h2 h1 a.length 0 _ (by omega) (by simp) (lm_rep _) (fun m _ => rd_rep _ m) ⟨by rw [lv_rep]; simp [lv_nil]⟩
theorem mul2_ev {a b : Nat} (ha : (dg a).length < 134217728) (hb : (dg b).length < 134217728) : Ev (fun k => nat_Mul.f k [dg a, dg b]) (dg (a * b)) := by
  simp only [nat_Mul.f]
  have mul_len : ∀ x y : Nat, (dg (x * y)).length ≤ (dg x).length + (dg y).length := by
    intro x y
    refine dg_len_le ?_
    rw [bp_add]
    exact Nat.mul_lt_mul'' (dg_lt_len x) (dg_lt_len y)
  have one : lv [1] = 1 := by rw [lv_cons, lv_nil]; rfl
  have l1 : Lm [1] := by rw [lm_cons]; exact ⟨by omega, lm_nil⟩
  refine Ev.succ ?_
  simp only [nat_Mul.l0, List.length_cons, List.length_nil, w64 (x := (0 : Int) + 1) (by omega) (by omega)]
  rw [show ((0 + 1 + 1 : Nat) : Int) = 2 from rfl]
  simp only [if_pos (show (0 : Int) < 2 by omega), if_pos (show (0 : Int) ≤ 0 by omega)]
  rw [show rd_L3 [dg a, dg b] 0 = dg a from rfl]
  refine Ev.bind (short_ev (lm_dg a) (by omega)) ?_
  rw [lv_dg, Int.toNat_natCast]
  refine Ev.bind (times_ev l1 (lm_dg a) (by simp) (by omega)) ?_
  rw [one, lv_dg, Int.one_mul, Int.toNat_natCast]
  refine Ev.succ ?_
  rw [show (0 : Int) + 1 = 1 from rfl]
  simp only [nat_Mul.l0, List.length_cons, List.length_nil, w64 (x := (1 : Int) + 1) (by omega) (by omega)]
  rw [show ((0 + 1 + 1 : Nat) : Int) = 2 from rfl]
  simp only [if_pos (show (1 : Int) < 2 by omega), if_pos (show (0 : Int) ≤ 1 by omega)]
  rw [show rd_L3 [dg a, dg b] 1 = dg b from rfl]
  refine Ev.bind (short_ev (lm_dg b) (by omega)) ?_
  rw [lv_dg, Int.toNat_natCast]
  refine Ev.bind (times_ev (lm_dg a) (lm_dg b) (by omega) (by omega)) ?_
  rw [lv_dg, lv_dg, ← Int.natCast_mul, Int.toNat_natCast]
  rw [show (1 : Int) + 1 = 2 from rfl]
  refine Ev.succ ?_
  simp only [nat_Mul.l0, if_neg (show ¬ (2 : Int) < 2 by omega)]
  have := mul_len a b
  refine Ev.bind (trim_ev (lm_dg (a * b)) (by omega)) ?_
  rw [lv_dg, Int.toNat_natCast]
  exact Ev.some _
end Mw
end
section
set_option linter.unusedVariables false
set_option linter.unusedSimpArgs false
namespace Mw
open Go Go.RowKit Go.Proofs.YtifkbghnmhineaaW.PrintWords Go.Proofs.YtifkbghnmhineaaW.PrintLast Go.Proofs.YtifkbghnmhineaaW.PrintMore Go.Proofs.Ytifkbghnmhineaa.PAll
theorem wraps_u64 (n : Int) (h0 : 0 ≤ n) (h1 : n < 2 ^ 64) : IntKind.u64.wrap n = n := u64w h0 (by omega)
theorem join32 {x y : Int} (hx0 : 0 ≤ x) (hx1 : x < 4294967296) (hy0 : 0 ≤ y) (hy1 : y < 4294967296) : Go.bits .or .u64 (IntKind.u64.wrap (x * 4294967296)) (IntKind.u64.wrap y) = x * 4294967296 + y := by
  rw [u64w (x := x * 4294967296) (by omega) (by omega), u64w (x := y) (by omega) (by omega)]
  exact bits_join .u64 64 (by decide) wraps_u64 32 _ _ (by omega) (by omega) (by omega) hy0 (by omega) (by omega)
theorem digit_bounds {r b y : Int} (hr0 : 0 ≤ r) (hrb : r < b) (hb : b < 4294967296) (hy0 : 0 ≤ y) (hy1 : y < 4294967296) :
    0 ≤ (r * 4294967296 + y) / b ∧ (r * 4294967296 + y) / b < 4294967296 ∧ 0 ≤ (r * 4294967296 + y) % b ∧ (r * 4294967296 + y) % b < b := by
  have hbp : 0 < b := by omega
  refine ⟨Int.ediv_nonneg (by omega) (by omega), ?_, Int.emod_nonneg _ (by omega), Int.emod_lt_of_pos _ hbp⟩
  refine Int.ediv_lt_of_lt_mul hbp ?_
  have : (r + 1) * 4294967296 ≤ b * 4294967296 := by omega
  omega
theorem digit_loop {a : List Int} {b : Int} (ha : Lm a) (hb0 : 0 < b) (hb1 : b < 4294967296) (hlen : a.length < 1073741824) : ∀ (n : Nat) (o : List Int) (r : Int), n ≤ a.length → o.length = a.length → Lm o → (∀ j : Nat, j < n → rd o (j : Int) = 0) → 0 ≤ r → r < b →
    Aside0 (lv o * b + (bp n : Int) * r = lv a - lv (a.take n)) → Ev (fun k => nat_digit.l0 k a b o r ((n : Int) - 1)) (dg (lv a / b).toNat, lv a % b) := by
  intro n
  induction n with
  | zero =>
    intro o r hn ho hol hz hr0 hr1 hv
    refine Ev.succ ?_
    simp only [nat_digit.l0, if_neg (show ¬ ((0 : Nat) : Int) - 1 ≥ 0 by omega)]
    refine Ev.bind (short_ev hol (by omega)) ?_
    refine Ev.cast (Ev.some _) ?_
    have hv := hv.out
    rw [List.take_zero, lv_nil, bp_zero] at hv
    have e : lv a = b * lv o + r := by rw [Int.mul_comm]; omega
    have h1 : lv a / b = lv o := by
      rw [e, Int.add_comm, Int.add_mul_ediv_left _ _ (by omega), Int.ediv_eq_zero_of_lt hr0 hr1]; omega
    have h2 : lv a % b = r := by
      rw [e, Int.add_comm, Int.add_mul_emod_self_left, Int.emod_eq_of_lt hr0 hr1]
    rw [h1, h2]
    clear hv e h1 h2
    congr 1
    omega
  | succ n ih =>
    intro o r hn ho hol hz hr0 hr1 hv
    refine Ev.succ ?_
    have ra := rd_lm ha (n : Int)
    have hd := digit_bounds hr0 hr1 hb1 ra.1 ra.2
    have hdiv : b * ((r * 4294967296 + rd a (n : Int)) / b) + (r * 4294967296 + rd a (n : Int)) % b = r * 4294967296 + rd a (n : Int) := Int.mul_ediv_add_emod _ _
    have t0 : 0 ≤ r * 4294967296 + rd a (n : Int) := by omega
    simp only [nat_digit.l0, show ((n + 1 : Nat) : Int) - 1 = (n : Int) from by omega, if_pos (show (n : Int) ≥ 0 by omega), if_pos (show (0 : Int) ≤ (n : Int) by omega), if_pos (show (n : Int) < (a.length : Int) by omega), if_pos (show (n : Int) < (o.length : Int) by omega), if_neg (show ¬ b = 0 by omega),
      join32 hr0 (by omega) ra.1 ra.2, w64 (x := (n : Int) - 1) (by omega) (by omega), u64w (x := b) (by omega) (by omega)]
    rw [Int.tdiv_eq_ediv_of_nonneg t0, Int.tmod_eq_emod_of_nonneg t0]
    generalize (r * 4294967296 + rd a (n : Int)) / b = q at *
    generalize (r * 4294967296 + rd a (n : Int)) % b = s at *
    rw [u64w (x := q) hd.1 (by omega), show q % 4294967296 = q by omega, Int.toNat_natCast]
    refine ih _ _ (by omega) (by rw [List.length_set]; exact ho) (lm_set hol hd.1 hd.2.1) (fun j hj => ?_) hd.2.2.1 hd.2.2.2 ⟨?_⟩
    · rw [rd_set_ne _ (by omega)]; exact hz j (by omega)
    · have hv := hv.out
      rw [lv_take_succ (l := a) (i := n) (by omega), bp_succ, Int.natCast_mul] at hv
      rw [lv_set (l := o) (i := n) _ (by omega), hz n (by omega)]
      clear ih hz hd ra t0
      generalize lv o = x at *
      generalize (bp n : Int) = p at *
      generalize rd a (n : Int) = y at *
      generalize lv a = A at *
      generalize lv (a.take n) = T at *
      have hv : x * b + 4294967296 * p * r = A - (T + p * y) := hv
      have h3 : p * (b * q + s) = p * (r * 4294967296 + y) := by rw [hdiv]
      grind
theorem digit_ev {a : List Int} {b : Int} (ha : Lm a) (hb0 : 0 < b) (hb1 : b < 4294967296) (hlen : a.length < 1073741824) : Ev (fun k => nat_digit.f k a b) (dg (lv a / b).toNat, lv a % b) := by
  simp only [nat_digit.f, Int.toNat_natCast, if_pos (show (0 : Int) ≤ (a.length : Int) by omega), if_pos (show a.length ≤ 70368744177664 by omega), w64 (x := (a.length : Int) - 1) (by omega) (by omega)]
  exact digit_loop ha hb0 hb1 hlen a.length _ 0 (Nat.le_refl _) (by simp) (lm_rep _) (fun j _ => rd_rep _ j) (by omega) (by omega) ⟨by rw [lv_rep, List.take_of_length_le (Nat.le_refl _)]; simp⟩
theorem bin_mul (n i : Nat) : bin n i * (n - i) = (i + 1) * bin n (i + 1) := by rw [bin_step, Nat.mul_comm]
theorem bin_lt (n k : Nat) : bin n k ≤ 2 ^ n := by
  induction n generalizing k with
  | zero => cases k <;> simp [bin]
  | succ n ih => cases k with
    | zero => rw [bin_zero]; exact Nat.one_le_two_pow
    | succ k => rw [bin_succ, Nat.pow_succ]; have h1 := ih k; have h2 := ih (k + 1); omega
theorem pow2_bp (m : Nat) : 2 ^ (32 * m) = bp m := by
  induction m with
  | zero => rw [bp_zero]
  | succ m ih => rw [Nat.mul_succ, Nat.pow_add, ih, bp_succ, Nat.mul_comm]
theorem bin_len {n : Nat} (hn : n ≤ 4096) (k : Nat) : (dg (bin n k)).length ≤ 129 := by
  refine dg_len_le ?_
  have h1 := bin_lt n k
  have h2 : ∀ m, n ≤ 32 * m → 2 ^ n ≤ bp m := fun m h => by rw [← pow2_bp]; exact Nat.pow_le_pow_right (by decide) h
  have h2 := h2 128 (by omega)
  have h3 := bp_pos 128
  rw [show 129 = 128 + 1 from rfl, bp_succ]
  generalize 2 ^ n = p at *
  generalize bp 128 = u at *
  omega
theorem binomial_loop {n : Nat} (hn : n ≤ 4096) : ∀ (d i m : Nat), i + d = m → m ≤ n → Ev (fun k => nat_Binomial.l0 k (n : Int) (dg (bin n i)) (m : Int) (i : Int)) (dg (bin n m), 0) := by
  intro d
  induction d with
  | zero =>
    intro i m hi hm
    have hi : i = m := by omega
    subst hi
    refine Ev.succ ?_
    simp only [nat_Binomial.l0, if_neg (show ¬ (i : Int) < (i : Int) by omega)]
    have := bin_len hn i
    refine Ev.bind (trim_ev (lm_dg _) (by omega)) ?_
    rw [lv_dg, Int.toNat_natCast]
    exact Ev.some _
  | succ d ih =>
    intro i m hi hm
    refine Ev.succ ?_
    have hl := bin_len hn i
    have e0 : ((n : Int) - (i : Int)) % 4294967296 = ((n - i : Nat) : Int) := by omega
    have e1 : ((i + 1 : Nat) : Int) % 4294967296 = ((i + 1 : Nat) : Int) := by omega
    simp only [nat_Binomial.l0, w64 (x := (n : Int) - (i : Int)) (by omega) (by omega), wn (show (i : Int) + 1 = ((i + 1 : Nat) : Int) by omega) (by omega), if_pos (show (i : Int) < (m : Int) by omega), e0, e1]
    have l1 : Lm [((n - i : Nat) : Int)] := by rw [lm_cons]; exact ⟨by omega, lm_nil⟩
    refine Ev.bind (times_ev (lm_dg _) l1 (by omega) (by simp)) ?_
    have v1 : lv (dg (bin n i)) * lv [((n - i : Nat) : Int)] = ((bin n i * (n - i) : Nat) : Int) := by rw [lv_dg, lv_cons, lv_nil, Int.natCast_mul]; simp
    rw [v1, Int.toNat_natCast, bin_mul]
    have hl2 : (dg ((i + 1) * bin n (i + 1))).length ≤ 130 := by
      refine dg_len_le ?_
      rw [← bin_mul]
      have h1 := dg_lt_len (bin n i)
      have h2 := bp_mono hl
      have h3 : bin n i < bp 129 := by omega
      rw [show 130 = 129 + 1 from rfl, bp_succ, Nat.mul_comm]
      have h4 : n - i ≤ 4294967296 := by omega
      exact Nat.lt_of_le_of_lt (Nat.mul_le_mul_right _ h4) (Nat.mul_lt_mul_of_pos_left h3 (by decide))
    refine Ev.bind (digit_ev (lm_dg _) (by omega) (by omega) (by omega)) ?_
    rw [lv_dg]
    have v2 : (((i + 1) * bin n (i + 1) : Nat) : Int) / ((i + 1 : Nat) : Int) = ((bin n (i + 1) : Nat) : Int) := by
      rw [Int.natCast_mul, Int.mul_ediv_cancel_left _ (by omega)]
    rw [v2, Int.toNat_natCast]
    exact ih (i + 1) m (by omega) hm
theorem binomial_ev {n m : Nat} (hn : n ≤ 4096) (hm : m ≤ n) : Ev (fun k => nat_Binomial.f k (n : Int) (m : Int)) (dg (bin n m), 0) := by
  simp only [nat_Binomial.f, if_neg (show ¬ (n : Int) < 0 by omega), decide_eq_false (show ¬ (n : Int) > 4096 by omega)]
  refine Ev.succ ?_
  simp only [nat_Binomial.j0, Bool.false_eq_true, if_false, if_neg (show ¬ (m : Int) < 0 by omega), decide_eq_false (show ¬ (m : Int) > (n : Int) by omega)]
  refine Ev.succ ?_
  simp only [nat_Binomial.j1, Bool.false_eq_true, if_false, wn (show (n : Int) - (m : Int) = ((n - m : Nat) : Int) by omega) (by omega)]
  have hone : ([1] : List Int) = dg (bin n 0) := by rw [bin_zero, dg_one]
  rw [hone]
  have hz : (0 : Int) = ((0 : Nat) : Int) := rfl
  by_cases h : m ≤ n - m
  · rw [show mn (m : Int) ((n - m : Nat) : Int) = (m : Int) from by unfold mn; split <;> omega]
    exact binomial_loop hn m 0 m (by omega) hm
  · rw [show mn (m : Int) ((n - m : Nat) : Int) = ((n - m : Nat) : Int) from by unfold mn; split <;> omega, ← bin_symm hm]
    exact binomial_loop hn (n - m) 0 (n - m) (by omega) (by omega)
theorem bits_half (x : Nat) (h : x < 4294967296) : Lib.bitLen x ≤ 32 := Lib.bitLen_le x 32 (by decide) (by omega)
theorem bitLen_zero : Lib.bitLen 0 = 0 := by decide
theorem bitLen_pos {x : Nat} (h0 : x ≠ 0) (h : x < 4294967296) : 1 ≤ Lib.bitLen x := by
  rw [Lib.bitLen_half x h0 (by omega)]; omega
theorem bitLen_lt : ∀ (b x : Nat), x < 4294967296 → Lib.bitLen x ≤ b → x < 2 ^ b := by
  intro b
  induction b with
  | zero =>
    intro x hx hb
    by_cases h : x = 0
    · subst h; decide
    · have := bitLen_pos h hx; omega
  | succ b ih =>
    intro x hx hb
    by_cases h : x = 0
    · subst h; exact Nat.two_pow_pos _
    · rw [Lib.bitLen_half x h (by omega)] at hb
      have := ih (x / 2) (by omega) (by omega)
      rw [Nat.pow_succ]
      omega
theorem dg_head {n : Nat} {i : Nat} (hi : i + 1 = (dg n).length) : rd (dg n) (i : Int) ≠ 0 := by
  have hne : dg n ≠ [] := by intro e; rw [e] at hi; simp at hi
  have := dg_last n hne
  rw [List.getLast_eq_getElem] at this
  rw [rd_lt (by omega)]
  have e : (dg n).length - 1 = i := by omega
  simpa [e] using this
def bl (n : Nat) : Nat := if n = 0 then 0 else 32 * ((dg n).length - 1) + Lib.bitLen (rd (dg n) (((dg n).length - 1 : Nat) : Int)).toNat
theorem bits_ev {n : Nat} (hn : (dg n).length < 33554432) : Ev (fun k => nat_Bits.f k (dg n)) ((bl n : Nat) : Int) := by
  simp only [nat_Bits.f]
  refine Ev.bind (short_ev (lm_dg n) (by omega)) ?_
  rw [lv_dg, Int.toNat_natCast]
  by_cases h : n = 0
  · subst h
    rw [dg_zero]
    simp only [List.length_nil, if_pos (show ((0 : Nat) : Int) = 0 from rfl)]
    exact Ev.cast (Ev.some _) (by simp [bl])
  · have hp : (dg n).length ≠ 0 := by rw [Ne, dg_len_zero]; exact h
    obtain ⟨m, hm⟩ : ∃ m, (dg n).length = m + 1 := ⟨(dg n).length - 1, by omega⟩
    have hb : bl n = 32 * m + Lib.bitLen (rd (dg n) (m : Int)).toNat := by unfold bl; rw [if_neg h, hm]; rfl
    have hr := rd_lm (lm_dg n) (m : Int)
    have hbl := bits_half (rd (dg n) (m : Int)).toNat (by omega)
    rw [hb, hm]
    have f1 : bits_Len32.f (rd (dg n) (m : Int)) = some ((Lib.bitLen (rd (dg n) (m : Int)).toNat : Nat) : Int) := by
      unfold bits_Len32.f
      rw [if_pos hr.1, if_pos (by omega)]
    simp only [if_neg (show ¬ ((m + 1 : Nat) : Int) = 0 by omega), wn (show ((m + 1 : Nat) : Int) - 1 = (m : Int) by omega) (by omega), if_pos (show (0 : Int) ≤ (m : Int) by omega), if_pos (show (m : Int) < ((m + 1 : Nat) : Int) by omega), f1, Option.bind_some]
    refine Ev.cast (Ev.some _) ?_
    rw [wn (show (32 : Int) * (m : Int) = ((32 * m : Nat) : Int) by omega) (by omega), wn (show ((32 * m : Nat) : Int) + ((Lib.bitLen (rd (dg n) (m : Int)).toNat : Nat) : Int) = ((32 * m + Lib.bitLen (rd (dg n) (m : Int)).toNat : Nat) : Int) by omega) (by omega)]
theorem bl_zero {n : Nat} : bl n = 0 ↔ n = 0 := by
  constructor
  · intro h
    by_cases h0 : n = 0
    · exact h0
    · unfold bl at h
      rw [if_neg h0] at h
      have hp : (dg n).length ≠ 0 := by rw [Ne, dg_len_zero]; exact h0
      obtain ⟨m, hm⟩ : ∃ m, (dg n).length = m + 1 := ⟨(dg n).length - 1, by omega⟩
      have hr := rd_lm (lm_dg n) (m : Int)
      have h1 := dg_head hm.symm
      rw [hm, show m + 1 - 1 = m from rfl] at h
      have := bitLen_pos (x := (rd (dg n) (m : Int)).toNat) (by omega) (by omega)
      omega
  · intro h; subst h; rfl
theorem bl_small {n : Nat} (h0 : n ≠ 0) (h : n < 4294967296) : bl n = Lib.bitLen n := by
  unfold bl
  rw [if_neg h0, dg_small h0 h]
  simp [rd]
theorem bl_one {n : Nat} : bl n = 1 ↔ n = 1 := by
  constructor
  · intro h
    have hn0 : n ≠ 0 := by intro e; subst e; rw [bl_zero.mpr rfl] at h; omega
    unfold bl at h
    rw [if_neg hn0] at h
    have hp : (dg n).length ≠ 0 := by rw [Ne, dg_len_zero]; exact hn0
    obtain ⟨m, hm⟩ : ∃ m, (dg n).length = m + 1 := ⟨(dg n).length - 1, by omega⟩
    have hr := rd_lm (lm_dg n) (m : Int)
    have h1 := dg_head hm.symm
    rw [hm, show m + 1 - 1 = m from rfl] at h
    have h2 := bitLen_pos (x := (rd (dg n) (m : Int)).toNat) (by omega) (by omega)
    have hm0 : m = 0 := by omega
    subst hm0
    have hn : n < 4294967296 := by
      have := dg_lt_len n
      rw [hm, show (0 + 1 : Nat) = 0 + 1 from rfl, bp_succ, bp_zero] at this
      omega
    have h4 : dg n = [(n : Int)] := dg_small hn0 hn
    rw [h4] at h
    have h3 := bitLen_lt 1 n hn (by simp [rd] at h; omega)
    omega
  · intro h; subst h; rw [bl_small (by decide) (by decide)]; decide
theorem pow_len (x n m : Nat) (h : (dg x).length ≤ m) : (dg (x ^ n)).length ≤ m * n + 1 := by
  refine dg_len_le ?_
  have h1 := dg_lt_len x
  have h2 := bp_mono h
  have h3 : ∀ n, x ^ n ≤ bp (m * n) := by
    intro n
    induction n with
    | zero => simp [bp_zero]
    | succ n ih => rw [Nat.pow_succ, Nat.mul_succ, bp_add]; exact Nat.mul_le_mul ih (by omega)
  have h4 := h3 n
  rw [bp_succ]
  have h5 := bp_pos (m * n)
  omega
theorem and1 {n : Nat} (hn : n < 9223372036854775808) : Go.bits .and .i64 (n : Int) 1 = ((n % 2 : Nat) : Int) := by
  have := bits_mask .i64 63 (by decide) (fun n h0 h1 => by
    rw [IntKind.wrap_i64]
    have : n < 9223372036854775808 := by omega
    omega) 1 (by decide) (n : Int) (by omega) (by have : (n : Int) < 9223372036854775808 := by omega
                                                  omega)
  rw [show (2 : Int) ^ 1 - 1 = 1 from rfl, show (2 : Int) ^ 1 = 2 from rfl] at this
  rw [this]
  omega
theorem mul_len (x y : Nat) : (dg (x * y)).length ≤ (dg x).length + (dg y).length := by
  refine dg_len_le ?_
  rw [bp_add]
  exact Nat.mul_lt_mul'' (dg_lt_len x) (dg_lt_len y)
theorem times2_ev {a b : Nat} (h1 : (dg a).length < 268435456) (h2 : (dg b).length < 268435456) : Ev (fun k => nat_times.f k (dg a) (dg b)) (dg (a * b)) := by
  refine Ev.cast (times_ev (lm_dg a) (lm_dg b) h1 h2) ?_
  rw [lv_dg, lv_dg, ← Int.natCast_mul, Int.toNat_natCast]
theorem trim2_ev {a : Nat} (h1 : (dg a).length < 268435456) : Ev (fun k => nat_Trim.f k (dg a)) (dg a) := by
  refine Ev.cast (trim_ev (lm_dg a) (by omega)) ?_
  rw [lv_dg, Int.toNat_natCast]
theorem pow_half (y x n : Nat) : y * x ^ n = (if n % 2 = 1 then y * x else y) * (x * x) ^ (n / 2) := by
  have e : n = 2 * (n / 2) + n % 2 := by omega
  have h : x ^ n = (x * x) ^ (n / 2) * x ^ (n % 2) := by
    conv => lhs; rw [e]
    rw [Nat.pow_add, Nat.pow_mul, Nat.pow_two]
  rw [h]
  by_cases g : n % 2 = 1
  · rw [if_pos g, g, Nat.pow_one]; simp only [Nat.mul_assoc, Nat.mul_comm x]
  · rw [if_neg g, show n % 2 = 0 by omega, Nat.pow_zero, Nat.mul_one]
theorem pow_loop : ∀ (n : Nat), 0 < n → n < 4611686018427387904 → ∀ (y x : Nat), Aside0 ((dg x).length * n + (dg y).length ≤ 4096) → Ev (fun k => nat_Pow.l0 k (n : Int) (dg y) (dg x)) (dg (y * x ^ n), 0) := by
  intro n
  induction n using Nat.strongRecOn with
  | _ n ih =>
    intro h0 h1 y x hl
    have hx : (dg x).length ≤ 4096 := by
      have h2 := hl.out
      have h3 : (dg x).length * 1 ≤ (dg x).length * n := Nat.mul_le_mul_left _ h0
      omega
    have hy : (dg y).length ≤ 4096 := by have := hl.out; omega
    have hyx := mul_len y x
    have hxx := mul_len x x
    refine Ev.succ ?_
    have hd : (n : Int) / 2 = ((n / 2 : Nat) : Int) := by omega
    have hy2 : Aside0 ((dg (x * x)).length * (n / 2) + (dg (if n % 2 = 1 then y * x else y)).length ≤ 4096) := by
      refine ⟨?_⟩
      have h2 := hl.out
      have h3 : (dg (x * x)).length * (n / 2) ≤ ((dg x).length + (dg x).length) * (n / 2) := Nat.mul_le_mul_right _ hxx
      have h4 : ((dg x).length + (dg x).length) * (n / 2) + (dg x).length * (n % 2) = (dg x).length * n := by
        conv => rhs; rw [show n = 2 * (n / 2) + n % 2 by omega]
        rw [Nat.mul_add, ← Nat.two_mul, Nat.mul_assoc, Nat.mul_left_comm]
      by_cases g : n % 2 = 1
      · rw [if_pos g]
        rw [g, Nat.mul_one] at h4
        omega
      · rw [if_neg g]
        rw [show n % 2 = 0 by omega, Nat.mul_zero] at h4
        omega
    have fin : n / 2 = 0 → Ev (fun k => if (((dg (if n % 2 = 1 then y * x else y)).length : Nat) : Int) > 4096 then some (([] : List Int), (8 : Int)) else (nat_Trim.f k (dg (if n % 2 = 1 then y * x else y))).bind fun t => some (t, 0)) (dg (y * x ^ n), 0) := by
      intro hz
      have h2 := hy2.out
      rw [hz, Nat.mul_zero] at h2
      rw [pow_half y x n, hz, Nat.pow_zero, Nat.mul_one]
      simp only [if_neg (show ¬ (((dg (if n % 2 = 1 then y * x else y)).length : Nat) : Int) > 4096 by omega)]
      refine Ev.bind (trim2_ev (by omega)) ?_
      exact Ev.some _
    have go : n / 2 ≠ 0 → Ev (fun k => (nat_times.f k (dg x) (dg x)).bind fun t => nat_Pow.l0 k ((n / 2 : Nat) : Int) (dg (if n % 2 = 1 then y * x else y)) t) (dg (y * x ^ n), 0) := by
      intro hz
      refine Ev.bind (times2_ev (by omega) (by omega)) ?_
      rw [pow_half y x n]
      exact ih (n / 2) (by omega) (by omega) (by omega) _ _ hy2
    simp only [nat_Pow.l0, and1 (show n < 9223372036854775808 by omega), hd]
    clear hy2 hl
    by_cases g : n % 2 = 1
    · rw [if_pos g] at fin go
      simp only [if_pos (show ((n % 2 : Nat) : Int) = 1 by omega)]
      refine Ev.bind (times2_ev (by omega) (by omega)) ?_
      by_cases hz : n / 2 = 0
      · simp only [if_pos (show ((n / 2 : Nat) : Int) = 0 by omega)]
        exact fin hz
      · simp only [if_neg (show ¬ ((n / 2 : Nat) : Int) = 0 by omega)]
        exact go hz
    · rw [if_neg g] at fin go
      simp only [if_neg (show ¬ ((n % 2 : Nat) : Int) = 1 by omega)]
      by_cases hz : n / 2 = 0
      · simp only [if_pos (show ((n / 2 : Nat) : Int) = 0 by omega)]
        exact fin hz
      · simp only [if_neg (show ¬ ((n / 2 : Nat) : Int) = 0 by omega)]
        exact go hz
theorem pow_ev {x n : Nat} (hx : x < 4294967296) (hn : n < 4096) : Ev (fun k => nat_Pow.f k (dg x) (n : Int)) (dg (x ^ n), 0) := by
  have hxl : (dg x).length ≤ 1 := dg_len_le (by rw [show (1 : Nat) = 0 + 1 from rfl, bp_succ, bp_zero]; omega)
  simp only [nat_Pow.f, if_neg (show ¬ (n : Int) < 0 by omega)]
  refine Ev.bind (bits_ev (by omega)) ?_
  have one : ([1] : List Int) = dg 1 := dg_one.symm
  by_cases h0 : n = 0
  · subst h0
    simp only [if_pos (show ((0 : Nat) : Int) = 0 from rfl)]
    refine Ev.succ ?_
    simp only [nat_Pow.j0, if_true, Nat.pow_zero, one]
    exact Ev.some _
  · simp only [if_neg (show ¬ (n : Int) = 0 by omega)]
    by_cases h1 : x = 1
    · subst h1
      rw [bl_one.mpr rfl]
      refine Ev.succ ?_
      simp only [nat_Pow.j0, Nat.one_pow, one]
      exact Ev.some _
    · have hb1 : bl x ≠ 1 := fun e => h1 (bl_one.mp e)
      have hbl : bl x ≤ 32 := by
        by_cases hx0 : x = 0
        · subst hx0; rw [bl_zero.mpr rfl]; omega
        · rw [bl_small hx0 hx]; exact bits_half x hx
      rw [show (((bl x : Nat) : Int) == 1) = false from by simp; omega]
      refine Ev.succ ?_
      simp only [nat_Pow.j0, Bool.false_eq_true, if_false]
      by_cases hx0 : x = 0
      · subst hx0
        simp only [bl_zero.mpr rfl, if_pos (show ((0 : Nat) : Int) = 0 from rfl)]
        rw [Nat.zero_pow (by omega), dg_zero]
        exact Ev.some _
      · have hb0 : bl x ≠ 0 := fun e => hx0 (bl_zero.mp e)
        have hmul : (bl x - 1) * n ≤ 31 * 4095 := Nat.mul_le_mul (by omega) (by omega)
        have e2 : wrap64 (wrap64 ((bl x : Int) - 1) * (n : Int)) = (((bl x - 1) * n : Nat) : Int) := by
          rw [wn (show (bl x : Int) - 1 = ((bl x - 1 : Nat) : Int) by omega) (by omega)]
          exact wn (by rw [Int.natCast_mul]) (by omega)
        have e3 : ¬ wrap64 (wrap64 ((bl x : Int) - 1) * (n : Int)) ≥ 131072 := by rw [e2]; clear e2; omega
        simp only [if_neg (show ¬ ((bl x : Nat) : Int) = 0 by clear e2 e3; omega), if_neg (show ¬ (n : Int) > 131072 by clear e2 e3; omega), if_neg e3]
        clear e2 e3
        refine Ev.bind (short_ev (lm_dg x) (by omega)) ?_
        rw [lv_dg, Int.toNat_natCast, one]
        refine Ev.cast (pow_loop n (by omega) (by omega) 1 x ⟨?_⟩) (by rw [Nat.one_mul])
        have h5 : (dg x).length * n ≤ 1 * 4095 := Nat.mul_le_mul hxl (by omega)
        rw [dg_one]
        simp only [List.length_cons, List.length_nil]
        omega
end Mw
end
section
set_option linter.unusedVariables false
set_option linter.unusedSimpArgs false
namespace Mw
open Go Go.RowKit Go.Proofs.YtifkbghnmhineaaW.PrintWords Go.Proofs.YtifkbghnmhineaaW.PrintLast Go.Proofs.YtifkbghnmhineaaW.PrintMore Go.Proofs.Ytifkbghnmhineaa.PAll
theorem rtrim_loop {l : List Int} (hl : Lm l) (hlen : l.length < 1099511627776) : ∀ n : Nat, n ≤ l.length → (∀ i : Nat, n ≤ i → i < l.length → rd l (i : Int) = 0) →
    Ev (fun k => codewrightref01_Trim.l0 k l (n : Int)) (dg (lv l).toNat) := by
  intro n
  induction n with
  | zero =>
    intro hn hz
    refine Ev.succ ?_
    simp only [codewrightref01_Trim.l0, Option.bind_some, if_neg (show ¬ ((0 : Nat) : Int) > 0 by omega), if_pos (show (0 : Int) ≤ ((0 : Nat) : Int) by omega), if_pos (show ((0 : Nat) : Int) ≤ (l.length : Int) by omega), if_pos (show ([] : List Int).length + (l.take ((0 : Nat) : Int).toNat).length < 35184372088832 by simp), List.nil_append]
    refine Ev.cast (Ev.some _) ?_
    rw [show (((0 : Nat) : Int)).toNat = 0 from rfl]
    exact dg_take hl hn hz (.inl rfl)
  | succ n ih =>
    intro hn hz
    refine Ev.succ ?_
    have e : wrap64 (((n + 1 : Nat) : Int) - 1) = (n : Int) := by rw [w64 (by omega) (by omega)]; omega
    by_cases h : rd l (n : Int) = 0
    · simp only [codewrightref01_Trim.l0, e, if_pos (show ((n + 1 : Nat) : Int) > 0 by omega), if_pos (show (0 : Int) ≤ (n : Int) by omega), if_pos (show (n : Int) < (l.length : Int) by omega), if_pos h]
      exact ih (by omega) (fun i h1 h2 => by
        by_cases e2 : i = n
        · subst e2; exact h
        · exact hz i (by omega) h2)
    · have hlt : ([] : List Int).length + (l.take ((n + 1 : Nat) : Int).toNat).length < 35184372088832 := by
        rw [List.length_take, List.length_nil]; clear e; omega
      simp only [codewrightref01_Trim.l0, Option.bind_some, e, if_pos (show ((n + 1 : Nat) : Int) > 0 by omega), if_pos (show (0 : Int) ≤ (n : Int) by omega), if_pos (show (n : Int) < (l.length : Int) by omega), if_neg h, if_pos (show (0 : Int) ≤ ((n + 1 : Nat) : Int) by omega), if_pos (show ((n + 1 : Nat) : Int) ≤ (l.length : Int) by omega), if_pos hlt, List.nil_append]
      refine Ev.cast (Ev.some _) ?_
      rw [show (((n + 1 : Nat) : Int)).toNat = n + 1 by omega]
      exact dg_take hl hn hz (.inr h)
theorem rtrim_ev {l : List Int} (hl : Lm l) (hlen : l.length < 1099511627776) : Ev (fun k => codewrightref01_Trim.f k l) (dg (lv l).toNat) := by
  simp only [codewrightref01_Trim.f]
  exact rtrim_loop hl hlen l.length (Nat.le_refl _) (fun i h1 h2 => by omega)
theorem rtrim2_ev {a : Nat} (h1 : (dg a).length < 268435456) : Ev (fun k => codewrightref01_Trim.f k (dg a)) (dg a) := by
  refine Ev.cast (rtrim_ev (lm_dg a) (by omega)) ?_
  rw [lv_dg, Int.toNat_natCast]
theorem rof_ev {n : Nat} (hn : n < 18446744073709551616) : Ev (fun k => codewrightref01_Of.f k (n : Int)) (dg n) := by
  simp only [codewrightref01_Of.f]
  have e1 : Int.tmod (n : Int) 4294967296 = (n : Int) % 4294967296 := Int.tmod_eq_emod_of_nonneg (by omega)
  have e2 : Int.tdiv (n : Int) 4294967296 = (n : Int) / 4294967296 := Int.tdiv_eq_ediv_of_nonneg (by omega)
  rw [e1, e2, u64w (x := (n : Int) / 4294967296) (by clear e1 e2; omega) (by clear e1 e2; omega)]
  have hl : Lm [(n : Int) % 4294967296 % 4294967296, ((n : Int) / 4294967296) % 4294967296] := by
    rw [lm_cons, lm_cons]
    clear e1 e2
    exact ⟨by omega, by omega, lm_nil⟩
  refine Ev.bind (rtrim_ev hl (by simp)) ?_
  refine Ev.cast (Ev.some _) ?_
  congr 1
  simp only [lv_cons, lv_nil]
  clear e1 e2
  omega
theorem limb_eq {l : List Int} (hl : Lm l) (i : Nat) : codewrightref01_limb.f l (i : Int) = some (rd l (i : Int)) := by
  unfold codewrightref01_limb.f
  have r := rd_lm hl (i : Int)
  by_cases h : i < l.length
  · rw [if_pos (by omega), if_pos (by omega), u64w r.1 (by omega)]
  · rw [if_neg (by omega), rd_ge (by omega)]
theorem lv_take_any (l : List Int) (i : Nat) : lv (l.take (i + 1)) = lv (l.take i) + (bp i : Int) * rd l (i : Int) := by
  by_cases h : i < l.length
  · exact lv_take_succ h
  · rw [rd_ge (by omega), List.take_of_length_le (by omega), List.take_of_length_le (by omega)]; simp
theorem radd_sum {a b c : Int} (ha0 : 0 ≤ a) (ha1 : a < 4294967296) (hb0 : 0 ≤ b) (hb1 : b < 4294967296) (hc0 : 0 ≤ c) (hc1 : c ≤ 1) :
    IntKind.u64.wrap (IntKind.u64.wrap (a + b) + c) = a + b + c := by
  rw [u64w (x := a + b) (by omega) (by omega), u64w (by omega) (by omega)]
theorem tmod_nn {a : Int} (b : Int) (h : 0 ≤ a) : Int.tmod a b = a % b := Int.tmod_eq_emod_of_nonneg h
theorem tdiv_nn {a : Int} (b : Int) (h : 0 ≤ a) : Int.tdiv a b = a / b := Int.tdiv_eq_ediv_of_nonneg h
theorem radd_loop {a b : List Int} (ha : Lm a) (hb : Lm b) (hla : a.length < 549755813888) (hlb : b.length < 549755813888) : ∀ (d i : Nat) (o : List Int) (c : Int), i + d = max a.length b.length + 1 → o.length = i → Lm o → 0 ≤ c → c ≤ 1 → (d = 0 → c = 0) →
    Aside0 (lv o + (bp i : Int) * c = lv (a.take i) + lv (b.take i)) → Ev (fun k => codewrightref01_Add.l0 k a b o c (i : Int)) (dg (lv a + lv b).toNat) := by
  intro d
  induction d with
  | zero =>
    intro i o c hi ho hol hc0 hc1 hz hv
    have hc := hz rfl
    subst hc
    refine Ev.succ ?_
    simp only [codewrightref01_Add.l0, if_neg (show ¬ (i : Int) < (a.length : Int) by omega), if_neg (show ¬ (i : Int) < (b.length : Int) by omega), decide_eq_false (show ¬ (0 : Int) > 0 by omega)]
    refine Ev.succ ?_
    simp only [codewrightref01_Add.j1, Bool.false_eq_true, if_false]
    refine Ev.bind (rtrim_ev hol (by omega)) ?_
    refine Ev.cast (Ev.some _) ?_
    have hv := hv.out
    rw [List.take_of_length_le (by omega), List.take_of_length_le (by omega), Int.mul_zero, Int.add_zero] at hv
    rw [hv]
  | succ d ih =>
    intro i o c hi ho hol hc0 hc1 hz hv
    have ra := rd_lm ha (i : Int)
    have rb := rd_lm hb (i : Int)
    have body : Ev (fun k => codewrightref01_Add.j1 k a b o c (i : Int) true) (dg (lv a + lv b).toNat) := by
      refine Ev.succ ?_
      simp only [codewrightref01_Add.j1, if_true, limb_eq ha, limb_eq hb, Option.bind_some, if_pos (show o.length < 35184372088832 by omega), radd_sum ra.1 ra.2 rb.1 rb.2 hc0 hc1, tmod_nn 4294967296 (show 0 ≤ rd a (i : Int) + rd b (i : Int) + c by omega), tdiv_nn 4294967296 (show 0 ≤ rd a (i : Int) + rd b (i : Int) + c by omega), wn (show (i : Int) + 1 = ((i + 1 : Nat) : Int) by omega) (by omega), u64w (x := (rd a (i : Int) + rd b (i : Int) + c) / 4294967296) (by omega) (by omega), show (rd a (i : Int) + rd b (i : Int) + c) % 4294967296 % 4294967296 = (rd a (i : Int) + rd b (i : Int) + c) % 4294967296 by omega]
      have hs : ∃ s, s = rd a (i : Int) + rd b (i : Int) + c := ⟨_, rfl⟩
      obtain ⟨s, hs⟩ := hs
      rw [← hs]
      have hs0 : 0 ≤ s := by omega
      have hs1 : s ≤ 8589934591 := by omega
      refine ih (i + 1) _ _ (by omega) (by rw [List.length_append]; simp [ho]) (lm_append hol (lm_cons.mpr ⟨by omega, lm_nil⟩)) (by omega) (by omega) (fun hd => ?_) ⟨?_⟩
      · have h1 : rd a (i : Int) = 0 := rd_ge (by omega)
        have h2 : rd b (i : Int) = 0 := rd_ge (by omega)
        omega
      · rw [lv_append, lv_cons, lv_nil, ho, lv_take_any, lv_take_any, bp_succ, Int.natCast_mul]
        have hv := hv.out
        have hdiv : s % 4294967296 + 4294967296 * (s / 4294967296) = rd a (i : Int) + rd b (i : Int) + c := by rw [split_div]; exact hs
        clear ih hz hs hs0 hs1 ra rb hc0 hc1
        generalize s % 4294967296 = y at *
        generalize s / 4294967296 = u at *
        generalize (bp i : Int) = p at *
        generalize rd a (i : Int) = x at *
        generalize rd b (i : Int) = z at *
        generalize lv (a.take i) = la at *
        generalize lv (b.take i) = lb at *
        generalize lv o = lo at *
        show lo + p * (y + 4294967296 * 0) + 4294967296 * p * u = la + p * x + (lb + p * z)
        have h3 : p * (y + 4294967296 * u) = p * (x + z + c) := by rw [hdiv]
        have h4 : lo + p * c = la + lb := hv
        grind
    refine Ev.succ ?_
    simp only [codewrightref01_Add.l0]
    by_cases h1 : (i : Int) < (a.length : Int)
    · simp only [if_pos h1]; exact body
    · simp only [if_neg h1]
      by_cases h2 : (i : Int) < (b.length : Int)
      · simp only [if_pos h2]; exact body
      · simp only [if_neg h2]
        by_cases h3 : c > 0
        · simp only [decide_eq_true h3]; exact body
        · simp only [decide_eq_false h3]
          have hc : c = 0 := by omega
          subst hc
          refine Ev.succ ?_
          simp only [codewrightref01_Add.j1, Bool.false_eq_true, if_false]
          refine Ev.bind (rtrim_ev hol (by omega)) ?_
          refine Ev.cast (Ev.some _) ?_
          have hv := hv.out
          rw [List.take_of_length_le (by omega), List.take_of_length_le (by omega), Int.mul_zero, Int.add_zero] at hv
          rw [hv]
theorem radd_ev {a b : List Int} (ha : Lm a) (hb : Lm b) (hla : a.length < 549755813888) (hlb : b.length < 549755813888) : Ev (fun k => codewrightref01_Add.f k a b) (dg (lv a + lv b).toNat) := by
  simp only [codewrightref01_Add.f]
  exact radd_loop ha hb hla hlb _ 0 [] 0 (by rw [Nat.zero_add]) rfl lm_nil (by omega) (by omega) (fun h => by omega) ⟨by simp [lv_nil]⟩
theorem radd2_ev {a b : Nat} (ha : (dg a).length < 268435456) (hb : (dg b).length < 268435456) : Ev (fun k => codewrightref01_Add.f k (dg a) (dg b)) (dg (a + b)) := by
  refine Ev.cast (radd_ev (lm_dg a) (lm_dg b) (by omega) (by omega)) ?_
  rw [lv_dg, lv_dg, ← Int.natCast_add, Int.toNat_natCast]
theorem same_loop (a b : List Int) (hab : a.length = b.length) (hlen : a.length < 549755813888) : ∀ (d i : Nat), i + d = a.length → a.take i = b.take i → Ev (fun k => codewrightref01_Same.l0 k a b (i : Int)) (decide (a = b)) := by
  intro d
  induction d with
  | zero =>
    intro i hi he
    refine Ev.succ ?_
    simp only [codewrightref01_Same.l0, if_neg (show ¬ (i : Int) < (a.length : Int) by omega)]
    rw [List.take_of_length_le (by omega), List.take_of_length_le (by omega)] at he
    refine Ev.cast (Ev.some _) (decide_eq_true he).symm
  | succ d ih =>
    intro i hi he
    refine Ev.succ ?_
    simp only [codewrightref01_Same.l0, if_pos (show (i : Int) < (a.length : Int) by omega), if_pos (show (0 : Int) ≤ (i : Int) by omega), if_pos (show (i : Int) < (b.length : Int) by omega), wn (show (i : Int) + 1 = ((i + 1 : Nat) : Int) by omega) (by omega)]
    by_cases h : rd a (i : Int) = rd b (i : Int)
    · simp only [if_pos h]
      exact ih (i + 1) (by omega) (by rw [take_succ_rd (by omega), take_succ_rd (by omega), he, h])
    · simp only [if_neg h]
      exact Ev.cast (Ev.some _) (decide_eq_false (fun e => h (by rw [e]))).symm
theorem same_ev (a b : List Int) (hlen : a.length < 549755813888) : Ev (fun k => codewrightref01_Same.f k a b) (decide (a = b)) := by
  simp only [codewrightref01_Same.f]
  by_cases h : a.length = b.length
  · simp only [if_pos (show (a.length : Int) = (b.length : Int) by omega)]
    exact same_loop a b h hlen a.length 0 (by omega) rfl
  · simp only [if_neg (show ¬ (a.length : Int) = (b.length : Int) by omega)]
    exact Ev.cast (Ev.some _) (decide_eq_false (fun e => h (by rw [e]))).symm
theorem rmul_inner {b l : List Int} (hl : Lm l) (hb : Lm b) (hbl : b.length < 268435456) (hll : l.length < 268435456) (i : Nat) (hi : i < l.length) (V : Int) (R : List Int)
    (next : ∀ o : List Int, o.length = l.length + b.length → Lm o → (∀ j : Nat, i + 1 + b.length ≤ j → rd o (j : Int) = 0) → Aside0 (lv o = V + (bp i : Int) * (rd l (i : Int) * lv b)) → Ev (fun k => codewrightref01_Mul.l0 k l b o ((i + 1 : Nat) : Int)) R) :
    ∀ (d j : Nat) (o : List Int) (c : Int), j + d = b.length → o.length = l.length + b.length → Lm o → 0 ≤ c → c < 4294967296 → (∀ m : Nat, i + b.length ≤ m → rd o (m : Int) = 0) →
      Aside0 (lv o + (bp (i + j) : Int) * c = V + (bp i : Int) * (rd l (i : Int) * lv (b.take j))) →
      Ev (fun k => codewrightref01_Mul.l1 k l b o (i : Int) c (j : Int)) R := by
  intro d
  induction d with
  | zero =>
    intro j o c hj ho hol hc0 hc1 hz hv
    have hj : j = b.length := by omega
    subst hj
    refine Ev.succ ?_
    simp only [codewrightref01_Mul.l1, wn (show (i : Int) + (b.length : Int) = ((i + b.length : Nat) : Int) by omega) (by omega), wn (show (i : Int) + 1 = ((i + 1 : Nat) : Int) by omega) (by omega), if_neg (show ¬ ((b.length : Nat) : Int) < (b.length : Int) by omega), if_pos (show (0 : Int) ≤ ((i + b.length : Nat) : Int) by omega), if_pos (show ((i + b.length : Nat) : Int) < (o.length : Int) by omega)]
    rw [Int.toNat_natCast, show c % 4294967296 = c by omega]
    refine next _ (by rw [List.length_set]; omega) (lm_set hol hc0 hc1) (fun m hm => ?_) ⟨?_⟩
    · rw [rd_set_ne _ (by omega)]; exact hz m (by omega)
    · rw [lv_set _ (by omega), hz _ (Nat.le_refl _), Int.sub_zero, hv.out, List.take_of_length_le (Nat.le_refl _)]
  | succ d ih =>
    intro j o c hj ho hol hc0 hc1 hz hv
    have hjb : j < b.length := by omega
    have rl := rd_lm hl (i : Int)
    refine Ev.succ ?_
    have rb := rd_lm hb (j : Int)
    have ro := rd_lm hol ((i + j : Nat) : Int)
    have hb2 := mac_bound rl.1 rl.2 rb.1 rb.2 ro.1 ro.2 hc0 hc1
    have hs00 : 0 ≤ rd l (i : Int) * rd b (j : Int) + rd o ((i + j : Nat) : Int) + c := Int.add_nonneg (Int.add_nonneg hb2.1 ro.1) hc0
    simp only [codewrightref01_Mul.l1, wn (show (i : Int) + (j : Int) = ((i + j : Nat) : Int) by omega) (by omega), wn (show (j : Int) + 1 = ((j + 1 : Nat) : Int) by omega) (by omega), if_pos (show (j : Int) < (b.length : Int) by omega), if_pos (show (0 : Int) ≤ (i : Int) by omega), if_pos (show (i : Int) < (l.length : Int) by omega), if_pos (show (0 : Int) ≤ (j : Int) by omega), if_pos (show (0 : Int) ≤ ((i + j : Nat) : Int) by omega), if_pos (show ((i + j : Nat) : Int) < (o.length : Int) by omega), mac_wrap rl.1 rl.2 rb.1 rb.2 ro.1 ro.2 hc0 hc1, tmod_nn 4294967296 hs00, tdiv_nn 4294967296 hs00]
    have hdef : ∃ s, s = rd l (i : Int) * rd b (j : Int) + rd o ((i + j : Nat) : Int) + c := ⟨_, rfl⟩
    obtain ⟨s, hs⟩ := hdef
    have hs0 : 0 ≤ s := by rw [hs]; exact hs00
    have hs1 : s < 18446744073709551616 := by rw [hs]; exact hb2.2
    have hd := div_bound hs0 hs1
    clear hb2
    rw [← hs]
    rw [Int.toNat_natCast]
    have hs := Aside0.mk hs
    have hq : IntKind.u64.wrap (s / 4294967296) = s / 4294967296 := u64w hd.2.2.1 (by omega)
    rw [hq]
    clear hq
    rw [show s % 4294967296 % 4294967296 = s % 4294967296 by omega]
    refine ih (j + 1) _ _ (by omega) (by rw [List.length_set]; omega) (lm_set hol hd.1 hd.2.1) hd.2.2.1 hd.2.2.2 (fun m hm => ?_) ⟨?_⟩
    · rw [rd_set_ne _ (by omega)]; exact hz m hm
    · rw [lv_set _ (by omega), lv_take_succ hjb, ← Nat.add_assoc, bp_succ, Int.natCast_mul]
      have hdiv : s % 4294967296 + 4294967296 * (s / 4294967296) = rd l (i : Int) * rd b (j : Int) + rd o ((i + j : Nat) : Int) + c := by rw [split_div]; exact hs.out
      have hv := hv.out
      have hbp : ((bp (i + j) : Nat) : Int) = (bp i : Int) * (bp j : Int) := by rw [bp_add, Int.natCast_mul]
      clear ih hz next hs hs0 hs1 hd rb ro hc0 hc1 hs00 rl
      generalize s % 4294967296 = y at *
      generalize s / 4294967296 = u at *
      generalize (bp (i + j) : Int) = p at *
      generalize (bp i : Int) = pi at *
      generalize (bp j : Int) = pj at *
      generalize rd b (j : Int) = rb at *
      generalize rd l (i : Int) = x at *
      generalize rd o ((i + j : Nat) : Int) = ro at *
      generalize lv o = lo at *
      generalize lv (b.take j) = lt at *
      subst hbp
      have h1 : lo + pi * pj * c = V + pi * (x * lt) := hv
      have h2 : y + 4294967296 * u = x * rb + ro + c := hdiv
      show lo + pi * pj * (y - ro) + 4294967296 * (pi * pj) * u = V + pi * (x * (lt + pj * rb))
      have h3 : pi * pj * (y + 4294967296 * u) = pi * pj * (x * rb + ro + c) := by rw [h2]
      grind
theorem rmul_outer {b l : List Int} (hb : Lm b) (hl : Lm l) (hbl : b.length < 268435456) (hll : l.length < 268435456) : ∀ (d i : Nat) (o : List Int), i + d = l.length → o.length = l.length + b.length → Lm o → (∀ m : Nat, i + b.length ≤ m → rd o (m : Int) = 0) →
    Aside0 (lv o = lv (l.take i) * lv b) → Ev (fun k => codewrightref01_Mul.l0 k l b o (i : Int)) (dg (lv l * lv b).toNat) := by
  intro d
  induction d with
  | zero =>
    intro i o hi ho hol hz hv
    have hi : i = l.length := by omega
    subst hi
    refine Ev.succ ?_
    simp only [codewrightref01_Mul.l0, if_neg (show ¬ ((l.length : Nat) : Int) < (l.length : Int) by omega)]
    refine Ev.bind (rtrim_ev hol (by omega)) ?_
    refine Ev.cast (Ev.some _) ?_
    rw [hv.out, List.take_of_length_le (Nat.le_refl _)]
  | succ d ih =>
    intro i o hi ho hol hz hv
    have hil : i < l.length := by omega
    refine Ev.succ ?_
    simp only [codewrightref01_Mul.l0, if_pos (show (i : Int) < (l.length : Int) by omega)]
    refine rmul_inner hl hb hbl hll i hil (lv (l.take i) * lv b) _ (fun o2 h1 h2 h3 h4 => ?_) b.length 0 o 0 (by omega) ho hol (by omega) (by omega) hz ⟨?_⟩
    · refine ih (i + 1) o2 (by omega) h1 h2 (fun m hm => h3 m hm) ⟨?_⟩
      rw [h4.out, lv_take_succ hil, Int.add_mul, Int.mul_assoc]
    · rw [hv.out]; simp [lv_nil]
theorem rmul_ev {a b : List Int} (ha : Lm a) (hb : Lm b) (h1 : a.length < 268435456) (h2 : b.length < 268435456) : Ev (fun k => codewrightref01_Mul.f k a b) (dg (lv a * lv b).toNat) := by
  simp only [codewrightref01_Mul.f]
  simp only [wn (show (a.length : Int) + (b.length : Int) = ((a.length + b.length : Nat) : Int) by omega) (by omega), Int.toNat_natCast, if_pos (show (0 : Int) ≤ ((a.length + b.length : Nat) : Int) by omega), if_pos (show a.length + b.length ≤ 70368744177664 by omega)]
  exact rmul_outer hb ha h2 h1 a.length 0 _ (by omega) (by simp) (lm_rep _) (fun m _ => rd_rep _ m) ⟨by rw [lv_rep]; simp [lv_nil]⟩
theorem rmul2_ev {a b : Nat} (h1 : (dg a).length < 268435456) (h2 : (dg b).length < 268435456) : Ev (fun k => codewrightref01_Mul.f k (dg a) (dg b)) (dg (a * b)) := by
  refine Ev.cast (rmul_ev (lm_dg a) (lm_dg b) h1 h2) ?_
  rw [lv_dg, lv_dg, ← Int.natCast_mul, Int.toNat_natCast]
end Mw
end
section
set_option linter.unusedVariables false
set_option linter.unusedSimpArgs false
namespace Mw
open Go Go.RowKit Go.Proofs.YtifkbghnmhineaaW.PrintWords Go.Proofs.YtifkbghnmhineaaW.PrintLast Go.Proofs.YtifkbghnmhineaaW.PrintMore Go.Proofs.Ytifkbghnmhineaa.PAll
theorem rbits_loop : ∀ (b x n : Nat), x < 4294967296 → Lib.bitLen x = b → n + b < 9223372036854775000 → Ev (fun k => codewrightref01_Bits.l0 k (n : Int) (x : Int)) ((n + b : Nat) : Int) := by
  intro b
  induction b with
  | zero =>
    intro x n hx hb hn
    have h0 : x = 0 := by
      by_cases h : x = 0
      · exact h
      · have := bitLen_pos h hx; omega
    subst h0
    refine Ev.succ ?_
    simp only [codewrightref01_Bits.l0, if_neg (show ¬ ((0 : Nat) : Int) > 0 by omega)]
    exact Ev.some _
  | succ b ih =>
    intro x n hx hb hn
    have h0 : x ≠ 0 := by intro h; subst h; rw [bitLen_zero] at hb; omega
    have hb2 : b + 1 ≤ 32 := by rw [← hb]; exact bits_half x hx
    rw [Lib.bitLen_half x h0 (by omega)] at hb
    refine Ev.succ ?_
    simp only [codewrightref01_Bits.l0, if_pos (show (x : Int) > 0 by omega), tdiv_nn 2 (show (0 : Int) ≤ (x : Int) by omega), show (x : Int) / 2 % 4294967296 = ((x / 2 : Nat) : Int) by omega, wn (show (n : Int) + 1 = ((n + 1 : Nat) : Int) by omega) (by omega)]
    refine Ev.cast (ih (x / 2) (n + 1) (by omega) (by omega) (by omega)) (by omega)
theorem rbits_ev {n : Nat} (hn : (dg n).length < 33554432) : Ev (fun k => codewrightref01_Bits.f k (dg n)) ((bl n : Nat) : Int) := by
  simp only [codewrightref01_Bits.f]
  refine Ev.bind (rtrim2_ev (by omega)) ?_
  by_cases h : n = 0
  · subst h
    rw [dg_zero]
    simp only [List.length_nil, if_pos (show ((0 : Nat) : Int) = 0 from rfl)]
    exact Ev.cast (Ev.some _) (by simp [bl])
  · have hp : (dg n).length ≠ 0 := by rw [Ne, dg_len_zero]; exact h
    obtain ⟨m, hm⟩ : ∃ m, (dg n).length = m + 1 := ⟨(dg n).length - 1, by omega⟩
    have hb : bl n = 32 * m + Lib.bitLen (rd (dg n) (m : Int)).toNat := by unfold bl; rw [if_neg h, hm]; rfl
    have hr := rd_lm (lm_dg n) (m : Int)
    have hbl := bits_half (rd (dg n) (m : Int)).toNat (by omega)
    rw [hb, hm]
    simp only [if_neg (show ¬ ((m + 1 : Nat) : Int) = 0 by omega), wn (show ((m + 1 : Nat) : Int) - 1 = (m : Int) by omega) (by omega), if_pos (show (0 : Int) ≤ (m : Int) by omega), if_pos (show (m : Int) < ((m + 1 : Nat) : Int) by omega)]
    rw [wn (show (32 : Int) * (m : Int) = ((32 * m : Nat) : Int) by omega) (by omega)]
    obtain ⟨x, hx⟩ : ∃ x : Nat, rd (dg n) (m : Int) = (x : Int) := ⟨(rd (dg n) (m : Int)).toNat, by omega⟩
    rw [hx] at hr hbl ⊢
    exact rbits_loop _ x (32 * m) (by omega) rfl (by omega)
theorem bl_le_one {n : Nat} : bl n ≤ 1 ↔ n ≤ 1 := by
  constructor
  · intro h
    by_cases h1 : bl n = 1
    · rw [bl_one.mp h1]; exact Nat.le_refl _
    · have h2 : n = 0 := bl_zero.mp (by omega)
      omega
  · intro h
    by_cases h1 : n = 1
    · rw [bl_one.mpr h1]; exact Nat.le_refl _
    · have h2 : bl n = 0 := bl_zero.mpr (by omega)
      omega
theorem rsmall_loop {a : List Int} {b : Int} (ha : Lm a) (hb0 : 0 < b) (hb1 : b < 4294967296) (hlen : a.length < 1073741824) : ∀ (n : Nat) (o : List Int) (r : Int), n ≤ a.length → o.length = a.length → Lm o → (∀ j : Nat, j < n → rd o (j : Int) = 0) → 0 ≤ r → r < b →
    Aside0 (lv o * b + (bp n : Int) * r = lv a - lv (a.take n)) → Ev (fun k => codewrightref01_small.l0 k a b o r ((n : Int) - 1)) (dg (lv a / b).toNat) := by
  intro n
  induction n with
  | zero =>
    intro o r hn ho hol hz hr0 hr1 hv
    refine Ev.succ ?_
    simp only [codewrightref01_small.l0, if_neg (show ¬ ((0 : Nat) : Int) - 1 ≥ 0 by omega)]
    refine Ev.bind (rtrim_ev hol (by omega)) ?_
    refine Ev.cast (Ev.some _) ?_
    have hv := hv.out
    rw [List.take_zero, lv_nil, bp_zero] at hv
    have e : lv a = b * lv o + r := by rw [Int.mul_comm]; omega
    have h1 : lv a / b = lv o := by
      rw [e, Int.add_comm, Int.add_mul_ediv_left _ _ (by omega), Int.ediv_eq_zero_of_lt hr0 hr1]; omega
    rw [h1]
  | succ n ih =>
    intro o r hn ho hol hz hr0 hr1 hv
    refine Ev.succ ?_
    have ra := rd_lm ha (n : Int)
    have hd := digit_bounds hr0 hr1 hb1 ra.1 ra.2
    have hdiv : b * ((r * 4294967296 + rd a (n : Int)) / b) + (r * 4294967296 + rd a (n : Int)) % b = r * 4294967296 + rd a (n : Int) := Int.mul_ediv_add_emod _ _
    have t0 : 0 ≤ r * 4294967296 + rd a (n : Int) := by omega
    simp only [codewrightref01_small.l0, show ((n + 1 : Nat) : Int) - 1 = (n : Int) from by omega, if_pos (show (n : Int) ≥ 0 by omega), if_pos (show (0 : Int) ≤ (n : Int) by omega), if_pos (show (n : Int) < (a.length : Int) by omega), if_pos (show (n : Int) < (o.length : Int) by omega), u64w (x := b) (by omega) (by omega), if_neg (show ¬ b = 0 by omega),
      u64w (x := rd a (n : Int)) ra.1 (by omega), u64w (x := r * 4294967296) (by omega) (by omega), u64w (x := r * 4294967296 + rd a (n : Int)) (by omega) (by omega), w64 (x := (n : Int) - 1) (by omega) (by omega)]
    rw [Int.tdiv_eq_ediv_of_nonneg t0, Int.tmod_eq_emod_of_nonneg t0]
    generalize (r * 4294967296 + rd a (n : Int)) / b = q at *
    generalize (r * 4294967296 + rd a (n : Int)) % b = s at *
    rw [u64w (x := q) hd.1 (by omega), show q % 4294967296 = q by omega, Int.toNat_natCast]
    refine ih _ _ (by omega) (by rw [List.length_set]; exact ho) (lm_set hol hd.1 hd.2.1) (fun j hj => ?_) hd.2.2.1 hd.2.2.2 ⟨?_⟩
    · rw [rd_set_ne _ (by omega)]; exact hz j (by omega)
    · have hv := hv.out
      rw [lv_take_succ (l := a) (i := n) (by omega), bp_succ, Int.natCast_mul] at hv
      rw [lv_set (l := o) (i := n) _ (by omega), hz n (by omega)]
      clear ih hz hd ra t0
      generalize lv o = x at *
      generalize (bp n : Int) = p at *
      generalize rd a (n : Int) = y at *
      generalize lv a = A at *
      generalize lv (a.take n) = T at *
      have hv : x * b + 4294967296 * p * r = A - (T + p * y) := hv
      have h3 : p * (b * q + s) = p * (r * 4294967296 + y) := by rw [hdiv]
      grind
theorem rsmall_ev {a n d : Nat} (ha : (dg a).length < 134217728) (hn : n < 4294967296) (hd0 : 0 < d) (hd1 : d < 4294967296) : Ev (fun k => codewrightref01_small.f k (dg a) (n : Int) (d : Int)) (dg (a * n / d)) := by
  simp only [codewrightref01_small.f, u64w (x := (n : Int)) (by omega) (by omega)]
  refine Ev.bind (rof_ev (by omega)) ?_
  have hnl : (dg n).length ≤ 1 := dg_len_le (by rw [show (1 : Nat) = 0 + 1 from rfl, bp_succ, bp_zero]; omega)
  refine Ev.bind (rmul2_ev (by omega) (by omega)) ?_
  have hl := mul_len a n
  simp only [if_pos (show (0 : Int) ≤ ((dg (a * n)).length : Int) by omega), Int.toNat_natCast, if_pos (show (dg (a * n)).length ≤ 70368744177664 by omega), w64 (x := ((dg (a * n)).length : Int) - 1) (by omega) (by omega)]
  refine Ev.cast (rsmall_loop (lm_dg _) (b := (d : Int)) (by omega) (by omega) (by omega) _ _ 0 (Nat.le_refl _) (by simp) (lm_rep _) (fun j _ => rd_rep _ j) (by omega) (by omega) ⟨by rw [lv_rep, List.take_of_length_le (Nat.le_refl _)]; simp⟩) ?_
  rw [lv_dg, ← Int.natCast_ediv, Int.toNat_natCast]
theorem choose_loop {n : Nat} (hn : n ≤ 4096) : ∀ (d i m : Nat), i + d = m → m ≤ n → Ev (fun k => codewrightref01_Choose.l0 k (n : Int) (m : Int) (dg (bin n i)) (i : Int)) (dg (bin n m)) := by
  intro d
  induction d with
  | zero =>
    intro i m hi hm
    have hi : i = m := by omega
    subst hi
    refine Ev.succ ?_
    simp only [codewrightref01_Choose.l0, if_neg (show ¬ (i : Int) < (i : Int) by omega)]
    exact Ev.some _
  | succ d ih =>
    intro i m hi hm
    refine Ev.succ ?_
    have hl := bin_len hn i
    simp only [codewrightref01_Choose.l0, wn (show (n : Int) - (i : Int) = ((n - i : Nat) : Int) by omega) (by omega), wn (show (i : Int) + 1 = ((i + 1 : Nat) : Int) by omega) (by omega), if_pos (show (i : Int) < (m : Int) by omega)]
    refine Ev.bind (rsmall_ev (by omega) (by omega) (by omega) (by omega)) ?_
    rw [bin_mul, Nat.mul_div_cancel_left _ (by omega)]
    exact ih (i + 1) m (by omega) hm
theorem choose_ev {n m : Nat} (hn : n ≤ 4096) (hm : m < 9223372036854775808) : Ev (fun k => codewrightref01_Choose.f k (n : Int) (m : Int)) (dg (bin n m)) := by
  simp only [codewrightref01_Choose.f, if_neg (show ¬ (m : Int) < 0 by omega)]
  by_cases h : n < m
  · simp only [decide_eq_true (show (m : Int) > (n : Int) by omega)]
    refine Ev.succ ?_
    simp only [codewrightref01_Choose.j0, if_true, bin_above h, dg_zero]
    exact Ev.some _
  · simp only [decide_eq_false (show ¬ (m : Int) > (n : Int) by omega)]
    refine Ev.succ ?_
    simp only [codewrightref01_Choose.j0, Bool.false_eq_true, if_false]
    rw [show ([1] : List Int) = dg (bin n 0) by rw [bin_zero, dg_one]]
    exact choose_loop hn m 0 m (by omega) (by omega)
theorem half_twice (n p : Nat) : n / p / 2 = n / (2 * p) := by rw [Nat.div_div_eq_div_mul, Nat.mul_comm]
theorem rpow_step (a n p : Nat) : a ^ (n / (2 * p)) * a ^ (n / (2 * p)) * (if n / p % 2 = 1 then a else 1) = a ^ (n / p) := by
  rw [← half_twice]
  generalize n / p = m
  rw [← Nat.pow_add]
  by_cases h : m % 2 = 1
  · rw [if_pos h, ← Nat.pow_succ]; congr 1; omega
  · rw [if_neg h, Nat.mul_one]; congr 1; omega
theorem rpow_loop {a n : Nat} (ha : (dg a).length ≤ 1) (hn : n < 4096) : ∀ (s : Nat), s ≤ 19 → ∀ d p : Nat, d = 2 ^ s / 2 → p = 2 ^ s → Ev (fun k => codewrightref01_Pow.l0 k (dg a) (n : Int) (dg (a ^ (n / p))) (d : Int)) (dg (a ^ n), 0) := by
  intro s
  induction s with
  | zero =>
    intro _ d p hd hp
    subst hd
    subst hp
    refine Ev.succ ?_
    rw [Nat.pow_zero, Nat.div_one]
    simp only [codewrightref01_Pow.l0, if_neg (show ¬ ((1 / 2 : Nat) : Int) > 0 by omega)]
    exact Ev.some _
  | succ s ih =>
    intro hs d p hd hp
    have hd2 : d = 2 ^ s := by rw [hd, Nat.pow_succ, Nat.mul_div_cancel _ (by decide)]
    have hp2 : p = 2 * d := by rw [hp, hd2, Nat.pow_succ, Nat.mul_comm]
    have hpos : 0 < d := by rw [hd2]; exact Nat.two_pow_pos s
    have hbig : d ≤ 524288 := by rw [hd2]; exact Nat.pow_le_pow_right (n := 2) (by decide) (show s ≤ 19 by omega)
    have hle : ∀ m, m ≤ n → (dg (a ^ m)).length ≤ 4096 := by
      intro m hm
      have := pow_len a m 1 ha
      omega
    have hm1 : n / p ≤ n := Nat.div_le_self _ _
    have hm2 : n / d ≤ n := Nat.div_le_self _ _
    have hl1 := hle _ hm1
    have hl2 := hle _ hm2
    have hst := rpow_step a n d
    rw [← hp2] at hst
    have hsq := mul_len (a ^ (n / p)) (a ^ (n / p))
    refine Ev.succ ?_
    have hw : wrap64 ((n / d : Nat) : Int) = ((n / d : Nat) : Int) := wn rfl (by omega)
    have hq : Int.tdiv (n : Int) (d : Int) = ((n / d : Nat) : Int) := by rw [Int.tdiv_eq_ediv_of_nonneg (by omega), ← Int.natCast_ediv]
    have hm : Int.tmod ((n / d : Nat) : Int) 2 = ((n / d % 2 : Nat) : Int) := by rw [Int.tmod_eq_emod_of_nonneg (Int.natCast_nonneg _)]; rfl
    have hh : wrap64 (Int.tdiv (d : Int) 2) = ((d / 2 : Nat) : Int) := by
      clear hw hq hm
      rw [Int.tdiv_eq_ediv_of_nonneg (by omega)]; exact wn (by omega) (by omega)
    simp only [codewrightref01_Pow.l0, if_pos (show (d : Int) > 0 by omega), if_neg (show ¬ (d : Int) = 0 by omega), hq, hw, hm, hh]
    clear hq hw hm hh
    refine Ev.bind (rmul2_ev (by omega) (by omega)) ?_
    have nx := ih (by omega) (d / 2) d (by rw [hd2]) hd2
    by_cases g : n / d % 2 = 1
    · rw [if_pos g] at hst
      simp only [if_pos (show ((n / d % 2 : Nat) : Int) = 1 by omega)]
      refine Ev.bind (rmul2_ev (by omega) (by omega)) ?_
      rw [hst]
      simp only [if_neg (show ¬ (((dg (a ^ (n / d))).length : Nat) : Int) > 4096 by omega)]
      exact nx
    · rw [if_neg g, Nat.mul_one] at hst
      simp only [if_neg (show ¬ ((n / d % 2 : Nat) : Int) = 1 by omega)]
      rw [hst]
      simp only [if_neg (show ¬ (((dg (a ^ (n / d))).length : Nat) : Int) > 4096 by omega)]
      exact nx
theorem rpow_ev {x n : Nat} (hx : x < 4294967296) (hn : n < 4096) : Ev (fun k => codewrightref01_Pow.f k (dg x) (n : Int)) (dg (x ^ n), 0) := by
  have hxl : (dg x).length ≤ 1 := dg_len_le (by rw [show (1 : Nat) = 0 + 1 from rfl, bp_succ, bp_zero]; omega)
  simp only [codewrightref01_Pow.f, if_neg (show ¬ (n : Int) < 0 by omega)]
  refine Ev.bind (rtrim2_ev (by omega)) ?_
  have one : ([1] : List Int) = dg 1 := dg_one.symm
  by_cases h0 : n = 0
  · subst h0
    simp only [if_pos (show ((0 : Nat) : Int) = 0 from rfl), Nat.pow_zero, one]
    exact Ev.some _
  · simp only [if_neg (show ¬ (n : Int) = 0 by omega)]
    refine Ev.bind (rbits_ev (by omega)) ?_
    by_cases h1 : x ≤ 1
    · have := bl_le_one.mpr h1
      simp only [if_pos (show ((bl x : Nat) : Int) ≤ 1 by omega)]
      have hx1 : x ^ n = x := by
        have : x = 0 ∨ x = 1 := by omega
        rcases this with e | e
        · subst e; exact Nat.zero_pow (by omega)
        · subst e; exact Nat.one_pow _
      rw [hx1]
      exact Ev.some _
    · have hb : ¬ bl x ≤ 1 := fun e => h1 (bl_le_one.mp e)
      simp only [if_neg (show ¬ ((bl x : Nat) : Int) ≤ 1 by omega), if_neg (show ¬ (n : Int) > 131072 by omega)]
      have := rpow_loop hxl hn 19 (Nat.le_refl _) 262144 524288 (by decide) (by decide)
      rw [Nat.div_eq_of_lt (show n < 524288 by omega), Nat.pow_zero, dg_one] at this
      exact this
end Mw
end
section
set_option linter.unusedVariables false
set_option linter.unusedSimpArgs false
namespace Mw
open Go Go.RowKit Go.Proofs.YtifkbghnmhineaaW.PrintWords Go.Proofs.YtifkbghnmhineaaW.PrintLast Go.Proofs.YtifkbghnmhineaaW.PrintMore Go.Proofs.Ytifkbghnmhineaa.PAll
def cmpZ (x y : Int) : Int := if x < y then -1 else if y < x then 1 else 0
theorem take_bound {a : List Int} (ha : Lm a) (n : Nat) : 0 ≤ lv (a.take n) ∧ lv (a.take n) < bp n := by
  have h1 := lv_nonneg (lm_take ha n)
  have h2 := lv_le_of_len (lm_take ha n) (m := n) (by rw [List.length_take]; omega)
  omega
theorem cmp_lt {a b : List Int} (ha : Lm a) (hb : Lm b) (n : Nat) (h : rd a (n : Int) < rd b (n : Int)) : lv (a.take (n + 1)) < lv (b.take (n + 1)) := by
  have h1 := take_bound ha n
  have h2 := take_bound hb n
  have h3 : (bp n : Int) * (rd a (n : Int) + 1) ≤ (bp n : Int) * rd b (n : Int) := Int.mul_le_mul_of_nonneg_left (by omega) (by omega)
  rw [lv_take_any, lv_take_any]
  rw [Int.mul_add, Int.mul_one] at h3
  generalize (bp n : Int) * rd a (n : Int) = x at *
  generalize (bp n : Int) * rd b (n : Int) = y at *
  omega
theorem cmp_step {a b : List Int} (ha : Lm a) (hb : Lm b) (n : Nat) : cmpZ (lv (a.take (n + 1))) (lv (b.take (n + 1))) = if rd a (n : Int) < rd b (n : Int) then -1 else if rd b (n : Int) < rd a (n : Int) then 1 else cmpZ (lv (a.take n)) (lv (b.take n)) := by
  by_cases h : rd a (n : Int) < rd b (n : Int)
  · rw [if_pos h]
    unfold cmpZ
    rw [if_pos (cmp_lt ha hb n h)]
  · rw [if_neg h]
    by_cases g : rd b (n : Int) < rd a (n : Int)
    · rw [if_pos g]
      have := cmp_lt hb ha n g
      unfold cmpZ
      rw [if_neg (by omega), if_pos this]
    · rw [if_neg g]
      have e : rd a (n : Int) = rd b (n : Int) := by omega
      rw [lv_take_any, lv_take_any, e]
      unfold cmpZ
      generalize (bp n : Int) * rd b (n : Int) = y at *
      by_cases h1 : lv (a.take n) < lv (b.take n)
      · rw [if_pos h1, if_pos (by omega)]
      · rw [if_neg h1, if_neg (by omega)]
        by_cases h2 : lv (b.take n) < lv (a.take n)
        · rw [if_pos h2, if_pos (by omega)]
        · rw [if_neg h2, if_neg (by omega)]
theorem ncmp_loop {a b : List Int} (ha : Lm a) (hb : Lm b) (hlen : a.length < 1073741824) (hab : a.length = b.length) : ∀ n : Nat, n ≤ a.length → Ev (fun k => nat_Cmp.l0 k a b ((n : Int) - 1)) (cmpZ (lv (a.take n)) (lv (b.take n))) := by
  intro n
  induction n with
  | zero =>
    intro _
    refine Ev.succ ?_
    simp only [nat_Cmp.l0, if_neg (show ¬ ((0 : Nat) : Int) - 1 ≥ 0 by omega)]
    exact Ev.cast (Ev.some _) (by simp [cmpZ])
  | succ n ih =>
    intro hn
    refine Ev.succ ?_
    rw [cmp_step ha hb n]
    simp only [nat_Cmp.l0, show ((n + 1 : Nat) : Int) - 1 = (n : Int) from by omega, if_pos (show (n : Int) ≥ 0 by omega), if_pos (show (0 : Int) ≤ (n : Int) by omega), if_pos (show (n : Int) < (a.length : Int) by omega), if_pos (show (n : Int) < (b.length : Int) by omega), w64 (x := (n : Int) - 1) (by omega) (by omega)]
    by_cases h : rd a (n : Int) < rd b (n : Int)
    · simp only [if_pos h]; exact Ev.some _
    · simp only [if_neg h]
      by_cases g : rd b (n : Int) < rd a (n : Int)
      · simp only [if_pos g, if_pos (show rd a (n : Int) > rd b (n : Int) from g)]; exact Ev.some _
      · simp only [if_neg g, if_neg (show ¬ rd a (n : Int) > rd b (n : Int) from g)]; exact ih (by omega)
theorem ncmp_ev {a b : Nat} (h1 : (dg a).length < 268435456) (h2 : (dg b).length < 268435456) : Ev (fun k => nat_Cmp.f k (dg a) (dg b)) (cmpZ (a : Int) (b : Int)) := by
  simp only [nat_Cmp.f]
  refine Ev.bind (short_ev (lm_dg a) (by omega)) ?_
  refine Ev.bind (short_ev (lm_dg b) (by omega)) ?_
  rw [lv_dg, lv_dg, Int.toNat_natCast, Int.toNat_natCast]
  by_cases h : (dg a).length = (dg b).length
  · simp only [if_pos (show ((dg a).length : Int) = ((dg b).length : Int) by omega), w64 (x := ((dg a).length : Int) - 1) (by omega) (by omega)]
    have := ncmp_loop (lm_dg a) (lm_dg b) (by omega) h _ (Nat.le_refl _)
    rw [List.take_of_length_le (Nat.le_refl _), List.take_of_length_le (by omega), lv_dg, lv_dg] at this
    exact this
  · simp only [if_neg (show ¬ ((dg a).length : Int) = ((dg b).length : Int) by omega)]
    by_cases g : (dg a).length < (dg b).length
    · simp only [if_pos (show ((dg a).length : Int) < ((dg b).length : Int) by omega)]
      have hlt : a < b := by
        by_cases e : b ≤ a
        · have := dg_len_mono e; omega
        · omega
      exact Ev.cast (Ev.some _) (by unfold cmpZ; rw [if_pos (by omega)])
    · simp only [if_neg (show ¬ ((dg a).length : Int) < ((dg b).length : Int) by omega)]
      have hlt : b < a := by
        by_cases e : a ≤ b
        · have := dg_len_mono e; omega
        · omega
      exact Ev.cast (Ev.some _) (by unfold cmpZ; rw [if_neg (by omega), if_pos (by omega)])
theorem rcmp_loop {a b : List Int} (ha : Lm a) (hb : Lm b) : ∀ n : Nat, n < 1073741824 → Ev (fun k => codewrightref01_Cmp.l0 k a b ((n : Int) - 1)) (cmpZ (lv (a.take n)) (lv (b.take n))) := by
  intro n
  induction n with
  | zero =>
    intro _
    refine Ev.succ ?_
    simp only [codewrightref01_Cmp.l0, if_neg (show ¬ ((0 : Nat) : Int) - 1 ≥ 0 by omega)]
    exact Ev.cast (Ev.some _) (by simp [cmpZ])
  | succ n ih =>
    intro hn
    refine Ev.succ ?_
    rw [cmp_step ha hb n]
    simp only [codewrightref01_Cmp.l0, show ((n + 1 : Nat) : Int) - 1 = (n : Int) from by omega, if_pos (show (n : Int) ≥ 0 by omega), limb_eq ha, limb_eq hb, Option.bind_some, w64 (x := (n : Int) - 1) (by omega) (by omega)]
    by_cases h : rd a (n : Int) < rd b (n : Int)
    · simp only [if_pos h]; exact Ev.some _
    · simp only [if_neg h]
      by_cases g : rd b (n : Int) < rd a (n : Int)
      · simp only [if_pos g, if_pos (show rd a (n : Int) > rd b (n : Int) from g)]; exact Ev.some _
      · simp only [if_neg g, if_neg (show ¬ rd a (n : Int) > rd b (n : Int) from g)]; exact ih (by omega)
theorem rcmp_ev {a b : Nat} (h1 : (dg a).length < 268435456) (h2 : (dg b).length < 268435456) : Ev (fun k => codewrightref01_Cmp.f k (dg a) (dg b)) (cmpZ (a : Int) (b : Int)) := by
  simp only [codewrightref01_Cmp.f]
  have hm : mx ((dg a).length : Int) ((dg b).length : Int) = ((max (dg a).length (dg b).length : Nat) : Int) := by unfold mx; split <;> omega
  rw [hm, w64 (x := ((max (dg a).length (dg b).length : Nat) : Int) - 1) (by clear hm; omega) (by clear hm; omega)]
  have := rcmp_loop (lm_dg a) (lm_dg b) (max (dg a).length (dg b).length) (by clear hm; omega)
  rw [List.take_of_length_le (by clear hm; omega), List.take_of_length_le (by clear hm; omega), lv_dg, lv_dg] at this
  exact this
theorem sub_low {a b c : Int} (ha0 : 0 ≤ a) (ha1 : a < 4294967296) (hb0 : 0 ≤ b) (hb1 : b < 4294967296) (hc0 : 0 ≤ c) (hc1 : c ≤ 1) :
    IntKind.u64.wrap (IntKind.u64.wrap (IntKind.u64.wrap a - c) - IntKind.u64.wrap b) % 4294967296 = (a - c - b) % 4294967296 := by
  simp only [u64m]; omega
theorem sub_high {a b c : Int} (ha0 : 0 ≤ a) (ha1 : a < 4294967296) (hb0 : 0 ≤ b) (hb1 : b < 4294967296) (hc0 : 0 ≤ c) (hc1 : c ≤ 1) :
    IntKind.u64.wrap (IntKind.u64.wrap (IntKind.u64.wrap a - c) - IntKind.u64.wrap b) / 9223372036854775808 = -((a - c - b) / 4294967296) := by
  simp only [u64m]; omega
theorem sub_low0 {a c : Int} (ha0 : 0 ≤ a) (ha1 : a < 4294967296) (hc0 : 0 ≤ c) (hc1 : c ≤ 1) : IntKind.u64.wrap (IntKind.u64.wrap a - c) % 4294967296 = (a - c - 0) % 4294967296 := by
  simp only [u64m]; omega
theorem sub_high0 {a c : Int} (ha0 : 0 ≤ a) (ha1 : a < 4294967296) (hc0 : 0 ≤ c) (hc1 : c ≤ 1) : IntKind.u64.wrap (IntKind.u64.wrap a - c) / 9223372036854775808 = -((a - c - 0) / 4294967296) := by
  simp only [u64m]; omega
theorem sub_bounds {a b c : Int} (ha0 : 0 ≤ a) (ha1 : a < 4294967296) (hb0 : 0 ≤ b) (hb1 : b < 4294967296) (hc0 : 0 ≤ c) (hc1 : c ≤ 1) :
    0 ≤ (a - c - b) % 4294967296 ∧ (a - c - b) % 4294967296 < 4294967296 ∧ 0 ≤ -((a - c - b) / 4294967296) ∧ -((a - c - b) / 4294967296) ≤ 1 ∧ (a - c - b) % 4294967296 = a - c - b + 4294967296 * -((a - c - b) / 4294967296) := by omega
theorem nsub_loop {a b : List Int} (ha : Lm a) (hb : Lm b) (hlen : a.length < 1073741824) (hba : b.length ≤ a.length) (hle : lv b ≤ lv a) : ∀ (d i : Nat) (o : List Int) (c : Int), i + d = a.length → o.length = a.length → Lm o → 0 ≤ c → c ≤ 1 → (∀ j : Nat, i ≤ j → rd o (j : Int) = rd a (j : Int)) →
    Aside0 (lv o = lv a - lv (b.take i) + (bp i : Int) * c) → Ev (fun k => nat_Sub.l0 k b o c (a.length : Int) (i : Int)) (dg (lv a - lv b).toNat, 0) := by
  intro d
  induction d with
  | zero =>
    intro i o c hi ho hol hc0 hc1 hr hv
    have hi : i = a.length := by omega
    subst hi
    refine Ev.succ ?_
    simp only [nat_Sub.l0, if_neg (show ¬ ((a.length : Nat) : Int) < (a.length : Int) by omega)]
    refine Ev.bind (short_ev hol (by omega)) ?_
    refine Ev.cast (Ev.some _) ?_
    have hv := hv.out
    rw [List.take_of_length_le hba] at hv
    have h1 := lv_le_of_len hol (m := a.length) (by omega)
    have h2 := lv_nonneg hol
    have hc : c = 0 := by
      by_cases e : c = 1
      · subst e; rw [Int.mul_one] at hv; omega
      · omega
    subst hc
    rw [hv, Int.mul_zero, Int.add_zero]
  | succ d ih =>
    intro i o c hi ho hol hc0 hc1 hr hv
    have hia : i < a.length := by omega
    have ra := rd_lm ha (i : Int)
    have rb := rd_lm hb (i : Int)
    have hri := hr i (Nat.le_refl _)
    have step : Ev (fun k => nat_Sub.l0 k b (o.set ((i : Int)).toNat ((rd a (i : Int) - c - rd b (i : Int)) % 4294967296)) (-((rd a (i : Int) - c - rd b (i : Int)) / 4294967296)) (a.length : Int) ((i + 1 : Nat) : Int)) (dg (lv a - lv b).toNat, 0) := by
      have sb := sub_bounds ra.1 ra.2 rb.1 rb.2 hc0 hc1
      rw [Int.toNat_natCast]
      refine ih (i + 1) _ _ (by omega) (by rw [List.length_set]; exact ho) (lm_set hol sb.1 sb.2.1) sb.2.2.1 sb.2.2.2.1 (fun j hj => ?_) ⟨?_⟩
      · rw [rd_set_ne _ (by omega)]; exact hr j (by omega)
      · rw [lv_set _ (by omega), lv_take_any, bp_succ, Int.natCast_mul, sb.2.2.2.2, hri, hv.out]
        generalize -((rd a (i : Int) - c - rd b (i : Int)) / 4294967296) = u at *
        generalize (bp i : Int) = p at *
        generalize rd a (i : Int) = x at *
        generalize rd b (i : Int) = y at *
        show lv a - lv (b.take i) + p * c + p * (x - c - y + 4294967296 * u - x) = lv a - (lv (b.take i) + p * y) + 4294967296 * p * u
        grind
    refine Ev.succ ?_
    by_cases hib : i < b.length
    · simp only [nat_Sub.l0, wn (show (i : Int) + 1 = ((i + 1 : Nat) : Int) by omega) (by omega), if_pos (show (i : Int) < (a.length : Int) by omega), if_pos (show (0 : Int) ≤ (i : Int) by omega), if_pos (show (i : Int) < (o.length : Int) by omega), if_pos (show (i : Int) < (b.length : Int) by omega), hri, sub_low ra.1 ra.2 rb.1 rb.2 hc0 hc1, sub_high ra.1 ra.2 rb.1 rb.2 hc0 hc1]
      exact step
    · have hb0 : rd b (i : Int) = 0 := rd_ge (by omega)
      rw [hb0] at step
      simp only [nat_Sub.l0, wn (show (i : Int) + 1 = ((i + 1 : Nat) : Int) by omega) (by omega), if_pos (show (i : Int) < (a.length : Int) by omega), if_pos (show (0 : Int) ≤ (i : Int) by omega), if_pos (show (i : Int) < (o.length : Int) by omega), if_neg (show ¬ (i : Int) < (b.length : Int) by omega), hri, sub_low0 ra.1 ra.2 hc0 hc1, sub_high0 ra.1 ra.2 hc0 hc1]
      exact step
theorem nsub_ev {a b : Nat} (h1 : (dg a).length < 268435456) (hab : b ≤ a) : Ev (fun k => nat_Sub.f k (dg a) (dg b)) (dg (a - b), 0) := by
  have hl := dg_len_mono hab
  simp only [nat_Sub.f]
  refine Ev.bind (ncmp_ev (by omega) (by omega)) ?_
  have hc : ¬ cmpZ (a : Int) (b : Int) < 0 := by unfold cmpZ; rw [if_neg (by omega)]; split <;> omega
  simp only [if_neg hc]
  refine Ev.bind (trim2_ev (by omega)) ?_
  refine Ev.cast (nsub_loop (lm_dg a) (lm_dg b) (by omega) hl (by rw [lv_dg, lv_dg]; omega) (dg a).length 0 _ 0 (by omega) rfl (lm_dg a) (by omega) (by omega) (fun j _ => rfl) ⟨by simp [lv_nil]⟩) ?_
  rw [lv_dg, lv_dg]
  congr 2
  omega
theorem rsub_sum {a b c : Int} (ha0 : 0 ≤ a) (ha1 : a < 4294967296) (hb0 : 0 ≤ b) (hb1 : b < 4294967296) (hc0 : 0 ≤ c) (hc1 : c ≤ 1) :
    IntKind.u64.wrap (IntKind.u64.wrap (IntKind.u64.wrap (a + 4294967296) - b) - c) = a + 4294967296 - b - c := by
  rw [u64w (x := a + 4294967296) (by omega) (by omega), u64w (x := a + 4294967296 - b) (by omega) (by omega), u64w (by omega) (by omega)]
theorem rsub_loop {a b : List Int} (ha : Lm a) (hb : Lm b) (hlen : a.length < 1073741824) (hba : b.length ≤ a.length) (hle : lv b ≤ lv a) : ∀ (d i : Nat) (o : List Int) (c : Int), i + d = a.length → o.length = i → Lm o → 0 ≤ c → c ≤ 1 →
    Aside0 (lv o = lv (a.take i) - lv (b.take i) + (bp i : Int) * c) → Ev (fun k => codewrightref01_Sub.l0 k a b o c (i : Int)) (dg (lv a - lv b).toNat) := by
  intro d
  induction d with
  | zero =>
    intro i o c hi ho hol hc0 hc1 hv
    have hi : i = a.length := by omega
    subst hi
    refine Ev.succ ?_
    simp only [codewrightref01_Sub.l0, if_neg (show ¬ ((a.length : Nat) : Int) < (a.length : Int) by omega)]
    refine Ev.bind (rtrim_ev hol (by omega)) ?_
    refine Ev.cast (Ev.some _) ?_
    have hv := hv.out
    rw [List.take_of_length_le (Nat.le_refl _), List.take_of_length_le hba] at hv
    have h1 := lv_le_of_len hol (m := a.length) (by omega)
    have h2 := lv_nonneg hol
    have hc : c = 0 := by
      by_cases e : c = 1
      · subst e; rw [Int.mul_one] at hv; omega
      · omega
    subst hc
    rw [hv, Int.mul_zero, Int.add_zero]
  | succ d ih =>
    intro i o c hi ho hol hc0 hc1 hv
    have hia : i < a.length := by omega
    have ra := rd_lm ha (i : Int)
    have rb := rd_lm hb (i : Int)
    have hsd : ∃ s, s = rd a (i : Int) + 4294967296 - rd b (i : Int) - c := ⟨_, rfl⟩
    obtain ⟨s, hs⟩ := hsd
    have hs0 : 0 ≤ s := by omega
    have hs1 : s < 8589934592 := by omega
    refine Ev.succ ?_
    simp only [codewrightref01_Sub.l0, limb_eq ha, limb_eq hb, Option.bind_some, if_pos (show (i : Int) < (a.length : Int) by omega), if_pos (show o.length < 35184372088832 by omega), rsub_sum ra.1 ra.2 rb.1 rb.2 hc0 hc1, ← hs, tmod_nn 4294967296 hs0, tdiv_nn 4294967296 hs0, wn (show (i : Int) + 1 = ((i + 1 : Nat) : Int) by omega) (by omega), u64w (x := s / 4294967296) (by omega) (by omega), u64w (x := 1 - s / 4294967296) (by omega) (by omega), show s % 4294967296 % 4294967296 = s % 4294967296 by omega]
    refine ih (i + 1) _ _ (by omega) (by rw [List.length_append]; simp [ho]) (lm_append hol (lm_cons.mpr ⟨by omega, lm_nil⟩)) (by omega) (by omega) ⟨?_⟩
    rw [lv_append, lv_cons, lv_nil, ho, lv_take_any, lv_take_any, bp_succ, Int.natCast_mul, hv.out]
    have hdiv : s % 4294967296 + 4294967296 * (s / 4294967296) = rd a (i : Int) + 4294967296 - rd b (i : Int) - c := by rw [split_div]; exact hs
    clear ih hs hs0 hs1 ra rb hc0 hc1 hv
    generalize s % 4294967296 = y at *
    generalize s / 4294967296 = u at *
    generalize (bp i : Int) = p at *
    generalize rd a (i : Int) = x at *
    generalize rd b (i : Int) = z at *
    generalize lv (a.take i) = la at *
    generalize lv (b.take i) = lb at *
    show la - lb + p * c + p * (y + 4294967296 * 0) = la + p * x - (lb + p * z) + 4294967296 * p * (1 - u)
    have h3 : p * (y + 4294967296 * u) = p * (x + 4294967296 - z - c) := by rw [hdiv]
    grind
theorem rsub_ev {a b : Nat} (h1 : (dg a).length < 268435456) (hab : b ≤ a) : Ev (fun k => codewrightref01_Sub.f k (dg a) (dg b)) (dg (a - b)) := by
  have hl := dg_len_mono hab
  simp only [codewrightref01_Sub.f]
  refine Ev.cast (rsub_loop (lm_dg a) (lm_dg b) (by omega) hl (by rw [lv_dg, lv_dg]; omega) (dg a).length 0 [] 0 (by omega) rfl lm_nil (by omega) (by omega) ⟨by simp [lv_nil]⟩) ?_
  rw [lv_dg, lv_dg]
  congr 1
  omega
end Mw
end
section
set_option linter.unusedVariables false
set_option linter.unusedSimpArgs false
namespace Mw
open Go Go.RowKit Go.Proofs.YtifkbghnmhineaaW.PrintWords Go.Proofs.YtifkbghnmhineaaW.PrintLast Go.Proofs.YtifkbghnmhineaaW.PrintMore Go.Proofs.Ytifkbghnmhineaa.PAll
theorem bitLen_ge : ∀ (b x : Nat), x < 4294967296 → x ≠ 0 → Lib.bitLen x = b + 1 → 2 ^ b ≤ x := by
  intro b
  induction b with
  | zero => intro x _ h0 _; rw [Nat.pow_zero]; omega
  | succ b ih =>
    intro x hx h0 hb
    rw [Lib.bitLen_half x h0 (by omega)] at hb
    have h2 : x / 2 ≠ 0 := by intro e; rw [e, bitLen_zero] at hb; omega
    have := ih (x / 2) (by omega) h2 (by omega)
    rw [Nat.pow_succ]
    omega
theorem bl_bounds {n : Nat} (h : n ≠ 0) : 2 ^ (bl n - 1) ≤ n ∧ n < 2 ^ bl n ∧ 1 ≤ bl n := by
  have hp : (dg n).length ≠ 0 := by rw [Ne, dg_len_zero]; exact h
  obtain ⟨m, hm⟩ : ∃ m, (dg n).length = m + 1 := ⟨(dg n).length - 1, by omega⟩
  have hb : bl n = 32 * m + Lib.bitLen (rd (dg n) (m : Int)).toNat := by unfold bl; rw [if_neg h, hm]; rfl
  have hr := rd_lm (lm_dg n) (m : Int)
  have ht := dg_head hm.symm
  obtain ⟨x, hx⟩ : ∃ x : Nat, rd (dg n) (m : Int) = (x : Int) := ⟨(rd (dg n) (m : Int)).toNat, by omega⟩
  have hv : lv (dg n) = lv ((dg n).take m) + (bp m : Int) * (x : Int) := by
    have := lv_take_succ (l := dg n) (i := m) (by omega)
    rw [← hm, List.take_of_length_le (Nat.le_refl _), hx] at this
    exact this
  have hlow := take_bound (lm_dg n) m
  rw [lv_dg] at hv
  rw [hx] at hr ht hb
  rw [Int.toNat_natCast] at hb
  have hx0 : x ≠ 0 := by omega
  have hx1 : x < 4294967296 := by omega
  obtain ⟨c, hc⟩ : ∃ c, Lib.bitLen x = c + 1 := ⟨Lib.bitLen x - 1, by have := bitLen_pos hx0 hx1; omega⟩
  have h1 := bitLen_ge c x hx1 hx0 hc
  have h2 := bitLen_lt (c + 1) x hx1 (by omega)
  obtain ⟨y, hy⟩ : ∃ y : Nat, lv ((dg n).take m) = (y : Int) := ⟨(lv ((dg n).take m)).toNat, by omega⟩
  rw [hy] at hlow hv
  have hn : n = y + bp m * x := by
    have : ((n : Nat) : Int) = ((y + bp m * x : Nat) : Int) := by rw [hv, Int.natCast_add, Int.natCast_mul]
    omega
  have hy2 : y < bp m := by omega
  rw [hb, hc]
  refine ⟨?_, ?_, by omega⟩
  · rw [show 32 * m + (c + 1) - 1 = 32 * m + c by omega, Nat.pow_add, pow2_bp]
    have := Nat.mul_le_mul_left (bp m) h1
    omega
  · rw [Nat.pow_add, pow2_bp]
    have h3 : bp m * (x + 1) ≤ bp m * 2 ^ (c + 1) := Nat.mul_le_mul_left _ (by omega)
    rw [Nat.mul_add, Nat.mul_one] at h3
    omega
theorem shl_limb {x c : Int} {m : Nat} (hx0 : 0 ≤ x) (hx1 : x < 4294967296) (hm : m < 32) (hc0 : 0 ≤ c) (hc1 : c < 4294967296) :
    IntKind.u64.wrap (shl .u64 (IntKind.u64.wrap x) (m : Int) + c) = x * ((2 ^ m : Nat) : Int) + c ∧ 0 ≤ x * ((2 ^ m : Nat) : Int) + c ∧ x * ((2 ^ m : Nat) : Int) + c < 18446744073709551616 := by
  have hp : 2 ^ m ≤ 2147483648 := Nat.pow_le_pow_right (n := 2) (by decide) (show m ≤ 31 by omega)
  have hb : x * ((2 ^ m : Nat) : Int) ≤ 4294967295 * 2147483648 := Int.mul_le_mul (by omega) (Int.ofNat_le.mpr hp) (Int.natCast_nonneg _) (by decide)
  have h0 : 0 ≤ x * ((2 ^ m : Nat) : Int) := Int.mul_nonneg hx0 (Int.natCast_nonneg _)
  have e : shl .u64 (IntKind.u64.wrap x) (m : Int) = x * ((2 ^ m : Nat) : Int) := by
    unfold shl
    rw [u64w (x := x) hx0 (by omega), Int.toNat_natCast, Nat.min_eq_left (show m ≤ IntKind.u64.bits by simp [IntKind.bits]; omega)]
    rw [show (2 : Int) ^ m = ((2 ^ m : Nat) : Int) by rw [Int.natCast_pow]; rfl]
    exact u64w h0 (by omega)
  rw [e]
  generalize x * ((2 ^ m : Nat) : Int) = y at *
  exact ⟨u64w (by omega) (by omega), by omega, by omega⟩
theorem rshift_loop {a : List Int} {n m z : Nat} (ha : Lm a) (hla : a.length < 268435456) (hz : z < 268435456) (hnm : Int.tmod (n : Int) 32 = (m : Int)) (hm : m < 32) : ∀ (d i : Nat) (o : List Int) (c : Int), i + d = a.length → o.length = z + i → Lm o → 0 ≤ c → c < 4294967296 →
    Aside0 (lv o + (bp (z + i) : Int) * c = (bp z : Int) * (lv (a.take i) * ((2 ^ m : Nat) : Int))) → Ev (fun k => codewrightref01_shift.l0 k a (n : Int) o c (i : Int)) (dg ((bp z : Int) * (lv a * ((2 ^ m : Nat) : Int))).toNat) := by
  intro d
  induction d with
  | zero =>
    intro i o c hi ho hol hc0 hc1 hv
    have hi : i = a.length := by omega
    subst hi
    refine Ev.succ ?_
    simp only [codewrightref01_shift.l0, if_neg (show ¬ ((a.length : Nat) : Int) < (a.length : Int) by omega), if_pos (show o.length < 35184372088832 by omega)]
    have hl : Lm (o ++ [c % 4294967296]) := lm_append hol (lm_cons.mpr ⟨by omega, lm_nil⟩)
    refine Ev.bind (rtrim_ev hl (by rw [List.length_append]; simp; omega)) ?_
    refine Ev.cast (Ev.some _) ?_
    have hv := hv.out
    rw [List.take_of_length_le (Nat.le_refl _)] at hv
    rw [lv_append, lv_cons, lv_nil, ho, show c % 4294967296 = c by omega, Int.mul_zero, Int.add_zero, hv]
  | succ d ih =>
    intro i o c hi ho hol hc0 hc1 hv
    have hia : i < a.length := by omega
    have ra := rd_lm ha (i : Int)
    have sl := shl_limb ra.1 ra.2 hm hc0 hc1
    refine Ev.succ ?_
    simp only [codewrightref01_shift.l0, hnm, sl.1, if_pos (show (i : Int) < (a.length : Int) by omega), if_pos (show (0 : Int) ≤ (i : Int) by omega), if_pos (show (0 : Int) ≤ (m : Int) by omega), if_pos (show o.length < 35184372088832 by omega), wn (show (i : Int) + 1 = ((i + 1 : Nat) : Int) by omega) (by omega), tmod_nn 4294967296 sl.2.1, tdiv_nn 4294967296 sl.2.1]
    have hsd : ∃ s, s = rd a (i : Int) * ((2 ^ m : Nat) : Int) + c := ⟨_, rfl⟩
    obtain ⟨s, hs⟩ := hsd
    have hs0 : 0 ≤ s := by rw [hs]; exact sl.2.1
    have hs1 : s < 18446744073709551616 := by rw [hs]; exact sl.2.2
    clear sl
    rw [← hs]
    have hd := div_bound hs0 hs1
    have hs := Aside0.mk hs
    rw [show s % 4294967296 % 4294967296 = s % 4294967296 by omega]
    rw [u64w (x := s / 4294967296) hd.2.2.1 (by omega)]
    refine ih (i + 1) _ _ (by omega) (by rw [List.length_append]; simp [ho]; omega) (lm_append hol (lm_cons.mpr ⟨⟨hd.1, hd.2.1⟩, lm_nil⟩)) hd.2.2.1 hd.2.2.2 ⟨?_⟩
    have hdiv : s % 4294967296 + 4294967296 * (s / 4294967296) = rd a (i : Int) * ((2 ^ m : Nat) : Int) + c := by rw [split_div]; exact hs.out
    rw [lv_append, lv_cons, lv_nil, ho, lv_take_any, ← Nat.add_assoc, bp_succ, Int.natCast_mul]
    have hv := hv.out
    have hbp : ((bp (z + i) : Nat) : Int) = (bp z : Int) * (bp i : Int) := by rw [bp_add, Int.natCast_mul]
    clear ih hs hs0 hs1 hd ra hc0 hc1 hnm hm
    generalize s % 4294967296 = y at *
    generalize s / 4294967296 = u at *
    generalize (bp (z + i) : Int) = p at *
    generalize (bp z : Int) = pz at *
    generalize (bp i : Int) = pi at *
    generalize rd a (i : Int) = x at *
    generalize ((2 ^ m : Nat) : Int) = P at *
    generalize lv (a.take i) = la at *
    generalize lv o = lo at *
    subst hbp
    show lo + pz * pi * (y + 4294967296 * 0) + 4294967296 * (pz * pi) * u = pz * ((la + pi * x) * P)
    have h3 : pz * pi * (y + 4294967296 * u) = pz * pi * (x * P + c) := by rw [hdiv]
    grind
theorem rshift_ev {a n : Nat} (ha : (dg a).length < 134217728) (hn : n < 4294967296) : Ev (fun k => codewrightref01_shift.f k (dg a) (n : Int)) (dg (a * 2 ^ n)) := by
  have h1 : Int.tdiv (n : Int) 32 = ((n / 32 : Nat) : Int) := by rw [Int.tdiv_eq_ediv_of_nonneg (by omega)]; rfl
  have h2 : Int.tmod (n : Int) 32 = ((n % 32 : Nat) : Int) := by rw [Int.tmod_eq_emod_of_nonneg (by omega)]; rfl
  have h3 : wrap64 ((n / 32 : Nat) : Int) = ((n / 32 : Nat) : Int) := wn rfl (by clear h1 h2; omega)
  simp only [codewrightref01_shift.f, h1, h3, if_pos (show (0 : Int) ≤ ((n / 32 : Nat) : Int) by omega), Int.toNat_natCast, if_pos (show n / 32 ≤ 70368744177664 by clear h1 h2 h3; omega)]
  clear h1 h3
  refine Ev.cast (rshift_loop (z := n / 32) (lm_dg a) (by clear h2; omega) (by clear h2; omega) h2 (by clear h2; omega) (dg a).length 0 _ 0 (by omega) (by simp) (lm_rep _) (by omega) (by omega) ⟨by rw [lv_rep]; simp [lv_nil]⟩) ?_
  clear h2
  rw [lv_dg, ← Int.natCast_mul, ← Int.natCast_mul, Int.toNat_natCast]
  congr 1
  rw [← pow2_bp, Nat.mul_left_comm, ← Nat.pow_add]
  congr 2
  omega
theorem pow2_len (i : Nat) : (dg (2 ^ i)).length ≤ i / 32 + 1 := by
  refine dg_len_le ?_
  rw [← pow2_bp]
  exact Nat.pow_lt_pow_right (by decide) (by omega)
theorem rdivmod_loop {a b : Nat} (hb : b ≠ 0) (hla : (dg a).length < 1048576) (hlb : (dg b).length < 1048576) : ∀ (n : Nat), n < 67108864 → ∀ (quo rem : Nat), quo * b + rem = a → rem < b * 2 ^ n →
    Ev (fun k => codewrightref01_DivMod.l0 k (dg b) (dg quo) (dg rem) ((n : Int) - 1)) (dg (a / b), dg (a % b)) := by
  intro n
  induction n with
  | zero =>
    intro _ quo rem h1 h2
    rw [Nat.pow_zero, Nat.mul_one] at h2
    have hq : a / b = quo := by
      rw [← h1, Nat.mul_comm, Nat.mul_add_div (by omega), Nat.div_eq_of_lt h2, Nat.add_zero]
    have hr : a % b = rem := by
      rw [← h1, Nat.mul_comm, Nat.mul_add_mod, Nat.mod_eq_of_lt h2]
    have hql : (dg quo).length ≤ (dg a).length := dg_len_mono (by
      rw [← hq]; exact Nat.div_le_self _ _)
    refine Ev.succ ?_
    simp only [codewrightref01_DivMod.l0, if_neg (show ¬ ((0 : Nat) : Int) - 1 ≥ 0 by omega)]
    refine Ev.bind (rtrim2_ev (by omega)) ?_
    rw [hq, hr]
    exact Ev.some _
  | succ n ih =>
    intro hn quo rem h1 h2
    have hql : (dg quo).length ≤ (dg a).length := dg_len_mono (by
      have : quo * 1 ≤ quo * b := Nat.mul_le_mul_left _ (by omega)
      omega)
    have hrl : (dg rem).length ≤ (dg a).length := dg_len_mono (by omega)
    have hp := pow2_len n
    have ht := mul_len b (2 ^ n)
    refine Ev.succ ?_
    simp only [codewrightref01_DivMod.l0, show ((n + 1 : Nat) : Int) - 1 = (n : Int) from by omega, if_pos (show (n : Int) ≥ 0 by omega), w64 (x := (n : Int) - 1) (by omega) (by omega)]
    refine Ev.bind (rshift_ev (by omega) (by omega)) ?_
    refine Ev.bind (rcmp_ev (by omega) (by omega)) ?_
    by_cases h : b * 2 ^ n ≤ rem
    · have hc : cmpZ (rem : Int) ((b * 2 ^ n : Nat) : Int) ≥ 0 := by
        unfold cmpZ
        rw [if_neg (by omega)]
        split <;> omega
      simp only [if_pos hc]
      refine Ev.bind (rsub_ev (by omega) h) ?_
      rw [show ([1] : List Int) = dg 1 from dg_one.symm]
      refine Ev.bind (rshift_ev (by rw [dg_one]; simp) (by omega)) ?_
      rw [Nat.one_mul]
      refine Ev.bind (radd2_ev (by omega) (by omega)) ?_
      refine ih (by omega) _ _ ?_ ?_
      · rw [Nat.add_mul, Nat.mul_comm (2 ^ n) b]
        generalize b * 2 ^ n = t at *
        omega
      · rw [Nat.pow_succ, ← Nat.mul_assoc] at h2
        generalize b * 2 ^ n = t at *
        omega
    · have hc : ¬ cmpZ (rem : Int) ((b * 2 ^ n : Nat) : Int) ≥ 0 := by
        unfold cmpZ
        rw [if_pos (by omega)]
        omega
      simp only [if_neg hc]
      exact ih (by omega) quo rem h1 (by omega)
theorem bl_le (n : Nat) : bl n ≤ 32 * (dg n).length := by
  by_cases h : n = 0
  · subst h; rw [bl_zero.mpr rfl]; omega
  · have hb := bl_bounds h
    have h1 := dg_lt_len n
    rw [← pow2_bp] at h1
    have h2 : bl n - 1 < 32 * (dg n).length := by
      refine (Nat.pow_lt_pow_iff_right (a := 2) (by decide)).mp (Nat.lt_of_le_of_lt hb.1 h1)
    omega
theorem rdivmod_ev {a b : Nat} (hb : b ≠ 0) (hla : (dg a).length < 1048576) (hlb : (dg b).length < 1048576) : Ev (fun k => codewrightref01_DivMod.f k (dg a) (dg b)) (dg (a / b), dg (a % b)) := by
  simp only [codewrightref01_DivMod.f]
  refine Ev.bind (rtrim2_ev (by omega)) ?_
  refine Ev.bind (rbits_ev (by omega)) ?_
  refine Ev.bind (rbits_ev (by omega)) ?_
  have ba := bl_le a
  have bb := bl_le b
  have hbb := bl_bounds hb
  rw [show ([] : List Int) = dg 0 from dg_zero.symm]
  by_cases h : bl b ≤ bl a
  · rw [show wrap64 (((bl a : Nat) : Int) - ((bl b : Nat) : Int)) = ((bl a - bl b + 1 : Nat) : Int) - 1 from by rw [w64 (by omega) (by omega)]; omega]
    refine rdivmod_loop hb hla hlb _ (by omega) 0 a (by omega) ?_
    by_cases ha : a = 0
    · subst ha; exact Nat.mul_pos (by omega) (Nat.two_pow_pos _)
    · have hba := bl_bounds ha
      refine Nat.lt_of_lt_of_le hba.2.1 ?_
      rw [show bl a = (bl b - 1) + (bl a - bl b + 1) by omega, Nat.pow_add]
      rw [show (bl b - 1) + (bl a - bl b + 1) - bl b + 1 = bl a - bl b + 1 by omega]
      exact Nat.mul_le_mul_right _ hbb.1
  · rw [show wrap64 (((bl a : Nat) : Int) - ((bl b : Nat) : Int)) = -((bl b - bl a : Nat) : Int) from by rw [w64 (by omega) (by omega)]; omega]
    have hlt : a < b := by
      by_cases ha : a = 0
      · omega
      · have hba := bl_bounds ha
        refine Nat.lt_of_lt_of_le hba.2.1 (Nat.le_trans ?_ hbb.1)
        exact Nat.pow_le_pow_right (by decide) (by omega)
    refine Ev.succ ?_
    simp only [codewrightref01_DivMod.l0, if_neg (show ¬ -((bl b - bl a : Nat) : Int) ≥ 0 by omega)]
    refine Ev.bind (rtrim2_ev (by rw [dg_zero]; simp)) ?_
    rw [Nat.div_eq_of_lt hlt, Nat.mod_eq_of_lt hlt]
    exact Ev.some _
end Mw
end
