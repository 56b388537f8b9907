/- What functions of the program do and come to, for the statement MacwilliamsGenerating, part 4. Conditions: as each theorem says. -/
import Derived.Test.YtifkbghnmhineaaQGenerating3

namespace Go.Proofs.Ytifkbghnmhineaa.PAll
open Go.RowKit Go.Proofs.YtifkbghnmhineaaW.PrintWords Go.Proofs.YtifkbghnmhineaaW.PrintLast Go.Proofs.YtifkbghnmhineaaW.PrintMore
attribute [local go_sem] max2_int min2_int max_two min_two max_three min_three max_four min_four
set_option linter.unusedVariables false
set_option linter.unusedSimpArgs false
set_option maxHeartbeats 8000000 in
set_option maxRecDepth 100000 in
theorem codewrightlaw24_MacwilliamsGenerating.calls (k : Nat) (a0 : Int) (a1 : Int) (a2 : Int) (a3 : Int) (r : Bool) (w : World) (h : codewrightlaw24_MacwilliamsGenerating.f k a0 a1 a2 a3 = some r) :
    Calls Try.prog 10 #[.int .u8 a0, .int .u8 a1, .int .u8 a2, .int .i8 a3] w fun e w' => e = .returned (.bool r) ∧ Below w.heap.size w w' := by
 have hu60 := Try.underlying60
 have HB := Aside0.mk (Below.refl w.heap.size w)
 have H : (if a0 < 2 then (codewrightlaw24_MacwilliamsGenerating.j0 k a0 a1 a2 a3 true) else (if a1 > 32 then (codewrightlaw24_MacwilliamsGenerating.j0 k a0 a1 a2 a3 true) else (codewrightlaw24_MacwilliamsGenerating.j0 k a0 a1 a2 a3 (decide (a2 > a1))))) = some r := h
 clear h
 have HC5 := Aside0.mk H
 clear H
 go_enter Try.func10, Try.ntmps10
 go_upto_region 1 with (fail)
 go_cut [28] (fun v28 wc => ∃ (kq : Nat) (x28_4 : Bool), v28 = .bool x28_4 ∧ Aside0 (codewrightlaw24_MacwilliamsGenerating.j0 kq a0 a1 a2 a3 x28_4 = some r) ∧ Aside0 (kq ≤ k) ∧ Aside0 (Below w.heap.size w wc))
 case first =>
  have H := HC5.out
  clear HC5
  replace H := zi H
  rcases H with ⟨c6, H⟩ | ⟨c6, H⟩
  · have c6b0 := decide_eq_true c6
    clear c6
    (first | rw [c6b0] | (simp only [i64_w, i32_w]; rw [c6b0]) | rw [c6b1] | skip)
    have H' := Aside0.mk H
    clear H
    go_wp2
    go_meet
    case rel => exact ⟨_, (true), zF, H', ⟨zO⟩, ⟨zB HB.out⟩⟩
  have c6b0 := decide_eq_false c6
  clear c6
  (first | rw [c6b0] | (simp only [i64_w, i32_w]; rw [c6b0]) | rw [c6b1] | skip)
  replace H := zi H
  rcases H with ⟨c7, H⟩ | ⟨c7, H⟩
  · have c7b0 : decide (32 < a1) = true := decide_eq_true c7
    clear c7
    have H' := Aside0.mk H
    clear H
    go_wp2
    go_meet
    case rel => exact ⟨_, (true), zF, H', ⟨zO⟩, ⟨zB HB.out⟩⟩
  have c7b0 : decide (32 < a1) = false := decide_eq_false c7
  clear c7
  have H' := Aside0.mk H
  clear H
  go_wp2
  go_meet
  case rel => exact ⟨_, (decide (a2 > a1)), zF, H', ⟨zO⟩, ⟨zB HB.out⟩⟩
 clear HC5
 (try clear c1);(try clear p2);(try clear c6);(try clear c6b0);(try clear c6b1);(try clear c7);(try clear c7b0)
 obtain ⟨kq, x28_4, rfl, HA, HJ4, HB⟩ := hcut
 cases kq with | zero => exact absurd HA.out (by simp [codewrightlaw24_MacwilliamsGenerating.j0]) | succ kj4 => ?_
 have H := HA.out
 clear HA
 simp only [codewrightlaw24_MacwilliamsGenerating.j0] at H
 by_cases c8 : x28_4 = true
 · subst c8
   rw [if_pos rfl] at H
   obtain rfl := Option.some.inj H
   go_wp2
   go_ret
   exact ⟨zE, zB HB.out⟩
 replace c8 := Bool.eq_false_iff.mpr c8
 subst c8
 rw [if_neg Bool.false_ne_true] at H
 replace H := zb H
 obtain ⟨⟨t101, t102, t105⟩, A9, H⟩ := H
 dsimp only at H
 replace H := zb H
 obtain ⟨⟨t109, t110, t113⟩, A10, H⟩ := H
 dsimp only at H
 have H' := Aside0.mk H
 clear H
 go_wp2_with (first | ((with_reducible refine gate_callee (f := 48) rfl ?_); refine zG (some 29) Try.func48 #[.int .i64 0] ?_; (with_reducible refine (codewrightref02_Int.calls kj4 0 t101 t102 t105 _ A9.out).mono ?_); rintro e w11 ⟨v103, v106, rfl, ho0, ho1, hb⟩; refine ⟨_, rfl, ?_⟩; have HO104 := yRl ho0 HB; have HO107 := yRl ho1 HB; replace HB := yS HB hb; (try clear hb ho0); (try clear ho1)) | ((with_reducible refine gate_dst (N := 9) rfl ?_); refine box_event ?hg (N := 9) ?hd (cs := #[.bool false, .slice none 0 0, .slice none 0 0]) (t := 60) ?hr ?_; (case hd => rfl); (case hg => rfl); (case hr => first | (go_simp; done) | (go_simp; rfl)); intro gb108 hg w12 hbox hb; replace HO104 := yRb HO104 hb; replace HO107 := yRb HO107 hb; have BK108 := Aside0.mk (hbox); have GW108 := yg hg HB; have GE108 := yg hg HB; replace HB := yS HB hb; clear hb hbox hg; have hcz13_0 : w12.cell? ⟨gb108, 0, none⟩ = some (.bool false) := (blk_cell BK108.out 0).trans rfl; have hcz13_1 : w12.cell? ⟨gb108, 1, none⟩ = some (.slice none 0 0) := (blk_cell BK108.out 1).trans rfl; have hcz13_2 : w12.cell? ⟨gb108, 2, none⟩ = some (.slice none 0 0) := (blk_cell BK108.out 2).trans rfl; have hfz13_0 := blk_frozen BK108.out 0; have hfz13_1 := blk_frozen BK108.out 1; have hfz13_2 := blk_frozen BK108.out 2; obtain ⟨Ao14, co14, rfl⟩ := Kd.R_slice HO104.out; obtain ⟨Ao15, co15, rfl⟩ := Kd.R_slice HO107.out) | ((with_reducible refine gate_callee (f := 48) rfl ?_); refine zG (some 30) Try.func48 #[.int .i64 1] ?_; (with_reducible refine (codewrightref02_Int.calls kj4 1 t109 t110 t113 _ A10.out).mono ?_); rintro e w16 ⟨v111, v114, rfl, ho0, ho1, hb⟩; refine ⟨_, rfl, ?_⟩; have HO112 := Aside0.mk (Kd.R_lower (Kd.R_new' (Kd.R_new' ho0 (Kd.R_lt (by (with_reducible repeat (first | apply Kd.R_alloc | apply Kd.R_drewN | apply Kd.R_drew)); exact (yf HO104.out BK108.out (fun _ h_ => h_.1))))) (Kd.R_lt (by (with_reducible repeat (first | apply Kd.R_alloc | apply Kd.R_drewN | apply Kd.R_drew)); exact (yf HO107.out BK108.out (fun _ h_ => h_.1))))) (below_size (zB1 HB.out GE108.out))); have HO115 := Aside0.mk (Kd.R_lower (Kd.R_new' (Kd.R_new' ho1 (Kd.R_lt (by (with_reducible repeat (first | apply Kd.R_alloc | apply Kd.R_drewN | apply Kd.R_drew)); exact (yf HO104.out BK108.out (fun _ h_ => h_.1))))) (Kd.R_lt (by (with_reducible repeat (first | apply Kd.R_alloc | apply Kd.R_drewN | apply Kd.R_drew)); exact (yf HO107.out BK108.out (fun _ h_ => h_.1))))) (below_size (zB1 HB.out GE108.out))); replace HO104 := Aside0.mk (Kd.R_mono (Kd.R_told (Kd.R_told (Kd.R_old (by (with_reducible repeat (first | apply Kd.R_alloc | apply Kd.R_drewN | apply Kd.R_drew)); exact (yf HO104.out BK108.out (fun _ h_ => h_.1))) hb) (Kd.R_base ho0)) (Kd.R_base ho1)) (fun _ h_ => h_.1)); replace HO107 := Aside0.mk (Kd.R_mono (Kd.R_told (Kd.R_told (Kd.R_old (by (with_reducible repeat (first | apply Kd.R_alloc | apply Kd.R_drewN | apply Kd.R_drew)); exact (yf HO107.out BK108.out (fun _ h_ => h_.1))) hb) (Kd.R_base ho0)) (Kd.R_base ho1)) (fun _ h_ => h_.1)); replace BK108 := Aside0.mk (blk_below (g := gb108) (o := .cells #[.bool t101, .slice Ao14 t102.length co14, .slice Ao15 t105.length co15] 60 (0, 0)) (by (with_reducible repeat (first | refine blk_drewN ?_ _ | refine blk_drew ?_ | refine blk_alloc ?_ _)); refine blk_put (cs := #[.bool t101, .slice Ao14 t102.length co14, .slice none 0 0]) ?_ 2 _ rfl; (with_reducible repeat (first | refine blk_drewN ?_ _ | refine blk_drew ?_ | refine blk_alloc ?_ _)); refine blk_put (cs := #[.bool t101, .slice none 0 0, .slice none 0 0]) ?_ 1 _ rfl; (with_reducible repeat (first | refine blk_drewN ?_ _ | refine blk_drew ?_ | refine blk_alloc ?_ _)); refine blk_put (cs := #[.bool false, .slice none 0 0, .slice none 0 0]) ?_ 0 _ rfl; (with_reducible repeat (first | refine blk_drewN ?_ _ | refine blk_drew ?_ | refine blk_alloc ?_ _)); exact BK108.out) hb); replace HB := yS1 HB GE108 hb; (try clear hb ho0); (try clear ho1)) | ((with_reducible refine gate_dst (N := 10) rfl ?_); refine box_event ?hg (N := 10) ?hd (cs := #[.bool false, .slice none 0 0, .slice none 0 0]) (t := 60) ?hr ?_; (case hd => rfl); (case hg => rfl); (case hr => first | (go_simp; done) | (go_simp; rfl)); intro gb116 hg w17 hbox hb; replace HO104 := yRb HO104 hb; replace HO107 := yRb HO107 hb; replace HO112 := yRb HO112 hb; replace HO115 := yRb HO115 hb; have BK116 := Aside0.mk (hbox); have GW116 := yg1 hg HB GE108; have GE116 := yg1 hg HB GE108; replace HB := yS1 HB GE108 hb; have NB108_116 := ynl hg BK108; have NB116_108 := yng hg BK108; replace BK108 := yK BK108 hb; clear hb hbox hg; have hnb18 := NB116_108.out; have hnc18 := NB108_116.out; have hcz19_0 : w17.cell? ⟨gb116, 0, none⟩ = some (.bool false) := (blk_cell BK116.out 0).trans rfl; have hcz19_1 : w17.cell? ⟨gb116, 1, none⟩ = some (.slice none 0 0) := (blk_cell BK116.out 1).trans rfl; have hcz19_2 : w17.cell? ⟨gb116, 2, none⟩ = some (.slice none 0 0) := (blk_cell BK116.out 2).trans rfl; have hfz19_0 := blk_frozen BK116.out 0; have hfz19_1 := blk_frozen BK116.out 1; have hfz19_2 := blk_frozen BK116.out 2; obtain ⟨Ao20, co20, rfl⟩ := Kd.R_slice HO112.out; obtain ⟨Ao21, co21, rfl⟩ := Kd.R_slice HO115.out))
 go_loopg [11] kj4 (fun kq v11 w' => ∃ (x11_2 : Int) (x109000_2 : Bool) (x109001_2 : List Int) (x109002_2 : List Int) (x117000_2 : Bool) (x117001_2 : List Int) (x117002_2 : List Int) (u109001 : Value) (u109002 : Value) (u117001 : Value) (u117002 : Value), v11 = .int .i64 x11_2 ∧ Aside0 (codewrightlaw24_MacwilliamsGenerating.l0 kq a0 a1 a2 a3 x11_2 x109000_2 x109001_2 x109002_2 x117000_2 x117001_2 x117002_2 = some r) ∧ Aside0 (kq ≤ kj4) ∧ Aside0 (Kd.R (Kd.int .u32) 97 w' w.heap.size (fun k_ => some k_ ≠ (u109002 : Value).ownBlock ∧ some k_ ≠ (u117001 : Value).ownBlock ∧ some k_ ≠ (u117002 : Value).ownBlock) u109001 x109001_2) ∧ Aside0 (Kd.R (Kd.int .u32) 97 w' w.heap.size (fun k_ => some k_ ≠ (u109001 : Value).ownBlock ∧ some k_ ≠ (u117001 : Value).ownBlock ∧ some k_ ≠ (u117002 : Value).ownBlock) u109002 x109002_2) ∧ Aside0 (Kd.R (Kd.int .u32) 97 w' w.heap.size (fun k_ => some k_ ≠ (u109001 : Value).ownBlock ∧ some k_ ≠ (u109002 : Value).ownBlock ∧ some k_ ≠ (u117002 : Value).ownBlock) u117001 x117001_2) ∧ Aside0 (Kd.R (Kd.int .u32) 97 w' w.heap.size (fun k_ => some k_ ≠ (u109001 : Value).ownBlock ∧ some k_ ≠ (u109002 : Value).ownBlock ∧ some k_ ≠ (u117001 : Value).ownBlock) u117002 x117002_2) ∧ Aside0 (w'.heap[gb108]? = some (.cells #[.bool x109000_2, u109001, u109002] 60 (0, 0))) ∧ Aside0 (w'.heap[gb116]? = some (.cells #[.bool x117000_2, u117001, u117002] 60 (0, 0))) ∧ Aside0 (Below w.heap.size w w'))
 case atStart => exact ⟨(0), (t101), (t102), (t105), (t109), (t110), (t113), (.slice Ao14 t102.length co14), (.slice Ao15 t105.length co15), (.slice Ao20 t110.length co20), (.slice Ao21 t113.length co21), zF, H', ⟨Nat.le_refl _⟩, ⟨by (with_reducible repeat (first | apply Kd.R_alloc | apply Kd.R_drewN | apply Kd.R_drew)); exact yf HO104.out BK116.out (fun _ hk => ⟨hk.1.1.1, ⟨hk.1.1.2, hk.1.2⟩⟩)⟩, ⟨by (with_reducible repeat (first | apply Kd.R_alloc | apply Kd.R_drewN | apply Kd.R_drew)); exact yf HO107.out BK116.out (fun _ hk => ⟨hk.1.1.1, ⟨hk.1.1.2, hk.1.2⟩⟩)⟩, ⟨by (with_reducible repeat (first | apply Kd.R_alloc | apply Kd.R_drewN | apply Kd.R_drew)); exact yf HO112.out BK116.out (fun _ hk => ⟨hk.1.1.2, ⟨hk.1.2, hk.1.1.1⟩⟩)⟩, ⟨by (with_reducible repeat (first | apply Kd.R_alloc | apply Kd.R_drewN | apply Kd.R_drew)); exact yf HO115.out BK116.out (fun _ hk => ⟨hk.1.1.2, ⟨hk.1.2, hk.1.1.1⟩⟩)⟩, ⟨by (with_reducible repeat (first | refine blk_drewN ?_ _ | refine blk_drew ?_ | refine blk_alloc ?_ _)); refine blk_far ?_ NB108_116.out _; (with_reducible repeat (first | refine blk_drewN ?_ _ | refine blk_drew ?_ | refine blk_alloc ?_ _)); refine blk_far ?_ NB108_116.out _; (with_reducible repeat (first | refine blk_drewN ?_ _ | refine blk_drew ?_ | refine blk_alloc ?_ _)); refine blk_far ?_ NB108_116.out _; (with_reducible repeat (first | refine blk_drewN ?_ _ | refine blk_drew ?_ | refine blk_alloc ?_ _)); exact BK108.out⟩, ⟨by (with_reducible repeat (first | refine blk_drewN ?_ _ | refine blk_drew ?_ | refine blk_alloc ?_ _)); refine blk_put (cs := #[.bool t109, .slice Ao20 t110.length co20, .slice none 0 0]) ?_ 2 _ rfl; (with_reducible repeat (first | refine blk_drewN ?_ _ | refine blk_drew ?_ | refine blk_alloc ?_ _)); refine blk_put (cs := #[.bool t109, .slice none 0 0, .slice none 0 0]) ?_ 1 _ rfl; (with_reducible repeat (first | refine blk_drewN ?_ _ | refine blk_drew ?_ | refine blk_alloc ?_ _)); refine blk_put (cs := #[.bool false, .slice none 0 0, .slice none 0 0]) ?_ 0 _ rfl; (with_reducible repeat (first | refine blk_drewN ?_ _ | refine blk_drew ?_ | refine blk_alloc ?_ _)); exact BK116.out⟩, ⟨zB2 HB.out GE108.out GE116.out⟩⟩
 clear H'
 (try clear c1);(try clear p2);(try clear c4);(try clear c6);(try clear c6b0);(try clear c6b1);(try clear c7);(try clear c7b0);(try clear c8);(try clear c10);(try clear c18);(try clear hcz13_0);(try clear hcz13_1);(try clear hcz13_2);(try clear hcz19_0);(try clear hcz19_1);(try clear hcz19_2);(try clear hfz13_0);(try clear hfz13_1);(try clear hfz13_2);(try clear hfz19_0);(try clear hfz19_1);(try clear hfz19_2)
 obtain ⟨x11_2, x109000_2, x109001_2, x109002_2, x117000_2, x117001_2, x117002_2, u109001, u109002, u117001, u117002, rfl, HA, HK2, HO_109001, HO_109002, HO_117001, HO_117002, BK108, BK116, HB⟩ := hrel
 cases gk with | zero => exact absurd HA.out (by simp [codewrightlaw24_MacwilliamsGenerating.l0]) | succ k2 => ?_
 have H := HA.out
 clear HA
 simp only [codewrightlaw24_MacwilliamsGenerating.l0] at H
 replace H := zi H
 rcases H with ⟨c22, H⟩ | ⟨c22, H⟩
 · have c22b0 := decide_eq_true c22
   clear c22
   replace H := zb H
   obtain ⟨⟨t117, t118, t121, t124⟩, A23, H⟩ := H
   dsimp only at H
   by_cases c24 : t124 = true
   · subst c24
     rw [if_pos rfl] at H
     replace H := zb H
     obtain ⟨⟨t126, t127, t130⟩, A25, H⟩ := H
     dsimp only at H
     replace H := zb H
     obtain ⟨⟨t133, t134, t137⟩, A26, H⟩ := H
     dsimp only at H
     replace H := zb H
     obtain ⟨⟨t140, t141, t144⟩, A27, H⟩ := H
     dsimp only at H
     replace H := zb H
     obtain ⟨⟨t147, t148, t151⟩, A28, H⟩ := H
     dsimp only at H
     have H' := Aside0.mk H
     clear H
     try go_wp2_with (first | ((with_reducible refine gate_callee (f := 49) rfl ?_); refine zG (some 45) Try.func49 #[.int .i64 (wrap64 (a0)), .int .i64 (wrap64 (a1)), .int .i64 x11_2, .int .i64 (wrap64 (a2))] ?_; (with_reducible refine (codewrightlaw24_k.calls k2 (wrap64 (a0)) (wrap64 (a1)) x11_2 (wrap64 (a2)) t117 t118 t121 true _ A23.out).mono ?_); rintro e w29 ⟨v119, v122, rfl, ho0, ho1, hb⟩; refine ⟨_, rfl, ?_⟩; have HO120 := Aside0.mk (Kd.V_lower (Kd.V_mono (ok' := fun k_ => some k_ ≠ (u109001 : Value).ownBlock ∧ some k_ ≠ (u109002 : Value).ownBlock ∧ some k_ ≠ (u117001 : Value).ownBlock ∧ some k_ ≠ (u117002 : Value).ownBlock ∧ k_ ≠ gb108 ∧ k_ ≠ gb116) ho0 (fun k_ hk_ => ⟨(Kd.fresh' (Kd.R_lt (zR HO_109001.out)) k_ hk_), (Kd.fresh' (Kd.R_lt (zR HO_109002.out)) k_ hk_), (Kd.fresh' (Kd.R_lt (zR HO_117001.out)) k_ hk_), (Kd.fresh' (Kd.R_lt (zR HO_117002.out)) k_ hk_), (Kd.freshB (g := gb108) (o := .cells #[.bool x109000_2, u109001, u109002] 60 (0, 0)) (by (with_reducible repeat (first | refine blk_drewN ?_ _ | refine blk_drew ?_ | refine blk_alloc ?_ _)); exact BK108.out) k_ hk_), (Kd.freshB (g := gb116) (o := .cells #[.bool x117000_2, u117001, u117002] 60 (0, 0)) (by (with_reducible repeat (first | refine blk_drewN ?_ _ | refine blk_drew ?_ | refine blk_alloc ?_ _)); exact BK116.out) k_ hk_)⟩)) (below_size (zB2 HB.out GE108.out GE116.out))); have HO123 := Aside0.mk (Kd.V_lower (Kd.V_mono (ok' := fun k_ => some k_ ≠ (u109001 : Value).ownBlock ∧ some k_ ≠ (u109002 : Value).ownBlock ∧ some k_ ≠ (u117001 : Value).ownBlock ∧ some k_ ≠ (u117002 : Value).ownBlock ∧ k_ ≠ gb108 ∧ k_ ≠ gb116) ho1 (fun k_ hk_ => ⟨(Kd.fresh' (Kd.R_lt (zR HO_109001.out)) k_ hk_), (Kd.fresh' (Kd.R_lt (zR HO_109002.out)) k_ hk_), (Kd.fresh' (Kd.R_lt (zR HO_117001.out)) k_ hk_), (Kd.fresh' (Kd.R_lt (zR HO_117002.out)) k_ hk_), (Kd.freshB (g := gb108) (o := .cells #[.bool x109000_2, u109001, u109002] 60 (0, 0)) (by (with_reducible repeat (first | refine blk_drewN ?_ _ | refine blk_drew ?_ | refine blk_alloc ?_ _)); exact BK108.out) k_ hk_), (Kd.freshB (g := gb116) (o := .cells #[.bool x117000_2, u117001, u117002] 60 (0, 0)) (by (with_reducible repeat (first | refine blk_drewN ?_ _ | refine blk_drew ?_ | refine blk_alloc ?_ _)); exact BK116.out) k_ hk_)⟩)) (below_size (zB2 HB.out GE108.out GE116.out))); replace HO_109001 := yRb HO_109001 hb; replace HO_109002 := yRb HO_109002 hb; replace HO_117001 := yRb HO_117001 hb; replace HO_117002 := yRb HO_117002 hb; replace BK108 := yK BK108 hb; replace BK116 := yK BK116 hb; replace HB := yS2 HB GE108 GE116 hb; (try clear hb ho0); (try clear ho1)) | ((with_reducible refine gate_dst (N := 12) rfl ?_); refine box_event ?hg (N := 12) ?hd (cs := #[.bool false, .slice none 0 0, .slice none 0 0]) (t := 60) ?hr ?_; (case hd => rfl); (case hg => rfl); (case hr => first | (go_simp; done) | (go_simp; rfl)); intro gb125 hg w30 hbox hb; replace HO_109001 := yRb HO_109001 hb; replace HO_109002 := yRb HO_109002 hb; replace HO_117001 := yRb HO_117001 hb; replace HO_117002 := yRb HO_117002 hb; replace HO120 := yVB HO120 hg hb; replace HO123 := yVB HO123 hg hb; have BK125 := Aside0.mk (hbox); have GW125 := yg2 hg HB GE108 GE116; have GE125 := yg2 hg HB GE108 GE116; replace HB := yS2 HB GE108 GE116 hb; have NB108_125 := ynl hg BK108; have NB125_108 := yng hg BK108; replace BK108 := yK BK108 hb; have NB116_125 := ynl hg BK116; have NB125_116 := yng hg BK116; replace BK116 := yK BK116 hb; clear hb hbox hg; have hnb31 := NB125_108.out; have hnc31 := NB108_125.out; have hnb32 := NB125_116.out; have hnc32 := NB116_125.out; have hcz33_0 : w30.cell? ⟨gb125, 0, none⟩ = some (.bool false) := (blk_cell BK125.out 0).trans rfl; have hcz33_1 : w30.cell? ⟨gb125, 1, none⟩ = some (.slice none 0 0) := (blk_cell BK125.out 1).trans rfl; have hcz33_2 : w30.cell? ⟨gb125, 2, none⟩ = some (.slice none 0 0) := (blk_cell BK125.out 2).trans rfl; have hfz33_0 := blk_frozen BK125.out 0; have hfz33_1 := blk_frozen BK125.out 1; have hfz33_2 := blk_frozen BK125.out 2; obtain ⟨Ao34, co34, rfl⟩ := Kd.V_slice HO120.out; obtain ⟨Ao35, co35, rfl⟩ := Kd.V_slice HO123.out))
     have n0_ : Aside0 (Kd.R (Kd.int .u32) 97 (((w30.setCell ⟨gb125, 0, none⟩ (.bool t117)).setCell ⟨gb125, 1, none⟩ (.slice Ao34 t118.length co34)).setCell ⟨gb125, 2, none⟩ (.slice Ao35 t121.length co35)) w.heap.size (fun k_ => some k_ ≠ (u109002 : Value).ownBlock ∧ some k_ ≠ (u117001 : Value).ownBlock ∧ some k_ ≠ (u117002 : Value).ownBlock) u109001 x109001_2) := ⟨by (with_reducible repeat (first | apply Kd.R_alloc | apply Kd.R_drewN | apply Kd.R_drew)); exact yf HO_109001.out BK125.out (fun _ hk => ⟨hk.1.1, ⟨hk.1.2.1, hk.1.2.2⟩⟩)⟩
     have n1_ : Aside0 (Kd.R (Kd.int .u32) 97 (((w30.setCell ⟨gb125, 0, none⟩ (.bool t117)).setCell ⟨gb125, 1, none⟩ (.slice Ao34 t118.length co34)).setCell ⟨gb125, 2, none⟩ (.slice Ao35 t121.length co35)) w.heap.size (fun k_ => some k_ ≠ (u109001 : Value).ownBlock ∧ some k_ ≠ (u117001 : Value).ownBlock ∧ some k_ ≠ (u117002 : Value).ownBlock) u109002 x109002_2) := ⟨by (with_reducible repeat (first | apply Kd.R_alloc | apply Kd.R_drewN | apply Kd.R_drew)); exact yf HO_109002.out BK125.out (fun _ hk => ⟨hk.1.1, ⟨hk.1.2.1, hk.1.2.2⟩⟩)⟩
     have n2_ : Aside0 (Kd.R (Kd.int .u32) 97 (((w30.setCell ⟨gb125, 0, none⟩ (.bool t117)).setCell ⟨gb125, 1, none⟩ (.slice Ao34 t118.length co34)).setCell ⟨gb125, 2, none⟩ (.slice Ao35 t121.length co35)) w.heap.size (fun k_ => some k_ ≠ (u109001 : Value).ownBlock ∧ some k_ ≠ (u109002 : Value).ownBlock ∧ some k_ ≠ (u117002 : Value).ownBlock) u117001 x117001_2) := ⟨by (with_reducible repeat (first | apply Kd.R_alloc | apply Kd.R_drewN | apply Kd.R_drew)); exact yf HO_117001.out BK125.out (fun _ hk => ⟨hk.1.1, ⟨hk.1.2.1, hk.1.2.2⟩⟩)⟩
     have n3_ : Aside0 (Kd.R (Kd.int .u32) 97 (((w30.setCell ⟨gb125, 0, none⟩ (.bool t117)).setCell ⟨gb125, 1, none⟩ (.slice Ao34 t118.length co34)).setCell ⟨gb125, 2, none⟩ (.slice Ao35 t121.length co35)) w.heap.size (fun k_ => some k_ ≠ (u109001 : Value).ownBlock ∧ some k_ ≠ (u109002 : Value).ownBlock ∧ some k_ ≠ (u117001 : Value).ownBlock) u117002 x117002_2) := ⟨by (with_reducible repeat (first | apply Kd.R_alloc | apply Kd.R_drewN | apply Kd.R_drew)); exact yf HO_117002.out BK125.out (fun _ hk => ⟨hk.1.1, ⟨hk.1.2.1, hk.1.2.2⟩⟩)⟩
     have n4_ : Aside0 (Kd.V (Kd.int .u32) 97 (((w30.setCell ⟨gb125, 0, none⟩ (.bool t117)).setCell ⟨gb125, 1, none⟩ (.slice Ao34 t118.length co34)).setCell ⟨gb125, 2, none⟩ (.slice Ao35 t121.length co35)) w.heap.size (fun k_ => some k_ ≠ (u109001 : Value).ownBlock ∧ some k_ ≠ (u109002 : Value).ownBlock ∧ some k_ ≠ (u117001 : Value).ownBlock ∧ some k_ ≠ (u117002 : Value).ownBlock ∧ k_ ≠ gb108 ∧ k_ ≠ gb116 ∧ k_ ≠ gb125) (.slice Ao34 t118.length co34) t118) := ⟨by (with_reducible repeat (first | apply Kd.V_alloc | apply Kd.V_drewN | apply Kd.V_drew)); exact Kd.V_mono (Kd.V_far (p := ⟨gb125, 2, none⟩) (Kd.V_far (p := ⟨gb125, 1, none⟩) (Kd.V_far (p := ⟨gb125, 0, none⟩) (Kd.V_mono HO120.out (fun k_ hk => (⟨hk, hk.2⟩ : _ ∧ k_ ≠ gb125))) (fun _ hk => hk.2) (.bool t117)) (fun _ hk => hk.2) (.slice Ao34 t118.length co34)) (fun _ hk => hk.2) (.slice Ao35 t121.length co35)) (fun _ hk => ⟨hk.1.1.1, ⟨hk.1.1.2.1, ⟨hk.1.1.2.2.1, ⟨hk.1.1.2.2.2.1, ⟨hk.1.1.2.2.2.2.1, ⟨hk.1.1.2.2.2.2.2, hk.1.2⟩⟩⟩⟩⟩⟩)⟩
     have n5_ : Aside0 (Kd.V (Kd.int .u32) 97 (((w30.setCell ⟨gb125, 0, none⟩ (.bool t117)).setCell ⟨gb125, 1, none⟩ (.slice Ao34 t118.length co34)).setCell ⟨gb125, 2, none⟩ (.slice Ao35 t121.length co35)) w.heap.size (fun k_ => some k_ ≠ (u109001 : Value).ownBlock ∧ some k_ ≠ (u109002 : Value).ownBlock ∧ some k_ ≠ (u117001 : Value).ownBlock ∧ some k_ ≠ (u117002 : Value).ownBlock ∧ k_ ≠ gb108 ∧ k_ ≠ gb116 ∧ k_ ≠ gb125) (.slice Ao35 t121.length co35) t121) := ⟨by (with_reducible repeat (first | apply Kd.V_alloc | apply Kd.V_drewN | apply Kd.V_drew)); exact Kd.V_mono (Kd.V_far (p := ⟨gb125, 2, none⟩) (Kd.V_far (p := ⟨gb125, 1, none⟩) (Kd.V_far (p := ⟨gb125, 0, none⟩) (Kd.V_mono HO123.out (fun k_ hk => (⟨hk, hk.2⟩ : _ ∧ k_ ≠ gb125))) (fun _ hk => hk.2) (.bool t117)) (fun _ hk => hk.2) (.slice Ao34 t118.length co34)) (fun _ hk => hk.2) (.slice Ao35 t121.length co35)) (fun _ hk => ⟨hk.1.1.1, ⟨hk.1.1.2.1, ⟨hk.1.1.2.2.1, ⟨hk.1.1.2.2.2.1, ⟨hk.1.1.2.2.2.2.1, ⟨hk.1.1.2.2.2.2.2, hk.1.2⟩⟩⟩⟩⟩⟩)⟩
     have n6_ : Aside0 ((((w30.setCell ⟨gb125, 0, none⟩ (.bool t117)).setCell ⟨gb125, 1, none⟩ (.slice Ao34 t118.length co34)).setCell ⟨gb125, 2, none⟩ (.slice Ao35 t121.length co35)).heap[gb108]? = some (.cells #[.bool x109000_2, u109001, u109002] 60 (0, 0))) := ⟨by (with_reducible repeat (first | refine blk_drewN ?_ _ | refine blk_drew ?_ | refine blk_alloc ?_ _)); refine blk_far ?_ NB108_125.out _; (with_reducible repeat (first | refine blk_drewN ?_ _ | refine blk_drew ?_ | refine blk_alloc ?_ _)); refine blk_far ?_ NB108_125.out _; (with_reducible repeat (first | refine blk_drewN ?_ _ | refine blk_drew ?_ | refine blk_alloc ?_ _)); refine blk_far ?_ NB108_125.out _; (with_reducible repeat (first | refine blk_drewN ?_ _ | refine blk_drew ?_ | refine blk_alloc ?_ _)); exact BK108.out⟩
     have n7_ : Aside0 ((((w30.setCell ⟨gb125, 0, none⟩ (.bool t117)).setCell ⟨gb125, 1, none⟩ (.slice Ao34 t118.length co34)).setCell ⟨gb125, 2, none⟩ (.slice Ao35 t121.length co35)).heap[gb116]? = some (.cells #[.bool x117000_2, u117001, u117002] 60 (0, 0))) := ⟨by (with_reducible repeat (first | refine blk_drewN ?_ _ | refine blk_drew ?_ | refine blk_alloc ?_ _)); refine blk_far ?_ NB116_125.out _; (with_reducible repeat (first | refine blk_drewN ?_ _ | refine blk_drew ?_ | refine blk_alloc ?_ _)); refine blk_far ?_ NB116_125.out _; (with_reducible repeat (first | refine blk_drewN ?_ _ | refine blk_drew ?_ | refine blk_alloc ?_ _)); refine blk_far ?_ NB116_125.out _; (with_reducible repeat (first | refine blk_drewN ?_ _ | refine blk_drew ?_ | refine blk_alloc ?_ _)); exact BK116.out⟩
     have n8_ : Aside0 ((((w30.setCell ⟨gb125, 0, none⟩ (.bool t117)).setCell ⟨gb125, 1, none⟩ (.slice Ao34 t118.length co34)).setCell ⟨gb125, 2, none⟩ (.slice Ao35 t121.length co35)).heap[gb125]? = some (.cells #[.bool t117, .slice Ao34 t118.length co34, .slice Ao35 t121.length co35] 60 (0, 0))) := ⟨by (with_reducible repeat (first | refine blk_drewN ?_ _ | refine blk_drew ?_ | refine blk_alloc ?_ _)); refine blk_put (cs := #[.bool t117, .slice Ao34 t118.length co34, .slice none 0 0]) ?_ 2 _ rfl; (with_reducible repeat (first | refine blk_drewN ?_ _ | refine blk_drew ?_ | refine blk_alloc ?_ _)); refine blk_put (cs := #[.bool t117, .slice none 0 0, .slice none 0 0]) ?_ 1 _ rfl; (with_reducible repeat (first | refine blk_drewN ?_ _ | refine blk_drew ?_ | refine blk_alloc ?_ _)); refine blk_put (cs := #[.bool false, .slice none 0 0, .slice none 0 0]) ?_ 0 _ rfl; (with_reducible repeat (first | refine blk_drewN ?_ _ | refine blk_drew ?_ | refine blk_alloc ?_ _)); exact BK125.out⟩
     have n9_ : Aside0 (Below w.heap.size w (((w30.setCell ⟨gb125, 0, none⟩ (.bool t117)).setCell ⟨gb125, 1, none⟩ (.slice Ao34 t118.length co34)).setCell ⟨gb125, 2, none⟩ (.slice Ao35 t121.length co35))) := ⟨zB3 HB.out GE108.out GE116.out GE125.out⟩
     (try clear HO_109001)
     (try clear HO_109002)
     (try clear HO_117001)
     (try clear HO_117002)
     (try clear HO120)
     (try clear HO123)
     (try clear BK108)
     (try clear BK116)
     (try clear BK125)
     (try clear HB)
     generalize (((w30.setCell ⟨gb125, 0, none⟩ (.bool t117)).setCell ⟨gb125, 1, none⟩ (.slice Ao34 t118.length co34)).setCell ⟨gb125, 2, none⟩ (.slice Ao35 t121.length co35)) = w36 at n0_ n1_ n2_ n3_ n4_ n5_ n6_ n7_ n8_ n9_ ⊢
     have HO_109001 := n0_
     have HO_109002 := n1_
     have HO_117001 := n2_
     have HO_117002 := n3_
     have HO120 := n4_
     have HO123 := n5_
     have BK108 := n6_
     have BK116 := n7_
     have BK125 := n8_
     have HB := n9_
     clear n0_ n1_ n2_ n3_ n4_ n5_ n6_ n7_ n8_ n9_
     replace HO_109001 := Aside0.mk (Kd.R_drew HO_109001.out)
     replace HO_109002 := Aside0.mk (Kd.R_drew HO_109002.out)
     replace HO_117001 := Aside0.mk (Kd.R_drew HO_117001.out)
     replace HO_117002 := Aside0.mk (Kd.R_drew HO_117002.out)
     replace HO120 := Aside0.mk (Kd.V_drew HO120.out)
     replace HO123 := Aside0.mk (Kd.V_drew HO123.out)
     replace BK108 := Aside0.mk (blk_drew BK108.out)
     replace BK116 := Aside0.mk (blk_drew BK116.out)
     replace BK125 := Aside0.mk (blk_drew BK125.out)
     replace HB := Aside0.mk (below_drew1 HB.out)
     obtain ⟨Ao38, co38, eo38⟩ := Kd.R_slice HO_117001.out
     (first | subst eo38 | (injection eo38 with f1_ f2_ f3_; have f4_ := f1_.symm; have f5_ := f3_.symm; clear f1_ f2_ f3_; subst f4_; subst f5_))
     obtain ⟨Ao39, co39, eo39⟩ := Kd.R_slice HO_117002.out
     (first | subst eo39 | (injection eo39 with f1_ f2_ f3_; have f4_ := f1_.symm; have f5_ := f3_.symm; clear f1_ f2_ f3_; subst f4_; subst f5_))
     refine start_ (n := 6) (S := fun w' => w'.cell? ⟨gb108, 0, none⟩ = some (.bool x109000_2) ∧ w'.cell? ⟨gb108, 1, none⟩ = some (u109001) ∧ w'.cell? ⟨gb108, 2, none⟩ = some (u109002) ∧ w'.cell? ⟨gb125, 0, none⟩ = some (.bool t117) ∧ w'.cell? ⟨gb125, 1, none⟩ = some (.slice Ao34 t118.length co34) ∧ w'.cell? ⟨gb125, 2, none⟩ = some (.slice Ao35 t121.length co35) ∧ w'.cell? ⟨gb116, 0, none⟩ = some (.bool x117000_2) ∧ w'.cell? ⟨gb116, 1, none⟩ = some (.slice Ao38 x117001_2.length co38) ∧ w'.cell? ⟨gb116, 2, none⟩ = some (.slice Ao39 x117002_2.length co39)) (ds := [5]) #[false, false, false, false, false, false] (by kernel_rfl) rfl rfl ⟨(blk_cell BK108.out 0).trans rfl, (blk_cell BK108.out 1).trans rfl, (blk_cell BK108.out 2).trans rfl, (blk_cell BK125.out 0).trans rfl, (blk_cell BK125.out 1).trans rfl, (blk_cell BK125.out 2).trans rfl, (blk_cell BK116.out 0).trans rfl, (blk_cell BK116.out 1).trans rfl, (blk_cell BK116.out 2).trans rfl⟩ (fun hHeld => ?_)
     generalize w36.drew = w37 at HO_109001 HO_109002 HO_117001 HO_117002 HO120 HO123 BK108 BK116 BK125 HB hHeld ⊢
     refine take_ (i := 0) (N := some 50) (v := ?_) (a' := ?_) #[true, false, false, false, false, false] rfl rfl (by kernel_rfl) (fun _ _ _ h => h) (Or.inl ⟨by rfl, ?_⟩) hHeld ?_ ?_
     rotate_left
     · rintro w' ⟨s0, s1, s2, s3, s4, s5, s6, s7, s8⟩
       go_simp
       with_reducible rfl
     rotate_left
     · simp only [Act.put, List.setIfInBounds_toArray, List.set_cons_zero, List.set_cons_succ, i64_w, i32_w]
       rfl
     refine take_ (i := 1) (N := some 51) (v := ?_) (a' := ?_) #[true, true, false, false, false, false] rfl rfl (by kernel_rfl) (fun _ _ _ h => h) (Or.inl ⟨by rfl, ?_⟩) hHeld ?_ ?_
     rotate_left
     · rintro w' ⟨s0, s1, s2, s3, s4, s5, s6, s7, s8⟩
       go_simp
       with_reducible rfl
     rotate_left
     · simp only [Act.put, List.setIfInBounds_toArray, List.set_cons_zero, List.set_cons_succ, i64_w, i32_w]
       rfl
     refine take_ (i := 2) (N := some 52) (v := ?_) (a' := ?_) #[true, true, true, false, false, false] rfl rfl (by kernel_rfl) (fun _ _ _ h => h) (Or.inl ⟨by rfl, ?_⟩) hHeld ?_ ?_
     rotate_left
     · rintro w' ⟨s0, s1, s2, s3, s4, s5, s6, s7, s8⟩
       go_simp
       with_reducible rfl
     rotate_left
     · simp only [Act.put, List.setIfInBounds_toArray, List.set_cons_zero, List.set_cons_succ, i64_w, i32_w]
       rfl
     refine one_ (i := 3) (N := some 53) #[true, true, true, true, false, false] rfl rfl (by kernel_rfl) (by decide) (fun K hK => ?_)
     refine goes_ Try.func51 (by kernel_rfl) rfl #[.agg #[.bool t117, .slice Ao34 t118.length co34, .slice Ao35 t121.length co35], .agg #[.bool x117000_2, .slice Ao38 x117001_2.length co38, .slice Ao39 x117002_2.length co39]] (by rfl) rfl rfl (by (try simp only [List.map_toArray, List.map_cons, List.map_nil]); first | done | rfl | (simp only [List.length_drop, List.length_take]; rfl)) ?_
     with_reducible refine (codewrightref02_Mul.calls k2 t117 _ _ t118 _ _ t121 x117000_2 _ _ x117001_2 _ _ x117002_2 t126 t127 t130 _ ?side1 ?side2 ?side3 ?side4 ?side5 ?side6 ?side7 ?side8 A25.out).mono ?_
     (case side1 => exact zC (Kd.V_reads' HO120.out).2.2)
     (case side2 => exact (Kd.V_reads' HO120.out).2.1)
     (case side3 => exact zC (Kd.V_reads' HO123.out).2.2)
     (case side4 => exact (Kd.V_reads' HO123.out).2.1)
     (case side5 => exact zC (Kd.R_reads' HO_117001.out).2.2)
     (case side6 => exact (Kd.R_reads' HO_117001.out).2.1)
     (case side7 => exact zC (Kd.R_reads' HO_117002.out).2.2)
     (case side8 => exact (Kd.R_reads' HO_117002.out).2.1)
     rintro e w40 ⟨v128, v131, rfl, ho0, ho1, hb⟩
     refine ⟨_, rfl, ?_⟩
     replace HO120 := yVt HO120 hb ho0 ho1
     replace HO123 := yVt HO123 hb ho0 ho1
     replace ho0 := yn ho0 HO_109001
     replace ho0 := yn ho0 HO_109002
     replace ho0 := yn ho0 HO_117001
     replace ho0 := yn ho0 HO_117002
     have HO129 := yRl3 ho0 HB GE108 GE116 GE125
     replace ho1 := yn ho1 HO_109001
     replace ho1 := yn ho1 HO_109002
     replace ho1 := yn ho1 HO_117001
     replace ho1 := yn ho1 HO_117002
     have HO132 := yRl3 ho1 HB GE108 GE116 GE125
     replace HO_109001 := yRt HO_109001 hb ho0 ho1
     replace HO_109002 := yRt HO_109002 hb ho0 ho1
     replace HO_117001 := yRt HO_117001 hb ho0 ho1
     replace HO_117002 := yRt HO_117002 hb ho0 ho1
     replace BK108 := yK BK108 hb
     replace BK116 := yK BK116 hb
     replace BK125 := yK BK125 hb
     replace HB := yS3 HB GE108 GE116 GE125 hb
     (try clear hb)
     (try clear hb2)
     (try clear hk)
     (try clear hi)
     (try clear ho0)
     (try clear ho1)
     obtain ⟨Ao41, co41, eo41⟩ := Kd.R_slice HO_109001.out
     (first | subst eo41 | (injection eo41 with f1_ f2_ f3_; have f4_ := f1_.symm; have f5_ := f3_.symm; clear f1_ f2_ f3_; subst f4_; subst f5_))
     obtain ⟨Ao42, co42, eo42⟩ := Kd.R_slice HO_109002.out
     (first | subst eo42 | (injection eo42 with f1_ f2_ f3_; have f4_ := f1_.symm; have f5_ := f3_.symm; clear f1_ f2_ f3_; subst f4_; subst f5_))
     obtain ⟨Ao43, co43, eo43⟩ := Kd.R_slice HO129.out
     (first | subst eo43 | (injection eo43 with f1_ f2_ f3_; have f4_ := f1_.symm; have f5_ := f3_.symm; clear f1_ f2_ f3_; subst f4_; subst f5_))
     obtain ⟨Ao44, co44, eo44⟩ := Kd.R_slice HO132.out
     (first | subst eo44 | (injection eo44 with f1_ f2_ f3_; have f4_ := f1_.symm; have f5_ := f3_.symm; clear f1_ f2_ f3_; subst f4_; subst f5_))
     refine hK.out _ _ ⟨(blk_cell BK108.out 0).trans rfl, (blk_cell BK108.out 1).trans rfl, (blk_cell BK108.out 2).trans rfl, (blk_cell BK125.out 0).trans rfl, (blk_cell BK125.out 1).trans rfl, (blk_cell BK125.out 2).trans rfl, (blk_cell BK116.out 0).trans rfl, (blk_cell BK116.out 1).trans rfl, (blk_cell BK116.out 2).trans rfl⟩ (fun hHeld => ?_)
     clear hK K
     refine norm_ (a' := ?_) ?_ ?_
     rotate_left
     · show Act.put _ (some 53) _ = _
       simp only [Act.put, List.setIfInBounds_toArray, List.set_cons_zero, List.set_cons_succ, i64_w, i32_w]
       rfl
     refine one_ (i := 4) (N := some 54) #[true, true, true, true, true, false] rfl rfl (by kernel_rfl) (by decide) (fun K hK => ?_)
     refine goes_ Try.func50 (by kernel_rfl) rfl #[.agg #[.bool x109000_2, .slice Ao41 x109001_2.length co41, .slice Ao42 x109002_2.length co42], .agg #[.bool t126, .slice Ao43 t127.length co43, .slice Ao44 t130.length co44]] (by rfl) rfl rfl (by (try simp only [List.map_toArray, List.map_cons, List.map_nil]); first | done | rfl | (simp only [List.length_drop, List.length_take]; rfl)) ?_
     with_reducible refine (codewrightref02_Add.calls k2 x109000_2 _ _ x109001_2 _ _ x109002_2 t126 _ _ t127 _ _ t130 t133 t134 t137 _ ?side1 ?side2 ?side3 ?side4 ?side5 ?side6 ?side7 ?side8 A26.out).mono ?_
     (case side1 => exact zC (Kd.R_reads' HO_109001.out).2.2)
     (case side2 => exact (Kd.R_reads' HO_109001.out).2.1)
     (case side3 => exact zC (Kd.R_reads' HO_109002.out).2.2)
     (case side4 => exact (Kd.R_reads' HO_109002.out).2.1)
     (case side5 => exact zC (Kd.R_reads' HO129.out).2.2)
     (case side6 => exact (Kd.R_reads' HO129.out).2.1)
     (case side7 => exact zC (Kd.R_reads' HO132.out).2.2)
     (case side8 => exact (Kd.R_reads' HO132.out).2.1)
     rintro e w45 ⟨v135, v138, rfl, ho0, ho1, hb⟩
     refine ⟨_, rfl, ?_⟩
     replace HO120 := yVt HO120 hb ho0 ho1
     replace HO123 := yVt HO123 hb ho0 ho1
     replace ho0 := yn ho0 HO_109001
     replace ho0 := yn ho0 HO_109002
     replace ho0 := yn ho0 HO_117001
     replace ho0 := yn ho0 HO_117002
     replace ho0 := yn ho0 HO129
     replace ho0 := yn ho0 HO132
     have HO136 := yRl3 ho0 HB GE108 GE116 GE125
     replace ho1 := yn ho1 HO_109001
     replace ho1 := yn ho1 HO_109002
     replace ho1 := yn ho1 HO_117001
     replace ho1 := yn ho1 HO_117002
     replace ho1 := yn ho1 HO129
     replace ho1 := yn ho1 HO132
     have HO139 := yRl3 ho1 HB GE108 GE116 GE125
     replace HO_109001 := yRt HO_109001 hb ho0 ho1
     replace HO_109002 := yRt HO_109002 hb ho0 ho1
     replace HO_117001 := yRt HO_117001 hb ho0 ho1
     replace HO_117002 := yRt HO_117002 hb ho0 ho1
     replace HO129 := yRt HO129 hb ho0 ho1
     replace HO132 := yRt HO132 hb ho0 ho1
     replace BK108 := yK BK108 hb
     replace BK116 := yK BK116 hb
     replace BK125 := yK BK125 hb
     replace HB := yS3 HB GE108 GE116 GE125 hb
     (try clear hb)
     (try clear hb2)
     (try clear hk)
     (try clear hi)
     (try clear ho0)
     (try clear ho1)
     obtain ⟨Ao47, co47, eo47⟩ := Kd.R_slice HO136.out
     (first | subst eo47 | (injection eo47 with f1_ f2_ f3_; have f4_ := f1_.symm; have f5_ := f3_.symm; clear f1_ f2_ f3_; subst f4_; subst f5_))
     obtain ⟨Ao49, co49, eo49⟩ := Kd.R_slice HO139.out
     (first | subst eo49 | (injection eo49 with f1_ f2_ f3_; have f4_ := f1_.symm; have f5_ := f3_.symm; clear f1_ f2_ f3_; subst f4_; subst f5_))
     refine hK.out _ _ ⟨(blk_cell BK108.out 0).trans rfl, (blk_cell BK108.out 1).trans rfl, (blk_cell BK108.out 2).trans rfl, (blk_cell BK125.out 0).trans rfl, (blk_cell BK125.out 1).trans rfl, (blk_cell BK125.out 2).trans rfl, (blk_cell BK116.out 0).trans rfl, (blk_cell BK116.out 1).trans rfl, (blk_cell BK116.out 2).trans rfl⟩ (fun hHeld => ?_)
     clear hK K
     refine norm_ (a' := ?_) ?_ ?_
     rotate_left
     · show Act.put _ (some 54) _ = _
       simp only [Act.put, List.setIfInBounds_toArray, List.set_cons_zero, List.set_cons_succ, i64_w, i32_w]
       rfl
     refine last_ (i := 5) (N := none) #[true, true, true, true, true, true] rfl rfl (by kernel_rfl) (by decide) (fun K hK => ?_)
     have hs46 : w45.cell? ⟨gb108, 0, none⟩ = some (.bool x109000_2) := (blk_cell BK108.out 0).trans rfl
     have hfs46 := blk_frozen BK108.out 0
     have hns46_1 := NB116_108.out
     have hns46_2 := NB125_108.out
     have hms46_1 := NB108_116.out
     have hms46_2 := NB108_125.out
     have hs48 : w45.cell? ⟨gb108, 1, none⟩ = some (.slice Ao41 x109001_2.length co41) := (blk_cell BK108.out 1).trans rfl
     have hfs48 := blk_frozen BK108.out 1
     have hns48_1 := NB116_108.out
     have hns48_2 := NB125_108.out
     have hms48_1 := NB108_116.out
     have hms48_2 := NB108_125.out
     have hs50 : w45.cell? ⟨gb108, 2, none⟩ = some (.slice Ao42 x109002_2.length co42) := (blk_cell BK108.out 2).trans rfl
     have hfs50 := blk_frozen BK108.out 2
     have hns50_1 := NB116_108.out
     have hns50_2 := NB125_108.out
     have hms50_1 := NB108_116.out
     have hms50_2 := NB108_125.out
     refine skip_ (w1 := ?_) (by rfl) rfl ?_ ?_
     rotate_left
     · go_simp
       rfl
     refine hK.out _ _ ?_
     clear hK K
     refine done_ (by kernel_rfl) ?_
     try go_wp2
     have n0_ : Aside0 (Kd.R (Kd.int .u32) 97 (((w45.setCell ⟨gb108, 0, none⟩ (.bool t133)).setCell ⟨gb108, 1, none⟩ (.slice Ao47 t134.length co47)).setCell ⟨gb108, 2, none⟩ (.slice Ao49 t137.length co49)) w.heap.size (fun k_ => some k_ ≠ (.slice Ao42 x109002_2.length co42 : Value).ownBlock ∧ some k_ ≠ (.slice Ao38 x117001_2.length co38 : Value).ownBlock ∧ some k_ ≠ (.slice Ao39 x117002_2.length co39 : Value).ownBlock ∧ some k_ ≠ (.slice Ao43 t127.length co43 : Value).ownBlock ∧ some k_ ≠ (.slice Ao44 t130.length co44 : Value).ownBlock ∧ some k_ ≠ (.slice Ao47 t134.length co47 : Value).ownBlock ∧ some k_ ≠ (.slice Ao49 t137.length co49 : Value).ownBlock) (.slice Ao41 x109001_2.length co41) x109001_2) := ⟨by (with_reducible repeat (first | apply Kd.R_alloc | apply Kd.R_drewN | apply Kd.R_drew)); exact yf HO_109001.out BK108.out (fun _ hk => ⟨hk.1.1.1.1.1.1, ⟨hk.1.1.1.1.1.2.1, ⟨hk.1.1.1.1.1.2.2, ⟨hk.1.1.1.1.2, ⟨hk.1.1.1.2, ⟨hk.1.1.2, hk.1.2⟩⟩⟩⟩⟩⟩)⟩
     have n1_ : Aside0 (Kd.R (Kd.int .u32) 97 (((w45.setCell ⟨gb108, 0, none⟩ (.bool t133)).setCell ⟨gb108, 1, none⟩ (.slice Ao47 t134.length co47)).setCell ⟨gb108, 2, none⟩ (.slice Ao49 t137.length co49)) w.heap.size (fun k_ => some k_ ≠ (.slice Ao41 x109001_2.length co41 : Value).ownBlock ∧ some k_ ≠ (.slice Ao38 x117001_2.length co38 : Value).ownBlock ∧ some k_ ≠ (.slice Ao39 x117002_2.length co39 : Value).ownBlock ∧ some k_ ≠ (.slice Ao43 t127.length co43 : Value).ownBlock ∧ some k_ ≠ (.slice Ao44 t130.length co44 : Value).ownBlock ∧ some k_ ≠ (.slice Ao47 t134.length co47 : Value).ownBlock ∧ some k_ ≠ (.slice Ao49 t137.length co49 : Value).ownBlock) (.slice Ao42 x109002_2.length co42) x109002_2) := ⟨by (with_reducible repeat (first | apply Kd.R_alloc | apply Kd.R_drewN | apply Kd.R_drew)); exact yf HO_109002.out BK108.out (fun _ hk => ⟨hk.1.1.1.1.1.1, ⟨hk.1.1.1.1.1.2.1, ⟨hk.1.1.1.1.1.2.2, ⟨hk.1.1.1.1.2, ⟨hk.1.1.1.2, ⟨hk.1.1.2, hk.1.2⟩⟩⟩⟩⟩⟩)⟩
     have n2_ : Aside0 (Kd.R (Kd.int .u32) 97 (((w45.setCell ⟨gb108, 0, none⟩ (.bool t133)).setCell ⟨gb108, 1, none⟩ (.slice Ao47 t134.length co47)).setCell ⟨gb108, 2, none⟩ (.slice Ao49 t137.length co49)) w.heap.size (fun k_ => some k_ ≠ (.slice Ao41 x109001_2.length co41 : Value).ownBlock ∧ some k_ ≠ (.slice Ao42 x109002_2.length co42 : Value).ownBlock ∧ some k_ ≠ (.slice Ao39 x117002_2.length co39 : Value).ownBlock ∧ some k_ ≠ (.slice Ao43 t127.length co43 : Value).ownBlock ∧ some k_ ≠ (.slice Ao44 t130.length co44 : Value).ownBlock ∧ some k_ ≠ (.slice Ao47 t134.length co47 : Value).ownBlock ∧ some k_ ≠ (.slice Ao49 t137.length co49 : Value).ownBlock) (.slice Ao38 x117001_2.length co38) x117001_2) := ⟨by (with_reducible repeat (first | apply Kd.R_alloc | apply Kd.R_drewN | apply Kd.R_drew)); exact yf HO_117001.out BK108.out (fun _ hk => ⟨hk.1.1.1.1.1.1, ⟨hk.1.1.1.1.1.2.1, ⟨hk.1.1.1.1.1.2.2, ⟨hk.1.1.1.1.2, ⟨hk.1.1.1.2, ⟨hk.1.1.2, hk.1.2⟩⟩⟩⟩⟩⟩)⟩
     have n3_ : Aside0 (Kd.R (Kd.int .u32) 97 (((w45.setCell ⟨gb108, 0, none⟩ (.bool t133)).setCell ⟨gb108, 1, none⟩ (.slice Ao47 t134.length co47)).setCell ⟨gb108, 2, none⟩ (.slice Ao49 t137.length co49)) w.heap.size (fun k_ => some k_ ≠ (.slice Ao41 x109001_2.length co41 : Value).ownBlock ∧ some k_ ≠ (.slice Ao42 x109002_2.length co42 : Value).ownBlock ∧ some k_ ≠ (.slice Ao38 x117001_2.length co38 : Value).ownBlock ∧ some k_ ≠ (.slice Ao43 t127.length co43 : Value).ownBlock ∧ some k_ ≠ (.slice Ao44 t130.length co44 : Value).ownBlock ∧ some k_ ≠ (.slice Ao47 t134.length co47 : Value).ownBlock ∧ some k_ ≠ (.slice Ao49 t137.length co49 : Value).ownBlock) (.slice Ao39 x117002_2.length co39) x117002_2) := ⟨by (with_reducible repeat (first | apply Kd.R_alloc | apply Kd.R_drewN | apply Kd.R_drew)); exact yf HO_117002.out BK108.out (fun _ hk => ⟨hk.1.1.1.1.1.1, ⟨hk.1.1.1.1.1.2.1, ⟨hk.1.1.1.1.1.2.2, ⟨hk.1.1.1.1.2, ⟨hk.1.1.1.2, ⟨hk.1.1.2, hk.1.2⟩⟩⟩⟩⟩⟩)⟩
     have n4_ : Aside0 (Kd.V (Kd.int .u32) 97 (((w45.setCell ⟨gb108, 0, none⟩ (.bool t133)).setCell ⟨gb108, 1, none⟩ (.slice Ao47 t134.length co47)).setCell ⟨gb108, 2, none⟩ (.slice Ao49 t137.length co49)) w.heap.size (fun k_ => some k_ ≠ (.slice Ao41 x109001_2.length co41 : Value).ownBlock ∧ some k_ ≠ (.slice Ao42 x109002_2.length co42 : Value).ownBlock ∧ some k_ ≠ (.slice Ao38 x117001_2.length co38 : Value).ownBlock ∧ some k_ ≠ (.slice Ao39 x117002_2.length co39 : Value).ownBlock ∧ some k_ ≠ (.slice Ao43 t127.length co43 : Value).ownBlock ∧ some k_ ≠ (.slice Ao44 t130.length co44 : Value).ownBlock ∧ some k_ ≠ (.slice Ao47 t134.length co47 : Value).ownBlock ∧ some k_ ≠ (.slice Ao49 t137.length co49 : Value).ownBlock ∧ k_ ≠ gb108 ∧ k_ ≠ gb116 ∧ k_ ≠ gb125) (.slice Ao34 t118.length co34) t118) := ⟨by (with_reducible repeat (first | apply Kd.V_alloc | apply Kd.V_drewN | apply Kd.V_drew)); exact Kd.V_mono (Kd.V_far (p := ⟨gb108, 2, none⟩) (Kd.V_far (p := ⟨gb108, 1, none⟩) (Kd.V_far (p := ⟨gb108, 0, none⟩) (Kd.V_mono HO120.out (fun k_ hk => (⟨hk, hk.1.1.1.1.2.2.2.2.1⟩ : _ ∧ k_ ≠ gb108))) (fun _ hk => hk.2) (.bool t133)) (fun _ hk => hk.2) (.slice Ao47 t134.length co47)) (fun _ hk => hk.2) (.slice Ao49 t137.length co49)) (fun _ hk => ⟨hk.1.1.1.1.1.1, ⟨hk.1.1.1.1.1.2.1, ⟨hk.1.1.1.1.1.2.2.1, ⟨hk.1.1.1.1.1.2.2.2.1, ⟨hk.1.1.1.1.2, ⟨hk.1.1.1.2, ⟨hk.1.1.2, ⟨hk.1.2, ⟨hk.1.1.1.1.1.2.2.2.2.1, ⟨hk.1.1.1.1.1.2.2.2.2.2.1, hk.1.1.1.1.1.2.2.2.2.2.2⟩⟩⟩⟩⟩⟩⟩⟩⟩⟩)⟩
     have n5_ : Aside0 (Kd.V (Kd.int .u32) 97 (((w45.setCell ⟨gb108, 0, none⟩ (.bool t133)).setCell ⟨gb108, 1, none⟩ (.slice Ao47 t134.length co47)).setCell ⟨gb108, 2, none⟩ (.slice Ao49 t137.length co49)) w.heap.size (fun k_ => some k_ ≠ (.slice Ao41 x109001_2.length co41 : Value).ownBlock ∧ some k_ ≠ (.slice Ao42 x109002_2.length co42 : Value).ownBlock ∧ some k_ ≠ (.slice Ao38 x117001_2.length co38 : Value).ownBlock ∧ some k_ ≠ (.slice Ao39 x117002_2.length co39 : Value).ownBlock ∧ some k_ ≠ (.slice Ao43 t127.length co43 : Value).ownBlock ∧ some k_ ≠ (.slice Ao44 t130.length co44 : Value).ownBlock ∧ some k_ ≠ (.slice Ao47 t134.length co47 : Value).ownBlock ∧ some k_ ≠ (.slice Ao49 t137.length co49 : Value).ownBlock ∧ k_ ≠ gb108 ∧ k_ ≠ gb116 ∧ k_ ≠ gb125) (.slice Ao35 t121.length co35) t121) := ⟨by (with_reducible repeat (first | apply Kd.V_alloc | apply Kd.V_drewN | apply Kd.V_drew)); exact Kd.V_mono (Kd.V_far (p := ⟨gb108, 2, none⟩) (Kd.V_far (p := ⟨gb108, 1, none⟩) (Kd.V_far (p := ⟨gb108, 0, none⟩) (Kd.V_mono HO123.out (fun k_ hk => (⟨hk, hk.1.1.1.1.2.2.2.2.1⟩ : _ ∧ k_ ≠ gb108))) (fun _ hk => hk.2) (.bool t133)) (fun _ hk => hk.2) (.slice Ao47 t134.length co47)) (fun _ hk => hk.2) (.slice Ao49 t137.length co49)) (fun _ hk => ⟨hk.1.1.1.1.1.1, ⟨hk.1.1.1.1.1.2.1, ⟨hk.1.1.1.1.1.2.2.1, ⟨hk.1.1.1.1.1.2.2.2.1, ⟨hk.1.1.1.1.2, ⟨hk.1.1.1.2, ⟨hk.1.1.2, ⟨hk.1.2, ⟨hk.1.1.1.1.1.2.2.2.2.1, ⟨hk.1.1.1.1.1.2.2.2.2.2.1, hk.1.1.1.1.1.2.2.2.2.2.2⟩⟩⟩⟩⟩⟩⟩⟩⟩⟩)⟩
     have n6_ : Aside0 (Kd.R (Kd.int .u32) 97 (((w45.setCell ⟨gb108, 0, none⟩ (.bool t133)).setCell ⟨gb108, 1, none⟩ (.slice Ao47 t134.length co47)).setCell ⟨gb108, 2, none⟩ (.slice Ao49 t137.length co49)) w.heap.size (fun k_ => some k_ ≠ (.slice Ao41 x109001_2.length co41 : Value).ownBlock ∧ some k_ ≠ (.slice Ao42 x109002_2.length co42 : Value).ownBlock ∧ some k_ ≠ (.slice Ao38 x117001_2.length co38 : Value).ownBlock ∧ some k_ ≠ (.slice Ao39 x117002_2.length co39 : Value).ownBlock ∧ some k_ ≠ (.slice Ao44 t130.length co44 : Value).ownBlock ∧ some k_ ≠ (.slice Ao47 t134.length co47 : Value).ownBlock ∧ some k_ ≠ (.slice Ao49 t137.length co49 : Value).ownBlock) (.slice Ao43 t127.length co43) t127) := ⟨by (with_reducible repeat (first | apply Kd.R_alloc | apply Kd.R_drewN | apply Kd.R_drew)); exact yf HO129.out BK108.out (fun _ hk => ⟨hk.1.1.1.1.1.1.2, ⟨hk.1.1.1.1.1.2, ⟨hk.1.1.1.1.2, ⟨hk.1.1.1.2, ⟨hk.1.1.1.1.1.1.1, ⟨hk.1.1.2, hk.1.2⟩⟩⟩⟩⟩⟩)⟩
     have n7_ : Aside0 (Kd.R (Kd.int .u32) 97 (((w45.setCell ⟨gb108, 0, none⟩ (.bool t133)).setCell ⟨gb108, 1, none⟩ (.slice Ao47 t134.length co47)).setCell ⟨gb108, 2, none⟩ (.slice Ao49 t137.length co49)) w.heap.size (fun k_ => some k_ ≠ (.slice Ao41 x109001_2.length co41 : Value).ownBlock ∧ some k_ ≠ (.slice Ao42 x109002_2.length co42 : Value).ownBlock ∧ some k_ ≠ (.slice Ao38 x117001_2.length co38 : Value).ownBlock ∧ some k_ ≠ (.slice Ao39 x117002_2.length co39 : Value).ownBlock ∧ some k_ ≠ (.slice Ao43 t127.length co43 : Value).ownBlock ∧ some k_ ≠ (.slice Ao47 t134.length co47 : Value).ownBlock ∧ some k_ ≠ (.slice Ao49 t137.length co49 : Value).ownBlock) (.slice Ao44 t130.length co44) t130) := ⟨by (with_reducible repeat (first | apply Kd.R_alloc | apply Kd.R_drewN | apply Kd.R_drew)); exact yf HO132.out BK108.out (fun _ hk => ⟨hk.1.1.1.1.1.1.2, ⟨hk.1.1.1.1.1.2, ⟨hk.1.1.1.1.2, ⟨hk.1.1.1.2, ⟨hk.1.1.1.1.1.1.1, ⟨hk.1.1.2, hk.1.2⟩⟩⟩⟩⟩⟩)⟩
     have n8_ : Aside0 (Kd.R (Kd.int .u32) 97 (((w45.setCell ⟨gb108, 0, none⟩ (.bool t133)).setCell ⟨gb108, 1, none⟩ (.slice Ao47 t134.length co47)).setCell ⟨gb108, 2, none⟩ (.slice Ao49 t137.length co49)) w.heap.size (fun k_ => some k_ ≠ (.slice Ao41 x109001_2.length co41 : Value).ownBlock ∧ some k_ ≠ (.slice Ao42 x109002_2.length co42 : Value).ownBlock ∧ some k_ ≠ (.slice Ao38 x117001_2.length co38 : Value).ownBlock ∧ some k_ ≠ (.slice Ao39 x117002_2.length co39 : Value).ownBlock ∧ some k_ ≠ (.slice Ao43 t127.length co43 : Value).ownBlock ∧ some k_ ≠ (.slice Ao44 t130.length co44 : Value).ownBlock ∧ some k_ ≠ (.slice Ao49 t137.length co49 : Value).ownBlock) (.slice Ao47 t134.length co47) t134) := ⟨by (with_reducible repeat (first | apply Kd.R_alloc | apply Kd.R_drewN | apply Kd.R_drew)); exact yf HO136.out BK108.out (fun _ hk => ⟨hk.1.1.1.1.1.1.2, ⟨hk.1.1.1.1.1.2, ⟨hk.1.1.1.1.2, ⟨hk.1.1.1.2, ⟨hk.1.1.2, ⟨hk.1.2, hk.1.1.1.1.1.1.1⟩⟩⟩⟩⟩⟩)⟩
     have n9_ : Aside0 (Kd.R (Kd.int .u32) 97 (((w45.setCell ⟨gb108, 0, none⟩ (.bool t133)).setCell ⟨gb108, 1, none⟩ (.slice Ao47 t134.length co47)).setCell ⟨gb108, 2, none⟩ (.slice Ao49 t137.length co49)) w.heap.size (fun k_ => some k_ ≠ (.slice Ao41 x109001_2.length co41 : Value).ownBlock ∧ some k_ ≠ (.slice Ao42 x109002_2.length co42 : Value).ownBlock ∧ some k_ ≠ (.slice Ao38 x117001_2.length co38 : Value).ownBlock ∧ some k_ ≠ (.slice Ao39 x117002_2.length co39 : Value).ownBlock ∧ some k_ ≠ (.slice Ao43 t127.length co43 : Value).ownBlock ∧ some k_ ≠ (.slice Ao44 t130.length co44 : Value).ownBlock ∧ some k_ ≠ (.slice Ao47 t134.length co47 : Value).ownBlock) (.slice Ao49 t137.length co49) t137) := ⟨by (with_reducible repeat (first | apply Kd.R_alloc | apply Kd.R_drewN | apply Kd.R_drew)); exact yf HO139.out BK108.out (fun _ hk => ⟨hk.1.1.1.1.1.1.2, ⟨hk.1.1.1.1.1.2, ⟨hk.1.1.1.1.2, ⟨hk.1.1.1.2, ⟨hk.1.1.2, ⟨hk.1.2, hk.1.1.1.1.1.1.1⟩⟩⟩⟩⟩⟩)⟩
     have n10_ : Aside0 ((((w45.setCell ⟨gb108, 0, none⟩ (.bool t133)).setCell ⟨gb108, 1, none⟩ (.slice Ao47 t134.length co47)).setCell ⟨gb108, 2, none⟩ (.slice Ao49 t137.length co49)).heap[gb108]? = some (.cells #[.bool t133, .slice Ao47 t134.length co47, .slice Ao49 t137.length co49] 60 (0, 0))) := ⟨by (with_reducible repeat (first | refine blk_drewN ?_ _ | refine blk_drew ?_ | refine blk_alloc ?_ _)); refine blk_put (cs := #[.bool t133, .slice Ao47 t134.length co47, .slice Ao42 x109002_2.length co42]) ?_ 2 _ rfl; (with_reducible repeat (first | refine blk_drewN ?_ _ | refine blk_drew ?_ | refine blk_alloc ?_ _)); refine blk_put (cs := #[.bool t133, .slice Ao41 x109001_2.length co41, .slice Ao42 x109002_2.length co42]) ?_ 1 _ rfl; (with_reducible repeat (first | refine blk_drewN ?_ _ | refine blk_drew ?_ | refine blk_alloc ?_ _)); refine blk_put (cs := #[.bool x109000_2, .slice Ao41 x109001_2.length co41, .slice Ao42 x109002_2.length co42]) ?_ 0 _ rfl; (with_reducible repeat (first | refine blk_drewN ?_ _ | refine blk_drew ?_ | refine blk_alloc ?_ _)); exact BK108.out⟩
     have n11_ : Aside0 ((((w45.setCell ⟨gb108, 0, none⟩ (.bool t133)).setCell ⟨gb108, 1, none⟩ (.slice Ao47 t134.length co47)).setCell ⟨gb108, 2, none⟩ (.slice Ao49 t137.length co49)).heap[gb116]? = some (.cells #[.bool x117000_2, .slice Ao38 x117001_2.length co38, .slice Ao39 x117002_2.length co39] 60 (0, 0))) := ⟨by (with_reducible repeat (first | refine blk_drewN ?_ _ | refine blk_drew ?_ | refine blk_alloc ?_ _)); refine blk_far ?_ NB116_108.out _; (with_reducible repeat (first | refine blk_drewN ?_ _ | refine blk_drew ?_ | refine blk_alloc ?_ _)); refine blk_far ?_ NB116_108.out _; (with_reducible repeat (first | refine blk_drewN ?_ _ | refine blk_drew ?_ | refine blk_alloc ?_ _)); refine blk_far ?_ NB116_108.out _; (with_reducible repeat (first | refine blk_drewN ?_ _ | refine blk_drew ?_ | refine blk_alloc ?_ _)); exact BK116.out⟩
     have n12_ : Aside0 ((((w45.setCell ⟨gb108, 0, none⟩ (.bool t133)).setCell ⟨gb108, 1, none⟩ (.slice Ao47 t134.length co47)).setCell ⟨gb108, 2, none⟩ (.slice Ao49 t137.length co49)).heap[gb125]? = some (.cells #[.bool t117, .slice Ao34 t118.length co34, .slice Ao35 t121.length co35] 60 (0, 0))) := ⟨by (with_reducible repeat (first | refine blk_drewN ?_ _ | refine blk_drew ?_ | refine blk_alloc ?_ _)); refine blk_far ?_ NB125_108.out _; (with_reducible repeat (first | refine blk_drewN ?_ _ | refine blk_drew ?_ | refine blk_alloc ?_ _)); refine blk_far ?_ NB125_108.out _; (with_reducible repeat (first | refine blk_drewN ?_ _ | refine blk_drew ?_ | refine blk_alloc ?_ _)); refine blk_far ?_ NB125_108.out _; (with_reducible repeat (first | refine blk_drewN ?_ _ | refine blk_drew ?_ | refine blk_alloc ?_ _)); exact BK125.out⟩
     have n13_ : Aside0 (Below w.heap.size w (((w45.setCell ⟨gb108, 0, none⟩ (.bool t133)).setCell ⟨gb108, 1, none⟩ (.slice Ao47 t134.length co47)).setCell ⟨gb108, 2, none⟩ (.slice Ao49 t137.length co49))) := ⟨zB3 HB.out GE108.out GE116.out GE125.out⟩
     (try clear HO_109001)
     (try clear HO_109002)
     (try clear HO_117001)
     (try clear HO_117002)
     (try clear HO120)
     (try clear HO123)
     (try clear HO129)
     (try clear HO132)
     (try clear HO136)
     (try clear HO139)
     (try clear BK108)
     (try clear BK116)
     (try clear BK125)
     (try clear HB)
     generalize (((w45.setCell ⟨gb108, 0, none⟩ (.bool t133)).setCell ⟨gb108, 1, none⟩ (.slice Ao47 t134.length co47)).setCell ⟨gb108, 2, none⟩ (.slice Ao49 t137.length co49)) = w51 at n0_ n1_ n2_ n3_ n4_ n5_ n6_ n7_ n8_ n9_ n10_ n11_ n12_ n13_ ⊢
     have HO_109001 := n0_
     have HO_109002 := n1_
     have HO_117001 := n2_
     have HO_117002 := n3_
     have HO120 := n4_
     have HO123 := n5_
     have HO129 := n6_
     have HO132 := n7_
     have HO136 := n8_
     have HO139 := n9_
     have BK108 := n10_
     have BK116 := n11_
     have BK125 := n12_
     have HB := n13_
     clear n0_ n1_ n2_ n3_ n4_ n5_ n6_ n7_ n8_ n9_ n10_ n11_ n12_ n13_
     replace HO_109001 := Aside0.mk (Kd.R_drew HO_109001.out)
     replace HO_109002 := Aside0.mk (Kd.R_drew HO_109002.out)
     replace HO_117001 := Aside0.mk (Kd.R_drew HO_117001.out)
     replace HO_117002 := Aside0.mk (Kd.R_drew HO_117002.out)
     replace HO120 := Aside0.mk (Kd.V_drew HO120.out)
     replace HO123 := Aside0.mk (Kd.V_drew HO123.out)
     replace HO129 := Aside0.mk (Kd.R_drew HO129.out)
     replace HO132 := Aside0.mk (Kd.R_drew HO132.out)
     replace HO136 := Aside0.mk (Kd.R_drew HO136.out)
     replace HO139 := Aside0.mk (Kd.R_drew HO139.out)
     replace BK108 := Aside0.mk (blk_drew BK108.out)
     replace BK116 := Aside0.mk (blk_drew BK116.out)
     replace BK125 := Aside0.mk (blk_drew BK125.out)
     replace HB := Aside0.mk (below_drew1 HB.out)
     refine start_ (n := 6) (S := fun w' => w'.cell? ⟨gb116, 0, none⟩ = some (.bool x117000_2) ∧ w'.cell? ⟨gb116, 1, none⟩ = some (.slice Ao38 x117001_2.length co38) ∧ w'.cell? ⟨gb116, 2, none⟩ = some (.slice Ao39 x117002_2.length co39)) (ds := [5]) #[false, false, false, false, false, false] (by kernel_rfl) rfl rfl ⟨(blk_cell BK116.out 0).trans rfl, (blk_cell BK116.out 1).trans rfl, (blk_cell BK116.out 2).trans rfl⟩ (fun hHeld => ?_)
     generalize w51.drew = w52 at HO_109001 HO_109002 HO_117001 HO_117002 HO120 HO123 HO129 HO132 HO136 HO139 BK108 BK116 BK125 HB hHeld ⊢
     refine pure_ (i := 1) (N := some 56) (v := ?_) (a' := ?_) #[false, true, false, false, false, false] rfl rfl (by kernel_rfl) (fun _ _ _ h => h) (Or.inl ⟨by rfl, ?_⟩) ?_ ?_
     rotate_left
     · intro w'
       go_simp
       with_reducible rfl
     rotate_left
     · simp only [Act.put, List.setIfInBounds_toArray, List.set_cons_zero, List.set_cons_succ, i64_w, i32_w]
       rfl
     refine pure_ (i := 2) (N := some 57) (v := ?_) (a' := ?_) #[false, true, true, false, false, false] rfl rfl (by kernel_rfl) (fun _ _ _ h => h) (Or.inl ⟨by rfl, ?_⟩) ?_ ?_
     rotate_left
     · intro w'
       go_simp
       with_reducible rfl
     rotate_left
     · simp only [Act.put, List.setIfInBounds_toArray, List.set_cons_zero, List.set_cons_succ, i64_w, i32_w]
       rfl
     refine take_ (i := 0) (N := some 55) (v := ?_) (a' := ?_) #[true, true, true, false, false, false] rfl rfl (by kernel_rfl) (fun _ _ _ h => h) (Or.inl ⟨by rfl, ?_⟩) hHeld ?_ ?_
     rotate_left
     · rintro w' ⟨s0, s1, s2⟩
       go_simp
       with_reducible rfl
     rotate_left
     · simp only [Act.put, List.setIfInBounds_toArray, List.set_cons_zero, List.set_cons_succ, i64_w, i32_w]
       rfl
     refine one_ (i := 3) (N := some 58) #[true, true, true, true, false, false] rfl rfl (by kernel_rfl) (by decide) (fun K hK => ?_)
     refine goes_ Try.func48 (by kernel_rfl) rfl #[.int .i64 (wrap64 (a3))] (by rfl) rfl rfl (by (try simp only [List.map_toArray, List.map_cons, List.map_nil]); first | done | rfl | (simp only [List.length_drop, List.length_take]; rfl)) ?_
     with_reducible refine (codewrightref02_Int.calls k2 (wrap64 (a3)) t140 t141 t144 _ A27.out).mono ?_
     rintro e w53 ⟨v142, v145, rfl, ho0, ho1, hb⟩
     refine ⟨_, rfl, ?_⟩
     replace HO120 := yVt HO120 hb ho0 ho1
     replace HO123 := yVt HO123 hb ho0 ho1
     replace ho0 := yn ho0 HO_109001
     replace ho0 := yn ho0 HO_109002
     replace ho0 := yn ho0 HO_117001
     replace ho0 := yn ho0 HO_117002
     replace ho0 := yn ho0 HO129
     replace ho0 := yn ho0 HO132
     replace ho0 := yn ho0 HO136
     replace ho0 := yn ho0 HO139
     have HO143 := yRl3 ho0 HB GE108 GE116 GE125
     replace ho1 := yn ho1 HO_109001
     replace ho1 := yn ho1 HO_109002
     replace ho1 := yn ho1 HO_117001
     replace ho1 := yn ho1 HO_117002
     replace ho1 := yn ho1 HO129
     replace ho1 := yn ho1 HO132
     replace ho1 := yn ho1 HO136
     replace ho1 := yn ho1 HO139
     have HO146 := yRl3 ho1 HB GE108 GE116 GE125
     replace HO_109001 := yRt HO_109001 hb ho0 ho1
     replace HO_109002 := yRt HO_109002 hb ho0 ho1
     replace HO_117001 := yRt HO_117001 hb ho0 ho1
     replace HO_117002 := yRt HO_117002 hb ho0 ho1
     replace HO129 := yRt HO129 hb ho0 ho1
     replace HO132 := yRt HO132 hb ho0 ho1
     replace HO136 := yRt HO136 hb ho0 ho1
     replace HO139 := yRt HO139 hb ho0 ho1
     replace BK108 := yK BK108 hb
     replace BK116 := yK BK116 hb
     replace BK125 := yK BK125 hb
     replace HB := yS3 HB GE108 GE116 GE125 hb
     (try clear hb)
     (try clear hb2)
     (try clear hk)
     (try clear hi)
     (try clear ho0)
     (try clear ho1)
     obtain ⟨Ao54, co54, eo54⟩ := Kd.R_slice HO143.out
     (first | subst eo54 | (injection eo54 with f1_ f2_ f3_; have f4_ := f1_.symm; have f5_ := f3_.symm; clear f1_ f2_ f3_; subst f4_; subst f5_))
     obtain ⟨Ao55, co55, eo55⟩ := Kd.R_slice HO146.out
     (first | subst eo55 | (injection eo55 with f1_ f2_ f3_; have f4_ := f1_.symm; have f5_ := f3_.symm; clear f1_ f2_ f3_; subst f4_; subst f5_))
     refine hK.out _ _ ⟨(blk_cell BK116.out 0).trans rfl, (blk_cell BK116.out 1).trans rfl, (blk_cell BK116.out 2).trans rfl⟩ (fun hHeld => ?_)
     clear hK K
     refine norm_ (a' := ?_) ?_ ?_
     rotate_left
     · show Act.put _ (some 58) _ = _
       simp only [Act.put, List.setIfInBounds_toArray, List.set_cons_zero, List.set_cons_succ, i64_w, i32_w]
       rfl
     refine one_ (i := 4) (N := some 59) #[true, true, true, true, true, false] rfl rfl (by kernel_rfl) (by decide) (fun K hK => ?_)
     refine goes_ Try.func51 (by kernel_rfl) rfl #[.agg #[.bool x117000_2, .slice Ao38 x117001_2.length co38, .slice Ao39 x117002_2.length co39], .agg #[.bool t140, .slice Ao54 t141.length co54, .slice Ao55 t144.length co55]] (by rfl) rfl rfl (by (try simp only [List.map_toArray, List.map_cons, List.map_nil]); first | done | rfl | (simp only [List.length_drop, List.length_take]; rfl)) ?_
     with_reducible refine (codewrightref02_Mul.calls k2 x117000_2 _ _ x117001_2 _ _ x117002_2 t140 _ _ t141 _ _ t144 t147 t148 t151 _ ?side1 ?side2 ?side3 ?side4 ?side5 ?side6 ?side7 ?side8 A28.out).mono ?_
     (case side1 => exact zC (Kd.R_reads' HO_117001.out).2.2)
     (case side2 => exact (Kd.R_reads' HO_117001.out).2.1)
     (case side3 => exact zC (Kd.R_reads' HO_117002.out).2.2)
     (case side4 => exact (Kd.R_reads' HO_117002.out).2.1)
     (case side5 => exact zC (Kd.R_reads' HO143.out).2.2)
     (case side6 => exact (Kd.R_reads' HO143.out).2.1)
     (case side7 => exact zC (Kd.R_reads' HO146.out).2.2)
     (case side8 => exact (Kd.R_reads' HO146.out).2.1)
     rintro e w56 ⟨v149, v152, rfl, ho0, ho1, hb⟩
     refine ⟨_, rfl, ?_⟩
     replace HO120 := yVt HO120 hb ho0 ho1
     replace HO123 := yVt HO123 hb ho0 ho1
     replace ho0 := yn ho0 HO_109001
     replace ho0 := yn ho0 HO_109002
     replace ho0 := yn ho0 HO_117001
     replace ho0 := yn ho0 HO_117002
     replace ho0 := yn ho0 HO129
     replace ho0 := yn ho0 HO132
     replace ho0 := yn ho0 HO136
     replace ho0 := yn ho0 HO139
     replace ho0 := yn ho0 HO143
     replace ho0 := yn ho0 HO146
     have HO150 := yRl3 ho0 HB GE108 GE116 GE125
     replace ho1 := yn ho1 HO_109001
     replace ho1 := yn ho1 HO_109002
     replace ho1 := yn ho1 HO_117001
     replace ho1 := yn ho1 HO_117002
     replace ho1 := yn ho1 HO129
     replace ho1 := yn ho1 HO132
     replace ho1 := yn ho1 HO136
     replace ho1 := yn ho1 HO139
     replace ho1 := yn ho1 HO143
     replace ho1 := yn ho1 HO146
     have HO153 := yRl3 ho1 HB GE108 GE116 GE125
     replace HO_109001 := yRt HO_109001 hb ho0 ho1
     replace HO_109002 := yRt HO_109002 hb ho0 ho1
     replace HO_117001 := yRt HO_117001 hb ho0 ho1
     replace HO_117002 := yRt HO_117002 hb ho0 ho1
     replace HO129 := yRt HO129 hb ho0 ho1
     replace HO132 := yRt HO132 hb ho0 ho1
     replace HO136 := yRt HO136 hb ho0 ho1
     replace HO139 := yRt HO139 hb ho0 ho1
     replace HO143 := yRt HO143 hb ho0 ho1
     replace HO146 := yRt HO146 hb ho0 ho1
     replace BK108 := yK BK108 hb
     replace BK116 := yK BK116 hb
     replace BK125 := yK BK125 hb
     replace HB := yS3 HB GE108 GE116 GE125 hb
     (try clear hb)
     (try clear hb2)
     (try clear hk)
     (try clear hi)
     (try clear ho0)
     (try clear ho1)
     obtain ⟨Ao58, co58, eo58⟩ := Kd.R_slice HO150.out
     (first | subst eo58 | (injection eo58 with f1_ f2_ f3_; have f4_ := f1_.symm; have f5_ := f3_.symm; clear f1_ f2_ f3_; subst f4_; subst f5_))
     obtain ⟨Ao60, co60, eo60⟩ := Kd.R_slice HO153.out
     (first | subst eo60 | (injection eo60 with f1_ f2_ f3_; have f4_ := f1_.symm; have f5_ := f3_.symm; clear f1_ f2_ f3_; subst f4_; subst f5_))
     refine hK.out _ _ ⟨(blk_cell BK116.out 0).trans rfl, (blk_cell BK116.out 1).trans rfl, (blk_cell BK116.out 2).trans rfl⟩ (fun hHeld => ?_)
     clear hK K
     refine norm_ (a' := ?_) ?_ ?_
     rotate_left
     · show Act.put _ (some 59) _ = _
       simp only [Act.put, List.setIfInBounds_toArray, List.set_cons_zero, List.set_cons_succ, i64_w, i32_w]
       rfl
     refine last_ (i := 5) (N := none) #[true, true, true, true, true, true] rfl rfl (by kernel_rfl) (by decide) (fun K hK => ?_)
     have hs57 : w56.cell? ⟨gb116, 0, none⟩ = some (.bool x117000_2) := (blk_cell BK116.out 0).trans rfl
     have hfs57 := blk_frozen BK116.out 0
     have hns57_0 := NB108_116.out
     have hns57_2 := NB125_116.out
     have hms57_0 := NB116_108.out
     have hms57_2 := NB116_125.out
     have hs59 : w56.cell? ⟨gb116, 1, none⟩ = some (.slice Ao38 x117001_2.length co38) := (blk_cell BK116.out 1).trans rfl
     have hfs59 := blk_frozen BK116.out 1
     have hns59_0 := NB108_116.out
     have hns59_2 := NB125_116.out
     have hms59_0 := NB116_108.out
     have hms59_2 := NB116_125.out
     have hs61 : w56.cell? ⟨gb116, 2, none⟩ = some (.slice Ao39 x117002_2.length co39) := (blk_cell BK116.out 2).trans rfl
     have hfs61 := blk_frozen BK116.out 2
     have hns61_0 := NB108_116.out
     have hns61_2 := NB125_116.out
     have hms61_0 := NB116_108.out
     have hms61_2 := NB116_125.out
     refine skip_ (w1 := ?_) (by rfl) rfl ?_ ?_
     rotate_left
     · go_simp
       rfl
     refine hK.out _ _ ?_
     clear hK K
     refine done_ (by kernel_rfl) ?_
     try go_wp2
     go_roundg k2
     case measure => have := HJ4.out; have := HK2.out; omega
     case rel => exact ⟨(wrap64 (x11_2 + 1)), (t133), (t134), (t137), (t147), (t148), (t151), (.slice Ao47 t134.length co47), (.slice Ao49 t137.length co49), (.slice Ao58 t148.length co58), (.slice Ao60 t151.length co60), zF, H', ⟨zo2 HJ4 HK2⟩, ⟨by (with_reducible repeat (first | apply Kd.R_alloc | apply Kd.R_drewN | apply Kd.R_drew)); exact yf HO136.out BK116.out (fun _ hk => ⟨hk.1.1.1.1.1.2.2.2.2.2.2, ⟨hk.1.1.2, hk.1.2⟩⟩)⟩, ⟨by (with_reducible repeat (first | apply Kd.R_alloc | apply Kd.R_drewN | apply Kd.R_drew)); exact yf HO139.out BK116.out (fun _ hk => ⟨hk.1.1.1.1.1.2.2.2.2.2.2, ⟨hk.1.1.2, hk.1.2⟩⟩)⟩, ⟨by (with_reducible repeat (first | apply Kd.R_alloc | apply Kd.R_drewN | apply Kd.R_drew)); exact yf HO150.out BK116.out (fun _ hk => ⟨hk.1.1.1.1.2, ⟨hk.1.1.1.2, hk.1.1.1.1.1.1.1.1.1.1.1⟩⟩)⟩, ⟨by (with_reducible repeat (first | apply Kd.R_alloc | apply Kd.R_drewN | apply Kd.R_drew)); exact yf HO153.out BK116.out (fun _ hk => ⟨hk.1.1.1.1.2, ⟨hk.1.1.1.2, hk.1.1.1.1.1.1.1.1.1.1.1⟩⟩)⟩, ⟨by (with_reducible repeat (first | refine blk_drewN ?_ _ | refine blk_drew ?_ | refine blk_alloc ?_ _)); refine blk_far ?_ NB108_116.out _; (with_reducible repeat (first | refine blk_drewN ?_ _ | refine blk_drew ?_ | refine blk_alloc ?_ _)); refine blk_far ?_ NB108_116.out _; (with_reducible repeat (first | refine blk_drewN ?_ _ | refine blk_drew ?_ | refine blk_alloc ?_ _)); refine blk_far ?_ NB108_116.out _; (with_reducible repeat (first | refine blk_drewN ?_ _ | refine blk_drew ?_ | refine blk_alloc ?_ _)); exact BK108.out⟩, ⟨by (with_reducible repeat (first | refine blk_drewN ?_ _ | refine blk_drew ?_ | refine blk_alloc ?_ _)); refine blk_put (cs := #[.bool t147, .slice Ao58 t148.length co58, .slice Ao39 x117002_2.length co39]) ?_ 2 _ rfl; (with_reducible repeat (first | refine blk_drewN ?_ _ | refine blk_drew ?_ | refine blk_alloc ?_ _)); refine blk_put (cs := #[.bool t147, .slice Ao38 x117001_2.length co38, .slice Ao39 x117002_2.length co39]) ?_ 1 _ rfl; (with_reducible repeat (first | refine blk_drewN ?_ _ | refine blk_drew ?_ | refine blk_alloc ?_ _)); refine blk_put (cs := #[.bool x117000_2, .slice Ao38 x117001_2.length co38, .slice Ao39 x117002_2.length co39]) ?_ 0 _ rfl; (with_reducible repeat (first | refine blk_drewN ?_ _ | refine blk_drew ?_ | refine blk_alloc ?_ _)); exact BK116.out⟩, ⟨zB3 HB.out GE108.out GE116.out GE125.out⟩⟩
   replace c24 := Bool.eq_false_iff.mpr c24
   subst c24
   rw [if_neg Bool.false_ne_true] at H
   obtain rfl := Option.some.inj H
   go_wp2_with (first | ((with_reducible refine gate_callee (f := 49) rfl ?_); refine zG (some 45) Try.func49 #[.int .i64 (wrap64 (a0)), .int .i64 (wrap64 (a1)), .int .i64 x11_2, .int .i64 (wrap64 (a2))] ?_; (with_reducible refine (codewrightlaw24_k.calls k2 (wrap64 (a0)) (wrap64 (a1)) x11_2 (wrap64 (a2)) t117 t118 t121 false _ A23.out).mono ?_); rintro e w62 ⟨v119, v122, rfl, ho0, ho1, hb⟩; refine ⟨_, rfl, ?_⟩; have HO120 := Aside0.mk (Kd.V_lower (Kd.V_mono (ok' := fun k_ => some k_ ≠ (u109001 : Value).ownBlock ∧ some k_ ≠ (u109002 : Value).ownBlock ∧ some k_ ≠ (u117001 : Value).ownBlock ∧ some k_ ≠ (u117002 : Value).ownBlock ∧ k_ ≠ gb108 ∧ k_ ≠ gb116) ho0 (fun k_ hk_ => ⟨(Kd.fresh' (Kd.R_lt (zR HO_109001.out)) k_ hk_), (Kd.fresh' (Kd.R_lt (zR HO_109002.out)) k_ hk_), (Kd.fresh' (Kd.R_lt (zR HO_117001.out)) k_ hk_), (Kd.fresh' (Kd.R_lt (zR HO_117002.out)) k_ hk_), (Kd.freshB (g := gb108) (o := .cells #[.bool x109000_2, u109001, u109002] 60 (0, 0)) (by (with_reducible repeat (first | refine blk_drewN ?_ _ | refine blk_drew ?_ | refine blk_alloc ?_ _)); exact BK108.out) k_ hk_), (Kd.freshB (g := gb116) (o := .cells #[.bool x117000_2, u117001, u117002] 60 (0, 0)) (by (with_reducible repeat (first | refine blk_drewN ?_ _ | refine blk_drew ?_ | refine blk_alloc ?_ _)); exact BK116.out) k_ hk_)⟩)) (below_size (zB2 HB.out GE108.out GE116.out))); have HO123 := Aside0.mk (Kd.V_lower (Kd.V_mono (ok' := fun k_ => some k_ ≠ (u109001 : Value).ownBlock ∧ some k_ ≠ (u109002 : Value).ownBlock ∧ some k_ ≠ (u117001 : Value).ownBlock ∧ some k_ ≠ (u117002 : Value).ownBlock ∧ k_ ≠ gb108 ∧ k_ ≠ gb116) ho1 (fun k_ hk_ => ⟨(Kd.fresh' (Kd.R_lt (zR HO_109001.out)) k_ hk_), (Kd.fresh' (Kd.R_lt (zR HO_109002.out)) k_ hk_), (Kd.fresh' (Kd.R_lt (zR HO_117001.out)) k_ hk_), (Kd.fresh' (Kd.R_lt (zR HO_117002.out)) k_ hk_), (Kd.freshB (g := gb108) (o := .cells #[.bool x109000_2, u109001, u109002] 60 (0, 0)) (by (with_reducible repeat (first | refine blk_drewN ?_ _ | refine blk_drew ?_ | refine blk_alloc ?_ _)); exact BK108.out) k_ hk_), (Kd.freshB (g := gb116) (o := .cells #[.bool x117000_2, u117001, u117002] 60 (0, 0)) (by (with_reducible repeat (first | refine blk_drewN ?_ _ | refine blk_drew ?_ | refine blk_alloc ?_ _)); exact BK116.out) k_ hk_)⟩)) (below_size (zB2 HB.out GE108.out GE116.out))); replace HO_109001 := yRb HO_109001 hb; replace HO_109002 := yRb HO_109002 hb; replace HO_117001 := yRb HO_117001 hb; replace HO_117002 := yRb HO_117002 hb; replace BK108 := yK BK108 hb; replace BK116 := yK BK116 hb; replace HB := yS2 HB GE108 GE116 hb; (try clear hb ho0); (try clear ho1)) | ((with_reducible refine gate_dst (N := 12) rfl ?_); refine box_event ?hg (N := 12) ?hd (cs := #[.bool false, .slice none 0 0, .slice none 0 0]) (t := 60) ?hr ?_; (case hd => rfl); (case hg => rfl); (case hr => first | (go_simp; done) | (go_simp; rfl)); intro gb125 hg w63 hbox hb; replace HO_109001 := yRb HO_109001 hb; replace HO_109002 := yRb HO_109002 hb; replace HO_117001 := yRb HO_117001 hb; replace HO_117002 := yRb HO_117002 hb; replace HO120 := yVB HO120 hg hb; replace HO123 := yVB HO123 hg hb; have BK125 := Aside0.mk (hbox); have GW125 := yg2 hg HB GE108 GE116; have GE125 := yg2 hg HB GE108 GE116; replace HB := yS2 HB GE108 GE116 hb; have NB108_125 := ynl hg BK108; have NB125_108 := yng hg BK108; replace BK108 := yK BK108 hb; have NB116_125 := ynl hg BK116; have NB125_116 := yng hg BK116; replace BK116 := yK BK116 hb; clear hb hbox hg; have hnb64 := NB125_108.out; have hnc64 := NB108_125.out; have hnb65 := NB125_116.out; have hnc65 := NB116_125.out; have hcz66_0 : w63.cell? ⟨gb125, 0, none⟩ = some (.bool false) := (blk_cell BK125.out 0).trans rfl; have hcz66_1 : w63.cell? ⟨gb125, 1, none⟩ = some (.slice none 0 0) := (blk_cell BK125.out 1).trans rfl; have hcz66_2 : w63.cell? ⟨gb125, 2, none⟩ = some (.slice none 0 0) := (blk_cell BK125.out 2).trans rfl; have hfz66_0 := blk_frozen BK125.out 0; have hfz66_1 := blk_frozen BK125.out 1; have hfz66_2 := blk_frozen BK125.out 2; obtain ⟨Ao67, co67, rfl⟩ := Kd.V_slice HO120.out; obtain ⟨Ao68, co68, rfl⟩ := Kd.V_slice HO123.out))
   go_ret
   exact ⟨zE, zB3 HB.out GE108.out GE116.out GE125.out⟩
 have c22b0 := decide_eq_false c22
 clear c22
 replace H := zb H
 obtain ⟨⟨t154, t155, t158⟩, A69, H⟩ := H
 dsimp only at H
 replace H := zb H
 obtain ⟨⟨t161, t162, t165, t168⟩, A70, H⟩ := H
 dsimp only at H
 replace H := zb H
 obtain ⟨⟨t170, t171, t174⟩, A71, H⟩ := H
 dsimp only at H
 replace H := zb H
 obtain ⟨⟨t177, t178, t181, t184⟩, A72, H⟩ := H
 dsimp only at H
 replace H := zb H
 obtain ⟨⟨t186, t187, t190⟩, A73, H⟩ := H
 dsimp only at H
 replace H := zb H
 obtain ⟨t193, A74, H⟩ := H
 obtain rfl := Option.some.inj H
 try go_wp2_with (first | ((with_reducible refine gate_callee (f := 48) rfl ?_); refine zG (some 68) Try.func48 #[.int .i64 (wrap64 (1 + (wrap64 ((wrap64 ((wrap64 (a0)) - 1)) * (wrap64 (a3))))))] ?_; (with_reducible refine (codewrightref02_Int.calls k2 (wrap64 (1 + (wrap64 ((wrap64 ((wrap64 (a0)) - 1)) * (wrap64 (a3)))))) t154 t155 t158 _ A69.out).mono ?_); rintro e w75 ⟨v156, v159, rfl, ho0, ho1, hb⟩; refine ⟨_, rfl, ?_⟩; replace ho0 := yn ho0 HO_109001; replace ho0 := yn ho0 HO_109002; replace ho0 := yn ho0 HO_117001; replace ho0 := yn ho0 HO_117002; have HO157 := yRl2 ho0 HB GE108 GE116; replace ho1 := yn ho1 HO_109001; replace ho1 := yn ho1 HO_109002; replace ho1 := yn ho1 HO_117001; replace ho1 := yn ho1 HO_117002; have HO160 := yRl2 ho1 HB GE108 GE116; replace HO_109001 := yRt HO_109001 hb ho0 ho1; replace HO_109002 := yRt HO_109002 hb ho0 ho1; replace HO_117001 := yRt HO_117001 hb ho0 ho1; replace HO_117002 := yRt HO_117002 hb ho0 ho1; replace BK108 := yK BK108 hb; replace BK116 := yK BK116 hb; replace HB := yS2 HB GE108 GE116 hb; (try clear hb ho0); (try clear ho1); obtain ⟨Ao76, co76, rfl⟩ := Kd.R_slice HO157.out; obtain ⟨Ao77, co77, rfl⟩ := Kd.R_slice HO160.out) | ((with_reducible refine gate_callee (f := 52) rfl ?_); refine zG (some 73) Try.func52 #[.agg #[.bool t154, .slice Ao76 t155.length co76, .slice Ao77 t158.length co77], .int .i64 ((a1 - a2) % 256)] ?_; (with_reducible refine (codewrightref02_Pow.calls k2 t154 _ _ t155 _ _ t158 ((a1 - a2) % 256) t161 t162 t165 t168 _ ?side1 ?side2 ?side3 ?side4 A70.out).mono ?_); (case side1 => exact zC (Kd.R_reads' HO157.out).2.2); (case side2 => exact (Kd.R_reads' HO157.out).2.1); (case side3 => exact zC (Kd.R_reads' HO160.out).2.2); (case side4 => exact (Kd.R_reads' HO160.out).2.1); rintro e w78 ⟨v163, v166, rfl, ho0, ho1, hb⟩; refine ⟨_, rfl, ?_⟩; replace ho0 := yn ho0 HO_109001; replace ho0 := yn ho0 HO_109002; replace ho0 := yn ho0 HO_117001; replace ho0 := yn ho0 HO_117002; replace ho0 := yn ho0 HO157; replace ho0 := yn ho0 HO160; have HO164 := yRl2 ho0 HB GE108 GE116; replace ho1 := yn ho1 HO_109001; replace ho1 := yn ho1 HO_109002; replace ho1 := yn ho1 HO_117001; replace ho1 := yn ho1 HO_117002; replace ho1 := yn ho1 HO157; replace ho1 := yn ho1 HO160; have HO167 := yRl2 ho1 HB GE108 GE116; replace HO_109001 := yRt HO_109001 hb ho0 ho1; replace HO_109002 := yRt HO_109002 hb ho0 ho1; replace HO_117001 := yRt HO_117001 hb ho0 ho1; replace HO_117002 := yRt HO_117002 hb ho0 ho1; replace HO157 := yRt HO157 hb ho0 ho1; replace HO160 := yRt HO160 hb ho0 ho1; replace BK108 := yK BK108 hb; replace BK116 := yK BK116 hb; replace HB := yS2 HB GE108 GE116 hb; (try clear hb ho0); (try clear ho1)) | ((with_reducible refine gate_dst (N := 14) rfl ?_); refine box_event ?hg (N := 14) ?hd (cs := #[.bool false, .slice none 0 0, .slice none 0 0]) (t := 60) ?hr ?_; (case hd => rfl); (case hg => rfl); (case hr => first | (go_simp; done) | (go_simp; rfl)); intro gb169 hg w79 hbox hb; replace HO_109001 := yRb HO_109001 hb; replace HO_109002 := yRb HO_109002 hb; replace HO_117001 := yRb HO_117001 hb; replace HO_117002 := yRb HO_117002 hb; replace HO157 := yRb HO157 hb; replace HO160 := yRb HO160 hb; replace HO164 := yRb HO164 hb; replace HO167 := yRb HO167 hb; have BK169 := Aside0.mk (hbox); have GW169 := yg2 hg HB GE108 GE116; have GE169 := yg2 hg HB GE108 GE116; replace HB := yS2 HB GE108 GE116 hb; have NB108_169 := ynl hg BK108; have NB169_108 := yng hg BK108; replace BK108 := yK BK108 hb; have NB116_169 := ynl hg BK116; have NB169_116 := yng hg BK116; replace BK116 := yK BK116 hb; clear hb hbox hg; have hnb80 := NB169_108.out; have hnc80 := NB108_169.out; have hnb81 := NB169_116.out; have hnc81 := NB116_169.out; have hcz82_0 : w79.cell? ⟨gb169, 0, none⟩ = some (.bool false) := (blk_cell BK169.out 0).trans rfl; have hcz82_1 : w79.cell? ⟨gb169, 1, none⟩ = some (.slice none 0 0) := (blk_cell BK169.out 1).trans rfl; have hcz82_2 : w79.cell? ⟨gb169, 2, none⟩ = some (.slice none 0 0) := (blk_cell BK169.out 2).trans rfl; have hfz82_0 := blk_frozen BK169.out 0; have hfz82_1 := blk_frozen BK169.out 1; have hfz82_2 := blk_frozen BK169.out 2; obtain ⟨Ao83, co83, rfl⟩ := Kd.R_slice HO164.out; obtain ⟨Ao84, co84, rfl⟩ := Kd.R_slice HO167.out) | ((with_reducible refine gate_callee (f := 48) rfl ?_); refine zG (some 80) Try.func48 #[.int .i64 (wrap64 (1 - (wrap64 (a3))))] ?_; (with_reducible refine (codewrightref02_Int.calls k2 (wrap64 (1 - (wrap64 (a3)))) t170 t171 t174 _ A71.out).mono ?_); rintro e w85 ⟨v172, v175, rfl, ho0, ho1, hb⟩; refine ⟨_, rfl, ?_⟩; have HO173 := Aside0.mk (Kd.R_lower (Kd.R_new' (Kd.R_new' (Kd.R_new' (Kd.R_new' (Kd.R_new' (Kd.R_new' (Kd.R_new' (Kd.R_new' ho0 (Kd.R_lt (by (with_reducible repeat (first | apply Kd.R_alloc | apply Kd.R_drewN | apply Kd.R_drew)); exact (yf HO_109001.out BK169.out (fun _ h_ => h_.1))))) (Kd.R_lt (by (with_reducible repeat (first | apply Kd.R_alloc | apply Kd.R_drewN | apply Kd.R_drew)); exact (yf HO_109002.out BK169.out (fun _ h_ => h_.1))))) (Kd.R_lt (by (with_reducible repeat (first | apply Kd.R_alloc | apply Kd.R_drewN | apply Kd.R_drew)); exact (yf HO_117001.out BK169.out (fun _ h_ => h_.1))))) (Kd.R_lt (by (with_reducible repeat (first | apply Kd.R_alloc | apply Kd.R_drewN | apply Kd.R_drew)); exact (yf HO_117002.out BK169.out (fun _ h_ => h_.1))))) (Kd.R_lt (by (with_reducible repeat (first | apply Kd.R_alloc | apply Kd.R_drewN | apply Kd.R_drew)); exact (yf HO157.out BK169.out (fun _ h_ => h_.1))))) (Kd.R_lt (by (with_reducible repeat (first | apply Kd.R_alloc | apply Kd.R_drewN | apply Kd.R_drew)); exact (yf HO160.out BK169.out (fun _ h_ => h_.1))))) (Kd.R_lt (by (with_reducible repeat (first | apply Kd.R_alloc | apply Kd.R_drewN | apply Kd.R_drew)); exact (yf HO164.out BK169.out (fun _ h_ => h_.1))))) (Kd.R_lt (by (with_reducible repeat (first | apply Kd.R_alloc | apply Kd.R_drewN | apply Kd.R_drew)); exact (yf HO167.out BK169.out (fun _ h_ => h_.1))))) (below_size (zB3 HB.out GE108.out GE116.out GE169.out))); have HO176 := Aside0.mk (Kd.R_lower (Kd.R_new' (Kd.R_new' (Kd.R_new' (Kd.R_new' (Kd.R_new' (Kd.R_new' (Kd.R_new' (Kd.R_new' ho1 (Kd.R_lt (by (with_reducible repeat (first | apply Kd.R_alloc | apply Kd.R_drewN | apply Kd.R_drew)); exact (yf HO_109001.out BK169.out (fun _ h_ => h_.1))))) (Kd.R_lt (by (with_reducible repeat (first | apply Kd.R_alloc | apply Kd.R_drewN | apply Kd.R_drew)); exact (yf HO_109002.out BK169.out (fun _ h_ => h_.1))))) (Kd.R_lt (by (with_reducible repeat (first | apply Kd.R_alloc | apply Kd.R_drewN | apply Kd.R_drew)); exact (yf HO_117001.out BK169.out (fun _ h_ => h_.1))))) (Kd.R_lt (by (with_reducible repeat (first | apply Kd.R_alloc | apply Kd.R_drewN | apply Kd.R_drew)); exact (yf HO_117002.out BK169.out (fun _ h_ => h_.1))))) (Kd.R_lt (by (with_reducible repeat (first | apply Kd.R_alloc | apply Kd.R_drewN | apply Kd.R_drew)); exact (yf HO157.out BK169.out (fun _ h_ => h_.1))))) (Kd.R_lt (by (with_reducible repeat (first | apply Kd.R_alloc | apply Kd.R_drewN | apply Kd.R_drew)); exact (yf HO160.out BK169.out (fun _ h_ => h_.1))))) (Kd.R_lt (by (with_reducible repeat (first | apply Kd.R_alloc | apply Kd.R_drewN | apply Kd.R_drew)); exact (yf HO164.out BK169.out (fun _ h_ => h_.1))))) (Kd.R_lt (by (with_reducible repeat (first | apply Kd.R_alloc | apply Kd.R_drewN | apply Kd.R_drew)); exact (yf HO167.out BK169.out (fun _ h_ => h_.1))))) (below_size (zB3 HB.out GE108.out GE116.out GE169.out))); replace HO_109001 := Aside0.mk (Kd.R_mono (Kd.R_told (Kd.R_told (Kd.R_old (by (with_reducible repeat (first | apply Kd.R_alloc | apply Kd.R_drewN | apply Kd.R_drew)); exact (yf HO_109001.out BK169.out (fun _ h_ => h_.1))) hb) (Kd.R_base ho0)) (Kd.R_base ho1)) (fun _ h_ => h_.1)); replace HO_109002 := Aside0.mk (Kd.R_mono (Kd.R_told (Kd.R_told (Kd.R_old (by (with_reducible repeat (first | apply Kd.R_alloc | apply Kd.R_drewN | apply Kd.R_drew)); exact (yf HO_109002.out BK169.out (fun _ h_ => h_.1))) hb) (Kd.R_base ho0)) (Kd.R_base ho1)) (fun _ h_ => h_.1)); replace HO_117001 := Aside0.mk (Kd.R_mono (Kd.R_told (Kd.R_told (Kd.R_old (by (with_reducible repeat (first | apply Kd.R_alloc | apply Kd.R_drewN | apply Kd.R_drew)); exact (yf HO_117001.out BK169.out (fun _ h_ => h_.1))) hb) (Kd.R_base ho0)) (Kd.R_base ho1)) (fun _ h_ => h_.1)); replace HO_117002 := Aside0.mk (Kd.R_mono (Kd.R_told (Kd.R_told (Kd.R_old (by (with_reducible repeat (first | apply Kd.R_alloc | apply Kd.R_drewN | apply Kd.R_drew)); exact (yf HO_117002.out BK169.out (fun _ h_ => h_.1))) hb) (Kd.R_base ho0)) (Kd.R_base ho1)) (fun _ h_ => h_.1)); replace HO157 := Aside0.mk (Kd.R_mono (Kd.R_told (Kd.R_told (Kd.R_old (by (with_reducible repeat (first | apply Kd.R_alloc | apply Kd.R_drewN | apply Kd.R_drew)); exact (yf HO157.out BK169.out (fun _ h_ => h_.1))) hb) (Kd.R_base ho0)) (Kd.R_base ho1)) (fun _ h_ => h_.1)); replace HO160 := Aside0.mk (Kd.R_mono (Kd.R_told (Kd.R_told (Kd.R_old (by (with_reducible repeat (first | apply Kd.R_alloc | apply Kd.R_drewN | apply Kd.R_drew)); exact (yf HO160.out BK169.out (fun _ h_ => h_.1))) hb) (Kd.R_base ho0)) (Kd.R_base ho1)) (fun _ h_ => h_.1)); replace HO164 := Aside0.mk (Kd.R_mono (Kd.R_told (Kd.R_told (Kd.R_old (by (with_reducible repeat (first | apply Kd.R_alloc | apply Kd.R_drewN | apply Kd.R_drew)); exact (yf HO164.out BK169.out (fun _ h_ => h_.1))) hb) (Kd.R_base ho0)) (Kd.R_base ho1)) (fun _ h_ => h_.1)); replace HO167 := Aside0.mk (Kd.R_mono (Kd.R_told (Kd.R_told (Kd.R_old (by (with_reducible repeat (first | apply Kd.R_alloc | apply Kd.R_drewN | apply Kd.R_drew)); exact (yf HO167.out BK169.out (fun _ h_ => h_.1))) hb) (Kd.R_base ho0)) (Kd.R_base ho1)) (fun _ h_ => h_.1)); replace BK108 := Aside0.mk (blk_below (g := gb108) (o := .cells #[.bool x109000_2, u109001, u109002] 60 (0, 0)) (by (with_reducible repeat (first | refine blk_drewN ?_ _ | refine blk_drew ?_ | refine blk_alloc ?_ _)); refine blk_far ?_ NB108_169.out _; (with_reducible repeat (first | refine blk_drewN ?_ _ | refine blk_drew ?_ | refine blk_alloc ?_ _)); refine blk_far ?_ NB108_169.out _; (with_reducible repeat (first | refine blk_drewN ?_ _ | refine blk_drew ?_ | refine blk_alloc ?_ _)); refine blk_far ?_ NB108_169.out _; (with_reducible repeat (first | refine blk_drewN ?_ _ | refine blk_drew ?_ | refine blk_alloc ?_ _)); exact BK108.out) hb); replace BK116 := Aside0.mk (blk_below (g := gb116) (o := .cells #[.bool x117000_2, u117001, u117002] 60 (0, 0)) (by (with_reducible repeat (first | refine blk_drewN ?_ _ | refine blk_drew ?_ | refine blk_alloc ?_ _)); refine blk_far ?_ NB116_169.out _; (with_reducible repeat (first | refine blk_drewN ?_ _ | refine blk_drew ?_ | refine blk_alloc ?_ _)); refine blk_far ?_ NB116_169.out _; (with_reducible repeat (first | refine blk_drewN ?_ _ | refine blk_drew ?_ | refine blk_alloc ?_ _)); refine blk_far ?_ NB116_169.out _; (with_reducible repeat (first | refine blk_drewN ?_ _ | refine blk_drew ?_ | refine blk_alloc ?_ _)); exact BK116.out) hb); replace BK169 := Aside0.mk (blk_below (g := gb169) (o := .cells #[.bool t161, .slice Ao83 t162.length co83, .slice Ao84 t165.length co84] 60 (0, 0)) (by (with_reducible repeat (first | refine blk_drewN ?_ _ | refine blk_drew ?_ | refine blk_alloc ?_ _)); refine blk_put (cs := #[.bool t161, .slice Ao83 t162.length co83, .slice none 0 0]) ?_ 2 _ rfl; (with_reducible repeat (first | refine blk_drewN ?_ _ | refine blk_drew ?_ | refine blk_alloc ?_ _)); refine blk_put (cs := #[.bool t161, .slice none 0 0, .slice none 0 0]) ?_ 1 _ rfl; (with_reducible repeat (first | refine blk_drewN ?_ _ | refine blk_drew ?_ | refine blk_alloc ?_ _)); refine blk_put (cs := #[.bool false, .slice none 0 0, .slice none 0 0]) ?_ 0 _ rfl; (with_reducible repeat (first | refine blk_drewN ?_ _ | refine blk_drew ?_ | refine blk_alloc ?_ _)); exact BK169.out) hb); replace HB := yS3 HB GE108 GE116 GE169 hb; (try clear hb ho0); (try clear ho1); obtain ⟨Ao86, co86, rfl⟩ := Kd.R_slice HO173.out; obtain ⟨Ao87, co87, rfl⟩ := Kd.R_slice HO176.out) | ((with_reducible refine gate_callee (f := 52) rfl ?_); refine zG (some 83) Try.func52 #[.agg #[.bool t170, .slice Ao86 t171.length co86, .slice Ao87 t174.length co87], .int .i64 (wrap64 (a2))] ?_; (with_reducible refine (codewrightref02_Pow.calls k2 t170 _ _ t171 _ _ t174 (wrap64 (a2)) t177 t178 t181 t184 _ ?side1 ?side2 ?side3 ?side4 A72.out).mono ?_); (case side1 => exact zC (Kd.R_reads' HO173.out).2.2); (case side2 => exact (Kd.R_reads' HO173.out).2.1); (case side3 => exact zC (Kd.R_reads' HO176.out).2.2); (case side4 => exact (Kd.R_reads' HO176.out).2.1); rintro e w88 ⟨v179, v182, rfl, ho0, ho1, hb⟩; refine ⟨_, rfl, ?_⟩; replace ho0 := yn ho0 HO_109001; replace ho0 := yn ho0 HO_109002; replace ho0 := yn ho0 HO_117001; replace ho0 := yn ho0 HO_117002; replace ho0 := yn ho0 HO157; replace ho0 := yn ho0 HO160; replace ho0 := yn ho0 HO164; replace ho0 := yn ho0 HO167; replace ho0 := yn ho0 HO173; replace ho0 := yn ho0 HO176; have HO180 := yRl3 ho0 HB GE108 GE116 GE169; replace ho1 := yn ho1 HO_109001; replace ho1 := yn ho1 HO_109002; replace ho1 := yn ho1 HO_117001; replace ho1 := yn ho1 HO_117002; replace ho1 := yn ho1 HO157; replace ho1 := yn ho1 HO160; replace ho1 := yn ho1 HO164; replace ho1 := yn ho1 HO167; replace ho1 := yn ho1 HO173; replace ho1 := yn ho1 HO176; have HO183 := yRl3 ho1 HB GE108 GE116 GE169; replace HO_109001 := yRt HO_109001 hb ho0 ho1; replace HO_109002 := yRt HO_109002 hb ho0 ho1; replace HO_117001 := yRt HO_117001 hb ho0 ho1; replace HO_117002 := yRt HO_117002 hb ho0 ho1; replace HO157 := yRt HO157 hb ho0 ho1; replace HO160 := yRt HO160 hb ho0 ho1; replace HO164 := yRt HO164 hb ho0 ho1; replace HO167 := yRt HO167 hb ho0 ho1; replace HO173 := yRt HO173 hb ho0 ho1; replace HO176 := yRt HO176 hb ho0 ho1; replace BK108 := yK BK108 hb; replace BK116 := yK BK116 hb; replace BK169 := yK BK169 hb; replace HB := yS3 HB GE108 GE116 GE169 hb; (try clear hb ho0); (try clear ho1)) | ((with_reducible refine gate_dst (N := 16) rfl ?_); refine box_event ?hg (N := 16) ?hd (cs := #[.bool false, .slice none 0 0, .slice none 0 0]) (t := 60) ?hr ?_; (case hd => rfl); (case hg => rfl); (case hr => first | (go_simp; done) | (go_simp; rfl)); intro gb185 hg w89 hbox hb; replace HO_109001 := yRb HO_109001 hb; replace HO_109002 := yRb HO_109002 hb; replace HO_117001 := yRb HO_117001 hb; replace HO_117002 := yRb HO_117002 hb; replace HO157 := yRb HO157 hb; replace HO160 := yRb HO160 hb; replace HO164 := yRb HO164 hb; replace HO167 := yRb HO167 hb; replace HO173 := yRb HO173 hb; replace HO176 := yRb HO176 hb; replace HO180 := yRb HO180 hb; replace HO183 := yRb HO183 hb; have BK185 := Aside0.mk (hbox); have GW185 := yg3 hg HB GE108 GE116 GE169; have GE185 := yg3 hg HB GE108 GE116 GE169; replace HB := yS3 HB GE108 GE116 GE169 hb; have NB108_185 := ynl hg BK108; have NB185_108 := yng hg BK108; replace BK108 := yK BK108 hb; have NB116_185 := ynl hg BK116; have NB185_116 := yng hg BK116; replace BK116 := yK BK116 hb; have NB169_185 := ynl hg BK169; have NB185_169 := yng hg BK169; replace BK169 := yK BK169 hb; clear hb hbox hg; have hnb90 := NB185_108.out; have hnc90 := NB108_185.out; have hnb91 := NB185_116.out; have hnc91 := NB116_185.out; have hnb92 := NB185_169.out; have hnc92 := NB169_185.out; have hcz93_0 : w89.cell? ⟨gb185, 0, none⟩ = some (.bool false) := (blk_cell BK185.out 0).trans rfl; have hcz93_1 : w89.cell? ⟨gb185, 1, none⟩ = some (.slice none 0 0) := (blk_cell BK185.out 1).trans rfl; have hcz93_2 : w89.cell? ⟨gb185, 2, none⟩ = some (.slice none 0 0) := (blk_cell BK185.out 2).trans rfl; have hfz93_0 := blk_frozen BK185.out 0; have hfz93_1 := blk_frozen BK185.out 1; have hfz93_2 := blk_frozen BK185.out 2; obtain ⟨Ao94, co94, rfl⟩ := Kd.R_slice HO180.out; obtain ⟨Ao95, co95, rfl⟩ := Kd.R_slice HO183.out))
 have n0_ : Aside0 (Kd.R (Kd.int .u32) 97 (((w89.setCell ⟨gb185, 0, none⟩ (.bool t177)).setCell ⟨gb185, 1, none⟩ (.slice Ao94 t178.length co94)).setCell ⟨gb185, 2, none⟩ (.slice Ao95 t181.length co95)) w.heap.size (fun k_ => some k_ ≠ (u109002 : Value).ownBlock ∧ some k_ ≠ (u117001 : Value).ownBlock ∧ some k_ ≠ (u117002 : Value).ownBlock ∧ some k_ ≠ (.slice Ao76 t155.length co76 : Value).ownBlock ∧ some k_ ≠ (.slice Ao77 t158.length co77 : Value).ownBlock ∧ some k_ ≠ (.slice Ao83 t162.length co83 : Value).ownBlock ∧ some k_ ≠ (.slice Ao84 t165.length co84 : Value).ownBlock ∧ some k_ ≠ (.slice Ao86 t171.length co86 : Value).ownBlock ∧ some k_ ≠ (.slice Ao87 t174.length co87 : Value).ownBlock ∧ some k_ ≠ (.slice Ao94 t178.length co94 : Value).ownBlock ∧ some k_ ≠ (.slice Ao95 t181.length co95 : Value).ownBlock) u109001 x109001_2) := ⟨by (with_reducible repeat (first | apply Kd.R_alloc | apply Kd.R_drewN | apply Kd.R_drew)); exact yf HO_109001.out BK185.out (fun _ hk => ⟨hk.1.1.1.1.1.1.1.1.1.1, ⟨hk.1.1.1.1.1.1.1.1.1.2.1, ⟨hk.1.1.1.1.1.1.1.1.1.2.2, ⟨hk.1.1.1.1.1.1.1.1.2, ⟨hk.1.1.1.1.1.1.1.2, ⟨hk.1.1.1.1.1.1.2, ⟨hk.1.1.1.1.1.2, ⟨hk.1.1.1.1.2, ⟨hk.1.1.1.2, ⟨hk.1.1.2, hk.1.2⟩⟩⟩⟩⟩⟩⟩⟩⟩⟩)⟩
 have n1_ : Aside0 (Kd.R (Kd.int .u32) 97 (((w89.setCell ⟨gb185, 0, none⟩ (.bool t177)).setCell ⟨gb185, 1, none⟩ (.slice Ao94 t178.length co94)).setCell ⟨gb185, 2, none⟩ (.slice Ao95 t181.length co95)) w.heap.size (fun k_ => some k_ ≠ (u109001 : Value).ownBlock ∧ some k_ ≠ (u117001 : Value).ownBlock ∧ some k_ ≠ (u117002 : Value).ownBlock ∧ some k_ ≠ (.slice Ao76 t155.length co76 : Value).ownBlock ∧ some k_ ≠ (.slice Ao77 t158.length co77 : Value).ownBlock ∧ some k_ ≠ (.slice Ao83 t162.length co83 : Value).ownBlock ∧ some k_ ≠ (.slice Ao84 t165.length co84 : Value).ownBlock ∧ some k_ ≠ (.slice Ao86 t171.length co86 : Value).ownBlock ∧ some k_ ≠ (.slice Ao87 t174.length co87 : Value).ownBlock ∧ some k_ ≠ (.slice Ao94 t178.length co94 : Value).ownBlock ∧ some k_ ≠ (.slice Ao95 t181.length co95 : Value).ownBlock) u109002 x109002_2) := ⟨by (with_reducible repeat (first | apply Kd.R_alloc | apply Kd.R_drewN | apply Kd.R_drew)); exact yf HO_109002.out BK185.out (fun _ hk => ⟨hk.1.1.1.1.1.1.1.1.1.1, ⟨hk.1.1.1.1.1.1.1.1.1.2.1, ⟨hk.1.1.1.1.1.1.1.1.1.2.2, ⟨hk.1.1.1.1.1.1.1.1.2, ⟨hk.1.1.1.1.1.1.1.2, ⟨hk.1.1.1.1.1.1.2, ⟨hk.1.1.1.1.1.2, ⟨hk.1.1.1.1.2, ⟨hk.1.1.1.2, ⟨hk.1.1.2, hk.1.2⟩⟩⟩⟩⟩⟩⟩⟩⟩⟩)⟩
 have n2_ : Aside0 (Kd.R (Kd.int .u32) 97 (((w89.setCell ⟨gb185, 0, none⟩ (.bool t177)).setCell ⟨gb185, 1, none⟩ (.slice Ao94 t178.length co94)).setCell ⟨gb185, 2, none⟩ (.slice Ao95 t181.length co95)) w.heap.size (fun k_ => some k_ ≠ (u109001 : Value).ownBlock ∧ some k_ ≠ (u109002 : Value).ownBlock ∧ some k_ ≠ (u117002 : Value).ownBlock ∧ some k_ ≠ (.slice Ao76 t155.length co76 : Value).ownBlock ∧ some k_ ≠ (.slice Ao77 t158.length co77 : Value).ownBlock ∧ some k_ ≠ (.slice Ao83 t162.length co83 : Value).ownBlock ∧ some k_ ≠ (.slice Ao84 t165.length co84 : Value).ownBlock ∧ some k_ ≠ (.slice Ao86 t171.length co86 : Value).ownBlock ∧ some k_ ≠ (.slice Ao87 t174.length co87 : Value).ownBlock ∧ some k_ ≠ (.slice Ao94 t178.length co94 : Value).ownBlock ∧ some k_ ≠ (.slice Ao95 t181.length co95 : Value).ownBlock) u117001 x117001_2) := ⟨by (with_reducible repeat (first | apply Kd.R_alloc | apply Kd.R_drewN | apply Kd.R_drew)); exact yf HO_117001.out BK185.out (fun _ hk => ⟨hk.1.1.1.1.1.1.1.1.1.1, ⟨hk.1.1.1.1.1.1.1.1.1.2.1, ⟨hk.1.1.1.1.1.1.1.1.1.2.2, ⟨hk.1.1.1.1.1.1.1.1.2, ⟨hk.1.1.1.1.1.1.1.2, ⟨hk.1.1.1.1.1.1.2, ⟨hk.1.1.1.1.1.2, ⟨hk.1.1.1.1.2, ⟨hk.1.1.1.2, ⟨hk.1.1.2, hk.1.2⟩⟩⟩⟩⟩⟩⟩⟩⟩⟩)⟩
 have n3_ : Aside0 (Kd.R (Kd.int .u32) 97 (((w89.setCell ⟨gb185, 0, none⟩ (.bool t177)).setCell ⟨gb185, 1, none⟩ (.slice Ao94 t178.length co94)).setCell ⟨gb185, 2, none⟩ (.slice Ao95 t181.length co95)) w.heap.size (fun k_ => some k_ ≠ (u109001 : Value).ownBlock ∧ some k_ ≠ (u109002 : Value).ownBlock ∧ some k_ ≠ (u117001 : Value).ownBlock ∧ some k_ ≠ (.slice Ao76 t155.length co76 : Value).ownBlock ∧ some k_ ≠ (.slice Ao77 t158.length co77 : Value).ownBlock ∧ some k_ ≠ (.slice Ao83 t162.length co83 : Value).ownBlock ∧ some k_ ≠ (.slice Ao84 t165.length co84 : Value).ownBlock ∧ some k_ ≠ (.slice Ao86 t171.length co86 : Value).ownBlock ∧ some k_ ≠ (.slice Ao87 t174.length co87 : Value).ownBlock ∧ some k_ ≠ (.slice Ao94 t178.length co94 : Value).ownBlock ∧ some k_ ≠ (.slice Ao95 t181.length co95 : Value).ownBlock) u117002 x117002_2) := ⟨by (with_reducible repeat (first | apply Kd.R_alloc | apply Kd.R_drewN | apply Kd.R_drew)); exact yf HO_117002.out BK185.out (fun _ hk => ⟨hk.1.1.1.1.1.1.1.1.1.1, ⟨hk.1.1.1.1.1.1.1.1.1.2.1, ⟨hk.1.1.1.1.1.1.1.1.1.2.2, ⟨hk.1.1.1.1.1.1.1.1.2, ⟨hk.1.1.1.1.1.1.1.2, ⟨hk.1.1.1.1.1.1.2, ⟨hk.1.1.1.1.1.2, ⟨hk.1.1.1.1.2, ⟨hk.1.1.1.2, ⟨hk.1.1.2, hk.1.2⟩⟩⟩⟩⟩⟩⟩⟩⟩⟩)⟩
 have n4_ : Aside0 (Kd.R (Kd.int .u32) 97 (((w89.setCell ⟨gb185, 0, none⟩ (.bool t177)).setCell ⟨gb185, 1, none⟩ (.slice Ao94 t178.length co94)).setCell ⟨gb185, 2, none⟩ (.slice Ao95 t181.length co95)) w.heap.size (fun k_ => some k_ ≠ (u109001 : Value).ownBlock ∧ some k_ ≠ (u109002 : Value).ownBlock ∧ some k_ ≠ (u117001 : Value).ownBlock ∧ some k_ ≠ (u117002 : Value).ownBlock ∧ some k_ ≠ (.slice Ao77 t158.length co77 : Value).ownBlock ∧ some k_ ≠ (.slice Ao83 t162.length co83 : Value).ownBlock ∧ some k_ ≠ (.slice Ao84 t165.length co84 : Value).ownBlock ∧ some k_ ≠ (.slice Ao86 t171.length co86 : Value).ownBlock ∧ some k_ ≠ (.slice Ao87 t174.length co87 : Value).ownBlock ∧ some k_ ≠ (.slice Ao94 t178.length co94 : Value).ownBlock ∧ some k_ ≠ (.slice Ao95 t181.length co95 : Value).ownBlock) (.slice Ao76 t155.length co76) t155) := ⟨by (with_reducible repeat (first | apply Kd.R_alloc | apply Kd.R_drewN | apply Kd.R_drew)); exact yf HO157.out BK185.out (fun _ hk => ⟨hk.1.1.1.1.1.1.1.1.1.1.2, ⟨hk.1.1.1.1.1.1.1.1.1.2, ⟨hk.1.1.1.1.1.1.1.1.2, ⟨hk.1.1.1.1.1.1.1.2, ⟨hk.1.1.1.1.1.1.1.1.1.1.1, ⟨hk.1.1.1.1.1.1.2, ⟨hk.1.1.1.1.1.2, ⟨hk.1.1.1.1.2, ⟨hk.1.1.1.2, ⟨hk.1.1.2, hk.1.2⟩⟩⟩⟩⟩⟩⟩⟩⟩⟩)⟩
 have n5_ : Aside0 (Kd.R (Kd.int .u32) 97 (((w89.setCell ⟨gb185, 0, none⟩ (.bool t177)).setCell ⟨gb185, 1, none⟩ (.slice Ao94 t178.length co94)).setCell ⟨gb185, 2, none⟩ (.slice Ao95 t181.length co95)) w.heap.size (fun k_ => some k_ ≠ (u109001 : Value).ownBlock ∧ some k_ ≠ (u109002 : Value).ownBlock ∧ some k_ ≠ (u117001 : Value).ownBlock ∧ some k_ ≠ (u117002 : Value).ownBlock ∧ some k_ ≠ (.slice Ao76 t155.length co76 : Value).ownBlock ∧ some k_ ≠ (.slice Ao83 t162.length co83 : Value).ownBlock ∧ some k_ ≠ (.slice Ao84 t165.length co84 : Value).ownBlock ∧ some k_ ≠ (.slice Ao86 t171.length co86 : Value).ownBlock ∧ some k_ ≠ (.slice Ao87 t174.length co87 : Value).ownBlock ∧ some k_ ≠ (.slice Ao94 t178.length co94 : Value).ownBlock ∧ some k_ ≠ (.slice Ao95 t181.length co95 : Value).ownBlock) (.slice Ao77 t158.length co77) t158) := ⟨by (with_reducible repeat (first | apply Kd.R_alloc | apply Kd.R_drewN | apply Kd.R_drew)); exact yf HO160.out BK185.out (fun _ hk => ⟨hk.1.1.1.1.1.1.1.1.1.1.2, ⟨hk.1.1.1.1.1.1.1.1.1.2, ⟨hk.1.1.1.1.1.1.1.1.2, ⟨hk.1.1.1.1.1.1.1.2, ⟨hk.1.1.1.1.1.1.1.1.1.1.1, ⟨hk.1.1.1.1.1.1.2, ⟨hk.1.1.1.1.1.2, ⟨hk.1.1.1.1.2, ⟨hk.1.1.1.2, ⟨hk.1.1.2, hk.1.2⟩⟩⟩⟩⟩⟩⟩⟩⟩⟩)⟩
 have n6_ : Aside0 (Kd.R (Kd.int .u32) 97 (((w89.setCell ⟨gb185, 0, none⟩ (.bool t177)).setCell ⟨gb185, 1, none⟩ (.slice Ao94 t178.length co94)).setCell ⟨gb185, 2, none⟩ (.slice Ao95 t181.length co95)) w.heap.size (fun k_ => some k_ ≠ (u109001 : Value).ownBlock ∧ some k_ ≠ (u109002 : Value).ownBlock ∧ some k_ ≠ (u117001 : Value).ownBlock ∧ some k_ ≠ (u117002 : Value).ownBlock ∧ some k_ ≠ (.slice Ao76 t155.length co76 : Value).ownBlock ∧ some k_ ≠ (.slice Ao77 t158.length co77 : Value).ownBlock ∧ some k_ ≠ (.slice Ao84 t165.length co84 : Value).ownBlock ∧ some k_ ≠ (.slice Ao86 t171.length co86 : Value).ownBlock ∧ some k_ ≠ (.slice Ao87 t174.length co87 : Value).ownBlock ∧ some k_ ≠ (.slice Ao94 t178.length co94 : Value).ownBlock ∧ some k_ ≠ (.slice Ao95 t181.length co95 : Value).ownBlock) (.slice Ao83 t162.length co83) t162) := ⟨by (with_reducible repeat (first | apply Kd.R_alloc | apply Kd.R_drewN | apply Kd.R_drew)); exact yf HO164.out BK185.out (fun _ hk => ⟨hk.1.1.1.1.1.1.1.1.1.1.2, ⟨hk.1.1.1.1.1.1.1.1.1.2, ⟨hk.1.1.1.1.1.1.1.1.2, ⟨hk.1.1.1.1.1.1.1.2, ⟨hk.1.1.1.1.1.1.2, ⟨hk.1.1.1.1.1.2, ⟨hk.1.1.1.1.1.1.1.1.1.1.1, ⟨hk.1.1.1.1.2, ⟨hk.1.1.1.2, ⟨hk.1.1.2, hk.1.2⟩⟩⟩⟩⟩⟩⟩⟩⟩⟩)⟩
 have n7_ : Aside0 (Kd.R (Kd.int .u32) 97 (((w89.setCell ⟨gb185, 0, none⟩ (.bool t177)).setCell ⟨gb185, 1, none⟩ (.slice Ao94 t178.length co94)).setCell ⟨gb185, 2, none⟩ (.slice Ao95 t181.length co95)) w.heap.size (fun k_ => some k_ ≠ (u109001 : Value).ownBlock ∧ some k_ ≠ (u109002 : Value).ownBlock ∧ some k_ ≠ (u117001 : Value).ownBlock ∧ some k_ ≠ (u117002 : Value).ownBlock ∧ some k_ ≠ (.slice Ao76 t155.length co76 : Value).ownBlock ∧ some k_ ≠ (.slice Ao77 t158.length co77 : Value).ownBlock ∧ some k_ ≠ (.slice Ao83 t162.length co83 : Value).ownBlock ∧ some k_ ≠ (.slice Ao86 t171.length co86 : Value).ownBlock ∧ some k_ ≠ (.slice Ao87 t174.length co87 : Value).ownBlock ∧ some k_ ≠ (.slice Ao94 t178.length co94 : Value).ownBlock ∧ some k_ ≠ (.slice Ao95 t181.length co95 : Value).ownBlock) (.slice Ao84 t165.length co84) t165) := ⟨by (with_reducible repeat (first | apply Kd.R_alloc | apply Kd.R_drewN | apply Kd.R_drew)); exact yf HO167.out BK185.out (fun _ hk => ⟨hk.1.1.1.1.1.1.1.1.1.1.2, ⟨hk.1.1.1.1.1.1.1.1.1.2, ⟨hk.1.1.1.1.1.1.1.1.2, ⟨hk.1.1.1.1.1.1.1.2, ⟨hk.1.1.1.1.1.1.2, ⟨hk.1.1.1.1.1.2, ⟨hk.1.1.1.1.1.1.1.1.1.1.1, ⟨hk.1.1.1.1.2, ⟨hk.1.1.1.2, ⟨hk.1.1.2, hk.1.2⟩⟩⟩⟩⟩⟩⟩⟩⟩⟩)⟩
 have n8_ : Aside0 (Kd.R (Kd.int .u32) 97 (((w89.setCell ⟨gb185, 0, none⟩ (.bool t177)).setCell ⟨gb185, 1, none⟩ (.slice Ao94 t178.length co94)).setCell ⟨gb185, 2, none⟩ (.slice Ao95 t181.length co95)) w.heap.size (fun k_ => some k_ ≠ (u109001 : Value).ownBlock ∧ some k_ ≠ (u109002 : Value).ownBlock ∧ some k_ ≠ (u117001 : Value).ownBlock ∧ some k_ ≠ (u117002 : Value).ownBlock ∧ some k_ ≠ (.slice Ao76 t155.length co76 : Value).ownBlock ∧ some k_ ≠ (.slice Ao77 t158.length co77 : Value).ownBlock ∧ some k_ ≠ (.slice Ao83 t162.length co83 : Value).ownBlock ∧ some k_ ≠ (.slice Ao84 t165.length co84 : Value).ownBlock ∧ some k_ ≠ (.slice Ao87 t174.length co87 : Value).ownBlock ∧ some k_ ≠ (.slice Ao94 t178.length co94 : Value).ownBlock ∧ some k_ ≠ (.slice Ao95 t181.length co95 : Value).ownBlock) (.slice Ao86 t171.length co86) t171) := ⟨by (with_reducible repeat (first | apply Kd.R_alloc | apply Kd.R_drewN | apply Kd.R_drew)); exact yf HO173.out BK185.out (fun _ hk => ⟨hk.1.1.1.1.1.1.1.1.1.1.2, ⟨hk.1.1.1.1.1.1.1.1.1.2, ⟨hk.1.1.1.1.1.1.1.1.2, ⟨hk.1.1.1.1.1.1.1.2, ⟨hk.1.1.1.1.1.1.2, ⟨hk.1.1.1.1.1.2, ⟨hk.1.1.1.1.2, ⟨hk.1.1.1.2, ⟨hk.1.1.1.1.1.1.1.1.1.1.1, ⟨hk.1.1.2, hk.1.2⟩⟩⟩⟩⟩⟩⟩⟩⟩⟩)⟩
 have n9_ : Aside0 (Kd.R (Kd.int .u32) 97 (((w89.setCell ⟨gb185, 0, none⟩ (.bool t177)).setCell ⟨gb185, 1, none⟩ (.slice Ao94 t178.length co94)).setCell ⟨gb185, 2, none⟩ (.slice Ao95 t181.length co95)) w.heap.size (fun k_ => some k_ ≠ (u109001 : Value).ownBlock ∧ some k_ ≠ (u109002 : Value).ownBlock ∧ some k_ ≠ (u117001 : Value).ownBlock ∧ some k_ ≠ (u117002 : Value).ownBlock ∧ some k_ ≠ (.slice Ao76 t155.length co76 : Value).ownBlock ∧ some k_ ≠ (.slice Ao77 t158.length co77 : Value).ownBlock ∧ some k_ ≠ (.slice Ao83 t162.length co83 : Value).ownBlock ∧ some k_ ≠ (.slice Ao84 t165.length co84 : Value).ownBlock ∧ some k_ ≠ (.slice Ao86 t171.length co86 : Value).ownBlock ∧ some k_ ≠ (.slice Ao94 t178.length co94 : Value).ownBlock ∧ some k_ ≠ (.slice Ao95 t181.length co95 : Value).ownBlock) (.slice Ao87 t174.length co87) t174) := ⟨by (with_reducible repeat (first | apply Kd.R_alloc | apply Kd.R_drewN | apply Kd.R_drew)); exact yf HO176.out BK185.out (fun _ hk => ⟨hk.1.1.1.1.1.1.1.1.1.1.2, ⟨hk.1.1.1.1.1.1.1.1.1.2, ⟨hk.1.1.1.1.1.1.1.1.2, ⟨hk.1.1.1.1.1.1.1.2, ⟨hk.1.1.1.1.1.1.2, ⟨hk.1.1.1.1.1.2, ⟨hk.1.1.1.1.2, ⟨hk.1.1.1.2, ⟨hk.1.1.1.1.1.1.1.1.1.1.1, ⟨hk.1.1.2, hk.1.2⟩⟩⟩⟩⟩⟩⟩⟩⟩⟩)⟩
 have n10_ : Aside0 (Kd.R (Kd.int .u32) 97 (((w89.setCell ⟨gb185, 0, none⟩ (.bool t177)).setCell ⟨gb185, 1, none⟩ (.slice Ao94 t178.length co94)).setCell ⟨gb185, 2, none⟩ (.slice Ao95 t181.length co95)) w.heap.size (fun k_ => some k_ ≠ (u109001 : Value).ownBlock ∧ some k_ ≠ (u109002 : Value).ownBlock ∧ some k_ ≠ (u117001 : Value).ownBlock ∧ some k_ ≠ (u117002 : Value).ownBlock ∧ some k_ ≠ (.slice Ao76 t155.length co76 : Value).ownBlock ∧ some k_ ≠ (.slice Ao77 t158.length co77 : Value).ownBlock ∧ some k_ ≠ (.slice Ao83 t162.length co83 : Value).ownBlock ∧ some k_ ≠ (.slice Ao84 t165.length co84 : Value).ownBlock ∧ some k_ ≠ (.slice Ao86 t171.length co86 : Value).ownBlock ∧ some k_ ≠ (.slice Ao87 t174.length co87 : Value).ownBlock ∧ some k_ ≠ (.slice Ao95 t181.length co95 : Value).ownBlock) (.slice Ao94 t178.length co94) t178) := ⟨by (with_reducible repeat (first | apply Kd.R_alloc | apply Kd.R_drewN | apply Kd.R_drew)); exact yf HO180.out BK185.out (fun _ hk => ⟨hk.1.1.1.1.1.1.1.1.1.1.2, ⟨hk.1.1.1.1.1.1.1.1.1.2, ⟨hk.1.1.1.1.1.1.1.1.2, ⟨hk.1.1.1.1.1.1.1.2, ⟨hk.1.1.1.1.1.1.2, ⟨hk.1.1.1.1.1.2, ⟨hk.1.1.1.1.2, ⟨hk.1.1.1.2, ⟨hk.1.1.2, ⟨hk.1.2, hk.1.1.1.1.1.1.1.1.1.1.1⟩⟩⟩⟩⟩⟩⟩⟩⟩⟩)⟩
 have n11_ : Aside0 (Kd.R (Kd.int .u32) 97 (((w89.setCell ⟨gb185, 0, none⟩ (.bool t177)).setCell ⟨gb185, 1, none⟩ (.slice Ao94 t178.length co94)).setCell ⟨gb185, 2, none⟩ (.slice Ao95 t181.length co95)) w.heap.size (fun k_ => some k_ ≠ (u109001 : Value).ownBlock ∧ some k_ ≠ (u109002 : Value).ownBlock ∧ some k_ ≠ (u117001 : Value).ownBlock ∧ some k_ ≠ (u117002 : Value).ownBlock ∧ some k_ ≠ (.slice Ao76 t155.length co76 : Value).ownBlock ∧ some k_ ≠ (.slice Ao77 t158.length co77 : Value).ownBlock ∧ some k_ ≠ (.slice Ao83 t162.length co83 : Value).ownBlock ∧ some k_ ≠ (.slice Ao84 t165.length co84 : Value).ownBlock ∧ some k_ ≠ (.slice Ao86 t171.length co86 : Value).ownBlock ∧ some k_ ≠ (.slice Ao87 t174.length co87 : Value).ownBlock ∧ some k_ ≠ (.slice Ao94 t178.length co94 : Value).ownBlock) (.slice Ao95 t181.length co95) t181) := ⟨by (with_reducible repeat (first | apply Kd.R_alloc | apply Kd.R_drewN | apply Kd.R_drew)); exact yf HO183.out BK185.out (fun _ hk => ⟨hk.1.1.1.1.1.1.1.1.1.1.2, ⟨hk.1.1.1.1.1.1.1.1.1.2, ⟨hk.1.1.1.1.1.1.1.1.2, ⟨hk.1.1.1.1.1.1.1.2, ⟨hk.1.1.1.1.1.1.2, ⟨hk.1.1.1.1.1.2, ⟨hk.1.1.1.1.2, ⟨hk.1.1.1.2, ⟨hk.1.1.2, ⟨hk.1.2, hk.1.1.1.1.1.1.1.1.1.1.1⟩⟩⟩⟩⟩⟩⟩⟩⟩⟩)⟩
 have n12_ : Aside0 ((((w89.setCell ⟨gb185, 0, none⟩ (.bool t177)).setCell ⟨gb185, 1, none⟩ (.slice Ao94 t178.length co94)).setCell ⟨gb185, 2, none⟩ (.slice Ao95 t181.length co95)).heap[gb108]? = some (.cells #[.bool x109000_2, u109001, u109002] 60 (0, 0))) := ⟨by (with_reducible repeat (first | refine blk_drewN ?_ _ | refine blk_drew ?_ | refine blk_alloc ?_ _)); refine blk_far ?_ NB108_185.out _; (with_reducible repeat (first | refine blk_drewN ?_ _ | refine blk_drew ?_ | refine blk_alloc ?_ _)); refine blk_far ?_ NB108_185.out _; (with_reducible repeat (first | refine blk_drewN ?_ _ | refine blk_drew ?_ | refine blk_alloc ?_ _)); refine blk_far ?_ NB108_185.out _; (with_reducible repeat (first | refine blk_drewN ?_ _ | refine blk_drew ?_ | refine blk_alloc ?_ _)); exact BK108.out⟩
 have n13_ : Aside0 ((((w89.setCell ⟨gb185, 0, none⟩ (.bool t177)).setCell ⟨gb185, 1, none⟩ (.slice Ao94 t178.length co94)).setCell ⟨gb185, 2, none⟩ (.slice Ao95 t181.length co95)).heap[gb116]? = some (.cells #[.bool x117000_2, u117001, u117002] 60 (0, 0))) := ⟨by (with_reducible repeat (first | refine blk_drewN ?_ _ | refine blk_drew ?_ | refine blk_alloc ?_ _)); refine blk_far ?_ NB116_185.out _; (with_reducible repeat (first | refine blk_drewN ?_ _ | refine blk_drew ?_ | refine blk_alloc ?_ _)); refine blk_far ?_ NB116_185.out _; (with_reducible repeat (first | refine blk_drewN ?_ _ | refine blk_drew ?_ | refine blk_alloc ?_ _)); refine blk_far ?_ NB116_185.out _; (with_reducible repeat (first | refine blk_drewN ?_ _ | refine blk_drew ?_ | refine blk_alloc ?_ _)); exact BK116.out⟩
 have n14_ : Aside0 ((((w89.setCell ⟨gb185, 0, none⟩ (.bool t177)).setCell ⟨gb185, 1, none⟩ (.slice Ao94 t178.length co94)).setCell ⟨gb185, 2, none⟩ (.slice Ao95 t181.length co95)).heap[gb169]? = some (.cells #[.bool t161, .slice Ao83 t162.length co83, .slice Ao84 t165.length co84] 60 (0, 0))) := ⟨by (with_reducible repeat (first | refine blk_drewN ?_ _ | refine blk_drew ?_ | refine blk_alloc ?_ _)); refine blk_far ?_ NB169_185.out _; (with_reducible repeat (first | refine blk_drewN ?_ _ | refine blk_drew ?_ | refine blk_alloc ?_ _)); refine blk_far ?_ NB169_185.out _; (with_reducible repeat (first | refine blk_drewN ?_ _ | refine blk_drew ?_ | refine blk_alloc ?_ _)); refine blk_far ?_ NB169_185.out _; (with_reducible repeat (first | refine blk_drewN ?_ _ | refine blk_drew ?_ | refine blk_alloc ?_ _)); exact BK169.out⟩
 have n15_ : Aside0 ((((w89.setCell ⟨gb185, 0, none⟩ (.bool t177)).setCell ⟨gb185, 1, none⟩ (.slice Ao94 t178.length co94)).setCell ⟨gb185, 2, none⟩ (.slice Ao95 t181.length co95)).heap[gb185]? = some (.cells #[.bool t177, .slice Ao94 t178.length co94, .slice Ao95 t181.length co95] 60 (0, 0))) := ⟨by (with_reducible repeat (first | refine blk_drewN ?_ _ | refine blk_drew ?_ | refine blk_alloc ?_ _)); refine blk_put (cs := #[.bool t177, .slice Ao94 t178.length co94, .slice none 0 0]) ?_ 2 _ rfl; (with_reducible repeat (first | refine blk_drewN ?_ _ | refine blk_drew ?_ | refine blk_alloc ?_ _)); refine blk_put (cs := #[.bool t177, .slice none 0 0, .slice none 0 0]) ?_ 1 _ rfl; (with_reducible repeat (first | refine blk_drewN ?_ _ | refine blk_drew ?_ | refine blk_alloc ?_ _)); refine blk_put (cs := #[.bool false, .slice none 0 0, .slice none 0 0]) ?_ 0 _ rfl; (with_reducible repeat (first | refine blk_drewN ?_ _ | refine blk_drew ?_ | refine blk_alloc ?_ _)); exact BK185.out⟩
 have n16_ : Aside0 (Below w.heap.size w (((w89.setCell ⟨gb185, 0, none⟩ (.bool t177)).setCell ⟨gb185, 1, none⟩ (.slice Ao94 t178.length co94)).setCell ⟨gb185, 2, none⟩ (.slice Ao95 t181.length co95))) := ⟨zB4 HB.out GE108.out GE116.out GE169.out GE185.out⟩
 (try clear HO_109001)
 (try clear HO_109002)
 (try clear HO_117001)
 (try clear HO_117002)
 (try clear HO157)
 (try clear HO160)
 (try clear HO164)
 (try clear HO167)
 (try clear HO173)
 (try clear HO176)
 (try clear HO180)
 (try clear HO183)
 (try clear BK108)
 (try clear BK116)
 (try clear BK169)
 (try clear BK185)
 (try clear HB)
 generalize (((w89.setCell ⟨gb185, 0, none⟩ (.bool t177)).setCell ⟨gb185, 1, none⟩ (.slice Ao94 t178.length co94)).setCell ⟨gb185, 2, none⟩ (.slice Ao95 t181.length co95)) = w96 at n0_ n1_ n2_ n3_ n4_ n5_ n6_ n7_ n8_ n9_ n10_ n11_ n12_ n13_ n14_ n15_ n16_ ⊢
 have HO_109001 := n0_
 have HO_109002 := n1_
 have HO_117001 := n2_
 have HO_117002 := n3_
 have HO157 := n4_
 have HO160 := n5_
 have HO164 := n6_
 have HO167 := n7_
 have HO173 := n8_
 have HO176 := n9_
 have HO180 := n10_
 have HO183 := n11_
 have BK108 := n12_
 have BK116 := n13_
 have BK169 := n14_
 have BK185 := n15_
 have HB := n16_
 clear n0_ n1_ n2_ n3_ n4_ n5_ n6_ n7_ n8_ n9_ n10_ n11_ n12_ n13_ n14_ n15_ n16_
 replace HO_109001 := Aside0.mk (Kd.R_drew HO_109001.out)
 replace HO_109002 := Aside0.mk (Kd.R_drew HO_109002.out)
 replace HO_117001 := Aside0.mk (Kd.R_drew HO_117001.out)
 replace HO_117002 := Aside0.mk (Kd.R_drew HO_117002.out)
 replace HO157 := Aside0.mk (Kd.R_drew HO157.out)
 replace HO160 := Aside0.mk (Kd.R_drew HO160.out)
 replace HO164 := Aside0.mk (Kd.R_drew HO164.out)
 replace HO167 := Aside0.mk (Kd.R_drew HO167.out)
 replace HO173 := Aside0.mk (Kd.R_drew HO173.out)
 replace HO176 := Aside0.mk (Kd.R_drew HO176.out)
 replace HO180 := Aside0.mk (Kd.R_drew HO180.out)
 replace HO183 := Aside0.mk (Kd.R_drew HO183.out)
 replace BK108 := Aside0.mk (blk_drew BK108.out)
 replace BK116 := Aside0.mk (blk_drew BK116.out)
 replace BK169 := Aside0.mk (blk_drew BK169.out)
 replace BK185 := Aside0.mk (blk_drew BK185.out)
 replace HB := Aside0.mk (below_drew1 HB.out)
 refine start_ (n := 6) (S := fun w' => w'.cell? ⟨gb108, 0, none⟩ = some (.bool x109000_2) ∧ w'.cell? ⟨gb108, 1, none⟩ = some (u109001) ∧ w'.cell? ⟨gb108, 2, none⟩ = some (u109002) ∧ w'.cell? ⟨gb169, 0, none⟩ = some (.bool t161) ∧ w'.cell? ⟨gb169, 1, none⟩ = some (.slice Ao83 t162.length co83) ∧ w'.cell? ⟨gb169, 2, none⟩ = some (.slice Ao84 t165.length co84) ∧ w'.cell? ⟨gb185, 0, none⟩ = some (.bool t177) ∧ w'.cell? ⟨gb185, 1, none⟩ = some (.slice Ao94 t178.length co94) ∧ w'.cell? ⟨gb185, 2, none⟩ = some (.slice Ao95 t181.length co95)) (ds := []) #[false, false, false, false, false, false] (by kernel_rfl) rfl rfl ⟨(blk_cell BK108.out 0).trans rfl, (blk_cell BK108.out 1).trans rfl, (blk_cell BK108.out 2).trans rfl, (blk_cell BK169.out 0).trans rfl, (blk_cell BK169.out 1).trans rfl, (blk_cell BK169.out 2).trans rfl, (blk_cell BK185.out 0).trans rfl, (blk_cell BK185.out 1).trans rfl, (blk_cell BK185.out 2).trans rfl⟩ (fun hHeld => ?_)
 generalize w96.drew = w97 at HO_109001 HO_109002 HO_117001 HO_117002 HO157 HO160 HO164 HO167 HO173 HO176 HO180 HO183 BK108 BK116 BK169 BK185 HB hHeld ⊢
 refine take_ (i := 0) (N := some 86) (v := ?_) (a' := ?_) #[true, false, false, false, false, false] rfl rfl (by kernel_rfl) (fun _ _ _ h => h) (Or.inl ⟨by rfl, ?_⟩) hHeld ?_ ?_
 rotate_left
 · rintro w' ⟨s0, s1, s2, s3, s4, s5, s6, s7, s8⟩
   go_simp
   with_reducible rfl
 rotate_left
 · simp only [Act.put, List.setIfInBounds_toArray, List.set_cons_zero, List.set_cons_succ, i64_w, i32_w]
   rfl
 refine take_ (i := 1) (N := some 87) (v := ?_) (a' := ?_) #[true, true, false, false, false, false] rfl rfl (by kernel_rfl) (fun _ _ _ h => h) (Or.inl ⟨by rfl, ?_⟩) hHeld ?_ ?_
 rotate_left
 · rintro w' ⟨s0, s1, s2, s3, s4, s5, s6, s7, s8⟩
   go_simp
   with_reducible rfl
 rotate_left
 · simp only [Act.put, List.setIfInBounds_toArray, List.set_cons_zero, List.set_cons_succ, i64_w, i32_w]
   rfl
 refine take_ (i := 2) (N := some 88) (v := ?_) (a' := ?_) #[true, true, true, false, false, false] rfl rfl (by kernel_rfl) (fun _ _ _ h => h) (Or.inl ⟨by rfl, ?_⟩) hHeld ?_ ?_
 rotate_left
 · rintro w' ⟨s0, s1, s2, s3, s4, s5, s6, s7, s8⟩
   go_simp
   with_reducible rfl
 rotate_left
 · simp only [Act.put, List.setIfInBounds_toArray, List.set_cons_zero, List.set_cons_succ, i64_w, i32_w]
   rfl
 refine one_ (i := 3) (N := some 89) #[true, true, true, true, false, false] rfl rfl (by kernel_rfl) (by decide) (fun K hK => ?_)
 refine goes_ Try.func51 (by kernel_rfl) rfl #[.agg #[.bool t161, .slice Ao83 t162.length co83, .slice Ao84 t165.length co84], .agg #[.bool t177, .slice Ao94 t178.length co94, .slice Ao95 t181.length co95]] (by rfl) rfl rfl (by (try simp only [List.map_toArray, List.map_cons, List.map_nil]); first | done | rfl | (simp only [List.length_drop, List.length_take]; rfl)) ?_
 with_reducible refine (codewrightref02_Mul.calls k2 t161 _ _ t162 _ _ t165 t177 _ _ t178 _ _ t181 t186 t187 t190 _ ?side1 ?side2 ?side3 ?side4 ?side5 ?side6 ?side7 ?side8 A73.out).mono ?_
 (case side1 => exact zC (Kd.R_reads' HO164.out).2.2)
 (case side2 => exact (Kd.R_reads' HO164.out).2.1)
 (case side3 => exact zC (Kd.R_reads' HO167.out).2.2)
 (case side4 => exact (Kd.R_reads' HO167.out).2.1)
 (case side5 => exact zC (Kd.R_reads' HO180.out).2.2)
 (case side6 => exact (Kd.R_reads' HO180.out).2.1)
 (case side7 => exact zC (Kd.R_reads' HO183.out).2.2)
 (case side8 => exact (Kd.R_reads' HO183.out).2.1)
 rintro e w98 ⟨v188, v191, rfl, ho0, ho1, hb⟩
 refine ⟨_, rfl, ?_⟩
 replace ho0 := yn ho0 HO_109001
 replace ho0 := yn ho0 HO_109002
 replace ho0 := yn ho0 HO_117001
 replace ho0 := yn ho0 HO_117002
 replace ho0 := yn ho0 HO157
 replace ho0 := yn ho0 HO160
 replace ho0 := yn ho0 HO164
 replace ho0 := yn ho0 HO167
 replace ho0 := yn ho0 HO173
 replace ho0 := yn ho0 HO176
 replace ho0 := yn ho0 HO180
 replace ho0 := yn ho0 HO183
 have HO189 := yRl4 ho0 HB GE108 GE116 GE169 GE185
 replace ho1 := yn ho1 HO_109001
 replace ho1 := yn ho1 HO_109002
 replace ho1 := yn ho1 HO_117001
 replace ho1 := yn ho1 HO_117002
 replace ho1 := yn ho1 HO157
 replace ho1 := yn ho1 HO160
 replace ho1 := yn ho1 HO164
 replace ho1 := yn ho1 HO167
 replace ho1 := yn ho1 HO173
 replace ho1 := yn ho1 HO176
 replace ho1 := yn ho1 HO180
 replace ho1 := yn ho1 HO183
 have HO192 := yRl4 ho1 HB GE108 GE116 GE169 GE185
 replace HO_109001 := yRt HO_109001 hb ho0 ho1
 replace HO_109002 := yRt HO_109002 hb ho0 ho1
 replace HO_117001 := yRt HO_117001 hb ho0 ho1
 replace HO_117002 := yRt HO_117002 hb ho0 ho1
 replace HO157 := yRt HO157 hb ho0 ho1
 replace HO160 := yRt HO160 hb ho0 ho1
 replace HO164 := yRt HO164 hb ho0 ho1
 replace HO167 := yRt HO167 hb ho0 ho1
 replace HO173 := yRt HO173 hb ho0 ho1
 replace HO176 := yRt HO176 hb ho0 ho1
 replace HO180 := yRt HO180 hb ho0 ho1
 replace HO183 := yRt HO183 hb ho0 ho1
 replace BK108 := yK BK108 hb
 replace BK116 := yK BK116 hb
 replace BK169 := yK BK169 hb
 replace BK185 := yK BK185 hb
 replace HB := yS4 HB GE108 GE116 GE169 GE185 hb
 (try clear hb)
 (try clear hb2)
 (try clear hk)
 (try clear hi)
 (try clear ho0)
 (try clear ho1)
 obtain ⟨Ao99, co99, eo99⟩ := Kd.R_slice HO_109001.out
 (first | subst eo99 | (injection eo99 with f1_ f2_ f3_; have f4_ := f1_.symm; have f5_ := f3_.symm; clear f1_ f2_ f3_; subst f4_; subst f5_))
 obtain ⟨Ao100, co100, eo100⟩ := Kd.R_slice HO_109002.out
 (first | subst eo100 | (injection eo100 with f1_ f2_ f3_; have f4_ := f1_.symm; have f5_ := f3_.symm; clear f1_ f2_ f3_; subst f4_; subst f5_))
 obtain ⟨Ao101, co101, eo101⟩ := Kd.R_slice HO189.out
 (first | subst eo101 | (injection eo101 with f1_ f2_ f3_; have f4_ := f1_.symm; have f5_ := f3_.symm; clear f1_ f2_ f3_; subst f4_; subst f5_))
 obtain ⟨Ao102, co102, eo102⟩ := Kd.R_slice HO192.out
 (first | subst eo102 | (injection eo102 with f1_ f2_ f3_; have f4_ := f1_.symm; have f5_ := f3_.symm; clear f1_ f2_ f3_; subst f4_; subst f5_))
 refine hK.out _ _ ⟨(blk_cell BK108.out 0).trans rfl, (blk_cell BK108.out 1).trans rfl, (blk_cell BK108.out 2).trans rfl, (blk_cell BK169.out 0).trans rfl, (blk_cell BK169.out 1).trans rfl, (blk_cell BK169.out 2).trans rfl, (blk_cell BK185.out 0).trans rfl, (blk_cell BK185.out 1).trans rfl, (blk_cell BK185.out 2).trans rfl⟩ (fun hHeld => ?_)
 clear hK K
 refine norm_ (a' := ?_) ?_ ?_
 rotate_left
 · show Act.put _ (some 89) _ = _
   simp only [Act.put, List.setIfInBounds_toArray, List.set_cons_zero, List.set_cons_succ, i64_w, i32_w]
   rfl
 refine one_ (i := 4) (N := some 90) #[true, true, true, true, true, false] rfl rfl (by kernel_rfl) (by decide) (fun K hK => ?_)
 refine goes_ Try.func45 (by kernel_rfl) rfl #[.agg #[.bool x109000_2, .slice Ao99 x109001_2.length co99, .slice Ao100 x109002_2.length co100], .agg #[.bool t186, .slice Ao101 t187.length co101, .slice Ao102 t190.length co102]] (by rfl) rfl rfl (by (try simp only [List.map_toArray, List.map_cons, List.map_nil]); first | done | rfl | (simp only [List.length_drop, List.length_take]; rfl)) ?_
 with_reducible refine (codewrightref02_Same.calls k2 x109000_2 _ _ x109001_2 _ _ x109002_2 t186 _ _ t187 _ _ t190 t193 _ ?side1 ?side2 ?side3 ?side4 ?side5 ?side6 ?side7 ?side8 A74.out).mono ?_
 (case side1 => exact zC (Kd.R_reads' HO_109001.out).2.2)
 (case side2 => exact (Kd.R_reads' HO_109001.out).2.1)
 (case side3 => exact zC (Kd.R_reads' HO_109002.out).2.2)
 (case side4 => exact (Kd.R_reads' HO_109002.out).2.1)
 (case side5 => exact zC (Kd.R_reads' HO189.out).2.2)
 (case side6 => exact (Kd.R_reads' HO189.out).2.1)
 (case side7 => exact zC (Kd.R_reads' HO192.out).2.2)
 (case side8 => exact (Kd.R_reads' HO192.out).2.1)
 rintro e w103 ⟨rfl, hb⟩
 refine ⟨_, rfl, ?_⟩
 replace HO_109001 := yRb HO_109001 hb
 replace HO_109002 := yRb HO_109002 hb
 replace HO_117001 := yRb HO_117001 hb
 replace HO_117002 := yRb HO_117002 hb
 replace HO157 := yRb HO157 hb
 replace HO160 := yRb HO160 hb
 replace HO164 := yRb HO164 hb
 replace HO167 := yRb HO167 hb
 replace HO173 := yRb HO173 hb
 replace HO176 := yRb HO176 hb
 replace HO180 := yRb HO180 hb
 replace HO183 := yRb HO183 hb
 replace HO189 := yRb HO189 hb
 replace HO192 := yRb HO192 hb
 replace BK108 := yK BK108 hb
 replace BK116 := yK BK116 hb
 replace BK169 := yK BK169 hb
 replace BK185 := yK BK185 hb
 replace HB := yS4 HB GE108 GE116 GE169 GE185 hb
 (try clear hb)
 (try clear hb2)
 (try clear hk)
 (try clear hi)
 refine hK.out _ _ ⟨(blk_cell BK108.out 0).trans rfl, (blk_cell BK108.out 1).trans rfl, (blk_cell BK108.out 2).trans rfl, (blk_cell BK169.out 0).trans rfl, (blk_cell BK169.out 1).trans rfl, (blk_cell BK169.out 2).trans rfl, (blk_cell BK185.out 0).trans rfl, (blk_cell BK185.out 1).trans rfl, (blk_cell BK185.out 2).trans rfl⟩ (fun hHeld => ?_)
 clear hK K
 refine norm_ (a' := ?_) ?_ ?_
 rotate_left
 · show Act.put _ (some 90) _ = _
   simp only [Act.put, List.setIfInBounds_toArray, List.set_cons_zero, List.set_cons_succ, i64_w, i32_w]
   rfl
 refine pure_ (i := 5) (N := some 8) (v := ?_) (a' := ?_) #[true, true, true, true, true, true] rfl rfl (by kernel_rfl) (fun _ _ _ h => h) (Or.inl ⟨by rfl, ?_⟩) ?_ ?_
 rotate_left
 · intro w'
   go_simp
   with_reducible rfl
 rotate_left
 · simp only [Act.put, List.setIfInBounds_toArray, List.set_cons_zero, List.set_cons_succ, i64_w, i32_w]
   rfl
 refine done_ (by kernel_rfl) ?_
 try go_wp2
 go_ret
 exact ⟨zE, zB4 HB.out GE108.out GE116.out GE169.out GE185.out⟩
def codewrightlaw24_MacwilliamsGenerating.Pure : Prop := ∀ (a0 : Int) (a1 : Int) (a2 : Int) (a3 : Int), (Lit.int .u8 a0).wf = true → (Lit.int .u8 a1).wf = true → (Lit.int .u8 a2).wf = true → (Lit.int .i8 a3).wf = true → ∃ k, codewrightlaw24_MacwilliamsGenerating.f k a0 a1 a2 a3 = some true
theorem codewrightlaw24_MacwilliamsGenerating.walk (P : codewrightlaw24_MacwilliamsGenerating.Pure) (a0 : Int) (a1 : Int) (a2 : Int) (a3 : Int) (w : World) (w0 : (Lit.int .u8 a0).wf = true) (w1 : (Lit.int .u8 a1).wf = true) (w2 : (Lit.int .u8 a2).wf = true) (w3 : (Lit.int .i8 a3).wf = true) :
    Calls Try.prog 10 #[.int .u8 a0, .int .u8 a1, .int .u8 a2, .int .i8 a3] w fun e w' => e = .returned (.bool true) ∧ Below w.heap.size w w' := by
  obtain ⟨k, h⟩ := P a0 a1 a2 a3 w0 w1 w2 w3
  refine (codewrightlaw24_MacwilliamsGenerating.calls k a0 a1 a2 a3 true w h).mono ?_
  rintro e w' ⟨rfl, hd⟩
  exact ⟨rfl, hd⟩
end Go.Proofs.Ytifkbghnmhineaa.PAll
section
set_option linter.unusedVariables false
set_option linter.unusedSimpArgs false
namespace Mw
open Go Go.RowKit Go.Proofs.YtifkbghnmhineaaW.PrintWords
def Ev {α : Type} (g : Nat → Option α) (r : α) : Prop := ∃ K, ∀ k, K ≤ k → g k = some r
theorem Ev.some {α : Type} (r : α) : Ev (fun _ => some r) r := ⟨0, fun _ _ => rfl⟩
theorem Ev.succ {α : Type} {g : Nat → Option α} {r : α} (h : Ev (fun k => g (k + 1)) r) : Ev g r := by
  obtain ⟨K, h⟩ := h
  refine ⟨K + 1, fun k hk => ?_⟩
  obtain ⟨m, rfl⟩ : ∃ m, k = m + 1 := ⟨k - 1, by omega⟩
  exact h m (by omega)
theorem Ev.bind {α β : Type} {g : Nat → Option α} {f : Nat → α → Option β} {a : α} {r : β} (hg : Ev g a) (hf : Ev (fun k => f k a) r) : Ev (fun k => (g k).bind (f k)) r := by
  obtain ⟨K, hg⟩ := hg
  obtain ⟨L, hf⟩ := hf
  refine ⟨K + L, fun k hk => ?_⟩
  show (g k).bind (f k) = _
  rw [hg k (by omega)]
  exact hf k (by omega)
theorem Ev.cast {α : Type} {g : Nat → Option α} {r s : α} (h : Ev g r) (e : r = s) : Ev g s := e ▸ h
theorem Ev.get {α : Type} {g : Nat → Option α} {r : α} (h : Ev g r) : ∃ k, g k = Option.some r := by
  obtain ⟨K, h⟩ := h
  exact ⟨K, h K (Nat.le_refl K)⟩
theorem w64 {x : Int} (h0 : -9223372036854775808 ≤ x) (h1 : x ≤ 9223372036854775807) : wrap64 x = x := by unfold wrap64; omega
theorem wn {x : Int} {n : Nat} (h : x = (n : Int)) (hn : n < 9223372036854775808) : wrap64 x = (n : Int) := by subst h; exact w64 (by omega) (by omega)
theorem u64w {x : Int} (h0 : 0 ≤ x) (h1 : x < 18446744073709551616) : IntKind.u64.wrap x = x := by
  simp [IntKind.wrap, IntKind.bits, IntKind.signed]; omega
theorem u64m (x : Int) : IntKind.u64.wrap x = x % 18446744073709551616 := by
  simp [IntKind.wrap, IntKind.bits, IntKind.signed]
def bp : Nat → Nat
  | 0 => 1
  | n + 1 => 4294967296 * bp n
theorem bp_pos : ∀ n, 0 < bp n
  | 0 => by decide
  | n + 1 => by have := bp_pos n; simp only [bp]; omega
theorem bp_mono : ∀ {m n : Nat}, m ≤ n → bp m ≤ bp n := by
  intro m n h
  induction n with
  | zero => have : m = 0 := by omega
            subst this; exact Nat.le_refl _
  | succ n ih =>
    by_cases e : m = n + 1
    · subst e; exact Nat.le_refl _
    · have := ih (by omega); simp only [bp]; omega
theorem bp_add : ∀ (m n : Nat), bp (m + n) = bp m * bp n
  | m, 0 => by simp [bp]
  | m, n + 1 => by rw [← Nat.add_assoc, bp, bp, bp_add m n, Nat.mul_left_comm]
def lv : List Int → Int
  | [] => 0
  | a :: l => a + 4294967296 * lv l
def Lm (l : List Int) : Prop := ∀ x ∈ l, 0 ≤ x ∧ x < 4294967296
def dg (n : Nat) : List Int := if n = 0 then [] else ((n % 4294967296 : Nat) : Int) :: dg (n / 4294967296)
termination_by n
decreasing_by omega
theorem dg_zero : dg 0 = [] := by rw [dg]; rfl
theorem dg_pos {n : Nat} (h : n ≠ 0) : dg n = ((n % 4294967296 : Nat) : Int) :: dg (n / 4294967296) := by rw [dg, if_neg h]
theorem lv_dg : ∀ n : Nat, lv (dg n) = n := by
  intro n
  induction n using Nat.strongRecOn with
  | _ n ih =>
    by_cases h : n = 0
    · subst h; rw [dg_zero]; rfl
    · rw [dg_pos h, lv, ih _ (by omega)]; omega
theorem lm_nil : Lm [] := by intro x hx; simp at hx
theorem lm_cons {a : Int} {l : List Int} : Lm (a :: l) ↔ (0 ≤ a ∧ a < 4294967296) ∧ Lm l := by
  constructor
  · intro h; exact ⟨h a (by simp), fun x hx => h x (by simp [hx])⟩
  · intro h x hx
    exact (List.mem_cons.mp hx).elim (fun e => e ▸ h.1) (fun e => h.2 x e)
theorem lm_dg : ∀ n : Nat, Lm (dg n) := by
  intro n
  induction n using Nat.strongRecOn with
  | _ n ih =>
    by_cases h : n = 0
    · subst h; rw [dg_zero]; exact lm_nil
    · rw [dg_pos h, lm_cons]; exact ⟨by omega, ih _ (by omega)⟩
theorem lv_nonneg : ∀ {l : List Int}, Lm l → 0 ≤ lv l
  | [], _ => Int.le_refl 0
  | a :: l, h => by have := lv_nonneg (lm_cons.mp h).2; have := (lm_cons.mp h).1; simp only [lv]; omega
theorem lv_lt : ∀ {l : List Int}, Lm l → lv l < bp l.length
  | [], _ => by simp [lv, bp]
  | a :: l, h => by
    have h1 := lv_lt (lm_cons.mp h).2
    have h2 := (lm_cons.mp h).1
    simp only [lv, List.length_cons, bp]
    omega
theorem lv_append : ∀ (l m : List Int), lv (l ++ m) = lv l + (bp l.length : Int) * lv m
  | [], m => by simp [lv, bp]
  | a :: l, m => by
    simp only [List.cons_append, lv, List.length_cons, bp, Int.natCast_mul]
    rw [lv_append l m, Int.mul_add, Int.mul_assoc]
    omega
theorem lv_rep : ∀ n : Nat, lv (List.replicate n 0) = 0
  | 0 => rfl
  | n + 1 => by rw [List.replicate_succ, lv, lv_rep n]; rfl
theorem lm_rep (n : Nat) : Lm (List.replicate n 0) := by
  intro x hx; rw [(List.mem_replicate.mp hx).2]; omega
theorem dg_lv : ∀ {l : List Int}, Lm l → (∀ h : l ≠ [], l.getLast h ≠ 0) → dg (lv l).toNat = l
  | [], _, _ => by simp only [lv]; exact dg_zero
  | a :: l, h, hl => by
    have h1 := lm_cons.mp h
    have h0 := lv_nonneg h1.2
    have ih : l ≠ [] → dg (lv l).toNat = l := fun hne => dg_lv h1.2 (fun hh => by
      have := hl (by simp)
      rwa [List.getLast_cons hh] at this)
    by_cases hne : l = []
    · subst hne
      have ha := hl (by simp)
      simp only [List.getLast_singleton] at ha
      simp only [lv]
      rw [dg_pos (by omega), show (a + 4294967296 * 0).toNat / 4294967296 = 0 by omega, dg_zero]
      congr 1
      omega
    · have ih := ih hne
      have hpos : lv l ≠ 0 := by
        intro e
        rw [e] at ih
        rw [show (0 : Int).toNat = 0 from rfl, dg_zero] at ih
        exact hne ih.symm
      simp only [lv]
      rw [dg_pos (by omega), show (a + 4294967296 * lv l).toNat / 4294967296 = (lv l).toNat by omega, ih]
      congr 1
      omega
theorem dg_last : ∀ (n : Nat) (h : dg n ≠ []), (dg n).getLast h ≠ 0 := by
  intro n
  induction n using Nat.strongRecOn with
  | _ n ih =>
    intro h
    by_cases h0 : n = 0
    · subst h0; exact absurd dg_zero h
    · have e := dg_pos h0
      by_cases hd : n / 4294967296 = 0
      · rw [hd, dg_zero] at e
        simp only [e, List.getLast_singleton]
        omega
      · have hne : dg (n / 4294967296) ≠ [] := by rw [dg_pos hd]; simp
        have := ih (n / 4294967296) (by omega) hne
        simp only [e]
        rw [List.getLast_cons hne]
        exact this
theorem dg_inj {m n : Nat} (h : dg m = dg n) : m = n := by
  have := lv_dg m
  rw [h, lv_dg] at this
  omega
theorem dg_len_le {n m : Nat} (h : n < bp m) : (dg n).length ≤ m := by
  induction m generalizing n with
  | zero => have : n = 0 := by simp only [bp] at h; omega
            subst this; rw [dg_zero]; simp
  | succ m ih =>
    by_cases h0 : n = 0
    · subst h0; rw [dg_zero]; simp
    · rw [dg_pos h0, List.length_cons]
      have := ih (n := n / 4294967296) (by simp only [bp] at h; omega)
      omega
theorem dg_lt_len (n : Nat) : n < bp (dg n).length := by
  have h := lv_lt (lm_dg n)
  rw [lv_dg] at h
  omega
theorem dg_len_zero {n : Nat} : (dg n).length = 0 ↔ n = 0 := by
  constructor
  · intro h
    by_cases h0 : n = 0
    · exact h0
    · rw [dg_pos h0] at h; simp at h
  · intro h; subst h; rw [dg_zero]; rfl
theorem dg_len_mono {m n : Nat} (h : m ≤ n) : (dg m).length ≤ (dg n).length := dg_len_le (Nat.lt_of_le_of_lt h (dg_lt_len n))
theorem dg_small {n : Nat} (h0 : n ≠ 0) (h : n < 4294967296) : dg n = [(n : Int)] := by
  rw [dg_pos h0, show n / 4294967296 = 0 by omega, dg_zero, show n % 4294967296 = n by omega]
theorem dg_one : dg 1 = [1] := dg_small (by decide) (by decide)
theorem lv_le_of_len {l : List Int} (h : Lm l) {m : Nat} (hm : l.length ≤ m) : (lv l).toNat < bp m := by
  have h1 := lv_lt h
  have h2 := bp_mono hm
  have h3 := lv_nonneg h
  omega
theorem rd_lt {l : List Int} {i : Nat} (h : i < l.length) : rd l (i : Int) = l[i] := by
  unfold rd
  simp [List.getD_eq_getElem?_getD, h]
theorem rd_ge {l : List Int} {i : Nat} (h : l.length ≤ i) : rd l (i : Int) = 0 := by
  unfold rd
  simp [List.getD_eq_getElem?_getD, h]
theorem rd_lm {l : List Int} (hl : Lm l) (i : Int) : 0 ≤ rd l i ∧ rd l i < 4294967296 := by
  unfold rd
  rw [List.getD_eq_getElem?_getD]
  by_cases h : i.toNat < l.length
  · rw [List.getElem?_eq_getElem h]
    exact hl _ (List.getElem_mem h)
  · rw [List.getElem?_eq_none (by omega)]; simp
theorem take_succ_rd {l : List Int} {i : Nat} (h : i < l.length) : l.take (i + 1) = l.take i ++ [rd l (i : Int)] := by
  rw [List.take_succ_eq_append_getElem h, rd_lt h]
theorem lv_take_succ {l : List Int} {i : Nat} (h : i < l.length) : lv (l.take (i + 1)) = lv (l.take i) + (bp i : Int) * rd l (i : Int) := by
  rw [take_succ_rd h, lv_append, List.length_take, Nat.min_eq_left (by omega)]
  simp [lv]
theorem lv_set : ∀ {l : List Int} {i : Nat} (v : Int), i < l.length → lv (l.set i v) = lv l + (bp i : Int) * (v - rd l (i : Int))
  | [], i, v, h => by simp at h
  | a :: l, 0, v, _ => by
    rw [show ((0 : Nat) : Int) = ((0 : Nat) : Int) from rfl, rd_lt (by simp)]
    simp only [List.set_cons_zero, lv, List.getElem_cons_zero, bp]; omega
  | a :: l, i + 1, v, h => by
    have h' : i < l.length := by simpa using h
    have ih := lv_set v h'
    rw [rd_lt h'] at ih
    rw [rd_lt h]
    simp only [List.set_cons_succ, lv, List.getElem_cons_succ, bp, Int.natCast_mul]
    rw [ih, Int.mul_add, Int.mul_assoc]
    omega
theorem lm_set {l : List Int} {i : Nat} {v : Int} (h : Lm l) (h0 : 0 ≤ v) (h1 : v < 4294967296) : Lm (l.set i v) := by
  intro x hx
  rcases List.mem_or_eq_of_mem_set hx with e | e
  · exact h x e
  · subst e; exact ⟨h0, h1⟩
theorem rd_set_ne {l : List Int} {i j : Nat} (v : Int) (h : i ≠ j) : rd (l.set i v) (j : Int) = rd l (j : Int) := by
  unfold rd
  simp [List.getD_eq_getElem?_getD, h]
theorem lm_take {l : List Int} (h : Lm l) (n : Nat) : Lm (l.take n) := fun x hx => h x (List.mem_of_mem_take hx)
theorem lm_append {l m : List Int} (h1 : Lm l) (h2 : Lm m) : Lm (l ++ m) := by
  intro x hx
  rcases List.mem_append.mp hx with e | e
  · exact h1 x e
  · exact h2 x e
theorem dg_take {l : List Int} (h : Lm l) {n : Nat} (hn : n ≤ l.length) (hz : ∀ i : Nat, n ≤ i → i < l.length → rd l (i : Int) = 0) (hl : n = 0 ∨ rd l ((n - 1 : Nat) : Int) ≠ 0) :
    l.take n = dg (lv l).toNat := by
  have hv : lv l = lv (l.take n) := by
    have : ∀ m : Nat, n + m ≤ l.length → lv (l.take (n + m)) = lv (l.take n) := by
      intro m
      induction m with
      | zero => intro _; rfl
      | succ m ih =>
        intro hm
        rw [← Nat.add_assoc, lv_take_succ (by omega), hz (n + m) (by omega) (by omega), ih (by omega)]; simp
    have := this (l.length - n) (by omega)
    rw [show n + (l.length - n) = l.length by omega, List.take_of_length_le (Nat.le_refl _)] at this
    exact this
  rw [hv]
  symm
  refine dg_lv (lm_take h n) (fun hne => ?_)
  rcases hl with e | e
  · subst e; simp at hne
  · rw [List.getLast_eq_getElem]
    simp only [List.length_take, Nat.min_eq_left hn]
    have hp : n ≠ 0 := by intro e0; subst e0; simp at hne
    rw [List.getElem_take]
    rw [rd_lt (by omega)] at e
    exact e
theorem lv_nil : lv [] = 0 := rfl
theorem lv_cons (a : Int) (l : List Int) : lv (a :: l) = a + 4294967296 * lv l := rfl
theorem bp_zero : bp 0 = 1 := rfl
theorem bp_succ (n : Nat) : bp (n + 1) = 4294967296 * bp n := rfl
attribute [irreducible] lv bp
end Mw
end
section
set_option linter.unusedVariables false
set_option linter.unusedSimpArgs false
namespace Mw
open Go Go.RowKit Go.Proofs.YtifkbghnmhineaaW.PrintWords Go.Proofs.YtifkbghnmhineaaW.PrintLast Go.Proofs.YtifkbghnmhineaaW.PrintMore Go.Proofs.Ytifkbghnmhineaa.PAll
theorem short_loop {l : List Int} (hl : Lm l) (hlen : l.length < 1099511627776) : ∀ n : Nat, n ≤ l.length → (∀ i : Nat, n ≤ i → i < l.length → rd l (i : Int) = 0) →
    Ev (fun k => nat_short.l0 k l (n : Int)) (dg (lv l).toNat) := by
  intro n
  induction n with
  | zero =>
    intro hn hz
    refine Ev.succ ?_
    simp only [nat_short.l0, if_neg (show ¬ ((0 : Nat) : Int) > 0 by omega), if_pos (show (0 : Int) ≤ ((0 : Nat) : Int) by omega), if_pos (show ((0 : Nat) : Int) ≤ (l.length : Int) by omega)]
    refine Ev.cast (Ev.some _) ?_
    rw [show (((0 : Nat) : Int)).toNat = 0 from rfl]
    exact dg_take hl hn hz (.inl rfl)
  | succ n ih =>
    intro hn hz
    refine Ev.succ ?_
    have e : wrap64 (((n + 1 : Nat) : Int) - 1) = (n : Int) := by rw [w64 (by omega) (by omega)]; omega
    by_cases h : rd l (n : Int) = 0
    · simp only [nat_short.l0, e, if_pos (show ((n + 1 : Nat) : Int) > 0 by omega), if_pos (show (0 : Int) ≤ (n : Int) by omega), if_pos (show (n : Int) < (l.length : Int) by omega), if_pos h]
      exact ih (by omega) (fun i h1 h2 => by
        by_cases e2 : i = n
        · subst e2; exact h
        · exact hz i (by omega) h2)
    · simp only [nat_short.l0, e, if_pos (show ((n + 1 : Nat) : Int) > 0 by omega), if_pos (show (0 : Int) ≤ (n : Int) by omega), if_pos (show (n : Int) < (l.length : Int) by omega), if_neg h, if_pos (show (0 : Int) ≤ ((n + 1 : Nat) : Int) by omega), if_pos (show ((n + 1 : Nat) : Int) ≤ (l.length : Int) by omega)]
      refine Ev.cast (Ev.some _) ?_
      rw [show (((n + 1 : Nat) : Int)).toNat = n + 1 by omega]
      exact dg_take hl hn hz (.inr h)
theorem short_ev {l : List Int} (hl : Lm l) (hlen : l.length < 1099511627776) : Ev (fun k => nat_short.f k l) (dg (lv l).toNat) := by
  simp only [nat_short.f]
  exact short_loop hl hlen l.length (Nat.le_refl _) (fun i h1 h2 => by omega)
theorem dg_len_of {l : List Int} (hl : Lm l) : (dg (lv l).toNat).length ≤ l.length := dg_len_le (lv_le_of_len hl (Nat.le_refl _))
theorem trim_ev {l : List Int} (hl : Lm l) (hlen : l.length < 1099511627776) : Ev (fun k => nat_Trim.f k l) (dg (lv l).toNat) := by
  simp only [nat_Trim.f]
  refine Ev.bind (short_ev hl hlen) ?_
  have := dg_len_of hl
  simp only [List.length_nil, List.nil_append, if_pos (show 0 + (dg (lv l).toNat).length < 35184372088832 by omega)]
  exact Ev.some _
theorem of_ev {n : Nat} (hn : n < 18446744073709551616) : Ev (fun k => nat_Of.f k (n : Int)) (dg n) := by
  simp only [nat_Of.f]
  have hl : Lm [(n : Int) % 4294967296, ((n : Int) / 4294967296) % 4294967296] := by
    rw [lm_cons, lm_cons]
    exact ⟨by omega, by omega, lm_nil⟩
  refine Ev.bind (trim_ev hl (by simp)) ?_
  refine Ev.cast (Ev.some _) ?_
  congr 1
  simp only [lv_cons, lv_nil]
  omega
theorem plus_loop {a b : List Int} (ha : Lm a) (hb : Lm b) (hab : b.length ≤ a.length) (hlen : a.length < 549755813888) : ∀ (d : Nat) (i : Nat) (o : List Int) (c : Int), i + d = a.length → o.length = a.length + 1 → Lm o →
    0 ≤ c → c ≤ 1 → (∀ j : Nat, i ≤ j → rd o (j : Int) = 0) → Aside0 (lv o + (bp i : Int) * c = lv (a.take i) + lv (b.take i)) →
    Ev (fun k => nat_plus.l0 k a b o c (a.length : Int) (i : Int)) (dg (lv a + lv b).toNat) := by
  intro d
  induction d with
  | zero =>
    intro i o c hi ho hol hc0 hc1 hz hv
    have hi : i = a.length := by omega
    subst hi
    refine Ev.succ ?_
    simp only [nat_plus.l0, if_neg (show ¬ ((a.length : Nat) : Int) < (a.length : Int) by omega), if_pos (show (0 : Int) ≤ (a.length : Int) by omega), if_pos (show (a.length : Int) < (o.length : Int) by omega)]
    have hs : Lm (o.set ((a.length : Int) : Int).toNat (c % 4294967296)) := lm_set hol (by omega) (by omega)
    refine Ev.bind (short_ev hs (by rw [List.length_set]; omega)) ?_
    refine Ev.cast (Ev.some _) ?_
    congr 2
    rw [Int.toNat_natCast, lv_set _ (by omega), hz _ (Nat.le_refl _), show c % 4294967296 = c by omega, Int.sub_zero, hv.out, List.take_of_length_le (Nat.le_refl _), List.take_of_length_le hab]
  | succ d ih =>
    intro i o c hi ho hol hc0 hc1 hz hv
    have hia : i < a.length := by omega
    refine Ev.succ ?_
    have ra := rd_lm ha (i : Int)
    have rb := rd_lm hb (i : Int)
    have e1 : wrap64 ((i : Int) + 1) = ((i + 1 : Nat) : Int) := by rw [w64 (by omega) (by omega)]; omega
    have step : ∀ s : Int, 0 ≤ s → s ≤ 8589934591 → s = rd a (i : Int) + c + rd b (i : Int) →
        Ev (fun k => nat_plus.l0 k a b (o.set ((i : Int)).toNat (s % 4294967296)) (s / 4294967296) (a.length : Int) ((i + 1 : Nat) : Int)) (dg (lv a + lv b).toNat) := by
      intro s hs0 hs1 hs
      refine ih (i + 1) _ _ (by omega) (by rw [List.length_set]; exact ho) (lm_set hol (by omega) (by omega)) (by omega) (by omega) (fun j hj => ?_) ?_
      · rw [Int.toNat_natCast, rd_set_ne _ (by omega)]; exact hz j (by omega)
      · refine ⟨?_⟩
        rw [Int.toNat_natCast, lv_set _ (by omega), hz i (Nat.le_refl _), lv_take_succ hia]
        have hbt : lv (b.take (i + 1)) = lv (b.take i) + (bp i : Int) * rd b (i : Int) := by
          by_cases hib : i < b.length
          · exact lv_take_succ hib
          · rw [rd_ge (by omega), List.take_of_length_le (by omega), List.take_of_length_le (by omega)]; simp
        rw [hbt]
        have hdiv : s % 4294967296 + 4294967296 * (s / 4294967296) = rd a (i : Int) + c + rd b (i : Int) := by omega
        have hm := congrArg (fun z => (bp i : Int) * z) hdiv
        simp only [Int.mul_add] at hm
        rw [Int.mul_left_comm] at hm
        rw [Int.sub_zero, bp_succ, Int.natCast_mul, Int.mul_assoc]
        have hv := hv.out
        clear ih hz hdiv hs hs0 hs1 ra rb e1 hc0 hc1
        omega
    by_cases hib : i < b.length
    · have e2 : IntKind.u64.wrap (IntKind.u64.wrap (IntKind.u64.wrap (rd a (i : Int)) + c) + IntKind.u64.wrap (rd b (i : Int))) = rd a (i : Int) + c + rd b (i : Int) := by
        rw [u64w ra.1 (by omega), u64w rb.1 (by omega), u64w (x := rd a (i : Int) + c) (by omega) (by omega), u64w (x := rd a (i : Int) + c + rd b (i : Int)) (by omega) (by omega)]
      simp only [nat_plus.l0, e1, e2, if_pos (show (i : Int) < (a.length : Int) by omega), if_pos (show (0 : Int) ≤ (i : Int) by omega), if_pos (show (i : Int) < (b.length : Int) by omega), if_pos (show (i : Int) < (o.length : Int) by omega)]
      exact step (rd a (i : Int) + c + rd b (i : Int)) (by omega) (by omega) rfl
    · have e2 : IntKind.u64.wrap (IntKind.u64.wrap (rd a (i : Int)) + c) = rd a (i : Int) + c := by
        rw [u64w ra.1 (by omega), u64w (x := rd a (i : Int) + c) (by omega) (by omega)]
      simp only [nat_plus.l0, e1, e2, if_pos (show (i : Int) < (a.length : Int) by omega), if_pos (show (0 : Int) ≤ (i : Int) by omega), if_neg (show ¬ (i : Int) < (b.length : Int) by omega), if_pos (show (i : Int) < (o.length : Int) by omega)]
      exact step (rd a (i : Int) + c) (by omega) (by omega) (by rw [rd_ge (l := b) (by omega)]; omega)
theorem plus_long {a b : List Int} (ha : Lm a) (hb : Lm b) (hab : b.length ≤ a.length) (hlen : a.length < 549755813888) : Ev (fun k => nat_plus.j0 k a b) (dg (lv a + lv b).toNat) := by
  refine Ev.succ ?_
  have e1 : wrap64 ((a.length : Int) + 1) = ((a.length + 1 : Nat) : Int) := by rw [w64 (by omega) (by omega)]; omega
  simp only [nat_plus.j0, e1, Int.toNat_natCast, if_pos (show (0 : Int) ≤ ((a.length + 1 : Nat) : Int) by omega), if_pos (show a.length + 1 ≤ 70368744177664 by omega)]
  exact plus_loop ha hb hab hlen a.length 0 _ 0 (by omega) (by simp) (lm_rep _) (by omega) (by omega) (fun j _ => by
    by_cases h : j < a.length + 1
    · rw [rd_lt (by simpa using h)]; simp
    · exact rd_ge (by simp; omega)) ⟨by rw [lv_rep]; simp [lv_nil]⟩
theorem plus_ev {a b : List Int} (ha : Lm a) (hb : Lm b) (h1 : a.length < 549755813888) (h2 : b.length < 549755813888) : Ev (fun k => nat_plus.f k a b) (dg (lv a + lv b).toNat) := by
  simp only [nat_plus.f]
  by_cases h : (a.length : Int) < (b.length : Int)
  · simp only [if_pos h]
    rw [Int.add_comm]
    exact plus_long hb ha (by omega) h2
  · simp only [if_neg h]
    exact plus_long ha hb (by omega) h1
def lsum : List (List Int) → Int
  | [] => 0
  | a :: l => lv a + lsum l
def Lms (l : List (List Int)) : Prop := ∀ x ∈ l, Lm x ∧ x.length < 1073741824
theorem rd3_lt {l : List (List Int)} {i : Nat} (h : i < l.length) : rd_L3 l (i : Int) = l[i] := by
  unfold rd_L3
  simp [List.getD_eq_getElem?_getD, h]
theorem lsum_take {l : List (List Int)} {i : Nat} (h : i < l.length) : lsum (l.take (i + 1)) = lsum (l.take i) + lv l[i] := by
  have app : ∀ (a b : List (List Int)), lsum (a ++ b) = lsum a + lsum b := by
    intro a
    induction a with
    | nil => intro b; simp [lsum]
    | cons x a ih => intro b; simp only [List.cons_append, lsum]; rw [ih]; omega
  rw [List.take_succ_eq_append_getElem h, app]
  simp [lsum]
theorem lv_dg_toNat {x : Int} (h : 0 ≤ x) : lv (dg x.toNat) = x := by rw [lv_dg]; omega
theorem add_loop {l : List (List Int)} (hl : Lms l) (hlen : l.length < 1073741824) : ∀ (d i : Nat) (s : List Int), i + d = l.length → Lm s → s.length ≤ 1073741824 + i → lv s = lsum (l.take i) →
    Ev (fun k => nat_Add.l0 k s l (l.length : Int) (i : Int)) (dg (lsum l).toNat) := by
  intro d
  induction d with
  | zero =>
    intro i s hi hs hsl hv
    have hi : i = l.length := by omega
    subst hi
    refine Ev.succ ?_
    simp only [nat_Add.l0, if_neg (show ¬ ((l.length : Nat) : Int) < (l.length : Int) by omega)]
    refine Ev.bind (trim_ev hs (by omega)) ?_
    refine Ev.cast (Ev.some _) ?_
    rw [hv, List.take_of_length_le (Nat.le_refl _)]
  | succ d ih =>
    intro i s hi hs hsl hv
    have hil : i < l.length := by omega
    have hx := hl l[i] (List.getElem_mem hil)
    refine Ev.succ ?_
    have e1 : wrap64 ((i : Int) + 1) = ((i + 1 : Nat) : Int) := by rw [w64 (by omega) (by omega)]; omega
    simp only [nat_Add.l0, e1, rd3_lt hil, if_pos (show (i : Int) < (l.length : Int) by omega), if_pos (show (0 : Int) ≤ (i : Int) by omega)]
    refine Ev.bind (short_ev hx.1 (by omega)) ?_
    have h2 := dg_len_of hx.1
    refine Ev.bind (plus_ev hs (lm_dg _) (by omega) (by omega)) ?_
    have h3 : 0 ≤ lv s := lv_nonneg hs
    have h4 : 0 ≤ lv l[i] := lv_nonneg hx.1
    refine ih (i + 1) _ (by omega) (lm_dg _) ?_ ?_
    · rw [lv_dg_toNat h4]
      have h5 := lv_le_of_len hs hsl
      have h6 := lv_le_of_len hx.1 (m := 1073741824 + i) (by omega)
      refine dg_len_le ?_
      rw [show 1073741824 + (i + 1) = (1073741824 + i) + 1 by omega, bp_succ]
      generalize bp (1073741824 + i) = p at *
      omega
    · rw [lv_dg_toNat h4, lv_dg_toNat (by omega), hv, lsum_take hil]
theorem add_ev {l : List (List Int)} (hl : Lms l) (hlen : l.length < 1073741824) : Ev (fun k => nat_Add.f k l) (dg (lsum l).toNat) := by
  simp only [nat_Add.f]
  exact add_loop hl hlen l.length 0 [] (by omega) lm_nil (by simp) (by simp [lv_nil, lsum])
theorem add2_ev {a b : Nat} (ha : (dg a).length < 1073741824) (hb : (dg b).length < 1073741824) : Ev (fun k => nat_Add.f k [dg a, dg b]) (dg (a + b)) := by
  refine Ev.cast (add_ev (l := [dg a, dg b]) (fun x hx => ?_) (by simp)) ?_
  · rcases List.mem_cons.mp hx with e | e
    · exact e ▸ ⟨lm_dg a, ha⟩
    · rw [List.mem_singleton.mp e]; exact ⟨lm_dg b, hb⟩
  · congr 1
    simp only [lsum, lv_dg]
    omega
end Mw
end
section
namespace Mw
def sm : Nat → (Nat → Int) → Int
  | 0, _ => 0
  | n + 1, f => sm n f + f n
theorem sm_congr {n : Nat} {f g : Nat → Int} (h : ∀ i, i < n → f i = g i) : sm n f = sm n g := by
  induction n with
  | zero => rfl
  | succ n ih => simp only [sm]; rw [ih (fun i hi => h i (by omega)), h n (by omega)]
theorem sm_zero {n : Nat} {f : Nat → Int} (h : ∀ i, i < n → f i = 0) : sm n f = 0 := by
  induction n with
  | zero => rfl
  | succ n ih => simp only [sm]; rw [ih (fun i hi => h i (by omega)), h n (by omega)]; rfl
theorem sm_add (n : Nat) (f g : Nat → Int) : sm n (fun i => f i + g i) = sm n f + sm n g := by
  induction n with
  | zero => rfl
  | succ n ih => simp only [sm]; rw [ih]; omega
theorem sm_sub (n : Nat) (f g : Nat → Int) : sm n (fun i => f i - g i) = sm n f - sm n g := by
  induction n with
  | zero => rfl
  | succ n ih => simp only [sm]; rw [ih]; omega
theorem sm_mul (n : Nat) (c : Int) (f : Nat → Int) : sm n (fun i => c * f i) = c * sm n f := by
  induction n with
  | zero => simp [sm]
  | succ n ih => simp only [sm]; rw [ih, Int.mul_add]
theorem sm_head (n : Nat) (f : Nat → Int) : sm (n + 1) f = f 0 + sm n (fun i => f (i + 1)) := by
  induction n with
  | zero => simp [sm]
  | succ n ih => rw [sm, ih]; simp only [sm]; omega
theorem sm_single {n a : Nat} {f : Nat → Int} (ha : a < n) (h : ∀ i, i < n → i ≠ a → f i = 0) : sm n f = f a := by
  induction n with
  | zero => omega
  | succ n ih =>
    simp only [sm]
    by_cases e : a = n
    · subst e; rw [sm_zero (fun i hi => h i (by omega) (by omega))]; omega
    · rw [ih (by omega) (fun i hi hne => h i (by omega) hne), h n (by omega) (by omega)]; omega
def bin : Nat → Nat → Nat
  | _, 0 => 1
  | 0, _ + 1 => 0
  | n + 1, k + 1 => bin n k + bin n (k + 1)
theorem bin_zero (n : Nat) : bin n 0 = 1 := by cases n <;> rfl
theorem bin_succ (n k : Nat) : bin (n + 1) (k + 1) = bin n k + bin n (k + 1) := rfl
theorem bin_above : ∀ {n k : Nat}, n < k → bin n k = 0
  | 0, 0, h => by omega
  | 0, _ + 1, _ => rfl
  | n + 1, 0, h => by omega
  | n + 1, k + 1, h => by rw [bin_succ, bin_above (n := n) (k := k) (by omega), bin_above (n := n) (k := k + 1) (by omega)]
theorem bin_self (n : Nat) : bin n n = 1 := by
  induction n with
  | zero => rfl
  | succ n ih => rw [bin_succ, ih, bin_above (by omega)]
theorem bin_one (n : Nat) : bin n 1 = n := by
  induction n with
  | zero => rfl
  | succ n ih => rw [bin_succ, ih, bin_zero]; omega
theorem bin_step : ∀ (n k : Nat), (k + 1) * bin n (k + 1) = (n - k) * bin n k
  | 0, k => by rw [bin_above (by omega)]; simp
  | n + 1, 0 => by rw [bin_one, bin_zero]; omega
  | n + 1, k + 1 => by
    rw [bin_succ, bin_succ]
    have h1 := bin_step n k
    have h2 := bin_step n (k + 1)
    by_cases hk : k + 1 ≤ n
    · obtain ⟨m, rfl⟩ : ∃ m, n = m + (k + 1) := ⟨n - (k + 1), by omega⟩
      rw [show m + (k + 1) - k = m + 1 by omega] at h1
      rw [show m + (k + 1) - (k + 1) = m by omega] at h2
      rw [show m + (k + 1) + 1 - (k + 1) = m + 1 by omega]
      grind
    · by_cases hk2 : k = n
      · subst hk2
        rw [bin_above (n := k) (k := k + 1 + 1) (by omega), bin_above (n := k) (k := k + 1) (by omega)]; simp
      · rw [bin_above (n := n) (k := k + 1 + 1) (by omega), bin_above (n := n) (k := k + 1) (by omega), bin_above (n := n) (k := k) (by omega)]; simp
theorem bin_symm : ∀ {n k : Nat}, k ≤ n → bin n (n - k) = bin n k
  | 0, k, h => by have : k = 0 := by omega
                  subst this; rfl
  | n + 1, 0, _ => by rw [Nat.sub_zero, bin_self, bin_zero]
  | n + 1, k + 1, h => by
    rw [Nat.add_sub_add_right]
    by_cases e : k = n
    · subst e; rw [Nat.sub_self, bin_zero, bin_self]
    · obtain ⟨m, hm⟩ : ∃ m, n - k = m + 1 := ⟨n - k - 1, by omega⟩
      rw [hm, bin_succ, bin_succ]
      have h1 := bin_symm (n := n) (k := k) (by omega)
      have h2 := bin_symm (n := n) (k := k + 1) (by omega)
      rw [hm] at h1
      rw [show n - (k + 1) = m by omega] at h2
      omega
def kr (g : Int) : Nat → Nat → Nat → Int
  | 0, 0, 0 => 1
  | 0, 0, _ + 1 => 0
  | a + 1, 0, 0 => kr g a 0 0
  | a + 1, 0, k + 1 => kr g a 0 (k + 1) + g * kr g a 0 k
  | a, b + 1, 0 => kr g a b 0
  | a, b + 1, k + 1 => kr g a b (k + 1) - kr g a b k
theorem kr_b0 (g : Int) (a b : Nat) : kr g a (b + 1) 0 = kr g a b 0 := by cases a <;> simp [kr]
theorem kr_b (g : Int) (a b k : Nat) : kr g a (b + 1) (k + 1) = kr g a b (k + 1) - kr g a b k := by cases a <;> simp [kr]
theorem kr_zero (g : Int) (a b : Nat) : kr g a b 0 = 1 := by
  induction b with
  | zero => induction a with
    | zero => simp [kr]
    | succ a ih => simp [kr, ih]
  | succ b ih => rw [kr_b0, ih]
theorem kr_a (g : Int) (a b k : Nat) : kr g (a + 1) b (k + 1) = kr g a b (k + 1) + g * kr g a b k := by
  induction b generalizing k with
  | zero => simp [kr]
  | succ b ih =>
    rw [kr_b, kr_b, ih]
    cases k with
    | zero => rw [kr_zero, kr_zero, kr_zero]; omega
    | succ k => rw [ih, kr_b]; grind
theorem kr_above (g : Int) : ∀ (a b k : Nat), a + b < k → kr g a b k = 0 := by
  intro a
  induction a with
  | zero =>
    intro b
    induction b with
    | zero => intro k h; cases k with
      | zero => omega
      | succ k => simp [kr]
    | succ b ih => intro k h; cases k with
      | zero => omega
      | succ k => rw [kr_b, ih _ (by omega), ih _ (by omega)]; rfl
  | succ a ih => intro b k h; cases k with
    | zero => omega
    | succ k => rw [kr_a, ih _ _ (by omega), ih _ _ (by omega)]; simp
theorem kr_first (g : Int) (a k : Nat) : kr g a 0 k = (bin a k : Int) * g ^ k := by
  induction a generalizing k with
  | zero => cases k with
    | zero => simp [kr, bin]
    | succ k => simp [kr, bin]
  | succ a ih => cases k with
    | zero => simp [kr_zero, bin_zero]
    | succ k => rw [kr_a, ih, ih, bin_succ, Int.pow_succ, Int.natCast_add]; grind
theorem kr_row (g : Int) (a b k : Nat) : kr g a (b + 1) (k + 1) = kr g (a + 1) b (k + 1) - kr g (a + 1) b k - g * kr g a (b + 1) k := by
  have h := kr_a g a (b + 1) k
  rw [kr_b] at h
  omega
def krF (g : Int) (a b k : Nat) : Int := sm (k + 1) (fun j => (-1) ^ j * (g ^ (k - j) * ((bin b j : Int) * (bin a (k - j) : Int))))
theorem kr_formula (g : Int) (a b k : Nat) : kr g a b k = krF g a b k := by
  induction b generalizing k with
  | zero =>
    rw [kr_first, krF]
    rw [sm_single (a := 0) (by omega)]
    · simp [bin_zero]; grind
    · intro i _ hne
      obtain ⟨m, rfl⟩ : ∃ m, i = m + 1 := ⟨i - 1, by omega⟩
      simp [bin]
  | succ b ih =>
    cases k with
    | zero => rw [kr_zero]; simp [krF, sm, bin_zero]
    | succ k =>
      rw [kr_b, ih, ih, krF, krF, krF]
      rw [sm_head (k + 1) (fun j => (-1) ^ j * (g ^ (k + 1 - j) * ((bin (b + 1) j : Int) * (bin a (k + 1 - j) : Int))))]
      rw [sm_head (k + 1) (fun j => (-1) ^ j * (g ^ (k + 1 - j) * ((bin b j : Int) * (bin a (k + 1 - j) : Int))))]
      simp only [bin_zero, Nat.add_sub_add_right]
      rw [Int.add_sub_assoc]
      congr 1
      rw [← sm_sub]
      refine sm_congr fun i hi => ?_
      rw [bin_succ, Int.natCast_add, Int.pow_succ]
      grind
theorem kr_gen (g : Int) (a b : Nat) (u w : Int) : sm (a + b + 1) (fun i => kr g a b i * u ^ (a + b - i) * w ^ i) = (u + g * w) ^ a * (u - w) ^ b := by
  have shift : ∀ (m : Nat) (c : Nat → Int) (s : Int) (d : Nat → Int), d 0 = c 0 → (∀ k, d (k + 1) = c (k + 1) + s * c k) → (∀ k, m < k → c k = 0) →
      sm (m + 2) (fun i => d i * u ^ (m + 1 - i) * w ^ i) = (u + s * w) * sm (m + 1) (fun i => c i * u ^ (m - i) * w ^ i) := by
    intro m c s d h0 h1 h2
    have e1 : u * sm (m + 1) (fun i => c i * u ^ (m - i) * w ^ i) = sm (m + 2) (fun i => c i * u ^ (m + 1 - i) * w ^ i) := by
      rw [← sm_mul, sm.eq_def (m + 2)]
      simp only []
      rw [h2 (m + 1) (by omega)]
      simp only [Int.zero_mul, Int.add_zero]
      refine sm_congr fun i hi => ?_
      rw [show m + 1 - i = (m - i) + 1 by omega, Int.pow_succ]; grind
    have e2 : s * w * sm (m + 1) (fun i => c i * u ^ (m - i) * w ^ i) = sm (m + 1) (fun i => s * c i * u ^ (m + 1 - (i + 1)) * w ^ (i + 1)) := by
      rw [← sm_mul]
      refine sm_congr fun i hi => ?_
      rw [Nat.add_sub_add_right, Int.pow_succ]; grind
    rw [Int.add_mul, e1, e2, sm_head (m + 1), sm_head (m + 1), Int.add_assoc, ← sm_add, h0]
    congr 1
    refine sm_congr fun i _ => ?_
    rw [h1]; grind
  induction b with
  | zero =>
    induction a with
    | zero => simp [sm, kr]
    | succ a ih =>
      have := shift (a + 0) (kr g a 0) g (kr g (a + 1) 0) (by rw [kr_zero, kr_zero]) (fun k => kr_a g a 0 k) (fun k hk => kr_above g a 0 k hk)
      rw [show a + 1 + 0 + 1 = a + 0 + 2 by omega, show a + 1 + 0 = a + 0 + 1 by omega, this, ih]
      grind
  | succ b ih =>
    have := shift (a + b) (kr g a b) (-1) (kr g a (b + 1)) (by rw [kr_zero, kr_zero]) (fun k => by rw [kr_b]; omega) (fun k hk => kr_above g a b k hk)
    rw [show a + (b + 1) + 1 = a + b + 2 by omega, show a + (b + 1) = a + b + 1 by omega, this, ih]
    grind
theorem kr_gen1 (g : Int) (a b : Nat) (z : Int) : sm (a + b + 1) (fun i => kr g a b i * z ^ i) = (1 + g * z) ^ a * (1 - z) ^ b := by
  rw [← kr_gen g a b 1 z]
  refine sm_congr fun i _ => ?_
  rw [Int.one_pow, Int.mul_one]
end Mw
end
section
set_option linter.unusedVariables false
set_option linter.unusedSimpArgs false
namespace Mw
open Go Go.RowKit Go.Proofs.YtifkbghnmhineaaW.PrintWords Go.Proofs.YtifkbghnmhineaaW.PrintLast Go.Proofs.YtifkbghnmhineaaW.PrintMore Go.Proofs.Ytifkbghnmhineaa.PAll
theorem rd_rep (n : Nat) (j : Nat) : rd (List.replicate n 0) (j : Int) = 0 := by
  by_cases h : j < n
  · rw [rd_lt (by simpa using h)]; simp
  · exact rd_ge (by simp; omega)
theorem mac_bound {x y z c : Int} (hx0 : 0 ≤ x) (hx1 : x < 4294967296) (hy0 : 0 ≤ y) (hy1 : y < 4294967296) (hz0 : 0 ≤ z) (hz1 : z < 4294967296) (hc0 : 0 ≤ c) (hc1 : c < 4294967296) :
    0 ≤ x * y ∧ x * y + z + c < 18446744073709551616 := by
  have hp0 : 0 ≤ x * y := Int.mul_nonneg hx0 hy0
  have hp1 : x * y ≤ 4294967295 * 4294967295 := Int.mul_le_mul (by omega) (by omega) hy0 (by decide)
  generalize x * y = p at *
  omega
theorem mac_wrap {x y z c : Int} (hx0 : 0 ≤ x) (hx1 : x < 4294967296) (hy0 : 0 ≤ y) (hy1 : y < 4294967296) (hz0 : 0 ≤ z) (hz1 : z < 4294967296) (hc0 : 0 ≤ c) (hc1 : c < 4294967296) :
    IntKind.u64.wrap (IntKind.u64.wrap (IntKind.u64.wrap (IntKind.u64.wrap x * IntKind.u64.wrap y) + IntKind.u64.wrap z) + c) = x * y + z + c := by
  have hb := mac_bound hx0 hx1 hy0 hy1 hz0 hz1 hc0 hc1
  rw [u64w (x := x) (by omega) (by omega), u64w (x := y) (by omega) (by omega), u64w (x := z) (by omega) (by omega)]
  generalize x * y = p at *
  rw [u64w (x := p) (by omega) (by omega), u64w (x := p + z) (by omega) (by omega), u64w (x := p + z + c) (by omega) (by omega)]
theorem split_div (s : Int) : s % 4294967296 + 4294967296 * (s / 4294967296) = s := by omega
theorem div_bound {s : Int} (h0 : 0 ≤ s) (h1 : s < 18446744073709551616) : 0 ≤ s % 4294967296 ∧ s % 4294967296 < 4294967296 ∧ 0 ≤ s / 4294967296 ∧ s / 4294967296 < 4294967296 := by omega
theorem times_inner {x : Int} {b l18 : List Int} (hx0 : 0 ≤ x) (hx1 : x < 4294967296) (hb : Lm b) (hbl : b.length < 536870912) (x19 : Int) (i L : Nat) (hL : i + b.length + 1 ≤ L) (hL2 : L < 1073741824) (V : Int) (R : List Int)
    (next : ∀ o : List Int, o.length = L → Lm o → (∀ j : Nat, i + 1 + b.length ≤ j → rd o (j : Int) = 0) → Aside0 (lv o = V + (bp i : Int) * (x * lv b)) → Ev (fun k => nat_times.l0 k b o l18 x19 ((i + 1 : Nat) : Int)) R) :
    ∀ (d j : Nat) (o : List Int) (c : Int), j + d = b.length → o.length = L → Lm o → 0 ≤ c → c < 4294967296 → (∀ m : Nat, i + b.length ≤ m → rd o (m : Int) = 0) →
      Aside0 (lv o + (bp (i + j) : Int) * c = V + (bp i : Int) * (x * lv (b.take j))) →
      Ev (fun k => nat_times.l1 k b o (i : Int) x c l18 x19 (i : Int) b (b.length : Int) (j : Int)) R := by
  intro d
  induction d with
  | zero =>
    intro j o c hj ho hol hc0 hc1 hz hv
    have hj : j = b.length := by omega
    subst hj
    refine Ev.succ ?_
    simp only [nat_times.l1, wn (show (i : Int) + (b.length : Int) = ((i + b.length : Nat) : Int) by omega) (by omega), wn (show (i : Int) + 1 = ((i + 1 : Nat) : Int) by omega) (by omega), if_neg (show ¬ ((b.length : Nat) : Int) < (b.length : Int) by omega), if_pos (show (0 : Int) ≤ ((i + b.length : Nat) : Int) by omega), if_pos (show ((i + b.length : Nat) : Int) < (o.length : Int) by omega)]
    rw [Int.toNat_natCast, show c % 4294967296 = c by omega]
    refine next _ (by rw [List.length_set]; omega) (lm_set hol hc0 hc1) (fun m hm => ?_) ⟨?_⟩
    · rw [rd_set_ne _ (by omega)]; exact hz m (by omega)
    · rw [lv_set _ (by omega), hz _ (Nat.le_refl _), Int.sub_zero, hv.out, List.take_of_length_le (Nat.le_refl _)]
  | succ d ih =>
    intro j o c hj ho hol hc0 hc1 hz hv
    have hjb : j < b.length := by omega
    refine Ev.succ ?_
    have rb := rd_lm hb (j : Int)
    have ro := rd_lm hol ((i + j : Nat) : Int)
    simp only [nat_times.l1, wn (show (i : Int) + (j : Int) = ((i + j : Nat) : Int) by omega) (by omega), wn (show (j : Int) + 1 = ((j + 1 : Nat) : Int) by omega) (by omega), if_pos (show (j : Int) < (b.length : Int) by omega), if_pos (show (0 : Int) ≤ (j : Int) by omega), if_pos (show (0 : Int) ≤ ((i + j : Nat) : Int) by omega), if_pos (show ((i + j : Nat) : Int) < (o.length : Int) by omega), mac_wrap hx0 hx1 rb.1 rb.2 ro.1 ro.2 hc0 hc1]
    have hb2 := mac_bound hx0 hx1 rb.1 rb.2 ro.1 ro.2 hc0 hc1
    have hdef : ∃ s, s = x * rd b (j : Int) + rd o ((i + j : Nat) : Int) + c := ⟨_, rfl⟩
    obtain ⟨s, hs⟩ := hdef
    have hs0 : 0 ≤ s := by rw [hs]; exact Int.add_nonneg (Int.add_nonneg hb2.1 ro.1) hc0
    have hs1 : s < 18446744073709551616 := by rw [hs]; exact hb2.2
    have hd := div_bound hs0 hs1
    clear hb2
    rw [← hs]
    rw [Int.toNat_natCast]
    have hs := Aside0.mk hs
    refine ih (j + 1) _ _ (by omega) (by rw [List.length_set]; omega) (lm_set hol hd.1 hd.2.1) hd.2.2.1 hd.2.2.2 (fun m hm => ?_) ⟨?_⟩
    · rw [rd_set_ne _ (by omega)]; exact hz m hm
    · rw [lv_set _ (by omega), lv_take_succ hjb, ← Nat.add_assoc, bp_succ, Int.natCast_mul]
      have hdiv : s % 4294967296 + 4294967296 * (s / 4294967296) = x * rd b (j : Int) + rd o ((i + j : Nat) : Int) + c := by rw [split_div]; exact hs.out
      have hv := hv.out
      have hbp : ((bp (i + j) : Nat) : Int) = (bp i : Int) * (bp j : Int) := by rw [bp_add, Int.natCast_mul]
      clear ih hz next hs hs0 hs1 hd rb ro hc0 hc1
      generalize s % 4294967296 = y at *
      generalize s / 4294967296 = u at *
      generalize (bp (i + j) : Int) = p at *
      generalize (bp i : Int) = pi at *
      generalize (bp j : Int) = pj at *
      generalize rd b (j : Int) = rb at *
      generalize rd o ((i + j : Nat) : Int) = ro at *
      generalize lv o = lo at *
      generalize lv (b.take j) = lt at *
      subst hbp
      have h1 : lo + pi * pj * c = V + pi * (x * lt) := hv
      have h2 : y + 4294967296 * u = x * rb + ro + c := hdiv
      show lo + pi * pj * (y - ro) + 4294967296 * (pi * pj) * u = V + pi * (x * (lt + pj * rb))
      have h3 : pi * pj * (y + 4294967296 * u) = pi * pj * (x * rb + ro + c) := by rw [h2]
      grind
theorem times_outer {b l : List Int} (hb : Lm b) (hl : Lm l) (hbl : b.length < 268435456) (hll : l.length < 268435456) : ∀ (d i : Nat) (o : List Int), i + d = l.length → o.length = l.length + b.length → Lm o → (∀ m : Nat, i + b.length ≤ m → rd o (m : Int) = 0) →
    Aside0 (lv o = lv (l.take i) * lv b) → Ev (fun k => nat_times.l0 k b o l (l.length : Int) (i : Int)) (dg (lv l * lv b).toNat) := by
  intro d
  induction d with
  | zero =>
    intro i o hi ho hol hz hv
    have hi : i = l.length := by omega
    subst hi
    refine Ev.succ ?_
    simp only [nat_times.l0, if_neg (show ¬ ((l.length : Nat) : Int) < (l.length : Int) by omega)]
    refine Ev.bind (short_ev hol (by omega)) ?_
    refine Ev.cast (Ev.some _) ?_
    rw [hv.out, List.take_of_length_le (Nat.le_refl _)]
  | succ d ih =>
    intro i o hi ho hol hz hv
    have hil : i < l.length := by omega
    refine Ev.succ ?_
    have rl := rd_lm hl (i : Int)
    simp only [nat_times.l0, if_pos (show (i : Int) < (l.length : Int) by omega), if_pos (show (0 : Int) ≤ (i : Int) by omega)]
    refine times_inner (l18 := l) rl.1 rl.2 hb (by omega) (l.length : Int) i (l.length + b.length) (by omega) (by omega) (lv (l.take i) * lv b) _ (fun o2 h1 h2 h3 h4 => ?_) b.length 0 o 0 (by omega) ho hol (by omega) (by omega) hz ⟨?_⟩
    · refine ih (i + 1) o2 (by omega) h1 h2 (fun m hm => h3 m hm) ⟨?_⟩
      rw [h4.out, lv_take_succ hil, Int.add_mul, Int.mul_assoc]
    · rw [hv.out]; simp [lv_nil]
theorem times_ev {a b : List Int} (ha : Lm a) (hb : Lm b) (h1 : a.length < 268435456) (h2 : b.length < 268435456) : Ev (fun k => nat_times.f k a b) (dg (lv a * lv b).toNat) := by
  simp only [nat_times.f]
  simp only [wn (show (a.length : Int) + (b.length : Int) = ((a.length + b.length : Nat) : Int) by omega) (by omega), Int.toNat_natCast, if_pos (show (0 : Int) ≤ ((a.length + b.length : Nat) : Int) by omega), if_pos (show a.length + b.length ≤ 70368744177664 by omega)]
  exact times_outer hb ha h2 h1 a.length 0 _ (by omega) (by simp) (lm_rep _) (fun m _ => rd_rep _ m) ⟨by rw [lv_rep]; simp [lv_nil]⟩
theorem mul2_ev {a b : Nat} (ha : (dg a).length < 134217728) (hb : (dg b).length < 134217728) : Ev (fun k => nat_Mul.f k [dg a, dg b]) (dg (a * b)) := by
  simp only [nat_Mul.f]
  have mul_len : ∀ x y : Nat, (dg (x * y)).length ≤ (dg x).length + (dg y).length := by
    intro x y
    refine dg_len_le ?_
    rw [bp_add]
    exact Nat.mul_lt_mul'' (dg_lt_len x) (dg_lt_len y)
  have one : lv [1] = 1 := by rw [lv_cons, lv_nil]; rfl
  have l1 : Lm [1] := by rw [lm_cons]; exact ⟨by omega, lm_nil⟩
  refine Ev.succ ?_
  simp only [nat_Mul.l0, List.length_cons, List.length_nil, w64 (x := (0 : Int) + 1) (by omega) (by omega)]
  rw [show ((0 + 1 + 1 : Nat) : Int) = 2 from rfl]
  simp only [if_pos (show (0 : Int) < 2 by omega), if_pos (show (0 : Int) ≤ 0 by omega)]
  rw [show rd_L3 [dg a, dg b] 0 = dg a from rfl]
  refine Ev.bind (short_ev (lm_dg a) (by omega)) ?_
  rw [lv_dg, Int.toNat_natCast]
  refine Ev.bind (times_ev l1 (lm_dg a) (by simp) (by omega)) ?_
  rw [one, lv_dg, Int.one_mul, Int.toNat_natCast]
  refine Ev.succ ?_
  rw [show (0 : Int) + 1 = 1 from rfl]
  simp only [nat_Mul.l0, List.length_cons, List.length_nil, w64 (x := (1 : Int) + 1) (by omega) (by omega)]
  rw [show ((0 + 1 + 1 : Nat) : Int) = 2 from rfl]
  simp only [if_pos (show (1 : Int) < 2 by omega), if_pos (show (0 : Int) ≤ 1 by omega)]
  rw [show rd_L3 [dg a, dg b] 1 = dg b from rfl]
  refine Ev.bind (short_ev (lm_dg b) (by omega)) ?_
  rw [lv_dg, Int.toNat_natCast]
  refine Ev.bind (times_ev (lm_dg a) (lm_dg b) (by omega) (by omega)) ?_
  rw [lv_dg, lv_dg, ← Int.natCast_mul, Int.toNat_natCast]
  rw [show (1 : Int) + 1 = 2 from rfl]
  refine Ev.succ ?_
  simp only [nat_Mul.l0, if_neg (show ¬ (2 : Int) < 2 by omega)]
  have := mul_len a b
  refine Ev.bind (trim_ev (lm_dg (a * b)) (by omega)) ?_
  rw [lv_dg, Int.toNat_natCast]
  exact Ev.some _
end Mw
end
section
set_option linter.unusedVariables false
set_option linter.unusedSimpArgs false
namespace Mw
open Go Go.RowKit Go.Proofs.YtifkbghnmhineaaW.PrintWords Go.Proofs.YtifkbghnmhineaaW.PrintLast Go.Proofs.YtifkbghnmhineaaW.PrintMore Go.Proofs.Ytifkbghnmhineaa.PAll
theorem wraps_u64 (n : Int) (h0 : 0 ≤ n) (h1 : n < 2 ^ 64) : IntKind.u64.wrap n = n := u64w h0 (by omega)
theorem join32 {x y : Int} (hx0 : 0 ≤ x) (hx1 : x < 4294967296) (hy0 : 0 ≤ y) (hy1 : y < 4294967296) : Go.bits .or .u64 (IntKind.u64.wrap (x * 4294967296)) (IntKind.u64.wrap y) = x * 4294967296 + y := by
  rw [u64w (x := x * 4294967296) (by omega) (by omega), u64w (x := y) (by omega) (by omega)]
  exact bits_join .u64 64 (by decide) wraps_u64 32 _ _ (by omega) (by omega) (by omega) hy0 (by omega) (by omega)
theorem digit_bounds {r b y : Int} (hr0 : 0 ≤ r) (hrb : r < b) (hb : b < 4294967296) (hy0 : 0 ≤ y) (hy1 : y < 4294967296) :
    0 ≤ (r * 4294967296 + y) / b ∧ (r * 4294967296 + y) / b < 4294967296 ∧ 0 ≤ (r * 4294967296 + y) % b ∧ (r * 4294967296 + y) % b < b := by
  have hbp : 0 < b := by omega
  refine ⟨Int.ediv_nonneg (by omega) (by omega), ?_, Int.emod_nonneg _ (by omega), Int.emod_lt_of_pos _ hbp⟩
  refine Int.ediv_lt_of_lt_mul hbp ?_
  have : (r + 1) * 4294967296 ≤ b * 4294967296 := by omega
  omega
theorem digit_loop {a : List Int} {b : Int} (ha : Lm a) (hb0 : 0 < b) (hb1 : b < 4294967296) (hlen : a.length < 1073741824) : ∀ (n : Nat) (o : List Int) (r : Int), n ≤ a.length → o.length = a.length → Lm o → (∀ j : Nat, j < n → rd o (j : Int) = 0) → 0 ≤ r → r < b →
    Aside0 (lv o * b + (bp n : Int) * r = lv a - lv (a.take n)) → Ev (fun k => nat_digit.l0 k a b o r ((n : Int) - 1)) (dg (lv a / b).toNat, lv a % b) := by
  intro n
  induction n with
  | zero =>
    intro o r hn ho hol hz hr0 hr1 hv
    refine Ev.succ ?_
    simp only [nat_digit.l0, if_neg (show ¬ ((0 : Nat) : Int) - 1 ≥ 0 by omega)]
    refine Ev.bind (short_ev hol (by omega)) ?_
    refine Ev.cast (Ev.some _) ?_
    have hv := hv.out
    rw [List.take_zero, lv_nil, bp_zero] at hv
    have e : lv a = b * lv o + r := by rw [Int.mul_comm]; omega
    have h1 : lv a / b = lv o := by
      rw [e, Int.add_comm, Int.add_mul_ediv_left _ _ (by omega), Int.ediv_eq_zero_of_lt hr0 hr1]; omega
    have h2 : lv a % b = r := by
      rw [e, Int.add_comm, Int.add_mul_emod_self_left, Int.emod_eq_of_lt hr0 hr1]
    rw [h1, h2]
    clear hv e h1 h2
    congr 1
    omega
  | succ n ih =>
    intro o r hn ho hol hz hr0 hr1 hv
    refine Ev.succ ?_
    have ra := rd_lm ha (n : Int)
    have hd := digit_bounds hr0 hr1 hb1 ra.1 ra.2
    have hdiv : b * ((r * 4294967296 + rd a (n : Int)) / b) + (r * 4294967296 + rd a (n : Int)) % b = r * 4294967296 + rd a (n : Int) := Int.mul_ediv_add_emod _ _
    have t0 : 0 ≤ r * 4294967296 + rd a (n : Int) := by omega
    simp only [nat_digit.l0, show ((n + 1 : Nat) : Int) - 1 = (n : Int) from by omega, if_pos (show (n : Int) ≥ 0 by omega), if_pos (show (0 : Int) ≤ (n : Int) by omega), if_pos (show (n : Int) < (a.length : Int) by omega), if_pos (show (n : Int) < (o.length : Int) by omega), if_neg (show ¬ b = 0 by omega),
      join32 hr0 (by omega) ra.1 ra.2, w64 (x := (n : Int) - 1) (by omega) (by omega), u64w (x := b) (by omega) (by omega)]
    rw [Int.tdiv_eq_ediv_of_nonneg t0, Int.tmod_eq_emod_of_nonneg t0]
    generalize (r * 4294967296 + rd a (n : Int)) / b = q at *
    generalize (r * 4294967296 + rd a (n : Int)) % b = s at *
    rw [u64w (x := q) hd.1 (by omega), show q % 4294967296 = q by omega, Int.toNat_natCast]
    refine ih _ _ (by omega) (by rw [List.length_set]; exact ho) (lm_set hol hd.1 hd.2.1) (fun j hj => ?_) hd.2.2.1 hd.2.2.2 ⟨?_⟩
    · rw [rd_set_ne _ (by omega)]; exact hz j (by omega)
    · have hv := hv.out
      rw [lv_take_succ (l := a) (i := n) (by omega), bp_succ, Int.natCast_mul] at hv
      rw [lv_set (l := o) (i := n) _ (by omega), hz n (by omega)]
      clear ih hz hd ra t0
      generalize lv o = x at *
      generalize (bp n : Int) = p at *
      generalize rd a (n : Int) = y at *
      generalize lv a = A at *
      generalize lv (a.take n) = T at *
      have hv : x * b + 4294967296 * p * r = A - (T + p * y) := hv
      have h3 : p * (b * q + s) = p * (r * 4294967296 + y) := by rw [hdiv]
      grind
theorem digit_ev {a : List Int} {b : Int} (ha : Lm a) (hb0 : 0 < b) (hb1 : b < 4294967296) (hlen : a.length < 1073741824) : Ev (fun k => nat_digit.f k a b) (dg (lv a / b).toNat, lv a % b) := by
  simp only [nat_digit.f, Int.toNat_natCast, if_pos (show (0 : Int) ≤ (a.length : Int) by omega), if_pos (show a.length ≤ 70368744177664 by omega), w64 (x := (a.length : Int) - 1) (by omega) (by omega)]
  exact digit_loop ha hb0 hb1 hlen a.length _ 0 (Nat.le_refl _) (by simp) (lm_rep _) (fun j _ => rd_rep _ j) (by omega) (by omega) ⟨by rw [lv_rep, List.take_of_length_le (Nat.le_refl _)]; simp⟩
theorem bin_mul (n i : Nat) : bin n i * (n - i) = (i + 1) * bin n (i + 1) := by rw [bin_step, Nat.mul_comm]
theorem bin_lt (n k : Nat) : bin n k ≤ 2 ^ n := by
  induction n generalizing k with
  | zero => cases k <;> simp [bin]
  | succ n ih => cases k with
    | zero => rw [bin_zero]; exact Nat.one_le_two_pow
    | succ k => rw [bin_succ, Nat.pow_succ]; have h1 := ih k; have h2 := ih (k + 1); omega
theorem pow2_bp (m : Nat) : 2 ^ (32 * m) = bp m := by
  induction m with
  | zero => rw [bp_zero]
  | succ m ih => rw [Nat.mul_succ, Nat.pow_add, ih, bp_succ, Nat.mul_comm]
theorem bin_len {n : Nat} (hn : n ≤ 4096) (k : Nat) : (dg (bin n k)).length ≤ 129 := by
  refine dg_len_le ?_
  have h1 := bin_lt n k
  have h2 : ∀ m, n ≤ 32 * m → 2 ^ n ≤ bp m := fun m h => by rw [← pow2_bp]; exact Nat.pow_le_pow_right (by decide) h
  have h2 := h2 128 (by omega)
  have h3 := bp_pos 128
  rw [show 129 = 128 + 1 from rfl, bp_succ]
  generalize 2 ^ n = p at *
  generalize bp 128 = u at *
  omega
theorem binomial_loop {n : Nat} (hn : n ≤ 4096) : ∀ (d i m : Nat), i + d = m → m ≤ n → Ev (fun k => nat_Binomial.l0 k (n : Int) (dg (bin n i)) (m : Int) (i : Int)) (dg (bin n m), 0) := by
  intro d
  induction d with
  | zero =>
    intro i m hi hm
    have hi : i = m := by omega
    subst hi
    refine Ev.succ ?_
    simp only [nat_Binomial.l0, if_neg (show ¬ (i : Int) < (i : Int) by omega)]
    have := bin_len hn i
    refine Ev.bind (trim_ev (lm_dg _) (by omega)) ?_
    rw [lv_dg, Int.toNat_natCast]
    exact Ev.some _
  | succ d ih =>
    intro i m hi hm
    refine Ev.succ ?_
    have hl := bin_len hn i
    have e0 : ((n : Int) - (i : Int)) % 4294967296 = ((n - i : Nat) : Int) := by omega
    have e1 : ((i + 1 : Nat) : Int) % 4294967296 = ((i + 1 : Nat) : Int) := by omega
    simp only [nat_Binomial.l0, w64 (x := (n : Int) - (i : Int)) (by omega) (by omega), wn (show (i : Int) + 1 = ((i + 1 : Nat) : Int) by omega) (by omega), if_pos (show (i : Int) < (m : Int) by omega), e0, e1]
    have l1 : Lm [((n - i : Nat) : Int)] := by rw [lm_cons]; exact ⟨by omega, lm_nil⟩
    refine Ev.bind (times_ev (lm_dg _) l1 (by omega) (by simp)) ?_
    have v1 : lv (dg (bin n i)) * lv [((n - i : Nat) : Int)] = ((bin n i * (n - i) : Nat) : Int) := by rw [lv_dg, lv_cons, lv_nil, Int.natCast_mul]; simp
    rw [v1, Int.toNat_natCast, bin_mul]
    have hl2 : (dg ((i + 1) * bin n (i + 1))).length ≤ 130 := by
      refine dg_len_le ?_
      rw [← bin_mul]
      have h1 := dg_lt_len (bin n i)
      have h2 := bp_mono hl
      have h3 : bin n i < bp 129 := by omega
      rw [show 130 = 129 + 1 from rfl, bp_succ, Nat.mul_comm]
      have h4 : n - i ≤ 4294967296 := by omega
      exact Nat.lt_of_le_of_lt (Nat.mul_le_mul_right _ h4) (Nat.mul_lt_mul_of_pos_left h3 (by decide))
    refine Ev.bind (digit_ev (lm_dg _) (by omega) (by omega) (by omega)) ?_
    rw [lv_dg]
    have v2 : (((i + 1) * bin n (i + 1) : Nat) : Int) / ((i + 1 : Nat) : Int) = ((bin n (i + 1) : Nat) : Int) := by
      rw [Int.natCast_mul, Int.mul_ediv_cancel_left _ (by omega)]
    rw [v2, Int.toNat_natCast]
    exact ih (i + 1) m (by omega) hm
theorem binomial_ev {n m : Nat} (hn : n ≤ 4096) (hm : m ≤ n) : Ev (fun k => nat_Binomial.f k (n : Int) (m : Int)) (dg (bin n m), 0) := by
  simp only [nat_Binomial.f, if_neg (show ¬ (n : Int) < 0 by omega), decide_eq_false (show ¬ (n : Int) > 4096 by omega)]
  refine Ev.succ ?_
  simp only [nat_Binomial.j0, Bool.false_eq_true, if_false, if_neg (show ¬ (m : Int) < 0 by omega), decide_eq_false (show ¬ (m : Int) > (n : Int) by omega)]
  refine Ev.succ ?_
  simp only [nat_Binomial.j1, Bool.false_eq_true, if_false, wn (show (n : Int) - (m : Int) = ((n - m : Nat) : Int) by omega) (by omega)]
  have hone : ([1] : List Int) = dg (bin n 0) := by rw [bin_zero, dg_one]
  rw [hone]
  have hz : (0 : Int) = ((0 : Nat) : Int) := rfl
  by_cases h : m ≤ n - m
  · rw [show mn (m : Int) ((n - m : Nat) : Int) = (m : Int) from by unfold mn; split <;> omega]
    exact binomial_loop hn m 0 m (by omega) hm
  · rw [show mn (m : Int) ((n - m : Nat) : Int) = ((n - m : Nat) : Int) from by unfold mn; split <;> omega, ← bin_symm hm]
    exact binomial_loop hn (n - m) 0 (n - m) (by omega) (by omega)
theorem bits_half (x : Nat) (h : x < 4294967296) : Lib.bitLen x ≤ 32 := Lib.bitLen_le x 32 (by decide) (by omega)
theorem bitLen_zero : Lib.bitLen 0 = 0 := by decide
theorem bitLen_pos {x : Nat} (h0 : x ≠ 0) (h : x < 4294967296) : 1 ≤ Lib.bitLen x := by
  rw [Lib.bitLen_half x h0 (by omega)]; omega
theorem bitLen_lt : ∀ (b x : Nat), x < 4294967296 → Lib.bitLen x ≤ b → x < 2 ^ b := by
  intro b
  induction b with
  | zero =>
    intro x hx hb
    by_cases h : x = 0
    · subst h; decide
    · have := bitLen_pos h hx; omega
  | succ b ih =>
    intro x hx hb
    by_cases h : x = 0
    · subst h; exact Nat.two_pow_pos _
    · rw [Lib.bitLen_half x h (by omega)] at hb
      have := ih (x / 2) (by omega) (by omega)
      rw [Nat.pow_succ]
      omega
theorem dg_head {n : Nat} {i : Nat} (hi : i + 1 = (dg n).length) : rd (dg n) (i : Int) ≠ 0 := by
  have hne : dg n ≠ [] := by intro e; rw [e] at hi; simp at hi
  have := dg_last n hne
  rw [List.getLast_eq_getElem] at this
  rw [rd_lt (by omega)]
  have e : (dg n).length - 1 = i := by omega
  simpa [e] using this
def bl (n : Nat) : Nat := if n = 0 then 0 else 32 * ((dg n).length - 1) + Lib.bitLen (rd (dg n) (((dg n).length - 1 : Nat) : Int)).toNat
theorem bits_ev {n : Nat} (hn : (dg n).length < 33554432) : Ev (fun k => nat_Bits.f k (dg n)) ((bl n : Nat) : Int) := by
  simp only [nat_Bits.f]
  refine Ev.bind (short_ev (lm_dg n) (by omega)) ?_
  rw [lv_dg, Int.toNat_natCast]
  by_cases h : n = 0
  · subst h
    rw [dg_zero]
    simp only [List.length_nil, if_pos (show ((0 : Nat) : Int) = 0 from rfl)]
    exact Ev.cast (Ev.some _) (by simp [bl])
  · have hp : (dg n).length ≠ 0 := by rw [Ne, dg_len_zero]; exact h
    obtain ⟨m, hm⟩ : ∃ m, (dg n).length = m + 1 := ⟨(dg n).length - 1, by omega⟩
    have hb : bl n = 32 * m + Lib.bitLen (rd (dg n) (m : Int)).toNat := by unfold bl; rw [if_neg h, hm]; rfl
    have hr := rd_lm (lm_dg n) (m : Int)
    have hbl := bits_half (rd (dg n) (m : Int)).toNat (by omega)
    rw [hb, hm]
    have f1 : bits_Len32.f (rd (dg n) (m : Int)) = some ((Lib.bitLen (rd (dg n) (m : Int)).toNat : Nat) : Int) := by
      unfold bits_Len32.f
      rw [if_pos hr.1, if_pos (by omega)]
    simp only [if_neg (show ¬ ((m + 1 : Nat) : Int) = 0 by omega), wn (show ((m + 1 : Nat) : Int) - 1 = (m : Int) by omega) (by omega), if_pos (show (0 : Int) ≤ (m : Int) by omega), if_pos (show (m : Int) < ((m + 1 : Nat) : Int) by omega), f1, Option.bind_some]
    refine Ev.cast (Ev.some _) ?_
    rw [wn (show (32 : Int) * (m : Int) = ((32 * m : Nat) : Int) by omega) (by omega), wn (show ((32 * m : Nat) : Int) + ((Lib.bitLen (rd (dg n) (m : Int)).toNat : Nat) : Int) = ((32 * m + Lib.bitLen (rd (dg n) (m : Int)).toNat : Nat) : Int) by omega) (by omega)]
theorem bl_zero {n : Nat} : bl n = 0 ↔ n = 0 := by
  constructor
  · intro h
    by_cases h0 : n = 0
    · exact h0
    · unfold bl at h
      rw [if_neg h0] at h
      have hp : (dg n).length ≠ 0 := by rw [Ne, dg_len_zero]; exact h0
      obtain ⟨m, hm⟩ : ∃ m, (dg n).length = m + 1 := ⟨(dg n).length - 1, by omega⟩
      have hr := rd_lm (lm_dg n) (m : Int)
      have h1 := dg_head hm.symm
      rw [hm, show m + 1 - 1 = m from rfl] at h
      have := bitLen_pos (x := (rd (dg n) (m : Int)).toNat) (by omega) (by omega)
      omega
  · intro h; subst h; rfl
theorem bl_small {n : Nat} (h0 : n ≠ 0) (h : n < 4294967296) : bl n = Lib.bitLen n := by
  unfold bl
  rw [if_neg h0, dg_small h0 h]
  simp [rd]
theorem bl_one {n : Nat} : bl n = 1 ↔ n = 1 := by
  constructor
  · intro h
    have hn0 : n ≠ 0 := by intro e; subst e; rw [bl_zero.mpr rfl] at h; omega
    unfold bl at h
    rw [if_neg hn0] at h
    have hp : (dg n).length ≠ 0 := by rw [Ne, dg_len_zero]; exact hn0
    obtain ⟨m, hm⟩ : ∃ m, (dg n).length = m + 1 := ⟨(dg n).length - 1, by omega⟩
    have hr := rd_lm (lm_dg n) (m : Int)
    have h1 := dg_head hm.symm
    rw [hm, show m + 1 - 1 = m from rfl] at h
    have h2 := bitLen_pos (x := (rd (dg n) (m : Int)).toNat) (by omega) (by omega)
    have hm0 : m = 0 := by omega
    subst hm0
    have hn : n < 4294967296 := by
      have := dg_lt_len n
      rw [hm, show (0 + 1 : Nat) = 0 + 1 from rfl, bp_succ, bp_zero] at this
      omega
    have h4 : dg n = [(n : Int)] := dg_small hn0 hn
    rw [h4] at h
    have h3 := bitLen_lt 1 n hn (by simp [rd] at h; omega)
    omega
  · intro h; subst h; rw [bl_small (by decide) (by decide)]; decide
theorem pow_len (x n m : Nat) (h : (dg x).length ≤ m) : (dg (x ^ n)).length ≤ m * n + 1 := by
  refine dg_len_le ?_
  have h1 := dg_lt_len x
  have h2 := bp_mono h
  have h3 : ∀ n, x ^ n ≤ bp (m * n) := by
    intro n
    induction n with
    | zero => simp [bp_zero]
    | succ n ih => rw [Nat.pow_succ, Nat.mul_succ, bp_add]; exact Nat.mul_le_mul ih (by omega)
  have h4 := h3 n
  rw [bp_succ]
  have h5 := bp_pos (m * n)
  omega
theorem and1 {n : Nat} (hn : n < 9223372036854775808) : Go.bits .and .i64 (n : Int) 1 = ((n % 2 : Nat) : Int) := by
  have := bits_mask .i64 63 (by decide) (fun n h0 h1 => by
    rw [IntKind.wrap_i64]
    have : n < 9223372036854775808 := by omega
    omega) 1 (by decide) (n : Int) (by omega) (by have : (n : Int) < 9223372036854775808 := by omega
                                                  omega)
  rw [show (2 : Int) ^ 1 - 1 = 1 from rfl, show (2 : Int) ^ 1 = 2 from rfl] at this
  rw [this]
  omega
theorem mul_len (x y : Nat) : (dg (x * y)).length ≤ (dg x).length + (dg y).length := by
  refine dg_len_le ?_
  rw [bp_add]
  exact Nat.mul_lt_mul'' (dg_lt_len x) (dg_lt_len y)
theorem times2_ev {a b : Nat} (h1 : (dg a).length < 268435456) (h2 : (dg b).length < 268435456) : Ev (fun k => nat_times.f k (dg a) (dg b)) (dg (a * b)) := by
  refine Ev.cast (times_ev (lm_dg a) (lm_dg b) h1 h2) ?_
  rw [lv_dg, lv_dg, ← Int.natCast_mul, Int.toNat_natCast]
theorem trim2_ev {a : Nat} (h1 : (dg a).length < 268435456) : Ev (fun k => nat_Trim.f k (dg a)) (dg a) := by
  refine Ev.cast (trim_ev (lm_dg a) (by omega)) ?_
  rw [lv_dg, Int.toNat_natCast]
theorem pow_half (y x n : Nat) : y * x ^ n = (if n % 2 = 1 then y * x else y) * (x * x) ^ (n / 2) := by
  have e : n = 2 * (n / 2) + n % 2 := by omega
  have h : x ^ n = (x * x) ^ (n / 2) * x ^ (n % 2) := by
    conv => lhs; rw [e]
    rw [Nat.pow_add, Nat.pow_mul, Nat.pow_two]
  rw [h]
  by_cases g : n % 2 = 1
  · rw [if_pos g, g, Nat.pow_one]; simp only [Nat.mul_assoc, Nat.mul_comm x]
  · rw [if_neg g, show n % 2 = 0 by omega, Nat.pow_zero, Nat.mul_one]
theorem pow_loop : ∀ (n : Nat), 0 < n → n < 4611686018427387904 → ∀ (y x : Nat), Aside0 ((dg x).length * n + (dg y).length ≤ 4096) → Ev (fun k => nat_Pow.l0 k (n : Int) (dg y) (dg x)) (dg (y * x ^ n), 0) := by
  intro n
  induction n using Nat.strongRecOn with
  | _ n ih =>
    intro h0 h1 y x hl
    have hx : (dg x).length ≤ 4096 := by
      have h2 := hl.out
      have h3 : (dg x).length * 1 ≤ (dg x).length * n := Nat.mul_le_mul_left _ h0
      omega
    have hy : (dg y).length ≤ 4096 := by have := hl.out; omega
    have hyx := mul_len y x
    have hxx := mul_len x x
    refine Ev.succ ?_
    have hd : (n : Int) / 2 = ((n / 2 : Nat) : Int) := by omega
    have hy2 : Aside0 ((dg (x * x)).length * (n / 2) + (dg (if n % 2 = 1 then y * x else y)).length ≤ 4096) := by
      refine ⟨?_⟩
      have h2 := hl.out
      have h3 : (dg (x * x)).length * (n / 2) ≤ ((dg x).length + (dg x).length) * (n / 2) := Nat.mul_le_mul_right _ hxx
      have h4 : ((dg x).length + (dg x).length) * (n / 2) + (dg x).length * (n % 2) = (dg x).length * n := by
        conv => rhs; rw [show n = 2 * (n / 2) + n % 2 by omega]
        rw [Nat.mul_add, ← Nat.two_mul, Nat.mul_assoc, Nat.mul_left_comm]
      by_cases g : n % 2 = 1
      · rw [if_pos g]
        rw [g, Nat.mul_one] at h4
        omega
      · rw [if_neg g]
        rw [show n % 2 = 0 by omega, Nat.mul_zero] at h4
        omega
    have fin : n / 2 = 0 → Ev (fun k => if (((dg (if n % 2 = 1 then y * x else y)).length : Nat) : Int) > 4096 then some (([] : List Int), (8 : Int)) else (nat_Trim.f k (dg (if n % 2 = 1 then y * x else y))).bind fun t => some (t, 0)) (dg (y * x ^ n), 0) := by
      intro hz
      have h2 := hy2.out
      rw [hz, Nat.mul_zero] at h2
      rw [pow_half y x n, hz, Nat.pow_zero, Nat.mul_one]
      simp only [if_neg (show ¬ (((dg (if n % 2 = 1 then y * x else y)).length : Nat) : Int) > 4096 by omega)]
      refine Ev.bind (trim2_ev (by omega)) ?_
      exact Ev.some _
    have go : n / 2 ≠ 0 → Ev (fun k => (nat_times.f k (dg x) (dg x)).bind fun t => nat_Pow.l0 k ((n / 2 : Nat) : Int) (dg (if n % 2 = 1 then y * x else y)) t) (dg (y * x ^ n), 0) := by
      intro hz
      refine Ev.bind (times2_ev (by omega) (by omega)) ?_
      rw [pow_half y x n]
      exact ih (n / 2) (by omega) (by omega) (by omega) _ _ hy2
    simp only [nat_Pow.l0, and1 (show n < 9223372036854775808 by omega), hd]
    clear hy2 hl
    by_cases g : n % 2 = 1
    · rw [if_pos g] at fin go
      simp only [if_pos (show ((n % 2 : Nat) : Int) = 1 by omega)]
      refine Ev.bind (times2_ev (by omega) (by omega)) ?_
      by_cases hz : n / 2 = 0
      · simp only [if_pos (show ((n / 2 : Nat) : Int) = 0 by omega)]
        exact fin hz
      · simp only [if_neg (show ¬ ((n / 2 : Nat) : Int) = 0 by omega)]
        exact go hz
    · rw [if_neg g] at fin go
      simp only [if_neg (show ¬ ((n % 2 : Nat) : Int) = 1 by omega)]
      by_cases hz : n / 2 = 0
      · simp only [if_pos (show ((n / 2 : Nat) : Int) = 0 by omega)]
        exact fin hz
      · simp only [if_neg (show ¬ ((n / 2 : Nat) : Int) = 0 by omega)]
        exact go hz
theorem pow_ev {x n : Nat} (hx : x < 4294967296) (hn : n < 4096) : Ev (fun k => nat_Pow.f k (dg x) (n : Int)) (dg (x ^ n), 0) := by
  have hxl : (dg x).length ≤ 1 := dg_len_le (by rw [show (1 : Nat) = 0 + 1 from rfl, bp_succ, bp_zero]; omega)
  simp only [nat_Pow.f, if_neg (show ¬ (n : Int) < 0 by omega)]
  refine Ev.bind (bits_ev (by omega)) ?_
  have one : ([1] : List Int) = dg 1 := dg_one.symm
  by_cases h0 : n = 0
  · subst h0
    simp only [if_pos (show ((0 : Nat) : Int) = 0 from rfl)]
    refine Ev.succ ?_
    simp only [nat_Pow.j0, if_true, Nat.pow_zero, one]
    exact Ev.some _
  · simp only [if_neg (show ¬ (n : Int) = 0 by omega)]
    by_cases h1 : x = 1
    · subst h1
      rw [bl_one.mpr rfl]
      refine Ev.succ ?_
      simp only [nat_Pow.j0, Nat.one_pow, one]
      exact Ev.some _
    · have hb1 : bl x ≠ 1 := fun e => h1 (bl_one.mp e)
      have hbl : bl x ≤ 32 := by
        by_cases hx0 : x = 0
        · subst hx0; rw [bl_zero.mpr rfl]; omega
        · rw [bl_small hx0 hx]; exact bits_half x hx
      rw [show (((bl x : Nat) : Int) == 1) = false from by simp; omega]
      refine Ev.succ ?_
      simp only [nat_Pow.j0, Bool.false_eq_true, if_false]
      by_cases hx0 : x = 0
      · subst hx0
        simp only [bl_zero.mpr rfl, if_pos (show ((0 : Nat) : Int) = 0 from rfl)]
        rw [Nat.zero_pow (by omega), dg_zero]
        exact Ev.some _
      · have hb0 : bl x ≠ 0 := fun e => hx0 (bl_zero.mp e)
        have hmul : (bl x - 1) * n ≤ 31 * 4095 := Nat.mul_le_mul (by omega) (by omega)
        have e2 : wrap64 (wrap64 ((bl x : Int) - 1) * (n : Int)) = (((bl x - 1) * n : Nat) : Int) := by
          rw [wn (show (bl x : Int) - 1 = ((bl x - 1 : Nat) : Int) by omega) (by omega)]
          exact wn (by rw [Int.natCast_mul]) (by omega)
        have e3 : ¬ wrap64 (wrap64 ((bl x : Int) - 1) * (n : Int)) ≥ 131072 := by rw [e2]; clear e2; omega
        simp only [if_neg (show ¬ ((bl x : Nat) : Int) = 0 by clear e2 e3; omega), if_neg (show ¬ (n : Int) > 131072 by clear e2 e3; omega), if_neg e3]
        clear e2 e3
        refine Ev.bind (short_ev (lm_dg x) (by omega)) ?_
        rw [lv_dg, Int.toNat_natCast, one]
        refine Ev.cast (pow_loop n (by omega) (by omega) 1 x ⟨?_⟩) (by rw [Nat.one_mul])
        have h5 : (dg x).length * n ≤ 1 * 4095 := Nat.mul_le_mul hxl (by omega)
        rw [dg_one]
        simp only [List.length_cons, List.length_nil]
        omega
end Mw
end
section
set_option linter.unusedVariables false
set_option linter.unusedSimpArgs false
namespace Mw
open Go Go.RowKit Go.Proofs.YtifkbghnmhineaaW.PrintWords Go.Proofs.YtifkbghnmhineaaW.PrintLast Go.Proofs.YtifkbghnmhineaaW.PrintMore Go.Proofs.Ytifkbghnmhineaa.PAll
theorem rtrim_loop {l : List Int} (hl : Lm l) (hlen : l.length < 1099511627776) : ∀ n : Nat, n ≤ l.length → (∀ i : Nat, n ≤ i → i < l.length → rd l (i : Int) = 0) →
    Ev (fun k => codewrightref01_Trim.l0 k l (n : Int)) (dg (lv l).toNat) := by
  intro n
  induction n with
  | zero =>
    intro hn hz
    refine Ev.succ ?_
    simp only [codewrightref01_Trim.l0, Option.bind_some, if_neg (show ¬ ((0 : Nat) : Int) > 0 by omega), if_pos (show (0 : Int) ≤ ((0 : Nat) : Int) by omega), if_pos (show ((0 : Nat) : Int) ≤ (l.length : Int) by omega), if_pos (show ([] : List Int).length + (l.take ((0 : Nat) : Int).toNat).length < 35184372088832 by simp), List.nil_append]
    refine Ev.cast (Ev.some _) ?_
    rw [show (((0 : Nat) : Int)).toNat = 0 from rfl]
    exact dg_take hl hn hz (.inl rfl)
  | succ n ih =>
    intro hn hz
    refine Ev.succ ?_
    have e : wrap64 (((n + 1 : Nat) : Int) - 1) = (n : Int) := by rw [w64 (by omega) (by omega)]; omega
    by_cases h : rd l (n : Int) = 0
    · simp only [codewrightref01_Trim.l0, e, if_pos (show ((n + 1 : Nat) : Int) > 0 by omega), if_pos (show (0 : Int) ≤ (n : Int) by omega), if_pos (show (n : Int) < (l.length : Int) by omega), if_pos h]
      exact ih (by omega) (fun i h1 h2 => by
        by_cases e2 : i = n
        · subst e2; exact h
        · exact hz i (by omega) h2)
    · have hlt : ([] : List Int).length + (l.take ((n + 1 : Nat) : Int).toNat).length < 35184372088832 := by
        rw [List.length_take, List.length_nil]; clear e; omega
      simp only [codewrightref01_Trim.l0, Option.bind_some, e, if_pos (show ((n + 1 : Nat) : Int) > 0 by omega), if_pos (show (0 : Int) ≤ (n : Int) by omega), if_pos (show (n : Int) < (l.length : Int) by omega), if_neg h, if_pos (show (0 : Int) ≤ ((n + 1 : Nat) : Int) by omega), if_pos (show ((n + 1 : Nat) : Int) ≤ (l.length : Int) by omega), if_pos hlt, List.nil_append]
      refine Ev.cast (Ev.some _) ?_
      rw [show (((n + 1 : Nat) : Int)).toNat = n + 1 by omega]
      exact dg_take hl hn hz (.inr h)
theorem rtrim_ev {l : List Int} (hl : Lm l) (hlen : l.length < 1099511627776) : Ev (fun k => codewrightref01_Trim.f k l) (dg (lv l).toNat) := by
  simp only [codewrightref01_Trim.f]
  exact rtrim_loop hl hlen l.length (Nat.le_refl _) (fun i h1 h2 => by omega)
theorem rtrim2_ev {a : Nat} (h1 : (dg a).length < 268435456) : Ev (fun k => codewrightref01_Trim.f k (dg a)) (dg a) := by
  refine Ev.cast (rtrim_ev (lm_dg a) (by omega)) ?_
  rw [lv_dg, Int.toNat_natCast]
theorem rof_ev {n : Nat} (hn : n < 18446744073709551616) : Ev (fun k => codewrightref01_Of.f k (n : Int)) (dg n) := by
  simp only [codewrightref01_Of.f]
  have e1 : Int.tmod (n : Int) 4294967296 = (n : Int) % 4294967296 := Int.tmod_eq_emod_of_nonneg (by omega)
  have e2 : Int.tdiv (n : Int) 4294967296 = (n : Int) / 4294967296 := Int.tdiv_eq_ediv_of_nonneg (by omega)
  rw [e1, e2, u64w (x := (n : Int) / 4294967296) (by clear e1 e2; omega) (by clear e1 e2; omega)]
  have hl : Lm [(n : Int) % 4294967296 % 4294967296, ((n : Int) / 4294967296) % 4294967296] := by
    rw [lm_cons, lm_cons]
    clear e1 e2
    exact ⟨by omega, by omega, lm_nil⟩
  refine Ev.bind (rtrim_ev hl (by simp)) ?_
  refine Ev.cast (Ev.some _) ?_
  congr 1
  simp only [lv_cons, lv_nil]
  clear e1 e2
  omega
theorem limb_eq {l : List Int} (hl : Lm l) (i : Nat) : codewrightref01_limb.f l (i : Int) = some (rd l (i : Int)) := by
  unfold codewrightref01_limb.f
  have r := rd_lm hl (i : Int)
  by_cases h : i < l.length
  · rw [if_pos (by omega), if_pos (by omega), u64w r.1 (by omega)]
  · rw [if_neg (by omega), rd_ge (by omega)]
theorem lv_take_any (l : List Int) (i : Nat) : lv (l.take (i + 1)) = lv (l.take i) + (bp i : Int) * rd l (i : Int) := by
  by_cases h : i < l.length
  · exact lv_take_succ h
  · rw [rd_ge (by omega), List.take_of_length_le (by omega), List.take_of_length_le (by omega)]; simp
theorem radd_sum {a b c : Int} (ha0 : 0 ≤ a) (ha1 : a < 4294967296) (hb0 : 0 ≤ b) (hb1 : b < 4294967296) (hc0 : 0 ≤ c) (hc1 : c ≤ 1) :
    IntKind.u64.wrap (IntKind.u64.wrap (a + b) + c) = a + b + c := by
  rw [u64w (x := a + b) (by omega) (by omega), u64w (by omega) (by omega)]
theorem tmod_nn {a : Int} (b : Int) (h : 0 ≤ a) : Int.tmod a b = a % b := Int.tmod_eq_emod_of_nonneg h
theorem tdiv_nn {a : Int} (b : Int) (h : 0 ≤ a) : Int.tdiv a b = a / b := Int.tdiv_eq_ediv_of_nonneg h
theorem radd_loop {a b : List Int} (ha : Lm a) (hb : Lm b) (hla : a.length < 549755813888) (hlb : b.length < 549755813888) : ∀ (d i : Nat) (o : List Int) (c : Int), i + d = max a.length b.length + 1 → o.length = i → Lm o → 0 ≤ c → c ≤ 1 → (d = 0 → c = 0) →
    Aside0 (lv o + (bp i : Int) * c = lv (a.take i) + lv (b.take i)) → Ev (fun k => codewrightref01_Add.l0 k a b o c (i : Int)) (dg (lv a + lv b).toNat) := by
  intro d
  induction d with
  | zero =>
    intro i o c hi ho hol hc0 hc1 hz hv
    have hc := hz rfl
    subst hc
    refine Ev.succ ?_
    simp only [codewrightref01_Add.l0, if_neg (show ¬ (i : Int) < (a.length : Int) by omega), if_neg (show ¬ (i : Int) < (b.length : Int) by omega), decide_eq_false (show ¬ (0 : Int) > 0 by omega)]
    refine Ev.succ ?_
    simp only [codewrightref01_Add.j1, Bool.false_eq_true, if_false]
    refine Ev.bind (rtrim_ev hol (by omega)) ?_
    refine Ev.cast (Ev.some _) ?_
    have hv := hv.out
    rw [List.take_of_length_le (by omega), List.take_of_length_le (by omega), Int.mul_zero, Int.add_zero] at hv
    rw [hv]
  | succ d ih =>
    intro i o c hi ho hol hc0 hc1 hz hv
    have ra := rd_lm ha (i : Int)
    have rb := rd_lm hb (i : Int)
    have body : Ev (fun k => codewrightref01_Add.j1 k a b o c (i : Int) true) (dg (lv a + lv b).toNat) := by
      refine Ev.succ ?_
      simp only [codewrightref01_Add.j1, if_true, limb_eq ha, limb_eq hb, Option.bind_some, if_pos (show o.length < 35184372088832 by omega), radd_sum ra.1 ra.2 rb.1 rb.2 hc0 hc1, tmod_nn 4294967296 (show 0 ≤ rd a (i : Int) + rd b (i : Int) + c by omega), tdiv_nn 4294967296 (show 0 ≤ rd a (i : Int) + rd b (i : Int) + c by omega), wn (show (i : Int) + 1 = ((i + 1 : Nat) : Int) by omega) (by omega), u64w (x := (rd a (i : Int) + rd b (i : Int) + c) / 4294967296) (by omega) (by omega), show (rd a (i : Int) + rd b (i : Int) + c) % 4294967296 % 4294967296 = (rd a (i : Int) + rd b (i : Int) + c) % 4294967296 by omega]
      have hs : ∃ s, s = rd a (i : Int) + rd b (i : Int) + c := ⟨_, rfl⟩
      obtain ⟨s, hs⟩ := hs
      rw [← hs]
      have hs0 : 0 ≤ s := by omega
      have hs1 : s ≤ 8589934591 := by omega
      refine ih (i + 1) _ _ (by omega) (by rw [List.length_append]; simp [ho]) (lm_append hol (lm_cons.mpr ⟨by omega, lm_nil⟩)) (by omega) (by omega) (fun hd => ?_) ⟨?_⟩
      · have h1 : rd a (i : Int) = 0 := rd_ge (by omega)
        have h2 : rd b (i : Int) = 0 := rd_ge (by omega)
        omega
      · rw [lv_append, lv_cons, lv_nil, ho, lv_take_any, lv_take_any, bp_succ, Int.natCast_mul]
        have hv := hv.out
        have hdiv : s % 4294967296 + 4294967296 * (s / 4294967296) = rd a (i : Int) + rd b (i : Int) + c := by rw [split_div]; exact hs
        clear ih hz hs hs0 hs1 ra rb hc0 hc1
        generalize s % 4294967296 = y at *
        generalize s / 4294967296 = u at *
        generalize (bp i : Int) = p at *
        generalize rd a (i : Int) = x at *
        generalize rd b (i : Int) = z at *
        generalize lv (a.take i) = la at *
        generalize lv (b.take i) = lb at *
        generalize lv o = lo at *
        show lo + p * (y + 4294967296 * 0) + 4294967296 * p * u = la + p * x + (lb + p * z)
        have h3 : p * (y + 4294967296 * u) = p * (x + z + c) := by rw [hdiv]
        have h4 : lo + p * c = la + lb := hv
        grind
    refine Ev.succ ?_
    simp only [codewrightref01_Add.l0]
    by_cases h1 : (i : Int) < (a.length : Int)
    · simp only [if_pos h1]; exact body
    · simp only [if_neg h1]
      by_cases h2 : (i : Int) < (b.length : Int)
      · simp only [if_pos h2]; exact body
      · simp only [if_neg h2]
        by_cases h3 : c > 0
        · simp only [decide_eq_true h3]; exact body
        · simp only [decide_eq_false h3]
          have hc : c = 0 := by omega
          subst hc
          refine Ev.succ ?_
          simp only [codewrightref01_Add.j1, Bool.false_eq_true, if_false]
          refine Ev.bind (rtrim_ev hol (by omega)) ?_
          refine Ev.cast (Ev.some _) ?_
          have hv := hv.out
          rw [List.take_of_length_le (by omega), List.take_of_length_le (by omega), Int.mul_zero, Int.add_zero] at hv
          rw [hv]
theorem radd_ev {a b : List Int} (ha : Lm a) (hb : Lm b) (hla : a.length < 549755813888) (hlb : b.length < 549755813888) : Ev (fun k => codewrightref01_Add.f k a b) (dg (lv a + lv b).toNat) := by
  simp only [codewrightref01_Add.f]
  exact radd_loop ha hb hla hlb _ 0 [] 0 (by rw [Nat.zero_add]) rfl lm_nil (by omega) (by omega) (fun h => by omega) ⟨by simp [lv_nil]⟩
theorem radd2_ev {a b : Nat} (ha : (dg a).length < 268435456) (hb : (dg b).length < 268435456) : Ev (fun k => codewrightref01_Add.f k (dg a) (dg b)) (dg (a + b)) := by
  refine Ev.cast (radd_ev (lm_dg a) (lm_dg b) (by omega) (by omega)) ?_
  rw [lv_dg, lv_dg, ← Int.natCast_add, Int.toNat_natCast]
theorem same_loop (a b : List Int) (hab : a.length = b.length) (hlen : a.length < 549755813888) : ∀ (d i : Nat), i + d = a.length → a.take i = b.take i → Ev (fun k => codewrightref01_Same.l0 k a b (i : Int)) (decide (a = b)) := by
  intro d
  induction d with
  | zero =>
    intro i hi he
    refine Ev.succ ?_
    simp only [codewrightref01_Same.l0, if_neg (show ¬ (i : Int) < (a.length : Int) by omega)]
    rw [List.take_of_length_le (by omega), List.take_of_length_le (by omega)] at he
    refine Ev.cast (Ev.some _) (decide_eq_true he).symm
  | succ d ih =>
    intro i hi he
    refine Ev.succ ?_
    simp only [codewrightref01_Same.l0, if_pos (show (i : Int) < (a.length : Int) by omega), if_pos (show (0 : Int) ≤ (i : Int) by omega), if_pos (show (i : Int) < (b.length : Int) by omega), wn (show (i : Int) + 1 = ((i + 1 : Nat) : Int) by omega) (by omega)]
    by_cases h : rd a (i : Int) = rd b (i : Int)
    · simp only [if_pos h]
      exact ih (i + 1) (by omega) (by rw [take_succ_rd (by omega), take_succ_rd (by omega), he, h])
    · simp only [if_neg h]
      exact Ev.cast (Ev.some _) (decide_eq_false (fun e => h (by rw [e]))).symm
theorem same_ev (a b : List Int) (hlen : a.length < 549755813888) : Ev (fun k => codewrightref01_Same.f k a b) (decide (a = b)) := by
  simp only [codewrightref01_Same.f]
  by_cases h : a.length = b.length
  · simp only [if_pos (show (a.length : Int) = (b.length : Int) by omega)]
    exact same_loop a b h hlen a.length 0 (by omega) rfl
  · simp only [if_neg (show ¬ (a.length : Int) = (b.length : Int) by omega)]
    exact Ev.cast (Ev.some _) (decide_eq_false (fun e => h (by rw [e]))).symm
theorem rmul_inner {b l : List Int} (hl : Lm l) (hb : Lm b) (hbl : b.length < 268435456) (hll : l.length < 268435456) (i : Nat) (hi : i < l.length) (V : Int) (R : List Int)
    (next : ∀ o : List Int, o.length = l.length + b.length → Lm o → (∀ j : Nat, i + 1 + b.length ≤ j → rd o (j : Int) = 0) → Aside0 (lv o = V + (bp i : Int) * (rd l (i : Int) * lv b)) → Ev (fun k => codewrightref01_Mul.l0 k l b o ((i + 1 : Nat) : Int)) R) :
    ∀ (d j : Nat) (o : List Int) (c : Int), j + d = b.length → o.length = l.length + b.length → Lm o → 0 ≤ c → c < 4294967296 → (∀ m : Nat, i + b.length ≤ m → rd o (m : Int) = 0) →
      Aside0 (lv o + (bp (i + j) : Int) * c = V + (bp i : Int) * (rd l (i : Int) * lv (b.take j))) →
      Ev (fun k => codewrightref01_Mul.l1 k l b o (i : Int) c (j : Int)) R := by
  intro d
  induction d with
  | zero =>
    intro j o c hj ho hol hc0 hc1 hz hv
    have hj : j = b.length := by omega
    subst hj
    refine Ev.succ ?_
    simp only [codewrightref01_Mul.l1, wn (show (i : Int) + (b.length : Int) = ((i + b.length : Nat) : Int) by omega) (by omega), wn (show (i : Int) + 1 = ((i + 1 : Nat) : Int) by omega) (by omega), if_neg (show ¬ ((b.length : Nat) : Int) < (b.length : Int) by omega), if_pos (show (0 : Int) ≤ ((i + b.length : Nat) : Int) by omega), if_pos (show ((i + b.length : Nat) : Int) < (o.length : Int) by omega)]
    rw [Int.toNat_natCast, show c % 4294967296 = c by omega]
    refine next _ (by rw [List.length_set]; omega) (lm_set hol hc0 hc1) (fun m hm => ?_) ⟨?_⟩
    · rw [rd_set_ne _ (by omega)]; exact hz m (by omega)
    · rw [lv_set _ (by omega), hz _ (Nat.le_refl _), Int.sub_zero, hv.out, List.take_of_length_le (Nat.le_refl _)]
  | succ d ih =>
    intro j o c hj ho hol hc0 hc1 hz hv
    have hjb : j < b.length := by omega
    have rl := rd_lm hl (i : Int)
    refine Ev.succ ?_
    have rb := rd_lm hb (j : Int)
    have ro := rd_lm hol ((i + j : Nat) : Int)
    have hb2 := mac_bound rl.1 rl.2 rb.1 rb.2 ro.1 ro.2 hc0 hc1
    have hs00 : 0 ≤ rd l (i : Int) * rd b (j : Int) + rd o ((i + j : Nat) : Int) + c := Int.add_nonneg (Int.add_nonneg hb2.1 ro.1) hc0
    simp only [codewrightref01_Mul.l1, wn (show (i : Int) + (j : Int) = ((i + j : Nat) : Int) by omega) (by omega), wn (show (j : Int) + 1 = ((j + 1 : Nat) : Int) by omega) (by omega), if_pos (show (j : Int) < (b.length : Int) by omega), if_pos (show (0 : Int) ≤ (i : Int) by omega), if_pos (show (i : Int) < (l.length : Int) by omega), if_pos (show (0 : Int) ≤ (j : Int) by omega), if_pos (show (0 : Int) ≤ ((i + j : Nat) : Int) by omega), if_pos (show ((i + j : Nat) : Int) < (o.length : Int) by omega), mac_wrap rl.1 rl.2 rb.1 rb.2 ro.1 ro.2 hc0 hc1, tmod_nn 4294967296 hs00, tdiv_nn 4294967296 hs00]
    have hdef : ∃ s, s = rd l (i : Int) * rd b (j : Int) + rd o ((i + j : Nat) : Int) + c := ⟨_, rfl⟩
    obtain ⟨s, hs⟩ := hdef
    have hs0 : 0 ≤ s := by rw [hs]; exact hs00
    have hs1 : s < 18446744073709551616 := by rw [hs]; exact hb2.2
    have hd := div_bound hs0 hs1
    clear hb2
    rw [← hs]
    rw [Int.toNat_natCast]
    have hs := Aside0.mk hs
    have hq : IntKind.u64.wrap (s / 4294967296) = s / 4294967296 := u64w hd.2.2.1 (by omega)
    rw [hq]
    clear hq
    rw [show s % 4294967296 % 4294967296 = s % 4294967296 by omega]
    refine ih (j + 1) _ _ (by omega) (by rw [List.length_set]; omega) (lm_set hol hd.1 hd.2.1) hd.2.2.1 hd.2.2.2 (fun m hm => ?_) ⟨?_⟩
    · rw [rd_set_ne _ (by omega)]; exact hz m hm
    · rw [lv_set _ (by omega), lv_take_succ hjb, ← Nat.add_assoc, bp_succ, Int.natCast_mul]
      have hdiv : s % 4294967296 + 4294967296 * (s / 4294967296) = rd l (i : Int) * rd b (j : Int) + rd o ((i + j : Nat) : Int) + c := by rw [split_div]; exact hs.out
      have hv := hv.out
      have hbp : ((bp (i + j) : Nat) : Int) = (bp i : Int) * (bp j : Int) := by rw [bp_add, Int.natCast_mul]
      clear ih hz next hs hs0 hs1 hd rb ro hc0 hc1 hs00 rl
      generalize s % 4294967296 = y at *
      generalize s / 4294967296 = u at *
      generalize (bp (i + j) : Int) = p at *
      generalize (bp i : Int) = pi at *
      generalize (bp j : Int) = pj at *
      generalize rd b (j : Int) = rb at *
      generalize rd l (i : Int) = x at *
      generalize rd o ((i + j : Nat) : Int) = ro at *
      generalize lv o = lo at *
      generalize lv (b.take j) = lt at *
      subst hbp
      have h1 : lo + pi * pj * c = V + pi * (x * lt) := hv
      have h2 : y + 4294967296 * u = x * rb + ro + c := hdiv
      show lo + pi * pj * (y - ro) + 4294967296 * (pi * pj) * u = V + pi * (x * (lt + pj * rb))
      have h3 : pi * pj * (y + 4294967296 * u) = pi * pj * (x * rb + ro + c) := by rw [h2]
      grind
theorem rmul_outer {b l : List Int} (hb : Lm b) (hl : Lm l) (hbl : b.length < 268435456) (hll : l.length < 268435456) : ∀ (d i : Nat) (o : List Int), i + d = l.length → o.length = l.length + b.length → Lm o → (∀ m : Nat, i + b.length ≤ m → rd o (m : Int) = 0) →
    Aside0 (lv o = lv (l.take i) * lv b) → Ev (fun k => codewrightref01_Mul.l0 k l b o (i : Int)) (dg (lv l * lv b).toNat) := by
  intro d
  induction d with
  | zero =>
    intro i o hi ho hol hz hv
    have hi : i = l.length := by omega
    subst hi
    refine Ev.succ ?_
    simp only [codewrightref01_Mul.l0, if_neg (show ¬ ((l.length : Nat) : Int) < (l.length : Int) by omega)]
    refine Ev.bind (rtrim_ev hol (by omega)) ?_
    refine Ev.cast (Ev.some _) ?_
    rw [hv.out, List.take_of_length_le (Nat.le_refl _)]
  | succ d ih =>
    intro i o hi ho hol hz hv
    have hil : i < l.length := by omega
    refine Ev.succ ?_
    simp only [codewrightref01_Mul.l0, if_pos (show (i : Int) < (l.length : Int) by omega)]
    refine rmul_inner hl hb hbl hll i hil (lv (l.take i) * lv b) _ (fun o2 h1 h2 h3 h4 => ?_) b.length 0 o 0 (by omega) ho hol (by omega) (by omega) hz ⟨?_⟩
    · refine ih (i + 1) o2 (by omega) h1 h2 (fun m hm => h3 m hm) ⟨?_⟩
      rw [h4.out, lv_take_succ hil, Int.add_mul, Int.mul_assoc]
    · rw [hv.out]; simp [lv_nil]
theorem rmul_ev {a b : List Int} (ha : Lm a) (hb : Lm b) (h1 : a.length < 268435456) (h2 : b.length < 268435456) : Ev (fun k => codewrightref01_Mul.f k a b) (dg (lv a * lv b).toNat) := by
  simp only [codewrightref01_Mul.f]
  simp only [wn (show (a.length : Int) + (b.length : Int) = ((a.length + b.length : Nat) : Int) by omega) (by omega), Int.toNat_natCast, if_pos (show (0 : Int) ≤ ((a.length + b.length : Nat) : Int) by omega), if_pos (show a.length + b.length ≤ 70368744177664 by omega)]
  exact rmul_outer hb ha h2 h1 a.length 0 _ (by omega) (by simp) (lm_rep _) (fun m _ => rd_rep _ m) ⟨by rw [lv_rep]; simp [lv_nil]⟩
theorem rmul2_ev {a b : Nat} (h1 : (dg a).length < 268435456) (h2 : (dg b).length < 268435456) : Ev (fun k => codewrightref01_Mul.f k (dg a) (dg b)) (dg (a * b)) := by
  refine Ev.cast (rmul_ev (lm_dg a) (lm_dg b) h1 h2) ?_
  rw [lv_dg, lv_dg, ← Int.natCast_mul, Int.toNat_natCast]
end Mw
end
section
set_option linter.unusedVariables false
set_option linter.unusedSimpArgs false
namespace Mw
open Go Go.RowKit Go.Proofs.YtifkbghnmhineaaW.PrintWords Go.Proofs.YtifkbghnmhineaaW.PrintLast Go.Proofs.YtifkbghnmhineaaW.PrintMore Go.Proofs.Ytifkbghnmhineaa.PAll
theorem rbits_loop : ∀ (b x n : Nat), x < 4294967296 → Lib.bitLen x = b → n + b < 9223372036854775000 → Ev (fun k => codewrightref01_Bits.l0 k (n : Int) (x : Int)) ((n + b : Nat) : Int) := by
  intro b
  induction b with
  | zero =>
    intro x n hx hb hn
    have h0 : x = 0 := by
      by_cases h : x = 0
      · exact h
      · have := bitLen_pos h hx; omega
    subst h0
    refine Ev.succ ?_
    simp only [codewrightref01_Bits.l0, if_neg (show ¬ ((0 : Nat) : Int) > 0 by omega)]
    exact Ev.some _
  | succ b ih =>
    intro x n hx hb hn
    have h0 : x ≠ 0 := by intro h; subst h; rw [bitLen_zero] at hb; omega
    have hb2 : b + 1 ≤ 32 := by rw [← hb]; exact bits_half x hx
    rw [Lib.bitLen_half x h0 (by omega)] at hb
    refine Ev.succ ?_
    simp only [codewrightref01_Bits.l0, if_pos (show (x : Int) > 0 by omega), tdiv_nn 2 (show (0 : Int) ≤ (x : Int) by omega), show (x : Int) / 2 % 4294967296 = ((x / 2 : Nat) : Int) by omega, wn (show (n : Int) + 1 = ((n + 1 : Nat) : Int) by omega) (by omega)]
    refine Ev.cast (ih (x / 2) (n + 1) (by omega) (by omega) (by omega)) (by omega)
theorem rbits_ev {n : Nat} (hn : (dg n).length < 33554432) : Ev (fun k => codewrightref01_Bits.f k (dg n)) ((bl n : Nat) : Int) := by
  simp only [codewrightref01_Bits.f]
  refine Ev.bind (rtrim2_ev (by omega)) ?_
  by_cases h : n = 0
  · subst h
    rw [dg_zero]
    simp only [List.length_nil, if_pos (show ((0 : Nat) : Int) = 0 from rfl)]
    exact Ev.cast (Ev.some _) (by simp [bl])
  · have hp : (dg n).length ≠ 0 := by rw [Ne, dg_len_zero]; exact h
    obtain ⟨m, hm⟩ : ∃ m, (dg n).length = m + 1 := ⟨(dg n).length - 1, by omega⟩
    have hb : bl n = 32 * m + Lib.bitLen (rd (dg n) (m : Int)).toNat := by unfold bl; rw [if_neg h, hm]; rfl
    have hr := rd_lm (lm_dg n) (m : Int)
    have hbl := bits_half (rd (dg n) (m : Int)).toNat (by omega)
    rw [hb, hm]
    simp only [if_neg (show ¬ ((m + 1 : Nat) : Int) = 0 by omega), wn (show ((m + 1 : Nat) : Int) - 1 = (m : Int) by omega) (by omega), if_pos (show (0 : Int) ≤ (m : Int) by omega), if_pos (show (m : Int) < ((m + 1 : Nat) : Int) by omega)]
    rw [wn (show (32 : Int) * (m : Int) = ((32 * m : Nat) : Int) by omega) (by omega)]
    obtain ⟨x, hx⟩ : ∃ x : Nat, rd (dg n) (m : Int) = (x : Int) := ⟨(rd (dg n) (m : Int)).toNat, by omega⟩
    rw [hx] at hr hbl ⊢
    exact rbits_loop _ x (32 * m) (by omega) rfl (by omega)
theorem bl_le_one {n : Nat} : bl n ≤ 1 ↔ n ≤ 1 := by
  constructor
  · intro h
    by_cases h1 : bl n = 1
    · rw [bl_one.mp h1]; exact Nat.le_refl _
    · have h2 : n = 0 := bl_zero.mp (by omega)
      omega
  · intro h
    by_cases h1 : n = 1
    · rw [bl_one.mpr h1]; exact Nat.le_refl _
    · have h2 : bl n = 0 := bl_zero.mpr (by omega)
      omega
theorem half_twice (n p : Nat) : n / p / 2 = n / (2 * p) := by rw [Nat.div_div_eq_div_mul, Nat.mul_comm]
theorem rpow_step (a n p : Nat) : a ^ (n / (2 * p)) * a ^ (n / (2 * p)) * (if n / p % 2 = 1 then a else 1) = a ^ (n / p) := by
  rw [← half_twice]
  generalize n / p = m
  rw [← Nat.pow_add]
  by_cases h : m % 2 = 1
  · rw [if_pos h, ← Nat.pow_succ]; congr 1; omega
  · rw [if_neg h, Nat.mul_one]; congr 1; omega
theorem rpow_loop {a n : Nat} (ha : (dg a).length ≤ 1) (hn : n < 4096) : ∀ (s : Nat), s ≤ 19 → ∀ d p : Nat, d = 2 ^ s / 2 → p = 2 ^ s → Ev (fun k => codewrightref01_Pow.l0 k (dg a) (n : Int) (dg (a ^ (n / p))) (d : Int)) (dg (a ^ n), 0) := by
  intro s
  induction s with
  | zero =>
    intro _ d p hd hp
    subst hd
    subst hp
    refine Ev.succ ?_
    rw [Nat.pow_zero, Nat.div_one]
    simp only [codewrightref01_Pow.l0, if_neg (show ¬ ((1 / 2 : Nat) : Int) > 0 by omega)]
    exact Ev.some _
  | succ s ih =>
    intro hs d p hd hp
    have hd2 : d = 2 ^ s := by rw [hd, Nat.pow_succ, Nat.mul_div_cancel _ (by decide)]
    have hp2 : p = 2 * d := by rw [hp, hd2, Nat.pow_succ, Nat.mul_comm]
    have hpos : 0 < d := by rw [hd2]; exact Nat.two_pow_pos s
    have hbig : d ≤ 524288 := by rw [hd2]; exact Nat.pow_le_pow_right (n := 2) (by decide) (show s ≤ 19 by omega)
    have hle : ∀ m, m ≤ n → (dg (a ^ m)).length ≤ 4096 := by
      intro m hm
      have := pow_len a m 1 ha
      omega
    have hm1 : n / p ≤ n := Nat.div_le_self _ _
    have hm2 : n / d ≤ n := Nat.div_le_self _ _
    have hl1 := hle _ hm1
    have hl2 := hle _ hm2
    have hst := rpow_step a n d
    rw [← hp2] at hst
    have hsq := mul_len (a ^ (n / p)) (a ^ (n / p))
    refine Ev.succ ?_
    have hw : wrap64 ((n / d : Nat) : Int) = ((n / d : Nat) : Int) := wn rfl (by omega)
    have hq : Int.tdiv (n : Int) (d : Int) = ((n / d : Nat) : Int) := by rw [Int.tdiv_eq_ediv_of_nonneg (by omega), ← Int.natCast_ediv]
    have hm : Int.tmod ((n / d : Nat) : Int) 2 = ((n / d % 2 : Nat) : Int) := by rw [Int.tmod_eq_emod_of_nonneg (Int.natCast_nonneg _)]; rfl
    have hh : wrap64 (Int.tdiv (d : Int) 2) = ((d / 2 : Nat) : Int) := by
      clear hw hq hm
      rw [Int.tdiv_eq_ediv_of_nonneg (by omega)]; exact wn (by omega) (by omega)
    simp only [codewrightref01_Pow.l0, if_pos (show (d : Int) > 0 by omega), if_neg (show ¬ (d : Int) = 0 by omega), hq, hw, hm, hh]
    clear hq hw hm hh
    refine Ev.bind (rmul2_ev (by omega) (by omega)) ?_
    have nx := ih (by omega) (d / 2) d (by rw [hd2]) hd2
    by_cases g : n / d % 2 = 1
    · rw [if_pos g] at hst
      simp only [if_pos (show ((n / d % 2 : Nat) : Int) = 1 by omega)]
      refine Ev.bind (rmul2_ev (by omega) (by omega)) ?_
      rw [hst]
      simp only [if_neg (show ¬ (((dg (a ^ (n / d))).length : Nat) : Int) > 4096 by omega)]
      exact nx
    · rw [if_neg g, Nat.mul_one] at hst
      simp only [if_neg (show ¬ ((n / d % 2 : Nat) : Int) = 1 by omega)]
      rw [hst]
      simp only [if_neg (show ¬ (((dg (a ^ (n / d))).length : Nat) : Int) > 4096 by omega)]
      exact nx
theorem rpow_ev {x n : Nat} (hx : x < 4294967296) (hn : n < 4096) : Ev (fun k => codewrightref01_Pow.f k (dg x) (n : Int)) (dg (x ^ n), 0) := by
  have hxl : (dg x).length ≤ 1 := dg_len_le (by rw [show (1 : Nat) = 0 + 1 from rfl, bp_succ, bp_zero]; omega)
  simp only [codewrightref01_Pow.f, if_neg (show ¬ (n : Int) < 0 by omega)]
  refine Ev.bind (rtrim2_ev (by omega)) ?_
  have one : ([1] : List Int) = dg 1 := dg_one.symm
  by_cases h0 : n = 0
  · subst h0
    simp only [if_pos (show ((0 : Nat) : Int) = 0 from rfl), Nat.pow_zero, one]
    exact Ev.some _
  · simp only [if_neg (show ¬ (n : Int) = 0 by omega)]
    refine Ev.bind (rbits_ev (by omega)) ?_
    by_cases h1 : x ≤ 1
    · have := bl_le_one.mpr h1
      simp only [if_pos (show ((bl x : Nat) : Int) ≤ 1 by omega)]
      have hx1 : x ^ n = x := by
        have : x = 0 ∨ x = 1 := by omega
        rcases this with e | e
        · subst e; exact Nat.zero_pow (by omega)
        · subst e; exact Nat.one_pow _
      rw [hx1]
      exact Ev.some _
    · have hb : ¬ bl x ≤ 1 := fun e => h1 (bl_le_one.mp e)
      simp only [if_neg (show ¬ ((bl x : Nat) : Int) ≤ 1 by omega), if_neg (show ¬ (n : Int) > 131072 by omega)]
      have := rpow_loop hxl hn 19 (Nat.le_refl _) 262144 524288 (by decide) (by decide)
      rw [Nat.div_eq_of_lt (show n < 524288 by omega), Nat.pow_zero, dg_one] at this
      exact this
end Mw
end
section
set_option linter.unusedVariables false
set_option linter.unusedSimpArgs false
namespace Mw
open Go Go.RowKit Go.Proofs.YtifkbghnmhineaaW.PrintWords Go.Proofs.YtifkbghnmhineaaW.PrintLast Go.Proofs.YtifkbghnmhineaaW.PrintMore Go.Proofs.Ytifkbghnmhineaa.PAll
def cmpZ (x y : Int) : Int := if x < y then -1 else if y < x then 1 else 0
theorem take_bound {a : List Int} (ha : Lm a) (n : Nat) : 0 ≤ lv (a.take n) ∧ lv (a.take n) < bp n := by
  have h1 := lv_nonneg (lm_take ha n)
  have h2 := lv_le_of_len (lm_take ha n) (m := n) (by rw [List.length_take]; omega)
  omega
theorem cmp_lt {a b : List Int} (ha : Lm a) (hb : Lm b) (n : Nat) (h : rd a (n : Int) < rd b (n : Int)) : lv (a.take (n + 1)) < lv (b.take (n + 1)) := by
  have h1 := take_bound ha n
  have h2 := take_bound hb n
  have h3 : (bp n : Int) * (rd a (n : Int) + 1) ≤ (bp n : Int) * rd b (n : Int) := Int.mul_le_mul_of_nonneg_left (by omega) (by omega)
  rw [lv_take_any, lv_take_any]
  rw [Int.mul_add, Int.mul_one] at h3
  generalize (bp n : Int) * rd a (n : Int) = x at *
  generalize (bp n : Int) * rd b (n : Int) = y at *
  omega
theorem cmp_step {a b : List Int} (ha : Lm a) (hb : Lm b) (n : Nat) : cmpZ (lv (a.take (n + 1))) (lv (b.take (n + 1))) = if rd a (n : Int) < rd b (n : Int) then -1 else if rd b (n : Int) < rd a (n : Int) then 1 else cmpZ (lv (a.take n)) (lv (b.take n)) := by
  by_cases h : rd a (n : Int) < rd b (n : Int)
  · rw [if_pos h]
    unfold cmpZ
    rw [if_pos (cmp_lt ha hb n h)]
  · rw [if_neg h]
    by_cases g : rd b (n : Int) < rd a (n : Int)
    · rw [if_pos g]
      have := cmp_lt hb ha n g
      unfold cmpZ
      rw [if_neg (by omega), if_pos this]
    · rw [if_neg g]
      have e : rd a (n : Int) = rd b (n : Int) := by omega
      rw [lv_take_any, lv_take_any, e]
      unfold cmpZ
      generalize (bp n : Int) * rd b (n : Int) = y at *
      by_cases h1 : lv (a.take n) < lv (b.take n)
      · rw [if_pos h1, if_pos (by omega)]
      · rw [if_neg h1, if_neg (by omega)]
        by_cases h2 : lv (b.take n) < lv (a.take n)
        · rw [if_pos h2, if_pos (by omega)]
        · rw [if_neg h2, if_neg (by omega)]
theorem ncmp_loop {a b : List Int} (ha : Lm a) (hb : Lm b) (hlen : a.length < 1073741824) (hab : a.length = b.length) : ∀ n : Nat, n ≤ a.length → Ev (fun k => nat_Cmp.l0 k a b ((n : Int) - 1)) (cmpZ (lv (a.take n)) (lv (b.take n))) := by
  intro n
  induction n with
  | zero =>
    intro _
    refine Ev.succ ?_
    simp only [nat_Cmp.l0, if_neg (show ¬ ((0 : Nat) : Int) - 1 ≥ 0 by omega)]
    exact Ev.cast (Ev.some _) (by simp [cmpZ])
  | succ n ih =>
    intro hn
    refine Ev.succ ?_
    rw [cmp_step ha hb n]
    simp only [nat_Cmp.l0, show ((n + 1 : Nat) : Int) - 1 = (n : Int) from by omega, if_pos (show (n : Int) ≥ 0 by omega), if_pos (show (0 : Int) ≤ (n : Int) by omega), if_pos (show (n : Int) < (a.length : Int) by omega), if_pos (show (n : Int) < (b.length : Int) by omega), w64 (x := (n : Int) - 1) (by omega) (by omega)]
    by_cases h : rd a (n : Int) < rd b (n : Int)
    · simp only [if_pos h]; exact Ev.some _
    · simp only [if_neg h]
      by_cases g : rd b (n : Int) < rd a (n : Int)
      · simp only [if_pos g, if_pos (show rd a (n : Int) > rd b (n : Int) from g)]; exact Ev.some _
      · simp only [if_neg g, if_neg (show ¬ rd a (n : Int) > rd b (n : Int) from g)]; exact ih (by omega)
theorem ncmp_ev {a b : Nat} (h1 : (dg a).length < 268435456) (h2 : (dg b).length < 268435456) : Ev (fun k => nat_Cmp.f k (dg a) (dg b)) (cmpZ (a : Int) (b : Int)) := by
  simp only [nat_Cmp.f]
  refine Ev.bind (short_ev (lm_dg a) (by omega)) ?_
  refine Ev.bind (short_ev (lm_dg b) (by omega)) ?_
  rw [lv_dg, lv_dg, Int.toNat_natCast, Int.toNat_natCast]
  by_cases h : (dg a).length = (dg b).length
  · simp only [if_pos (show ((dg a).length : Int) = ((dg b).length : Int) by omega), w64 (x := ((dg a).length : Int) - 1) (by omega) (by omega)]
    have := ncmp_loop (lm_dg a) (lm_dg b) (by omega) h _ (Nat.le_refl _)
    rw [List.take_of_length_le (Nat.le_refl _), List.take_of_length_le (by omega), lv_dg, lv_dg] at this
    exact this
  · simp only [if_neg (show ¬ ((dg a).length : Int) = ((dg b).length : Int) by omega)]
    by_cases g : (dg a).length < (dg b).length
    · simp only [if_pos (show ((dg a).length : Int) < ((dg b).length : Int) by omega)]
      have hlt : a < b := by
        by_cases e : b ≤ a
        · have := dg_len_mono e; omega
        · omega
      exact Ev.cast (Ev.some _) (by unfold cmpZ; rw [if_pos (by omega)])
    · simp only [if_neg (show ¬ ((dg a).length : Int) < ((dg b).length : Int) by omega)]
      have hlt : b < a := by
        by_cases e : a ≤ b
        · have := dg_len_mono e; omega
        · omega
      exact Ev.cast (Ev.some _) (by unfold cmpZ; rw [if_neg (by omega), if_pos (by omega)])
theorem rcmp_loop {a b : List Int} (ha : Lm a) (hb : Lm b) : ∀ n : Nat, n < 1073741824 → Ev (fun k => codewrightref01_Cmp.l0 k a b ((n : Int) - 1)) (cmpZ (lv (a.take n)) (lv (b.take n))) := by
  intro n
  induction n with
  | zero =>
    intro _
    refine Ev.succ ?_
    simp only [codewrightref01_Cmp.l0, if_neg (show ¬ ((0 : Nat) : Int) - 1 ≥ 0 by omega)]
    exact Ev.cast (Ev.some _) (by simp [cmpZ])
  | succ n ih =>
    intro hn
    refine Ev.succ ?_
    rw [cmp_step ha hb n]
    simp only [codewrightref01_Cmp.l0, show ((n + 1 : Nat) : Int) - 1 = (n : Int) from by omega, if_pos (show (n : Int) ≥ 0 by omega), limb_eq ha, limb_eq hb, Option.bind_some, w64 (x := (n : Int) - 1) (by omega) (by omega)]
    by_cases h : rd a (n : Int) < rd b (n : Int)
    · simp only [if_pos h]; exact Ev.some _
    · simp only [if_neg h]
      by_cases g : rd b (n : Int) < rd a (n : Int)
      · simp only [if_pos g, if_pos (show rd a (n : Int) > rd b (n : Int) from g)]; exact Ev.some _
      · simp only [if_neg g, if_neg (show ¬ rd a (n : Int) > rd b (n : Int) from g)]; exact ih (by omega)
theorem rcmp_ev {a b : Nat} (h1 : (dg a).length < 268435456) (h2 : (dg b).length < 268435456) : Ev (fun k => codewrightref01_Cmp.f k (dg a) (dg b)) (cmpZ (a : Int) (b : Int)) := by
  simp only [codewrightref01_Cmp.f]
  have hm : mx ((dg a).length : Int) ((dg b).length : Int) = ((max (dg a).length (dg b).length : Nat) : Int) := by unfold mx; split <;> omega
  rw [hm, w64 (x := ((max (dg a).length (dg b).length : Nat) : Int) - 1) (by clear hm; omega) (by clear hm; omega)]
  have := rcmp_loop (lm_dg a) (lm_dg b) (max (dg a).length (dg b).length) (by clear hm; omega)
  rw [List.take_of_length_le (by clear hm; omega), List.take_of_length_le (by clear hm; omega), lv_dg, lv_dg] at this
  exact this
theorem sub_low {a b c : Int} (ha0 : 0 ≤ a) (ha1 : a < 4294967296) (hb0 : 0 ≤ b) (hb1 : b < 4294967296) (hc0 : 0 ≤ c) (hc1 : c ≤ 1) :
    IntKind.u64.wrap (IntKind.u64.wrap (IntKind.u64.wrap a - c) - IntKind.u64.wrap b) % 4294967296 = (a - c - b) % 4294967296 := by
  simp only [u64m]; omega
theorem sub_high {a b c : Int} (ha0 : 0 ≤ a) (ha1 : a < 4294967296) (hb0 : 0 ≤ b) (hb1 : b < 4294967296) (hc0 : 0 ≤ c) (hc1 : c ≤ 1) :
    IntKind.u64.wrap (IntKind.u64.wrap (IntKind.u64.wrap a - c) - IntKind.u64.wrap b) / 9223372036854775808 = -((a - c - b) / 4294967296) := by
  simp only [u64m]; omega
theorem sub_low0 {a c : Int} (ha0 : 0 ≤ a) (ha1 : a < 4294967296) (hc0 : 0 ≤ c) (hc1 : c ≤ 1) : IntKind.u64.wrap (IntKind.u64.wrap a - c) % 4294967296 = (a - c - 0) % 4294967296 := by
  simp only [u64m]; omega
theorem sub_high0 {a c : Int} (ha0 : 0 ≤ a) (ha1 : a < 4294967296) (hc0 : 0 ≤ c) (hc1 : c ≤ 1) : IntKind.u64.wrap (IntKind.u64.wrap a - c) / 9223372036854775808 = -((a - c - 0) / 4294967296) := by
  simp only [u64m]; omega
theorem sub_bounds {a b c : Int} (ha0 : 0 ≤ a) (ha1 : a < 4294967296) (hb0 : 0 ≤ b) (hb1 : b < 4294967296) (hc0 : 0 ≤ c) (hc1 : c ≤ 1) :
    0 ≤ (a - c - b) % 4294967296 ∧ (a - c - b) % 4294967296 < 4294967296 ∧ 0 ≤ -((a - c - b) / 4294967296) ∧ -((a - c - b) / 4294967296) ≤ 1 ∧ (a - c - b) % 4294967296 = a - c - b + 4294967296 * -((a - c - b) / 4294967296) := by omega
theorem nsub_loop {a b : List Int} (ha : Lm a) (hb : Lm b) (hlen : a.length < 1073741824) (hba : b.length ≤ a.length) (hle : lv b ≤ lv a) : ∀ (d i : Nat) (o : List Int) (c : Int), i + d = a.length → o.length = a.length → Lm o → 0 ≤ c → c ≤ 1 → (∀ j : Nat, i ≤ j → rd o (j : Int) = rd a (j : Int)) →
    Aside0 (lv o = lv a - lv (b.take i) + (bp i : Int) * c) → Ev (fun k => nat_Sub.l0 k b o c (a.length : Int) (i : Int)) (dg (lv a - lv b).toNat, 0) := by
  intro d
  induction d with
  | zero =>
    intro i o c hi ho hol hc0 hc1 hr hv
    have hi : i = a.length := by omega
    subst hi
    refine Ev.succ ?_
    simp only [nat_Sub.l0, if_neg (show ¬ ((a.length : Nat) : Int) < (a.length : Int) by omega)]
    refine Ev.bind (short_ev hol (by omega)) ?_
    refine Ev.cast (Ev.some _) ?_
    have hv := hv.out
    rw [List.take_of_length_le hba] at hv
    have h1 := lv_le_of_len hol (m := a.length) (by omega)
    have h2 := lv_nonneg hol
    have hc : c = 0 := by
      by_cases e : c = 1
      · subst e; rw [Int.mul_one] at hv; omega
      · omega
    subst hc
    rw [hv, Int.mul_zero, Int.add_zero]
  | succ d ih =>
    intro i o c hi ho hol hc0 hc1 hr hv
    have hia : i < a.length := by omega
    have ra := rd_lm ha (i : Int)
    have rb := rd_lm hb (i : Int)
    have hri := hr i (Nat.le_refl _)
    have step : Ev (fun k => nat_Sub.l0 k b (o.set ((i : Int)).toNat ((rd a (i : Int) - c - rd b (i : Int)) % 4294967296)) (-((rd a (i : Int) - c - rd b (i : Int)) / 4294967296)) (a.length : Int) ((i + 1 : Nat) : Int)) (dg (lv a - lv b).toNat, 0) := by
      have sb := sub_bounds ra.1 ra.2 rb.1 rb.2 hc0 hc1
      rw [Int.toNat_natCast]
      refine ih (i + 1) _ _ (by omega) (by rw [List.length_set]; exact ho) (lm_set hol sb.1 sb.2.1) sb.2.2.1 sb.2.2.2.1 (fun j hj => ?_) ⟨?_⟩
      · rw [rd_set_ne _ (by omega)]; exact hr j (by omega)
      · rw [lv_set _ (by omega), lv_take_any, bp_succ, Int.natCast_mul, sb.2.2.2.2, hri, hv.out]
        generalize -((rd a (i : Int) - c - rd b (i : Int)) / 4294967296) = u at *
        generalize (bp i : Int) = p at *
        generalize rd a (i : Int) = x at *
        generalize rd b (i : Int) = y at *
        show lv a - lv (b.take i) + p * c + p * (x - c - y + 4294967296 * u - x) = lv a - (lv (b.take i) + p * y) + 4294967296 * p * u
        grind
    refine Ev.succ ?_
    by_cases hib : i < b.length
    · simp only [nat_Sub.l0, wn (show (i : Int) + 1 = ((i + 1 : Nat) : Int) by omega) (by omega), if_pos (show (i : Int) < (a.length : Int) by omega), if_pos (show (0 : Int) ≤ (i : Int) by omega), if_pos (show (i : Int) < (o.length : Int) by omega), if_pos (show (i : Int) < (b.length : Int) by omega), hri, sub_low ra.1 ra.2 rb.1 rb.2 hc0 hc1, sub_high ra.1 ra.2 rb.1 rb.2 hc0 hc1]
      exact step
    · have hb0 : rd b (i : Int) = 0 := rd_ge (by omega)
      rw [hb0] at step
      simp only [nat_Sub.l0, wn (show (i : Int) + 1 = ((i + 1 : Nat) : Int) by omega) (by omega), if_pos (show (i : Int) < (a.length : Int) by omega), if_pos (show (0 : Int) ≤ (i : Int) by omega), if_pos (show (i : Int) < (o.length : Int) by omega), if_neg (show ¬ (i : Int) < (b.length : Int) by omega), hri, sub_low0 ra.1 ra.2 hc0 hc1, sub_high0 ra.1 ra.2 hc0 hc1]
      exact step
theorem nsub_ev {a b : Nat} (h1 : (dg a).length < 268435456) (hab : b ≤ a) : Ev (fun k => nat_Sub.f k (dg a) (dg b)) (dg (a - b), 0) := by
  have hl := dg_len_mono hab
  simp only [nat_Sub.f]
  refine Ev.bind (ncmp_ev (by omega) (by omega)) ?_
  have hc : ¬ cmpZ (a : Int) (b : Int) < 0 := by unfold cmpZ; rw [if_neg (by omega)]; split <;> omega
  simp only [if_neg hc]
  refine Ev.bind (trim2_ev (by omega)) ?_
  refine Ev.cast (nsub_loop (lm_dg a) (lm_dg b) (by omega) hl (by rw [lv_dg, lv_dg]; omega) (dg a).length 0 _ 0 (by omega) rfl (lm_dg a) (by omega) (by omega) (fun j _ => rfl) ⟨by simp [lv_nil]⟩) ?_
  rw [lv_dg, lv_dg]
  congr 2
  omega
theorem rsub_sum {a b c : Int} (ha0 : 0 ≤ a) (ha1 : a < 4294967296) (hb0 : 0 ≤ b) (hb1 : b < 4294967296) (hc0 : 0 ≤ c) (hc1 : c ≤ 1) :
    IntKind.u64.wrap (IntKind.u64.wrap (IntKind.u64.wrap (a + 4294967296) - b) - c) = a + 4294967296 - b - c := by
  rw [u64w (x := a + 4294967296) (by omega) (by omega), u64w (x := a + 4294967296 - b) (by omega) (by omega), u64w (by omega) (by omega)]
theorem rsub_loop {a b : List Int} (ha : Lm a) (hb : Lm b) (hlen : a.length < 1073741824) (hba : b.length ≤ a.length) (hle : lv b ≤ lv a) : ∀ (d i : Nat) (o : List Int) (c : Int), i + d = a.length → o.length = i → Lm o → 0 ≤ c → c ≤ 1 →
    Aside0 (lv o = lv (a.take i) - lv (b.take i) + (bp i : Int) * c) → Ev (fun k => codewrightref01_Sub.l0 k a b o c (i : Int)) (dg (lv a - lv b).toNat) := by
  intro d
  induction d with
  | zero =>
    intro i o c hi ho hol hc0 hc1 hv
    have hi : i = a.length := by omega
    subst hi
    refine Ev.succ ?_
    simp only [codewrightref01_Sub.l0, if_neg (show ¬ ((a.length : Nat) : Int) < (a.length : Int) by omega)]
    refine Ev.bind (rtrim_ev hol (by omega)) ?_
    refine Ev.cast (Ev.some _) ?_
    have hv := hv.out
    rw [List.take_of_length_le (Nat.le_refl _), List.take_of_length_le hba] at hv
    have h1 := lv_le_of_len hol (m := a.length) (by omega)
    have h2 := lv_nonneg hol
    have hc : c = 0 := by
      by_cases e : c = 1
      · subst e; rw [Int.mul_one] at hv; omega
      · omega
    subst hc
    rw [hv, Int.mul_zero, Int.add_zero]
  | succ d ih =>
    intro i o c hi ho hol hc0 hc1 hv
    have hia : i < a.length := by omega
    have ra := rd_lm ha (i : Int)
    have rb := rd_lm hb (i : Int)
    have hsd : ∃ s, s = rd a (i : Int) + 4294967296 - rd b (i : Int) - c := ⟨_, rfl⟩
    obtain ⟨s, hs⟩ := hsd
    have hs0 : 0 ≤ s := by omega
    have hs1 : s < 8589934592 := by omega
    refine Ev.succ ?_
    simp only [codewrightref01_Sub.l0, limb_eq ha, limb_eq hb, Option.bind_some, if_pos (show (i : Int) < (a.length : Int) by omega), if_pos (show o.length < 35184372088832 by omega), rsub_sum ra.1 ra.2 rb.1 rb.2 hc0 hc1, ← hs, tmod_nn 4294967296 hs0, tdiv_nn 4294967296 hs0, wn (show (i : Int) + 1 = ((i + 1 : Nat) : Int) by omega) (by omega), u64w (x := s / 4294967296) (by omega) (by omega), u64w (x := 1 - s / 4294967296) (by omega) (by omega), show s % 4294967296 % 4294967296 = s % 4294967296 by omega]
    refine ih (i + 1) _ _ (by omega) (by rw [List.length_append]; simp [ho]) (lm_append hol (lm_cons.mpr ⟨by omega, lm_nil⟩)) (by omega) (by omega) ⟨?_⟩
    rw [lv_append, lv_cons, lv_nil, ho, lv_take_any, lv_take_any, bp_succ, Int.natCast_mul, hv.out]
    have hdiv : s % 4294967296 + 4294967296 * (s / 4294967296) = rd a (i : Int) + 4294967296 - rd b (i : Int) - c := by rw [split_div]; exact hs
    clear ih hs hs0 hs1 ra rb hc0 hc1 hv
    generalize s % 4294967296 = y at *
    generalize s / 4294967296 = u at *
    generalize (bp i : Int) = p at *
    generalize rd a (i : Int) = x at *
    generalize rd b (i : Int) = z at *
    generalize lv (a.take i) = la at *
    generalize lv (b.take i) = lb at *
    show la - lb + p * c + p * (y + 4294967296 * 0) = la + p * x - (lb + p * z) + 4294967296 * p * (1 - u)
    have h3 : p * (y + 4294967296 * u) = p * (x + 4294967296 - z - c) := by rw [hdiv]
    grind
theorem rsub_ev {a b : Nat} (h1 : (dg a).length < 268435456) (hab : b ≤ a) : Ev (fun k => codewrightref01_Sub.f k (dg a) (dg b)) (dg (a - b)) := by
  have hl := dg_len_mono hab
  simp only [codewrightref01_Sub.f]
  refine Ev.cast (rsub_loop (lm_dg a) (lm_dg b) (by omega) hl (by rw [lv_dg, lv_dg]; omega) (dg a).length 0 [] 0 (by omega) rfl lm_nil (by omega) (by omega) ⟨by simp [lv_nil]⟩) ?_
  rw [lv_dg, lv_dg]
  congr 1
  omega
end Mw
end
section
set_option linter.unusedVariables false
set_option linter.unusedSimpArgs false
namespace Mw
open Go Go.RowKit Go.Proofs.YtifkbghnmhineaaW.PrintWords Go.Proofs.YtifkbghnmhineaaW.PrintLast Go.Proofs.YtifkbghnmhineaaW.PrintMore Go.Proofs.Ytifkbghnmhineaa.PAll
theorem bitLen_ge : ∀ (b x : Nat), x < 4294967296 → x ≠ 0 → Lib.bitLen x = b + 1 → 2 ^ b ≤ x := by
  intro b
  induction b with
  | zero => intro x _ h0 _; rw [Nat.pow_zero]; omega
  | succ b ih =>
    intro x hx h0 hb
    rw [Lib.bitLen_half x h0 (by omega)] at hb
    have h2 : x / 2 ≠ 0 := by intro e; rw [e, bitLen_zero] at hb; omega
    have := ih (x / 2) (by omega) h2 (by omega)
    rw [Nat.pow_succ]
    omega
theorem bl_bounds {n : Nat} (h : n ≠ 0) : 2 ^ (bl n - 1) ≤ n ∧ n < 2 ^ bl n ∧ 1 ≤ bl n := by
  have hp : (dg n).length ≠ 0 := by rw [Ne, dg_len_zero]; exact h
  obtain ⟨m, hm⟩ : ∃ m, (dg n).length = m + 1 := ⟨(dg n).length - 1, by omega⟩
  have hb : bl n = 32 * m + Lib.bitLen (rd (dg n) (m : Int)).toNat := by unfold bl; rw [if_neg h, hm]; rfl
  have hr := rd_lm (lm_dg n) (m : Int)
  have ht := dg_head hm.symm
  obtain ⟨x, hx⟩ : ∃ x : Nat, rd (dg n) (m : Int) = (x : Int) := ⟨(rd (dg n) (m : Int)).toNat, by omega⟩
  have hv : lv (dg n) = lv ((dg n).take m) + (bp m : Int) * (x : Int) := by
    have := lv_take_succ (l := dg n) (i := m) (by omega)
    rw [← hm, List.take_of_length_le (Nat.le_refl _), hx] at this
    exact this
  have hlow := take_bound (lm_dg n) m
  rw [lv_dg] at hv
  rw [hx] at hr ht hb
  rw [Int.toNat_natCast] at hb
  have hx0 : x ≠ 0 := by omega
  have hx1 : x < 4294967296 := by omega
  obtain ⟨c, hc⟩ : ∃ c, Lib.bitLen x = c + 1 := ⟨Lib.bitLen x - 1, by have := bitLen_pos hx0 hx1; omega⟩
  have h1 := bitLen_ge c x hx1 hx0 hc
  have h2 := bitLen_lt (c + 1) x hx1 (by omega)
  obtain ⟨y, hy⟩ : ∃ y : Nat, lv ((dg n).take m) = (y : Int) := ⟨(lv ((dg n).take m)).toNat, by omega⟩
  rw [hy] at hlow hv
  have hn : n = y + bp m * x := by
    have : ((n : Nat) : Int) = ((y + bp m * x : Nat) : Int) := by rw [hv, Int.natCast_add, Int.natCast_mul]
    omega
  have hy2 : y < bp m := by omega
  rw [hb, hc]
  refine ⟨?_, ?_, by omega⟩
  · rw [show 32 * m + (c + 1) - 1 = 32 * m + c by omega, Nat.pow_add, pow2_bp]
    have := Nat.mul_le_mul_left (bp m) h1
    omega
  · rw [Nat.pow_add, pow2_bp]
    have h3 : bp m * (x + 1) ≤ bp m * 2 ^ (c + 1) := Nat.mul_le_mul_left _ (by omega)
    rw [Nat.mul_add, Nat.mul_one] at h3
    omega
theorem shl_limb {x c : Int} {m : Nat} (hx0 : 0 ≤ x) (hx1 : x < 4294967296) (hm : m < 32) (hc0 : 0 ≤ c) (hc1 : c < 4294967296) :
    IntKind.u64.wrap (shl .u64 (IntKind.u64.wrap x) (m : Int) + c) = x * ((2 ^ m : Nat) : Int) + c ∧ 0 ≤ x * ((2 ^ m : Nat) : Int) + c ∧ x * ((2 ^ m : Nat) : Int) + c < 18446744073709551616 := by
  have hp : 2 ^ m ≤ 2147483648 := Nat.pow_le_pow_right (n := 2) (by decide) (show m ≤ 31 by omega)
  have hb : x * ((2 ^ m : Nat) : Int) ≤ 4294967295 * 2147483648 := Int.mul_le_mul (by omega) (Int.ofNat_le.mpr hp) (Int.natCast_nonneg _) (by decide)
  have h0 : 0 ≤ x * ((2 ^ m : Nat) : Int) := Int.mul_nonneg hx0 (Int.natCast_nonneg _)
  have e : shl .u64 (IntKind.u64.wrap x) (m : Int) = x * ((2 ^ m : Nat) : Int) := by
    unfold shl
    rw [u64w (x := x) hx0 (by omega), Int.toNat_natCast, Nat.min_eq_left (show m ≤ IntKind.u64.bits by simp [IntKind.bits]; omega)]
    rw [show (2 : Int) ^ m = ((2 ^ m : Nat) : Int) by rw [Int.natCast_pow]; rfl]
    exact u64w h0 (by omega)
  rw [e]
  generalize x * ((2 ^ m : Nat) : Int) = y at *
  exact ⟨u64w (by omega) (by omega), by omega, by omega⟩
theorem rshift_loop {a : List Int} {n m z : Nat} (ha : Lm a) (hla : a.length < 268435456) (hz : z < 268435456) (hnm : Int.tmod (n : Int) 32 = (m : Int)) (hm : m < 32) : ∀ (d i : Nat) (o : List Int) (c : Int), i + d = a.length → o.length = z + i → Lm o → 0 ≤ c → c < 4294967296 →
    Aside0 (lv o + (bp (z + i) : Int) * c = (bp z : Int) * (lv (a.take i) * ((2 ^ m : Nat) : Int))) → Ev (fun k => codewrightref01_shift.l0 k a (n : Int) o c (i : Int)) (dg ((bp z : Int) * (lv a * ((2 ^ m : Nat) : Int))).toNat) := by
  intro d
  induction d with
  | zero =>
    intro i o c hi ho hol hc0 hc1 hv
    have hi : i = a.length := by omega
    subst hi
    refine Ev.succ ?_
    simp only [codewrightref01_shift.l0, if_neg (show ¬ ((a.length : Nat) : Int) < (a.length : Int) by omega), if_pos (show o.length < 35184372088832 by omega)]
    have hl : Lm (o ++ [c % 4294967296]) := lm_append hol (lm_cons.mpr ⟨by omega, lm_nil⟩)
    refine Ev.bind (rtrim_ev hl (by rw [List.length_append]; simp; omega)) ?_
    refine Ev.cast (Ev.some _) ?_
    have hv := hv.out
    rw [List.take_of_length_le (Nat.le_refl _)] at hv
    rw [lv_append, lv_cons, lv_nil, ho, show c % 4294967296 = c by omega, Int.mul_zero, Int.add_zero, hv]
  | succ d ih =>
    intro i o c hi ho hol hc0 hc1 hv
    have hia : i < a.length := by omega
    have ra := rd_lm ha (i : Int)
    have sl := shl_limb ra.1 ra.2 hm hc0 hc1
    refine Ev.succ ?_
    simp only [codewrightref01_shift.l0, hnm, sl.1, if_pos (show (i : Int) < (a.length : Int) by omega), if_pos (show (0 : Int) ≤ (i : Int) by omega), if_pos (show (0 : Int) ≤ (m : Int) by omega), if_pos (show o.length < 35184372088832 by omega), wn (show (i : Int) + 1 = ((i + 1 : Nat) : Int) by omega) (by omega), tmod_nn 4294967296 sl.2.1, tdiv_nn 4294967296 sl.2.1]
    have hsd : ∃ s, s = rd a (i : Int) * ((2 ^ m : Nat) : Int) + c := ⟨_, rfl⟩
    obtain ⟨s, hs⟩ := hsd
    have hs0 : 0 ≤ s := by rw [hs]; exact sl.2.1
    have hs1 : s < 18446744073709551616 := by rw [hs]; exact sl.2.2
    clear sl
    rw [← hs]
    have hd := div_bound hs0 hs1
    have hs := Aside0.mk hs
    rw [show s % 4294967296 % 4294967296 = s % 4294967296 by omega]
    rw [u64w (x := s / 4294967296) hd.2.2.1 (by omega)]
    refine ih (i + 1) _ _ (by omega) (by rw [List.length_append]; simp [ho]; omega) (lm_append hol (lm_cons.mpr ⟨⟨hd.1, hd.2.1⟩, lm_nil⟩)) hd.2.2.1 hd.2.2.2 ⟨?_⟩
    have hdiv : s % 4294967296 + 4294967296 * (s / 4294967296) = rd a (i : Int) * ((2 ^ m : Nat) : Int) + c := by rw [split_div]; exact hs.out
    rw [lv_append, lv_cons, lv_nil, ho, lv_take_any, ← Nat.add_assoc, bp_succ, Int.natCast_mul]
    have hv := hv.out
    have hbp : ((bp (z + i) : Nat) : Int) = (bp z : Int) * (bp i : Int) := by rw [bp_add, Int.natCast_mul]
    clear ih hs hs0 hs1 hd ra hc0 hc1 hnm hm
    generalize s % 4294967296 = y at *
    generalize s / 4294967296 = u at *
    generalize (bp (z + i) : Int) = p at *
    generalize (bp z : Int) = pz at *
    generalize (bp i : Int) = pi at *
    generalize rd a (i : Int) = x at *
    generalize ((2 ^ m : Nat) : Int) = P at *
    generalize lv (a.take i) = la at *
    generalize lv o = lo at *
    subst hbp
    show lo + pz * pi * (y + 4294967296 * 0) + 4294967296 * (pz * pi) * u = pz * ((la + pi * x) * P)
    have h3 : pz * pi * (y + 4294967296 * u) = pz * pi * (x * P + c) := by rw [hdiv]
    grind
theorem rshift_ev {a n : Nat} (ha : (dg a).length < 134217728) (hn : n < 4294967296) : Ev (fun k => codewrightref01_shift.f k (dg a) (n : Int)) (dg (a * 2 ^ n)) := by
  have h1 : Int.tdiv (n : Int) 32 = ((n / 32 : Nat) : Int) := by rw [Int.tdiv_eq_ediv_of_nonneg (by omega)]; rfl
  have h2 : Int.tmod (n : Int) 32 = ((n % 32 : Nat) : Int) := by rw [Int.tmod_eq_emod_of_nonneg (by omega)]; rfl
  have h3 : wrap64 ((n / 32 : Nat) : Int) = ((n / 32 : Nat) : Int) := wn rfl (by clear h1 h2; omega)
  simp only [codewrightref01_shift.f, h1, h3, if_pos (show (0 : Int) ≤ ((n / 32 : Nat) : Int) by omega), Int.toNat_natCast, if_pos (show n / 32 ≤ 70368744177664 by clear h1 h2 h3; omega)]
  clear h1 h3
  refine Ev.cast (rshift_loop (z := n / 32) (lm_dg a) (by clear h2; omega) (by clear h2; omega) h2 (by clear h2; omega) (dg a).length 0 _ 0 (by omega) (by simp) (lm_rep _) (by omega) (by omega) ⟨by rw [lv_rep]; simp [lv_nil]⟩) ?_
  clear h2
  rw [lv_dg, ← Int.natCast_mul, ← Int.natCast_mul, Int.toNat_natCast]
  congr 1
  rw [← pow2_bp, Nat.mul_left_comm, ← Nat.pow_add]
  congr 2
  omega
theorem pow2_len (i : Nat) : (dg (2 ^ i)).length ≤ i / 32 + 1 := by
  refine dg_len_le ?_
  rw [← pow2_bp]
  exact Nat.pow_lt_pow_right (by decide) (by omega)
theorem rdivmod_loop {a b : Nat} (hb : b ≠ 0) (hla : (dg a).length < 1048576) (hlb : (dg b).length < 1048576) : ∀ (n : Nat), n < 67108864 → ∀ (quo rem : Nat), quo * b + rem = a → rem < b * 2 ^ n →
    Ev (fun k => codewrightref01_DivMod.l0 k (dg b) (dg quo) (dg rem) ((n : Int) - 1)) (dg (a / b), dg (a % b)) := by
  intro n
  induction n with
  | zero =>
    intro _ quo rem h1 h2
    rw [Nat.pow_zero, Nat.mul_one] at h2
    have hq : a / b = quo := by
      rw [← h1, Nat.mul_comm, Nat.mul_add_div (by omega), Nat.div_eq_of_lt h2, Nat.add_zero]
    have hr : a % b = rem := by
      rw [← h1, Nat.mul_comm, Nat.mul_add_mod, Nat.mod_eq_of_lt h2]
    have hql : (dg quo).length ≤ (dg a).length := dg_len_mono (by
      rw [← hq]; exact Nat.div_le_self _ _)
    refine Ev.succ ?_
    simp only [codewrightref01_DivMod.l0, if_neg (show ¬ ((0 : Nat) : Int) - 1 ≥ 0 by omega)]
    refine Ev.bind (rtrim2_ev (by omega)) ?_
    rw [hq, hr]
    exact Ev.some _
  | succ n ih =>
    intro hn quo rem h1 h2
    have hql : (dg quo).length ≤ (dg a).length := dg_len_mono (by
      have : quo * 1 ≤ quo * b := Nat.mul_le_mul_left _ (by omega)
      omega)
    have hrl : (dg rem).length ≤ (dg a).length := dg_len_mono (by omega)
    have hp := pow2_len n
    have ht := mul_len b (2 ^ n)
    refine Ev.succ ?_
    simp only [codewrightref01_DivMod.l0, show ((n + 1 : Nat) : Int) - 1 = (n : Int) from by omega, if_pos (show (n : Int) ≥ 0 by omega), w64 (x := (n : Int) - 1) (by omega) (by omega)]
    refine Ev.bind (rshift_ev (by omega) (by omega)) ?_
    refine Ev.bind (rcmp_ev (by omega) (by omega)) ?_
    by_cases h : b * 2 ^ n ≤ rem
    · have hc : cmpZ (rem : Int) ((b * 2 ^ n : Nat) : Int) ≥ 0 := by
        unfold cmpZ
        rw [if_neg (by omega)]
        split <;> omega
      simp only [if_pos hc]
      refine Ev.bind (rsub_ev (by omega) h) ?_
      rw [show ([1] : List Int) = dg 1 from dg_one.symm]
      refine Ev.bind (rshift_ev (by rw [dg_one]; simp) (by omega)) ?_
      rw [Nat.one_mul]
      refine Ev.bind (radd2_ev (by omega) (by omega)) ?_
      refine ih (by omega) _ _ ?_ ?_
      · rw [Nat.add_mul, Nat.mul_comm (2 ^ n) b]
        generalize b * 2 ^ n = t at *
        omega
      · rw [Nat.pow_succ, ← Nat.mul_assoc] at h2
        generalize b * 2 ^ n = t at *
        omega
    · have hc : ¬ cmpZ (rem : Int) ((b * 2 ^ n : Nat) : Int) ≥ 0 := by
        unfold cmpZ
        rw [if_pos (by omega)]
        omega
      simp only [if_neg hc]
      exact ih (by omega) quo rem h1 (by omega)
theorem bl_le (n : Nat) : bl n ≤ 32 * (dg n).length := by
  by_cases h : n = 0
  · subst h; rw [bl_zero.mpr rfl]; omega
  · have hb := bl_bounds h
    have h1 := dg_lt_len n
    rw [← pow2_bp] at h1
    have h2 : bl n - 1 < 32 * (dg n).length := by
      refine (Nat.pow_lt_pow_iff_right (a := 2) (by decide)).mp (Nat.lt_of_le_of_lt hb.1 h1)
    omega
theorem rdivmod_ev {a b : Nat} (hb : b ≠ 0) (hla : (dg a).length < 1048576) (hlb : (dg b).length < 1048576) : Ev (fun k => codewrightref01_DivMod.f k (dg a) (dg b)) (dg (a / b), dg (a % b)) := by
  simp only [codewrightref01_DivMod.f]
  refine Ev.bind (rtrim2_ev (by omega)) ?_
  refine Ev.bind (rbits_ev (by omega)) ?_
  refine Ev.bind (rbits_ev (by omega)) ?_
  have ba := bl_le a
  have bb := bl_le b
  have hbb := bl_bounds hb
  rw [show ([] : List Int) = dg 0 from dg_zero.symm]
  by_cases h : bl b ≤ bl a
  · rw [show wrap64 (((bl a : Nat) : Int) - ((bl b : Nat) : Int)) = ((bl a - bl b + 1 : Nat) : Int) - 1 from by rw [w64 (by omega) (by omega)]; omega]
    refine rdivmod_loop hb hla hlb _ (by omega) 0 a (by omega) ?_
    by_cases ha : a = 0
    · subst ha; exact Nat.mul_pos (by omega) (Nat.two_pow_pos _)
    · have hba := bl_bounds ha
      refine Nat.lt_of_lt_of_le hba.2.1 ?_
      rw [show bl a = (bl b - 1) + (bl a - bl b + 1) by omega, Nat.pow_add]
      rw [show (bl b - 1) + (bl a - bl b + 1) - bl b + 1 = bl a - bl b + 1 by omega]
      exact Nat.mul_le_mul_right _ hbb.1
  · rw [show wrap64 (((bl a : Nat) : Int) - ((bl b : Nat) : Int)) = -((bl b - bl a : Nat) : Int) from by rw [w64 (by omega) (by omega)]; omega]
    have hlt : a < b := by
      by_cases ha : a = 0
      · omega
      · have hba := bl_bounds ha
        refine Nat.lt_of_lt_of_le hba.2.1 (Nat.le_trans ?_ hbb.1)
        exact Nat.pow_le_pow_right (by decide) (by omega)
    refine Ev.succ ?_
    simp only [codewrightref01_DivMod.l0, if_neg (show ¬ -((bl b - bl a : Nat) : Int) ≥ 0 by omega)]
    refine Ev.bind (rtrim2_ev (by rw [dg_zero]; simp)) ?_
    rw [Nat.div_eq_of_lt hlt, Nat.mod_eq_of_lt hlt]
    exact Ev.some _
end Mw
end
section
set_option linter.unusedVariables false
set_option linter.unusedSimpArgs false
namespace Mw
open Go Go.RowKit Go.Proofs.YtifkbghnmhineaaW.PrintWords Go.Proofs.YtifkbghnmhineaaW.PrintLast Go.Proofs.YtifkbghnmhineaaW.PrintMore Go.Proofs.Ytifkbghnmhineaa.PAll
theorem rzero_ev {a : Nat} (h : (dg a).length < 268435456) : Ev (fun k => codewrightref01_Zero.f k (dg a)) (decide (a = 0)) := by
  simp only [codewrightref01_Zero.f]
  refine Ev.bind (rtrim2_ev h) ?_
  refine Ev.cast (Ev.some _) ?_
  by_cases h0 : a = 0
  · subst h0; rw [dg_zero]; simp
  · rw [decide_eq_false h0]
    have : (dg a).length ≠ 0 := by rw [Ne, dg_len_zero]; exact h0
    simp only [beq_eq_false_iff_ne]
    omega
theorem rgcd_loop : ∀ (b a : Nat), (dg a).length < 1048576 → (dg b).length < 1048576 → Ev (fun k => codewrightref01_Gcd.l0 k (dg a) (dg b)) (dg (Nat.gcd a b)) := by
  intro b
  induction b using Nat.strongRecOn with
  | _ b ih =>
    intro a h1 h2
    refine Ev.succ ?_
    simp only [codewrightref01_Gcd.l0]
    refine Ev.bind (rzero_ev (by omega)) ?_
    by_cases h0 : b = 0
    · subst h0
      simp only [decide_true, if_true, Nat.gcd_zero_right]
      refine Ev.bind (rtrim2_ev (by omega)) ?_
      exact Ev.some _
    · simp only [decide_eq_false h0, Bool.false_eq_true, if_false]
      refine Ev.bind (rdivmod_ev h0 h1 h2) ?_
      rw [Nat.gcd_comm, Nat.gcd_rec, Nat.gcd_comm]
      have hlt := Nat.mod_lt a (show b > 0 by omega)
      refine ih (a % b) hlt b h2 ?_
      have := dg_len_mono (Nat.le_of_lt hlt)
      omega
theorem rgcd_ev {a b : Nat} (h1 : (dg a).length < 1048576) (h2 : (dg b).length < 1048576) : Ev (fun k => codewrightref01_Gcd.f k (dg a) (dg b)) (dg (Nat.gcd a b)) := by
  simp only [codewrightref01_Gcd.f]
  exact rgcd_loop b a h1 h2
theorem short2_ev {a : Nat} (h1 : (dg a).length < 268435456) : Ev (fun k => nat_short.f k (dg a)) (dg a) := by
  refine Ev.cast (short_ev (lm_dg a) (by omega)) ?_
  rw [lv_dg, Int.toNat_natCast]
theorem ndivmod1_ev {a b : Nat} (hb0 : b ≠ 0) (hb1 : b < 4294967296) (hla : (dg a).length < 268435456) : Ev (fun k => nat_DivMod.f k (dg a) (dg b)) (dg (a / b), dg (a % b), 0) := by
  have hb : dg b = [(b : Int)] := dg_small hb0 hb1
  have hbl : (dg b).length = 1 := by rw [hb]; rfl
  simp only [nat_DivMod.f]
  refine Ev.bind (short2_ev hla) ?_
  refine Ev.bind (short2_ev (by omega)) ?_
  rw [hbl]
  simp only [if_neg (show ¬ ((1 : Nat) : Int) = 0 by omega)]
  refine Ev.bind (ncmp_ev hla (by omega)) ?_
  by_cases h : a < b
  · have hc : cmpZ (a : Int) (b : Int) < 0 := by unfold cmpZ; rw [if_pos (by omega)]; omega
    simp only [if_pos hc]
    refine Ev.bind (trim2_ev hla) ?_
    rw [Nat.div_eq_of_lt h, Nat.mod_eq_of_lt h, dg_zero]
    exact Ev.some _
  · have hc : ¬ cmpZ (a : Int) (b : Int) < 0 := by unfold cmpZ; rw [if_neg (by omega)]; split <;> omega
    simp only [if_neg hc, if_pos (show ((1 : Nat) : Int) = 1 by omega), if_pos (show (0 : Int) < ((1 : Nat) : Int) by omega)]
    have hr : rd (dg b) 0 = (b : Int) := by rw [hb]; rfl
    rw [hr]
    refine Ev.bind (digit_ev (lm_dg a) (by omega) (by omega) (by omega)) ?_
    have hm : lv (dg a) % (b : Int) = ((a % b : Nat) : Int) := by rw [lv_dg, Int.natCast_emod]
    have hd : (lv (dg a) / (b : Int)).toNat = a / b := by rw [lv_dg, ← Int.natCast_ediv, Int.toNat_natCast]
    have hmb : a % b < b := Nat.mod_lt _ (by omega)
    rw [hm, hd]
    clear hm hd hr
    simp only [u64w (x := ((a % b : Nat) : Int)) (by omega) (by omega)]
    refine Ev.bind (of_ev (by omega)) ?_
    exact Ev.some _
theorem ngcd_loop : ∀ (b a : Nat), b < 4294967296 → (dg a).length < 1048576 → Ev (fun k => nat_Gcd.l0 k (dg a) (dg b)) (dg (Nat.gcd a b)) := by
  intro b
  induction b using Nat.strongRecOn with
  | _ b ih =>
    intro a h2 h1
    refine Ev.succ ?_
    by_cases h0 : b = 0
    · subst h0
      rw [dg_zero]
      simp only [nat_Gcd.l0, List.length_nil, if_neg (show ¬ ((0 : Nat) : Int) > 0 by omega), Nat.gcd_zero_right]
      refine Ev.bind (trim2_ev (by omega)) ?_
      exact Ev.some _
    · have hbl : (dg b).length = 1 := by rw [dg_small h0 h2]; rfl
      simp only [nat_Gcd.l0, if_pos (show ((dg b).length : Int) > 0 by omega)]
      refine Ev.bind (ndivmod1_ev h0 h2 (by omega)) ?_
      rw [Nat.gcd_comm, Nat.gcd_rec, Nat.gcd_comm]
      have hlt := Nat.mod_lt a (show b > 0 by omega)
      exact ih (a % b) hlt b (by omega) (by omega)
theorem ngcd_ev {a b : Nat} (h1 : (dg a).length < 1048576) (h2 : b < 4294967296) : Ev (fun k => nat_Gcd.f k (dg a) (dg b)) (dg (Nat.gcd a b)) := by
  simp only [nat_Gcd.f]
  refine Ev.bind (short2_ev (by omega)) ?_
  have hbl : (dg b).length ≤ 1 := dg_len_le (by rw [show (1 : Nat) = 0 + 1 from rfl, bp_succ, bp_zero]; omega)
  refine Ev.bind (short2_ev (by omega)) ?_
  exact ngcd_loop b a h2 h1
def sg (neg : Bool) (n : Nat) : Int := if neg = true then -(n : Int) else (n : Int)
def rz (z : Int) : Bool × List Int × List Int := (decide (z < 0), dg z.natAbs, dg 1)
theorem sg_abs (neg : Bool) (n : Nat) : (sg neg n).natAbs = n := by unfold sg; cases neg <;> simp
theorem sg_neg {neg : Bool} {n : Nat} (h : n ≠ 0) : decide (sg neg n < 0) = neg := by
  unfold sg
  cases neg
  · simp
  · simp; omega
theorem sg_self (z : Int) : sg (decide (z < 0)) z.natAbs = z := by
  unfold sg
  by_cases h : z < 0
  · rw [if_pos (decide_eq_true h)]; omega
  · rw [if_neg (by simpa using h)]; omega
theorem rz_sg {neg : Bool} {n : Nat} (h : n ≠ 0) : rz (sg neg n) = (neg, dg n, dg 1) := by
  unfold rz
  rw [sg_neg h, sg_abs]
theorem rz_zero : rz 0 = (false, [], [1]) := by unfold rz; simp [dg_zero, dg_one]
theorem sg_zero (neg : Bool) : sg neg 0 = 0 := by unfold sg; cases neg <;> simp
theorem one_len : (dg 1).length = 1 := by rw [dg_one]; rfl
theorem rmake_ev {neg : Bool} {n : Nat} (h : (dg n).length < 1048576) : Ev (fun k => codewrightref02_Make.f k neg (dg n) (dg 1)) (rz (sg neg n)) := by
  simp only [codewrightref02_Make.f]
  refine Ev.bind (rzero_ev (by omega)) ?_
  by_cases h0 : n = 0
  · subst h0
    simp only [decide_true, if_true]
    refine Ev.succ ?_
    simp only [codewrightref02_Make.j0, if_true]
    rw [sg_zero, rz_zero]
    exact Ev.some _
  · simp only [decide_eq_false h0, Bool.false_eq_true, if_false]
    have := one_len
    refine Ev.bind (rzero_ev (by omega)) ?_
    refine Ev.succ ?_
    simp only [show decide ((1 : Nat) = 0) = false from rfl, codewrightref02_Make.j0, Bool.false_eq_true, if_false]
    refine Ev.bind (rgcd_ev h (by omega)) ?_
    rw [Nat.gcd_one_right]
    refine Ev.bind (rdivmod_ev (by decide) h (by omega)) ?_
    refine Ev.bind (rdivmod_ev (by decide) (by omega) (by omega)) ?_
    simp only [Nat.div_one]
    rw [rz_sg h0]
    exact Ev.some _
theorem ncanon_ev {neg : Bool} {n : Nat} (h : (dg n).length < 1048576) : Ev (fun k => rational_canonical.f k neg (dg n) (dg 1)) (rz (sg neg n)) := by
  have h1 := one_len
  simp only [rational_canonical.f]
  refine Ev.bind (bits_ev (by omega)) ?_
  by_cases h0 : n = 0
  · subst h0
    simp only [bl_zero.mpr rfl, if_pos (show ((0 : Nat) : Int) = 0 from rfl)]
    refine Ev.succ ?_
    simp only [rational_canonical.j0, if_true, rational_one.f, Option.bind_some]
    rw [sg_zero, rz_zero]
    exact Ev.some _
  · have hb0 : bl n ≠ 0 := fun e => h0 (bl_zero.mp e)
    simp only [if_neg (show ¬ ((bl n : Nat) : Int) = 0 by omega)]
    refine Ev.bind (bits_ev (by omega)) ?_
    rw [bl_one.mpr rfl]
    refine Ev.succ ?_
    simp only [show (((1 : Nat) : Int) == 0) = false from rfl, rational_canonical.j0, Bool.false_eq_true, if_false]
    refine Ev.bind (ngcd_ev h (by decide)) ?_
    rw [Nat.gcd_one_right]
    refine Ev.bind (ndivmod1_ev (by decide) (by decide) (by omega)) ?_
    refine Ev.bind (ndivmod1_ev (by decide) (by decide) (by omega)) ?_
    simp only [Nat.div_one]
    rw [rz_sg h0]
    exact Ev.some _
theorem ntrim_rat_ev {neg : Bool} {n : Nat} (h : (dg n).length < 1048576) : Ev (fun k => rational_Trim.f k neg (dg n) (dg 1)) (rz (sg neg n)) := by
  simp only [rational_Trim.f]
  refine Ev.bind (ncanon_ev h) ?_
  exact Ev.some _
theorem ratio1_ev {neg : Bool} {n : Nat} (h : (dg n).length < 1048576) : Ev (fun k => macwilliams_ratio.f k neg (dg n) (dg 1)) (rz (sg neg n)) := by
  simp only [macwilliams_ratio.f]
  refine Ev.bind (ntrim_rat_ev h) ?_
  exact Ev.some _
def Few (z : Int) : Prop := (dg z.natAbs).length < 262144
theorem rtrimq_ev {z : Int} (h : Few z) : Ev (fun k => codewrightref02_Trim.f k (rz z).1 (rz z).2.1 (rz z).2.2) (rz z) := by
  have h : (dg z.natAbs).length < 262144 := h
  simp only [codewrightref02_Trim.f]
  refine Ev.bind (rmake_ev (neg := decide (z < 0)) (n := z.natAbs) (by omega)) ?_
  rw [sg_self]
  exact Ev.some _
theorem raddq_ev {x y : Int} (hx : Few x) (hy : Few y) : Ev (fun k => codewrightref02_Add.f k (rz x).1 (rz x).2.1 (rz x).2.2 (rz y).1 (rz y).2.1 (rz y).2.2) (rz (x + y)) := by
  simp only [codewrightref02_Add.f]
  refine Ev.bind (rtrimq_ev hx) ?_
  refine Ev.bind (rtrimq_ev hy) ?_
  have hx : (dg x.natAbs).length < 262144 := hx
  have hy : (dg y.natAbs).length < 262144 := hy
  have h1 := one_len
  simp only [rz]
  refine Ev.bind (rmul2_ev (by omega) (by omega)) ?_
  refine Ev.bind (rmul2_ev (by omega) (by omega)) ?_
  refine Ev.bind (rmul2_ev (by omega) (by omega)) ?_
  simp only [Nat.mul_one]
  by_cases hs : (decide (x < 0) == decide (y < 0)) = true
  · simp only [hs, if_true]
    refine Ev.bind (radd2_ev (by omega) (by omega)) ?_
    have hl : (dg (x.natAbs + y.natAbs)).length < 1048576 := by
      have hb1 := dg_lt_len x.natAbs
      have hb2 := dg_lt_len y.natAbs
      have hb3 := bp_mono (show (dg x.natAbs).length ≤ 262144 by omega)
      have hb4 := bp_mono (show (dg y.natAbs).length ≤ 262144 by omega)
      have : (dg (x.natAbs + y.natAbs)).length ≤ 262144 + 1 := dg_len_le (by rw [bp_succ]; generalize bp 262144 = p at *; omega)
      omega
    refine Ev.bind (rmake_ev hl) ?_
    refine Ev.cast (Ev.some _) ?_
    have e : sg (decide (x < 0)) (x.natAbs + y.natAbs) = x + y := by
      unfold sg
      by_cases g : x < 0
      · have g2 : y < 0 := by simpa [g] using hs
        simp [g]; omega
      · have g2 : ¬ y < 0 := by simpa [g] using hs
        simp [g]; omega
    rw [e]
    rfl
  · simp only [hs, Bool.false_eq_true, if_false]
    refine Ev.bind (rcmp_ev (by omega) (by omega)) ?_
    by_cases hle : y.natAbs ≤ x.natAbs
    · have hc : cmpZ ((x.natAbs : Nat) : Int) ((y.natAbs : Nat) : Int) ≥ 0 := by
        unfold cmpZ
        rw [if_neg (by omega)]
        split <;> omega
      simp only [if_pos hc]
      refine Ev.bind (rsub_ev (by omega) hle) ?_
      have hl := dg_len_mono (show x.natAbs - y.natAbs ≤ x.natAbs by omega)
      refine Ev.bind (rmake_ev (by omega)) ?_
      refine Ev.cast (Ev.some _) ?_
      have e : sg (decide (x < 0)) (x.natAbs - y.natAbs) = x + y := by
        unfold sg
        by_cases g : x < 0
        · have g2 : ¬ y < 0 := by simpa [g] using hs
          simp [g]; omega
        · have g2 : y < 0 := by simpa [g] using hs
          simp [g]; omega
      rw [e]
      rfl
    · have hc : ¬ cmpZ ((x.natAbs : Nat) : Int) ((y.natAbs : Nat) : Int) ≥ 0 := by
        unfold cmpZ
        rw [if_pos (by omega)]
        omega
      simp only [if_neg hc]
      refine Ev.bind (rsub_ev (by omega) (by omega)) ?_
      have hl := dg_len_mono (show y.natAbs - x.natAbs ≤ y.natAbs by omega)
      refine Ev.bind (rmake_ev (by omega)) ?_
      refine Ev.cast (Ev.some _) ?_
      have e : sg (decide (y < 0)) (y.natAbs - x.natAbs) = x + y := by
        unfold sg
        by_cases g : y < 0
        · have g2 : ¬ x < 0 := by intro g3; apply hs; simp [g, g3]
          simp [g]; omega
        · have g2 : x < 0 := by
            by_cases g3 : x < 0
            · exact g3
            · exact absurd (by simp [g, g3]) hs
          simp [g]; omega
      rw [e]
      rfl
theorem rmulq_ev {x y : Int} (hx : Few x) (hy : Few y) : Ev (fun k => codewrightref02_Mul.f k (rz x).1 (rz x).2.1 (rz x).2.2 (rz y).1 (rz y).2.1 (rz y).2.2) (rz (x * y)) := by
  simp only [codewrightref02_Mul.f]
  refine Ev.bind (rtrimq_ev hx) ?_
  refine Ev.bind (rtrimq_ev hy) ?_
  have hx : (dg x.natAbs).length < 262144 := hx
  have hy : (dg y.natAbs).length < 262144 := hy
  have h1 := one_len
  have hm := mul_len x.natAbs y.natAbs
  simp only [rz]
  refine Ev.bind (rmul2_ev (by omega) (by omega)) ?_
  refine Ev.bind (rmul2_ev (by omega) (by omega)) ?_
  rw [Nat.mul_one]
  refine Ev.bind (rmake_ev (by omega)) ?_
  refine Ev.cast (Ev.some _) ?_
  have e : sg (decide (x < 0) != decide (y < 0)) (x.natAbs * y.natAbs) = x * y := by
    have hx2 := sg_self x
    have hy2 := sg_self y
    conv => rhs; rw [← hx2, ← hy2]
    unfold sg
    by_cases g1 : x < 0 <;> by_cases g2 : y < 0 <;> simp [g1, g2, Int.neg_mul, Int.mul_neg]
  rw [e]
  rfl
theorem rsameq_ev {x y : Int} (hx : Few x) (hy : Few y) : Ev (fun k => codewrightref02_Same.f k (rz x).1 (rz x).2.1 (rz x).2.2 (rz y).1 (rz y).2.1 (rz y).2.2) (decide (x = y)) := by
  have hx : (dg x.natAbs).length < 262144 := hx
  have h1 := one_len
  simp only [codewrightref02_Same.f, rz]
  by_cases hs : (decide (x < 0) == decide (y < 0)) = true
  · simp only [hs, if_true]
    refine Ev.bind (same_ev _ _ (by omega)) ?_
    by_cases he : dg x.natAbs = dg y.natAbs
    · simp only [decide_eq_true he, if_true]
      refine Ev.bind (same_ev _ _ (by omega)) ?_
      have e : x = y := by
        have h2 := dg_inj he
        have h3 : decide (x < 0) = decide (y < 0) := by simpa using hs
        rw [← sg_self x, ← sg_self y, h3, h2]
      rw [decide_eq_true e]
      exact Ev.cast (Ev.some _) (by simp)
    · simp only [decide_eq_false he, Bool.false_eq_true, if_false]
      exact Ev.cast (Ev.some _) (decide_eq_false (fun e => he (by rw [e]))).symm
  · simp only [hs, Bool.false_eq_true, if_false]
    exact Ev.cast (Ev.some _) (decide_eq_false (fun e => hs (by rw [e]; simp))).symm
theorem risq_ev {x : Int} (hx : Few x) : Ev (fun k => codewrightref02_Is.f k (rz x).1 (rz x).2.1 (rz x).2.2) true := by
  simp only [codewrightref02_Is.f]
  refine Ev.bind (rtrimq_ev hx) ?_
  refine Ev.bind (rsameq_ev hx hx) ?_
  exact Ev.cast (Ev.some _) (by simp)
theorem rabs_ev {z : Int} (h0 : -4611686018427387904 ≤ z) (h1 : z ≤ 4611686018427387904) : Ev (fun k => codewrightref02_abs.f k z) (dg z.natAbs) := by
  simp only [codewrightref02_abs.f]
  by_cases h : z < 0
  · simp only [if_pos h]
    have e : IntKind.u64.wrap (wrap64 (-(wrap64 (z + 1)))) = ((z.natAbs - 1 : Nat) : Int) := by
      rw [w64 (x := z + 1) (by omega) (by omega), w64 (x := -(z + 1)) (by omega) (by omega), u64w (by omega) (by omega)]
      omega
    rw [e]
    clear e
    refine Ev.bind (rof_ev (by omega)) ?_
    rw [show ([1] : List Int) = dg 1 from dg_one.symm]
    have hl : (dg (z.natAbs - 1)).length ≤ 3 := dg_len_le (by
      simp only [bp_succ, bp_zero]; omega)
    have := one_len
    refine Ev.bind (radd2_ev (by omega) (by omega)) ?_
    exact Ev.cast (Ev.some _) (by congr 1; omega)
  · simp only [if_neg h]
    have e : IntKind.u64.wrap z = ((z.natAbs : Nat) : Int) := by rw [u64w (by omega) (by omega)]; omega
    rw [e]
    clear e
    refine Ev.bind (rof_ev (by omega)) ?_
    exact Ev.some _
theorem rintq_ev {z : Int} (h0 : -4611686018427387904 ≤ z) (h1 : z ≤ 4611686018427387904) : Ev (fun k => codewrightref02_Int.f k z) (rz z) := by
  simp only [codewrightref02_Int.f, codewrightref02_Of.f]
  refine Ev.bind (Ev.bind (rabs_ev h0 h1) (Ev.bind (rabs_ev (z := 1) (by omega) (by omega)) (Ev.bind (rmake_ev (neg := (decide (z < 0) != decide ((1 : Int) < 0))) (n := z.natAbs) ?_) (Ev.some _)))) ?_
  · have hl : (dg z.natAbs).length ≤ 3 := dg_len_le (by simp only [bp_succ, bp_zero]; omega)
    omega
  · refine Ev.cast (Ev.some _) ?_
    have e : (decide (z < 0) != decide ((1 : Int) < 0)) = decide (z < 0) := by simp
    rw [e, sg_self]
end Mw
end
section
set_option linter.unusedVariables false
set_option linter.unusedSimpArgs false
namespace Mw
open Go Go.RowKit Go.Proofs.YtifkbghnmhineaaW.PrintWords Go.Proofs.YtifkbghnmhineaaW.PrintLast Go.Proofs.YtifkbghnmhineaaW.PrintMore Go.Proofs.Ytifkbghnmhineaa.PAll
theorem sg_len {b : Bool} {n : Nat} {z : Int} (h : sg b n = z) : n = z.natAbs := by rw [← h, sg_abs]
theorem nplus_ev {b1 b2 : Bool} {n1 n2 : Nat} (h1 : (dg n1).length < 134217728) (h2 : (dg n2).length < 134217728) :
    ∃ b n, Ev (fun k => macwilliams_plus.f k b1 (dg n1) b2 (dg n2)) (b, dg n) ∧ sg b n = sg b1 n1 + sg b2 n2 := by
  by_cases hs : (b1 == b2) = true
  · refine ⟨b1, n1 + n2, ?_, ?_⟩
    · simp only [macwilliams_plus.f, hs, if_true]
      refine Ev.bind (add2_ev (by omega) (by omega)) ?_
      exact Ev.some _
    · have e : b1 = b2 := by simpa using hs
      subst e
      unfold sg
      cases b1 <;> simp <;> omega
  · have hne : b1 ≠ b2 := by intro e; exact hs (by simp [e])
    by_cases hlt : n1 < n2
    · refine ⟨b2, n2 - n1, ?_, ?_⟩
      · have hc : cmpZ (n1 : Int) (n2 : Int) < 0 := by unfold cmpZ; rw [if_pos (by omega)]; omega
        simp only [macwilliams_plus.f, hs, Bool.false_eq_true, if_false]
        refine Ev.bind (ncmp_ev (by omega) (by omega)) ?_
        simp only [if_pos hc]
        refine Ev.bind (nsub_ev (by omega) (by omega)) ?_
        exact Ev.some _
      · unfold sg
        cases b1 <;> cases b2 <;> simp at hne ⊢ <;> omega
    · refine ⟨b1, n1 - n2, ?_, ?_⟩
      · have hc : ¬ cmpZ (n1 : Int) (n2 : Int) < 0 := by unfold cmpZ; rw [if_neg (by omega)]; split <;> omega
        simp only [macwilliams_plus.f, hs, Bool.false_eq_true, if_false]
        refine Ev.bind (ncmp_ev (by omega) (by omega)) ?_
        simp only [if_neg hc]
        refine Ev.bind (nsub_ev (by omega) (by omega)) ?_
        exact Ev.some _
      · unfold sg
        cases b1 <;> cases b2 <;> simp at hne ⊢ <;> omega
theorem sg_not (b : Bool) (n : Nat) : sg (!b) n = - sg b n := by unfold sg; cases b <;> simp
theorem nminus_ev {b1 b2 : Bool} {n1 n2 : Nat} (h1 : (dg n1).length < 134217728) (h2 : (dg n2).length < 134217728) :
    ∃ b n, Ev (fun k => macwilliams_minus.f k b1 (dg n1) b2 (dg n2)) (b, dg n) ∧ sg b n = sg b1 n1 - sg b2 n2 := by
  obtain ⟨b, n, h, e⟩ := nplus_ev (b1 := b1) (b2 := !b2) h1 h2
  refine ⟨b, n, ?_, ?_⟩
  · simp only [macwilliams_minus.f]
    refine Ev.bind h ?_
    exact Ev.some _
  · rw [e, sg_not]; omega
theorem ntimes_ev {b1 b2 : Bool} {n1 n2 : Nat} (h1 : (dg n1).length < 134217728) (h2 : (dg n2).length < 134217728) :
    ∃ b n, Ev (fun k => macwilliams_times.f k b1 (dg n1) b2 (dg n2)) (b, dg n) ∧ sg b n = sg b1 n1 * sg b2 n2 := by
  refine ⟨b1 != b2, n1 * n2, ?_, ?_⟩
  · simp only [macwilliams_times.f]
    refine Ev.bind (mul2_ev h1 h2) ?_
    exact Ev.some _
  · unfold sg
    cases b1 <;> cases b2 <;> simp [Int.neg_mul, Int.mul_neg]
theorem sm_abs {M : Nat} {f : Nat → Int} : ∀ n : Nat, (∀ i, i < n → (f i).natAbs ≤ M) → (sm n f).natAbs ≤ n * M := by
  intro n
  induction n with
  | zero => intro _; simp [sm]
  | succ n ih =>
    intro h
    have h1 := ih (fun i hi => h i (by omega))
    have h2 := h n (by omega)
    rw [sm, Nat.succ_mul]
    have := Int.natAbs_add_le (sm n f) (f n)
    omega
theorem kr_len {g a b k : Nat} (hg : g < 4294967296) (ha : a ≤ 64) (hb : b ≤ 64) (hk : k ≤ 64) : (dg (kr (g : Int) a b k).natAbs).length ≤ 324 := by
  rw [kr_formula]
  have hgl : (dg g).length ≤ 1 := dg_len_le (by rw [show (1 : Nat) = 0 + 1 from rfl, bp_succ, bp_zero]; omega)
  have hterm : ∀ j, j < k + 1 → ((-1 : Int) ^ j * ((g : Int) ^ (k - j) * ((bin b j : Int) * (bin a (k - j) : Int)))).natAbs ≤ bp 323 := by
    intro j hj
    have h1 : (dg (g ^ (k - j))).length ≤ 65 := by have := pow_len g (k - j) 1 hgl; omega
    have h2 := bin_len (n := b) (by omega) j
    have h3 := bin_len (n := a) (by omega) (k - j)
    have e : ((-1 : Int) ^ j * ((g : Int) ^ (k - j) * ((bin b j : Int) * (bin a (k - j) : Int)))).natAbs = g ^ (k - j) * (bin b j * bin a (k - j)) := by
      rw [Int.natAbs_mul, Int.natAbs_pow, Int.natAbs_mul, Int.natAbs_pow, Int.natAbs_mul]
      simp
    rw [e]
    have h4 := mul_len (bin b j) (bin a (k - j))
    have h5 := mul_len (g ^ (k - j)) (bin b j * bin a (k - j))
    exact Nat.le_of_lt (Nat.lt_of_lt_of_le (dg_lt_len _) (bp_mono (by omega)))
  have h := sm_abs (k + 1) hterm
  unfold krF
  refine dg_len_le ?_
  refine Nat.lt_of_le_of_lt h ?_
  rw [show 324 = 323 + 1 from rfl, bp_succ 323]
  have hp := bp_pos 323
  have : (k + 1) * bp 323 ≤ 65 * bp 323 := Nat.mul_le_mul_right _ (by omega)
  generalize bp 323 = p at *
  omega
def Num (e : S113) (z : Int) : Prop := ∃ b n, e = ⟨b, dg n⟩ ∧ sg b n = z
structure PRow (g n x m : Nat) (row : List S113) : Prop where
  len : row.length = m
  at' : ∀ k, k < m → Num (rd_T113 row (k : Int)) (kr (g : Int) (n - x) x k)
theorem rdT_app_lt {l m : List S113} {k : Nat} (h : k < l.length) : rd_T113 (l ++ m) (k : Int) = rd_T113 l (k : Int) := by
  unfold rd_T113
  simp [List.getD_eq_getElem?_getD, List.getElem?_append_left h]
theorem rdT_app_eq {l : List S113} {e : S113} {k : Nat} (h : k = l.length) : rd_T113 (l ++ [e]) (k : Int) = e := by
  subst h
  unfold rd_T113
  simp [List.getD_eq_getElem?_getD]
theorem rdL_app_lt {l m : List (List S113)} {k : Nat} (h : k < l.length) : rd_L6 (l ++ m) (k : Int) = rd_L6 l (k : Int) := by
  unfold rd_L6
  simp [List.getD_eq_getElem?_getD, List.getElem?_append_left h]
theorem rdL_app_eq {l : List (List S113)} {e : List S113} {k : Nat} (h : k = l.length) : rd_L6 (l ++ [e]) (k : Int) = e := by
  subst h
  unfold rd_L6
  simp [List.getD_eq_getElem?_getD]
theorem rdT_set_eq {l : List S113} {e : S113} {i : Nat} (h : i < l.length) : rd_T113 (l.set i e) (i : Int) = e := by
  unfold rd_T113
  simp [List.getD_eq_getElem?_getD, h]
theorem rdT_set_ne {l : List S113} {e : S113} {i j : Nat} (h : i ≠ j) : rd_T113 (l.set i e) (j : Int) = rd_T113 l (j : Int) := by
  unfold rd_T113
  simp [List.getD_eq_getElem?_getD, h]
theorem row_loop {g n x : Nat} (hg : g < 256) (hn : n ≤ 64) (hx : x < n) {rows : List (List S113)} {old : List S113} {T : List (List S113) → Prop} (hrl : rows.length ≤ 65) (hold : PRow g n x (n + 1) old)
    (next : ∀ row, PRow g n (x + 1) (n + 1) row → ∃ t, Ev (fun k => macwilliams_table.l1 k (n : Int) (rows ++ [row]) (n : Int) ((x + 1 : Nat) : Int) false (dg g)) t ∧ T t) :
    ∀ (d k : Nat) (row : List S113), k + 1 + d = n + 1 → PRow g n (x + 1) (k + 1) row →
      ∃ t, Ev (fun kk => macwilliams_table.l2 kk (n : Int) rows old row ((k + 1 : Nat) : Int) (n : Int) (x : Int) false (dg g)) t ∧ T t := by
  intro d
  induction d with
  | zero =>
    intro k row hk hrow
    have hk : k = n := by omega
    subst hk
    obtain ⟨t, ht, hT⟩ := next row hrow
    refine ⟨t, Ev.succ ?_, hT⟩
    simp only [macwilliams_table.l2, if_neg (show ¬ ((k + 1 : Nat) : Int) ≤ (k : Int) by omega), if_pos (show rows.length < 5864062014805 by omega), wn (show (x : Int) + 1 = ((x + 1 : Nat) : Int) by omega) (by omega)]
    exact ht
  | succ d ih =>
    intro k row hk hrow
    have hol := hold.len
    have hrl2 := hrow.len
    obtain ⟨b1, n1, e1, s1⟩ := hold.at' (k + 1) (by omega)
    obtain ⟨b2, n2, e2, s2⟩ := hold.at' k (by omega)
    obtain ⟨b3, n3, e3, s3⟩ := hrow.at' k (by omega)
    have l1 : (dg n1).length ≤ 324 := by rw [sg_len s1]; exact kr_len (by omega) (by omega) (by omega) (by omega)
    have l2 : (dg n2).length ≤ 324 := by rw [sg_len s2]; exact kr_len (by omega) (by omega) (by omega) (by omega)
    have l3 : (dg n3).length ≤ 324 := by rw [sg_len s3]; exact kr_len (by omega) (by omega) (by omega) (by omega)
    have lg : (dg g).length ≤ 1 := dg_len_le (by rw [show (1 : Nat) = 0 + 1 from rfl, bp_succ, bp_zero]; omega)
    obtain ⟨b4, n4, v4, s4⟩ := nminus_ev (b1 := b1) (b2 := b2) (n1 := n1) (n2 := n2) (by omega) (by omega)
    have l4 : (dg n4).length ≤ 326 := by
      refine dg_len_le ?_
      rw [sg_len s4]
      have t := Int.natAbs_sub_le (sg b1 n1) (sg b2 n2)
      rw [sg_abs, sg_abs] at t
      have q1 := Nat.lt_of_lt_of_le (dg_lt_len n1) (bp_mono l1)
      have q2 := Nat.lt_of_lt_of_le (dg_lt_len n2) (bp_mono l2)
      rw [show 326 = 324 + 1 + 1 from rfl, bp_succ, bp_succ]
      generalize bp 324 = p at *
      omega
    obtain ⟨b5, n5, v5, s5⟩ := ntimes_ev (b1 := false) (b2 := b3) (n1 := g) (n2 := n3) (by omega) (by omega)
    have l5 : (dg n5).length ≤ 326 := by
      have t : n5 = g * n3 := by rw [sg_len s5, Int.natAbs_mul, sg_abs, sg_abs]
      have := mul_len g n3
      rw [t]
      omega
    obtain ⟨b6, n6, v6, s6⟩ := nminus_ev (b1 := b4) (b2 := b5) (n1 := n4) (n2 := n5) (by omega) (by omega)
    have hval : sg b6 n6 = kr (g : Int) (n - (x + 1)) (x + 1) (k + 1) := by
      rw [s6, s4, s5, s1, s2, s3]
      have hr := kr_row (g : Int) (n - (x + 1)) x k
      rw [show n - (x + 1) + 1 = n - x by omega] at hr
      rw [hr]
      rfl
    have hnew : PRow g n (x + 1) (k + 1 + 1) (row ++ [⟨b6, dg n6⟩]) := by
      refine ⟨by rw [List.length_append, hrl2]; rfl, fun j hj => ?_⟩
      by_cases hjk : j < k + 1
      · rw [rdT_app_lt (by omega)]; exact hrow.at' j hjk
      · have hj2 : j = k + 1 := by omega
        subst hj2
        rw [rdT_app_eq hrl2.symm]
        exact ⟨b6, n6, rfl, hval⟩
    obtain ⟨t, ht, hT⟩ := ih (k + 1) _ (by omega) hnew
    refine ⟨t, Ev.succ ?_, hT⟩
    simp only [macwilliams_table.l2, wn (show ((k + 1 : Nat) : Int) - 1 = (k : Int) by omega) (by omega), wn (show ((k + 1 : Nat) : Int) + 1 = ((k + 1 + 1 : Nat) : Int) by omega) (by omega), if_pos (show ((k + 1 : Nat) : Int) ≤ (n : Int) by omega), if_pos (show (0 : Int) ≤ ((k + 1 : Nat) : Int) by omega), if_pos (show ((k + 1 : Nat) : Int) < (old.length : Int) by omega), if_pos (show (0 : Int) ≤ (k : Int) by omega), if_pos (show (k : Int) < (old.length : Int) by omega), if_pos (show (k : Int) < (row.length : Int) by omega), if_pos (show row.length < 4398046511104 by omega), e1, e2, e3]
    refine Ev.bind v4 ?_
    refine Ev.bind v5 ?_
    refine Ev.bind v6 ?_
    exact ht
structure Tab (g n m : Nat) (t : List (List S113)) : Prop where
  len : t.length = m
  at' : ∀ x, x < m → PRow g n x (n + 1) (rd_L6 t (x : Int))
theorem rows_loop {g n : Nat} (hg : g < 256) (hn : n ≤ 64) : ∀ (d x : Nat) (rows : List (List S113)), x + d = n → Tab g n (x + 1) rows →
    ∃ t, Ev (fun k => macwilliams_table.l1 k (n : Int) rows (n : Int) (x : Int) false (dg g)) t ∧ Tab g n (n + 1) t := by
  intro d
  induction d with
  | zero =>
    intro x rows hx ht
    have hx : x = n := by omega
    subst hx
    refine ⟨rows, Ev.succ ?_, ht⟩
    simp only [macwilliams_table.l1, if_neg (show ¬ (x : Int) < (x : Int) by omega)]
    exact Ev.some _
  | succ d ih =>
    intro x rows hx ht
    have hl := ht.len
    have hold := ht.at' x (by omega)
    obtain ⟨b0, n0, e0, s0⟩ := hold.at' 0 (by omega)
    have hol := hold.len
    have hfirst : PRow g n (x + 1) (0 + 1) [⟨b0, dg n0⟩] := by
      refine ⟨rfl, fun k hk => ?_⟩
      have hk : k = 0 := by omega
      subst hk
      refine ⟨b0, n0, rfl, ?_⟩
      rw [s0, kr_zero, kr_zero]
    obtain ⟨t, hev, hT⟩ := row_loop hg hn (show x < n by omega) (rows := rows) (T := Tab g n (n + 1)) (by omega) hold (fun row hrow => ih (x + 1) (rows ++ [row]) (by omega) ⟨by rw [List.length_append, hl]; rfl, fun y hy => by
      by_cases hyx : y < x + 1
      · rw [rdL_app_lt (by omega)]; exact ht.at' y hyx
      · have : y = x + 1 := by omega
        subst this
        rw [rdL_app_eq hl.symm]; exact hrow⟩) n 0 _ (by omega) hfirst
    refine ⟨t, Ev.succ ?_, hT⟩
    have e0' : rd_T113 (rd_L6 rows (x : Int)) 0 = ⟨b0, dg n0⟩ := e0
    simp only [macwilliams_table.l1, if_pos (show (x : Int) < (n : Int) by omega), wn (show (rows.length : Int) - 1 = (x : Int) by omega) (by omega), if_pos (show (0 : Int) ≤ (x : Int) by omega), if_pos (show (x : Int) < (rows.length : Int) by omega), if_pos (show (0 : Int) < ((rd_L6 rows (x : Int)).length : Int) by omega), e0']
    exact hev
theorem first_loop {q n : Nat} (hq : 2 ≤ q) (hq2 : q ≤ 256) (hn : n ≤ 64) : ∀ (d i : Nat) (row : List S113), i + d = n + 1 → row.length = n + 1 → (∀ k, k < i → Num (rd_T113 row (k : Int)) (kr ((q - 1 : Nat) : Int) n 0 k)) →
    ∃ t, Ev (fun k => macwilliams_table.l0 k (q : Int) (n : Int) row ((n + 1 : Nat) : Int) (i : Int)) t ∧ Tab (q - 1) n (n + 1) t := by
  intro d
  have hw : wrap64 ((q : Int) - 1) = ((q - 1 : Nat) : Int) := wn (by omega) (by omega)
  have hu : IntKind.u64.wrap ((q - 1 : Nat) : Int) = ((q - 1 : Nat) : Int) := u64w (by clear hw; omega) (by clear hw; omega)
  have hw := Aside0.mk hw
  have hu := Aside0.mk hu
  induction d with
  | zero =>
    intro i row hi hrl hrow
    have hi : i = n + 1 := by omega
    subst hi
    obtain ⟨t, ht, hT⟩ := rows_loop (g := q - 1) (n := n) (by omega) hn n 0 [row] (by omega) ⟨rfl, fun x hx => by
      have : x = 0 := by omega
      subst this
      exact ⟨hrl, fun k hk => hrow k hk⟩⟩
    refine ⟨t, Ev.succ ?_, hT⟩
    simp only [macwilliams_table.l0, if_neg (show ¬ ((n + 1 : Nat) : Int) < ((n + 1 : Nat) : Int) by omega), macwilliams_small.f, hw.out, hu.out]
    refine Ev.bind (Ev.bind (of_ev (by omega)) (Ev.some _)) ?_
    exact ht
  | succ d ih =>
    intro i row hi hrl hrow
    have hlb := bin_len (n := n) (by omega) i
    have hgl : (dg (q - 1)).length ≤ 1 := dg_len_le (by rw [show (1 : Nat) = 0 + 1 from rfl, bp_succ, bp_zero]; omega)
    have hlp := pow_len (q - 1) i 1 hgl
    obtain ⟨t, ht, hT⟩ := ih (i + 1) (row.set i ⟨false, dg (bin n i * (q - 1) ^ i)⟩) (by omega) (by rw [List.length_set]; exact hrl) (fun k hk => by
      by_cases e : k = i
      · subst e
        rw [rdT_set_eq (by omega)]
        refine ⟨false, _, rfl, ?_⟩
        rw [kr_first]
        unfold sg
        simp [Int.natCast_mul, Int.natCast_pow]
      · rw [rdT_set_ne (by omega)]; exact hrow k (by omega))
    refine ⟨t, Ev.succ ?_, hT⟩
    simp only [macwilliams_table.l0, if_pos (show (i : Int) < ((n + 1 : Nat) : Int) by omega), hw.out, hu.out, if_pos (show (0 : Int) ≤ (i : Int) by omega), if_pos (show (i : Int) < (row.length : Int) by omega), wn (show (i : Int) + 1 = ((i + 1 : Nat) : Int) by omega) (by omega), Int.toNat_natCast]
    refine Ev.bind (binomial_ev (by omega) (by omega)) ?_
    refine Ev.bind (of_ev (by omega)) ?_
    refine Ev.bind (pow_ev (by omega) (by omega)) ?_
    refine Ev.bind (mul2_ev (by omega) (by omega)) ?_
    exact ht
theorem table_ev {q n : Nat} (hq : 2 ≤ q) (hq2 : q ≤ 256) (hn : n ≤ 64) : ∃ t, Ev (fun k => macwilliams_table.f k (q : Int) (n : Int)) t ∧ Tab (q - 1) n (n + 1) t := by
  obtain ⟨t, ht, hT⟩ := first_loop hq hq2 hn (n + 1) 0 (List.replicate (n + 1) z113) (by omega) (by simp) (fun k hk => by omega)
  refine ⟨t, ?_, hT⟩
  simp only [macwilliams_table.f, wn (show (n : Int) + 1 = ((n + 1 : Nat) : Int) by omega) (by omega), Int.toNat_natCast, if_pos (show (0 : Int) ≤ ((n + 1 : Nat) : Int) by omega), if_pos (show n + 1 ≤ 8796093022208 by omega), Option.bind_some, List.length_replicate]
  exact ht
end Mw
end
section
set_option linter.unusedVariables false
set_option linter.unusedSimpArgs false
namespace Mw
open Go Go.RowKit Go.Proofs.YtifkbghnmhineaaW.PrintWords Go.Proofs.YtifkbghnmhineaaW.PrintLast Go.Proofs.YtifkbghnmhineaaW.PrintMore Go.Proofs.Ytifkbghnmhineaa.PAll
theorem kraw_ok {q n j x : Nat} (hq : 2 ≤ q) (hq2 : q ≤ 256) (hn : n ≤ 64) (hj : j ≤ n) (hx : x ≤ n) :
    Ev (fun k => macwilliams_Krawtchouk.f k (q : Int) (n : Int) (j : Int) (x : Int)) ((rz (kr ((q - 1 : Nat) : Int) (n - x) x j)).1, (rz (kr ((q - 1 : Nat) : Int) (n - x) x j)).2.1, (rz (kr ((q - 1 : Nat) : Int) (n - x) x j)).2.2, 0) := by
  simp only [macwilliams_Krawtchouk.f, if_neg (show ¬ (q : Int) < 2 by omega), if_neg (show ¬ (q : Int) > 256 by omega), if_neg (show ¬ (n : Int) < 0 by omega), if_neg (show ¬ (n : Int) > 64 by omega), if_neg (show ¬ (j : Int) < 0 by omega), if_neg (show ¬ (j : Int) > (n : Int) by omega), if_neg (show ¬ (x : Int) < 0 by omega), decide_eq_false (show ¬ (x : Int) > (n : Int) by omega)]
  refine Ev.succ ?_
  obtain ⟨t, ht, hT⟩ := table_ev hq hq2 hn
  have hl := hT.len
  have hr := hT.at' x (by omega)
  have hrl := hr.len
  obtain ⟨b, m, e, s⟩ := hr.at' j (by omega)
  have hm : (dg m).length ≤ 324 := by rw [sg_len s]; exact kr_len (by omega) (by omega) (by omega) (by omega)
  simp only [macwilliams_Krawtchouk.j0, Bool.false_eq_true, if_false]
  refine Ev.bind ht ?_
  simp only [if_pos (show (0 : Int) ≤ (x : Int) by omega), if_pos (show (x : Int) < (t.length : Int) by omega), if_pos (show (0 : Int) ≤ (j : Int) by omega), if_pos (show (j : Int) < ((rd_L6 t (x : Int)).length : Int) by omega), e, show ([1] : List Int) = dg 1 from dg_one.symm]
  refine Ev.bind (ratio1_ev (by omega)) ?_
  rw [s]
  exact Ev.some _
end Mw
end
section
set_option linter.unusedVariables false
set_option linter.unusedSimpArgs false
namespace Mw
open Go Go.RowKit Go.Proofs.YtifkbghnmhineaaW.PrintWords Go.Proofs.YtifkbghnmhineaaW.PrintLast Go.Proofs.YtifkbghnmhineaaW.PrintMore Go.Proofs.Ytifkbghnmhineaa.PAll
theorem few_of {z : Int} {m : Nat} (h : (dg z.natAbs).length ≤ m) (hm : m < 262144) : Few z := by unfold Few; omega
theorem few_small {z : Int} (h : z.natAbs < 4294967296) : (dg z.natAbs).length ≤ 1 := dg_len_le (by rw [show (1 : Nat) = 0 + 1 from rfl, bp_succ, bp_zero]; omega)
theorem mulq_len {x y : Int} {m n : Nat} (hx : (dg x.natAbs).length ≤ m) (hy : (dg y.natAbs).length ≤ n) : (dg (x * y).natAbs).length ≤ m + n := by
  rw [Int.natAbs_mul]
  have := mul_len x.natAbs y.natAbs
  omega
theorem law_k_ev {q n j x : Nat} (hq : 2 ≤ q) (hq2 : q ≤ 256) (hn : n ≤ 64) (hj : j ≤ n) (hx : x ≤ n) :
    Ev (fun k => codewrightlaw24_k.f k (q : Int) (n : Int) (j : Int) (x : Int)) ((rz (kr ((q - 1 : Nat) : Int) (n - x) x j)).1, (rz (kr ((q - 1 : Nat) : Int) (n - x) x j)).2.1, (rz (kr ((q - 1 : Nat) : Int) (n - x) x j)).2.2, true) := by
  simp only [codewrightlaw24_k.f]
  refine Ev.bind (kraw_ok hq hq2 hn hj hx) ?_
  simp only [if_true]
  refine Ev.bind (risq_ev (few_of (kr_len (by omega) (by omega) (by omega) (by omega)) (by omega))) ?_
  exact Ev.some _
theorem wid {x : Nat} (h : x < 4294967296) : wrap64 (x : Int) = (x : Int) := wn rfl (by omega)
end Mw
end
section
set_option linter.unusedVariables false
set_option linter.unusedSimpArgs false
namespace Mw
open Go Go.RowKit Go.Proofs.YtifkbghnmhineaaW.PrintWords Go.Proofs.YtifkbghnmhineaaW.PrintLast Go.Proofs.YtifkbghnmhineaaW.PrintMore Go.Proofs.Ytifkbghnmhineaa.PAll
theorem gpow_len {g i : Nat} (hg : g < 4294967296) (hi : i ≤ 64) : (dg (g ^ i)).length ≤ 65 := by
  have hgl : (dg g).length ≤ 1 := dg_len_le (by rw [show (1 : Nat) = 0 + 1 from rfl, bp_succ, bp_zero]; omega)
  have := pow_len g i 1 hgl
  omega
end Mw
end
section
set_option linter.unusedVariables false
set_option linter.unusedSimpArgs false
namespace Mw
open Go Go.RowKit Go.Proofs.YtifkbghnmhineaaW.PrintWords Go.Proofs.YtifkbghnmhineaaW.PrintLast Go.Proofs.YtifkbghnmhineaaW.PrintMore Go.Proofs.Ytifkbghnmhineaa.PAll
theorem sm_len {M m : Nat} {f : Nat → Int} (hm : m ≤ 4096) (h : ∀ i, i < m → (dg (f i).natAbs).length ≤ M) : (dg (sm m f).natAbs).length ≤ M + 1 := by
  have h1 : (sm m f).natAbs ≤ m * bp M := sm_abs m (fun i hi => Nat.le_of_lt (Nat.lt_of_lt_of_le (dg_lt_len _) (bp_mono (h i hi))))
  refine dg_len_le ?_
  rw [bp_succ M]
  have hp := bp_pos M
  have : m * bp M ≤ 4096 * bp M := Nat.mul_le_mul_right _ hm
  generalize bp M = p at *
  omega
end Mw
end
