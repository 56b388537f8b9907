/- What functions of the program do and come to, for the statement MacwilliamsStrengths, part 4. Conditions: as each theorem says. -/
import Derived.Test.YtifkbghnmhineaaQStrengths3

namespace Go.Proofs.Ytifkbghnmhineaa.PAll
open Go.RowKit Go.Proofs.YtifkbghnmhineaaW.PrintWords Go.Proofs.YtifkbghnmhineaaW.PrintLast Go.Proofs.YtifkbghnmhineaaW.PrintMore
attribute [local go_sem] max2_int min2_int max_two min_two max_three min_three max_four min_four
set_option linter.unusedVariables false
set_option linter.unusedSimpArgs false
def r24_Transform.T9 : Bool × List (List Nat × List Nat) := (true, [([], []), ([], []), ([], []), ([1, 2], [1, 2]), ([3], [3]), ([], []), ([], []), ([6], [6]), ([7], [7]), ([], []), ([], []), ([5, 8, 9, 10], [5, 8, 9, 10]), ([4, 11, 11], [4, 11]), ([0, 12, 12], [0, 12]), ([13, 13, 0, 1, 2, 3, 4, 5, 6, 7, 8, 9, 10, 11, 12, 13], [13])])
def r24_Transform.B9 : List Nat := [0, 0, 0, 6, 14, 0, 0, 64, 192, 0, 0, 2016, 4094, 8191, 16383]
theorem r24_Transform.tab9 : rtab .any (opsOf Try.f66 9) = r24_Transform.T9 := by kernel_rfl
theorem r24_Transform.bits9 : waitsOk r24_Transform.T9.2 r24_Transform.B9 = true := by kernel_rfl
set_option maxHeartbeats 8000000 in
set_option maxRecDepth 100000 in
theorem r24_Transform.calls (k : Nat) (a0 : Int) (A1 : Option Addr) (c1 : Nat) (l1 : List (S60)) (r : List (S60)) (w : World) (hr1 : Kd.C k60 w A1 l1.length l1) (hc1 : l1.length ≤ c1) (h : r24_Transform.f k a0 l1 = some r) :
    Calls Try.prog 66 #[.int .i64 a0, .slice A1 l1.length c1] w fun e w' => ∃ v0_ : Value, e = .returned (v0_) ∧ Kd.S k60 60 w' w.heap.size (fun _ => True) v0_ r ∧ Below w.heap.size w w' := by
 have hu60 := Try.underlying60
 have HR1 := Aside0.mk hr1
 have HC1 := Aside0.mk hc1
 clear hr1 hc1
 have HB := Aside0.mk (Below.refl w.heap.size w)
 have H : (r24_Transform.l0 k a0 l1 ([] : List (S60)) 0) = some r := h
 clear h
 have H' := Aside0.mk H
 clear H
 go_enter Try.func66, Try.ntmps66
 go_wp2
 go_loopg [5, 6] k (fun kq v5 v6 w' => ∃ (x5_1 : List (S60)) (x6_1 : Int), v6 = .int .i64 x6_1 ∧ Aside0 (r24_Transform.l0 kq a0 l1 x5_1 x6_1 = some r) ∧ Aside0 (kq ≤ k) ∧ Aside0 (Kd.S k60 60 w' w.heap.size (fun _ => True) v5 x5_1) ∧ Aside0 (Below w.heap.size w w'))
 case atStart => exact ⟨(([] : List (S60))), (0), zF, H', ⟨Nat.le_refl _⟩, ⟨by first | exact Kd.S_nil _ _ _ _ _ | exact Kd.N_nil _ _ _ _ _ | exact Kd.V_nil _ _ _ _ _ | exact Kd.Q_nil _ _ _ _ _ | exact Kd.R_nil _ _ _ _ _⟩, ⟨zB HB.out⟩⟩
 clear H'
 obtain ⟨x5_1, x6_1, rfl, HA, HK1, HO_5, HB⟩ := hrel
 cases gk with | zero => exact absurd HA.out (by simp [r24_Transform.l0]) | succ k1 => ?_
 have H := HA.out
 clear HA
 simp only [r24_Transform.l0] at H
 replace H := zid H
 rcases H with ⟨c3b0, H⟩ | ⟨c3b0, H⟩
 · replace H := zb H
   obtain ⟨⟨t101, t102, t105⟩, A4, H⟩ := H
   dsimp only at H
   have H' := Aside0.mk H
   clear H
   go_wp2_with (first | ((with_reducible refine gC 48 ?_); refine zG (some 15) Try.func48 #[.int .i64 0] ?_; (with_reducible refine (r2_Int.calls k1 0 t101 t102 t105 _ A4.out).mono ?_); rintro e w5 ⟨v103, v106, rfl, ho0, ho1, hb⟩; refine ⟨_, rfl, ?_⟩; replace HO_5 := Aside0.mk (Kd.S_mono (Kd.S_told (Kd.S_told (Kd.S_old (zS HO_5.out) hb) (Kd.R_base ho0)) (Kd.R_base ho1)) (fun _ h_ => h_.1)); have HO104 := yRl ho0 HB; have HO107 := yRl ho1 HB; replace HB := yS HB hb; (try clear hb ho0); (try clear ho1)) | ((with_reducible refine gate_dst (N := 7) rfl ?_); refine box_event ?hg (N := 7) ?hd (cs := #[.bool false, .slice none 0 0, .slice none 0 0]) (t := 60) ?hr ?_; (case hd => rfl); (case hg => rfl); (case hr => first | (go_simp; done) | (go_simp; rfl)); intro gb108 hg w6 hbox hb; replace HO_5 := Aside0.mk (Kd.S_below (Kd.S_elderB (zS HO_5.out) gb108 (Nat.le_of_eq hg.symm)) hb); replace HO104 := yRb HO104 hb; replace HO107 := yRb HO107 hb; have BK108 := Aside0.mk (hbox); have GW108 := yg hg HB; have GE108 := yg hg HB; replace HB := yS HB hb; clear hb hbox hg; obtain ⟨hcz7_0, hcz7_1, hcz7_2, hfz7_0, hfz7_1, hfz7_2⟩ := zz3 BK108; obtain ⟨Ao8, co8, rfl⟩ := Kd.R_slice HO104.out; obtain ⟨Ao9, co9, rfl⟩ := Kd.R_slice HO107.out))
   go_loopg [8] k1 (fun kq v8 w' => ∃ (x8_2 : Int) (x109000_2 : Bool) (x109001_2 : List Int) (x109002_2 : List Int) (u109001 : Value) (u109002 : Value), v8 = .int .i64 x8_2 ∧ Aside0 (r24_Transform.l1 kq a0 l1 x5_1 x6_1 x8_2 x109000_2 x109001_2 x109002_2 = some r) ∧ Aside0 (kq ≤ k1) ∧ Aside0 (Kd.S k60 60 w' w.heap.size (fun k_ => some k_ ≠ (u109001 : Value).ownBlock ∧ some k_ ≠ (u109002 : Value).ownBlock ∧ k_ ≠ gb108) u5 x5_1) ∧ Aside0 (Kd.R (Kd.int .u32) 97 w' w.heap.size (fun k_ => some k_ ≠ (u109002 : Value).ownBlock) u109001 x109001_2) ∧ Aside0 (Kd.R (Kd.int .u32) 97 w' w.heap.size (fun k_ => some k_ ≠ (u109001 : Value).ownBlock) u109002 x109002_2) ∧ Aside0 (w'.heap[gb108]? = some (.cells #[.bool x109000_2, u109001, u109002] 60 (0, 0))) ∧ Aside0 (Below w.heap.size w w'))
   case atStart => exact ⟨(0), (t101), (t102), (t105), (.slice Ao8 t102.length co8), (.slice Ao9 t105.length co9), zF, H', ⟨Nat.le_refl _⟩, ⟨by (with_reducible repeat (first | apply Kd.S_alloc | apply Kd.S_drewN | apply Kd.S_drew)); exact Kd.S_mono (Kd.S_far (p := ⟨gb108, 2, none⟩) (Kd.S_far (p := ⟨gb108, 1, none⟩) (Kd.S_far (p := ⟨gb108, 0, none⟩) (Kd.S_mono HO_5.out (fun k_ hk => (⟨hk, hk.2⟩ : _ ∧ k_ ≠ gb108))) (fun _ hk => hk.2) (.bool t101)) (fun _ hk => hk.2) (.slice Ao8 t102.length co8)) (fun _ hk => hk.2) (.slice Ao9 t105.length co9)) (fun _ hk => ⟨hk.1.1.1.2, ⟨hk.1.1.2, hk.1.2⟩⟩)⟩, ⟨by (with_reducible repeat (first | apply Kd.R_alloc | apply Kd.R_drewN | apply Kd.R_drew)); exact yf HO104.out BK108.out (fun _ hk => hk.1)⟩, ⟨by (with_reducible repeat (first | apply Kd.R_alloc | apply Kd.R_drewN | apply Kd.R_drew)); exact yf HO107.out BK108.out (fun _ hk => hk.1)⟩, ⟨zP3 BK108.out⟩, ⟨zB1 HB.out GE108.out⟩⟩
   clear H'
   (try clear c3b0);(try clear hcz7_0);(try clear hcz7_1);(try clear hcz7_2);(try clear hfz7_0);(try clear hfz7_1);(try clear hfz7_2)
   obtain ⟨x8_2, x109000_2, x109001_2, x109002_2, u109001, u109002, rfl, HA, HK2, HO_5, HO_109001, HO_109002, BK108, HB⟩ := hrel
   cases gk with | zero => exact absurd HA.out (by simp [r24_Transform.l1]) | succ k2 => ?_
   have H := HA.out
   clear HA
   simp only [r24_Transform.l1] at H
   replace H := zid H
   rcases H with ⟨c10b0, H⟩ | ⟨c10b0, H⟩
   · replace H := zgd H
     obtain ⟨c11b0, H⟩ := H
     replace H := zb H
     obtain ⟨⟨t110, t111, t114⟩, A12, H⟩ := H
     dsimp only at H
     replace H := zb H
     obtain ⟨⟨t117, t118, t121⟩, A13, H⟩ := H
     dsimp only at H
     replace H := zb H
     obtain ⟨⟨t124, t125, t128⟩, A14, H⟩ := H
     dsimp only at H
     have H' := Aside0.mk H
     clear H
     try go_wp2
     replace HO_5 := Aside0.mk (Kd.S_drew HO_5.out)
     replace HO_109001 := Aside0.mk (Kd.R_drew HO_109001.out)
     replace HO_109002 := Aside0.mk (Kd.R_drew HO_109002.out)
     replace BK108 := Aside0.mk (blk_drew BK108.out)
     replace HB := Aside0.mk (below_drew1 HB.out)
     have p109 : 0 ≤ (x8_2 : Int) := zd
     have q109 : x8_2 < (l1.length : Int) := zd
     obtain ⟨ad109, A109_1, c109_1, A109_2, c109_2, e109, hx109_0, hx109_1, hx109_2, hl109_1, hi109_1, hl109_2, hi109_2⟩ := at_T60 HR1.out x8_2 p109 q109
     have hw109_2 := hx109_2
     have hw109_1 := hx109_1
     have hw109_0 := hx109_0
     cases e109
     replace hx109_0 := (HB.out.cell (World.block_lt_of_cell? w _ hx109_0)).trans hx109_0
     replace hx109_1 := (HB.out.cell (World.block_lt_of_cell? w _ hx109_1)).trans hx109_1
     replace hx109_2 := (HB.out.cell (World.block_lt_of_cell? w _ hx109_2)).trans hx109_2
     have HR109_1 := Aside0.mk hi109_1
     have HC109_1 := Aside0.mk hl109_1
     clear hi109_1 hl109_1
     have HR109_2 := Aside0.mk hi109_2
     have HC109_2 := Aside0.mk hl109_2
     clear hi109_2 hl109_2
     replace p109 := eq_true p109
     replace q109 := eq_true q109
     refine start_ (n := 15) (S := fun w' => w'.cell? ⟨gb108, 0, none⟩ = some (.bool x109000_2) ∧ w'.cell? ⟨gb108, 1, none⟩ = some (u109001) ∧ w'.cell? ⟨gb108, 2, none⟩ = some (u109002) ∧ w'.cell? (ad109.add ((x8_2).toNat * 3)) = some (.bool ((rd_T60 l1 x8_2).f0)) ∧ w'.cell? ⟨(ad109.add ((x8_2).toNat * 3)).block, (ad109.add ((x8_2).toNat * 3)).off + 1, none⟩ = some (.slice A109_1 ((rd_T60 l1 x8_2).f1).length c109_1) ∧ w'.cell? ⟨(ad109.add ((x8_2).toNat * 3)).block, (ad109.add ((x8_2).toNat * 3)).off + 2, none⟩ = some (.slice A109_2 ((rd_T60 l1 x8_2).f2).length c109_2)) (ds := [14]) #[false, false, false, false, false, false, false, false, false, false, false, false, false, false, false] (by kernel_rfl) rfl rfl ⟨(blk_cell BK108.out 0).trans rfl, (blk_cell BK108.out 1).trans rfl, (blk_cell BK108.out 2).trans rfl, ((HB.out.cell (World.block_lt_of_cell? w _ hw109_0)).trans hw109_0), ((HB.out.cell (World.block_lt_of_cell? w _ hw109_1)).trans hw109_1), ((HB.out.cell (World.block_lt_of_cell? w _ hw109_2)).trans hw109_2)⟩ (fun hHeld => ?_); refine with_tabW r24_Transform.tab9 r24_Transform.bits9 (fun HT_ HW_ => ?_)
     first | (generalize wr.drew = w15 at HO_5 HO_109001 HO_109002 BK108 HB HR109_1 HR109_2 hx109_0 hx109_1 hx109_2 hHeld ⊢) | (generalize wr.drew = w15 at HO_5 HO_109001 HO_109002 BK108 HB HR109_1 HR109_2 hx109_1 hx109_2 hHeld ⊢) | (generalize wr.drew = w15 at HO_5 HO_109001 HO_109002 BK108 HB HR109_1 HR109_2 hx109_0 hx109_2 hHeld ⊢) | (generalize wr.drew = w15 at HO_5 HO_109001 HO_109002 BK108 HB HR109_1 HR109_2 hx109_0 hx109_1 hHeld ⊢) | (generalize wr.drew = w15 at HO_5 HO_109001 HO_109002 BK108 HB HR109_1 HR109_2 hx109_2 hHeld ⊢) | (generalize wr.drew = w15 at HO_5 HO_109001 HO_109002 BK108 HB HR109_1 HR109_2 hx109_1 hHeld ⊢) | (generalize wr.drew = w15 at HO_5 HO_109001 HO_109002 BK108 HB HR109_1 HR109_2 hx109_0 hHeld ⊢) | (generalize wr.drew = w15 at HO_5 HO_109001 HO_109002 BK108 HB HR109_1 HR109_2 hHeld ⊢)
     refine zp (i := 1) (N := some 23) HT_ ?_
     refine zp (i := 2) (N := some 24) HT_ ?_
     refine zp (i := 3) (N := some 25) HT_ ?_
     refine zp (i := 5) (N := some 27) HT_ ?_
     refine zp (i := 6) (N := some 28) HT_ ?_
     refine zp (i := 7) (N := some 29) HT_ ?_
     refine zp (i := 8) (N := some 30) HT_ ?_
     refine zp (i := 9) (N := some 31) HT_ ?_
     refine zp (i := 10) (N := some 32) HT_ ?_
     refine take_ (i := 0) (N := some 22) (v := ?_) (a' := ?_) #[true, true, true, true, false, true, true, true, true, true, true, false, false, false, false] rfl rfl (take_ofW HT_.out HW_.out (by kernel_rfl)) (fun _ _ _ h => h) (Or.inl ⟨by rfl, ?_⟩) hHeld ?_ ?_
     rotate_left
     · rintro w' ⟨s0, s1, s2, s3, s4, s5⟩
       go_simp
       with_reducible rfl
     rotate_left
     · simp only [Act.put, List.setIfInBounds_toArray, List.set_cons_zero, List.set_cons_succ, i64_w, i32_w]
       rfl
     refine take_ (i := 4) (N := some 26) (v := ?_) (a' := ?_) #[true, true, true, true, true, true, true, true, true, true, true, false, false, false, false] rfl rfl (take_ofW HT_.out HW_.out (by kernel_rfl)) (fun _ _ _ h => h) (Or.inl ⟨by rfl, ?_⟩) hHeld ?_ ?_
     rotate_left
     · rintro w' ⟨s0, s1, s2, s3, s4, s5⟩
       go_simp
       with_reducible rfl
     rotate_left
     · simp only [Act.put, List.setIfInBounds_toArray, List.set_cons_zero, List.set_cons_succ, i64_w, i32_w]
       rfl
     refine one_ (i := 11) (N := some 33) #[true, true, true, true, true, true, true, true, true, true, true, true, false, false, false] rfl rfl (one_of HT_.out (by kernel_rfl)) (by decide) (fun K hK => ?_)
     refine goes_ Try.func46 (by kernel_rfl) rfl #[.int .i64 a0, .int .i64 (wrap64 ((l1.length : Int) - 1)), .int .i64 x6_1, .int .i64 x8_2] (by rfl) rfl rfl (by (try simp only [List.map_toArray, List.map_cons, List.map_nil]); first | done | rfl | (simp only [List.length_drop, List.length_take]; rfl)) ?_
     with_reducible refine (r24_Krawtchouk.calls k2 a0 (wrap64 ((l1.length : Int) - 1)) x6_1 x8_2 t110 t111 t114 _ A12.out).mono ?_
     rintro e w16 ⟨v112, v115, rfl, ho0, ho1, hb⟩
     refine ⟨_, rfl, ?_⟩
     replace HO_5 := Aside0.mk (Kd.S_mono (Kd.S_told (Kd.S_told (Kd.S_old (zS HO_5.out) hb) (Kd.R_base ho0)) (Kd.R_base ho1)) (fun _ h_ => h_.1))
     replace ho0 := yn ho0 HO_109001
     replace ho0 := yn ho0 HO_109002
     have HO113 := yRl1 ho0 HB GE108
     replace ho1 := yn ho1 HO_109001
     replace ho1 := yn ho1 HO_109002
     have HO116 := yRl1 ho1 HB GE108
     replace HO_109001 := yRt HO_109001 hb ho0 ho1
     replace HO_109002 := yRt HO_109002 hb ho0 ho1
     replace BK108 := yK BK108 hb
     replace HB := yS1 HB GE108 hb
     (try clear hb)
     (try clear ho0)
     (try clear ho1)
     obtain ⟨Ao17, co17, eo17⟩ := Kd.R_slice HO113.out
     (first | subst eo17 | (injection eo17 with f1_ f2_ f3_; have f4_ := f1_.symm; have f5_ := f3_.symm; clear f1_ f2_ f3_; subst f4_; subst f5_))
     obtain ⟨Ao18, co18, eo18⟩ := Kd.R_slice HO116.out
     (first | subst eo18 | (injection eo18 with f1_ f2_ f3_; have f4_ := f1_.symm; have f5_ := f3_.symm; clear f1_ f2_ f3_; subst f4_; subst f5_))
     refine hK.out _ _ ⟨(blk_cell BK108.out 0).trans rfl, (blk_cell BK108.out 1).trans rfl, (blk_cell BK108.out 2).trans rfl, ((HB.out.cell (World.block_lt_of_cell? w _ hw109_0)).trans hw109_0), ((HB.out.cell (World.block_lt_of_cell? w _ hw109_1)).trans hw109_1), ((HB.out.cell (World.block_lt_of_cell? w _ hw109_2)).trans hw109_2)⟩ (fun hHeld => ?_)
     clear hK K
     refine norm_ (a' := ?_) ?_ ?_
     rotate_left
     · show Act.put _ (some 33) _ = _
       simp only [Act.put, List.setIfInBounds_toArray, List.set_cons_zero, List.set_cons_succ, i64_w, i32_w]
       rfl
     refine one_ (i := 12) (N := some 34) #[true, true, true, true, true, true, true, true, true, true, true, true, true, false, false] rfl rfl (one_of HT_.out (by kernel_rfl)) (by decide) (fun K hK => ?_)
     refine goes_ Try.func51 (by kernel_rfl) rfl #[.agg #[.bool ((rd_T60 l1 x8_2).f0), .slice A109_1 ((rd_T60 l1 x8_2).f1).length c109_1, .slice A109_2 ((rd_T60 l1 x8_2).f2).length c109_2], .agg #[.bool t110, .slice Ao17 t111.length co17, .slice Ao18 t114.length co18]] (by rfl) rfl rfl (by (try simp only [List.map_toArray, List.map_cons, List.map_nil]); first | done | rfl | (simp only [List.length_drop, List.length_take]; rfl)) ?_
     with_reducible refine (r2_Mul.calls k2 ((rd_T60 l1 x8_2).f0) _ _ ((rd_T60 l1 x8_2).f1) _ _ ((rd_T60 l1 x8_2).f2) t110 _ _ t111 _ _ t114 t117 t118 t121 _ ?side1 ?side2 ?side3 ?side4 ?side5 ?side6 ?side7 ?side8 A13.out).mono ?_
     (case side1 => exact zC (Kd.C_below HR109_1.out HB.out))
     (case side2 => exact HC109_1.out)
     (case side3 => exact zC (Kd.C_below HR109_2.out HB.out))
     (case side4 => exact HC109_2.out)
     (case side5 => exact zC (Kd.R_reads' HO113.out).2.2)
     (case side6 => exact (Kd.R_reads' HO113.out).2.1)
     (case side7 => exact zC (Kd.R_reads' HO116.out).2.2)
     (case side8 => exact (Kd.R_reads' HO116.out).2.1)
     rintro e w19 ⟨v119, v122, rfl, ho0, ho1, hb⟩
     refine ⟨_, rfl, ?_⟩
     replace HO_5 := Aside0.mk (Kd.S_mono (Kd.S_told (Kd.S_told (Kd.S_old (zS HO_5.out) hb) (Kd.R_base ho0)) (Kd.R_base ho1)) (fun _ h_ => h_.1))
     replace ho0 := yn ho0 HO_109001
     replace ho0 := yn ho0 HO_109002
     replace ho0 := yn ho0 HO113
     replace ho0 := yn ho0 HO116
     have HO120 := yRl1 ho0 HB GE108
     replace ho1 := yn ho1 HO_109001
     replace ho1 := yn ho1 HO_109002
     replace ho1 := yn ho1 HO113
     replace ho1 := yn ho1 HO116
     have HO123 := yRl1 ho1 HB GE108
     replace HO_109001 := yRt HO_109001 hb ho0 ho1
     replace HO_109002 := yRt HO_109002 hb ho0 ho1
     replace HO113 := yRt HO113 hb ho0 ho1
     replace HO116 := yRt HO116 hb ho0 ho1
     replace BK108 := yK BK108 hb
     replace HB := yS1 HB GE108 hb
     (try clear hb)
     (try clear ho0)
     (try clear ho1)
     obtain ⟨Ao20, co20, eo20⟩ := Kd.R_slice HO_109001.out
     (first | subst eo20 | (injection eo20 with f1_ f2_ f3_; have f4_ := f1_.symm; have f5_ := f3_.symm; clear f1_ f2_ f3_; subst f4_; subst f5_))
     obtain ⟨Ao21, co21, eo21⟩ := Kd.R_slice HO_109002.out
     (first | subst eo21 | (injection eo21 with f1_ f2_ f3_; have f4_ := f1_.symm; have f5_ := f3_.symm; clear f1_ f2_ f3_; subst f4_; subst f5_))
     obtain ⟨Ao22, co22, eo22⟩ := Kd.R_slice HO120.out
     (first | subst eo22 | (injection eo22 with f1_ f2_ f3_; have f4_ := f1_.symm; have f5_ := f3_.symm; clear f1_ f2_ f3_; subst f4_; subst f5_))
     obtain ⟨Ao23, co23, eo23⟩ := Kd.R_slice HO123.out
     (first | subst eo23 | (injection eo23 with f1_ f2_ f3_; have f4_ := f1_.symm; have f5_ := f3_.symm; clear f1_ f2_ f3_; subst f4_; subst f5_))
     refine hK.out _ _ ⟨(blk_cell BK108.out 0).trans rfl, (blk_cell BK108.out 1).trans rfl, (blk_cell BK108.out 2).trans rfl, ((HB.out.cell (World.block_lt_of_cell? w _ hw109_0)).trans hw109_0), ((HB.out.cell (World.block_lt_of_cell? w _ hw109_1)).trans hw109_1), ((HB.out.cell (World.block_lt_of_cell? w _ hw109_2)).trans hw109_2)⟩ (fun hHeld => ?_)
     clear hK K
     refine norm_ (a' := ?_) ?_ ?_
     rotate_left
     · show Act.put _ (some 34) _ = _
       simp only [Act.put, List.setIfInBounds_toArray, List.set_cons_zero, List.set_cons_succ, i64_w, i32_w]
       rfl
     refine one_ (i := 13) (N := some 35) #[true, true, true, true, true, true, true, true, true, true, true, true, true, true, false] rfl rfl (one_of HT_.out (by kernel_rfl)) (by decide) (fun K hK => ?_)
     refine goes_ Try.func50 (by kernel_rfl) rfl #[.agg #[.bool x109000_2, .slice Ao20 x109001_2.length co20, .slice Ao21 x109002_2.length co21], .agg #[.bool t117, .slice Ao22 t118.length co22, .slice Ao23 t121.length co23]] (by rfl) rfl rfl (by (try simp only [List.map_toArray, List.map_cons, List.map_nil]); first | done | rfl | (simp only [List.length_drop, List.length_take]; rfl)) ?_
     with_reducible refine (r2_Add.calls k2 x109000_2 _ _ x109001_2 _ _ x109002_2 t117 _ _ t118 _ _ t121 t124 t125 t128 _ ?side1 ?side2 ?side3 ?side4 ?side5 ?side6 ?side7 ?side8 A14.out).mono ?_
     (case side1 => exact zC (Kd.R_reads' HO_109001.out).2.2)
     (case side2 => exact (Kd.R_reads' HO_109001.out).2.1)
     (case side3 => exact zC (Kd.R_reads' HO_109002.out).2.2)
     (case side4 => exact (Kd.R_reads' HO_109002.out).2.1)
     (case side5 => exact zC (Kd.R_reads' HO120.out).2.2)
     (case side6 => exact (Kd.R_reads' HO120.out).2.1)
     (case side7 => exact zC (Kd.R_reads' HO123.out).2.2)
     (case side8 => exact (Kd.R_reads' HO123.out).2.1)
     rintro e w24 ⟨v126, v129, rfl, ho0, ho1, hb⟩
     refine ⟨_, rfl, ?_⟩
     replace HO_5 := Aside0.mk (Kd.S_mono (Kd.S_told (Kd.S_told (Kd.S_old (zS HO_5.out) hb) (Kd.R_base ho0)) (Kd.R_base ho1)) (fun _ h_ => h_.1))
     replace ho0 := yn ho0 HO_109001
     replace ho0 := yn ho0 HO_109002
     replace ho0 := yn ho0 HO113
     replace ho0 := yn ho0 HO116
     replace ho0 := yn ho0 HO120
     replace ho0 := yn ho0 HO123
     have HO127 := yRl1 ho0 HB GE108
     replace ho1 := yn ho1 HO_109001
     replace ho1 := yn ho1 HO_109002
     replace ho1 := yn ho1 HO113
     replace ho1 := yn ho1 HO116
     replace ho1 := yn ho1 HO120
     replace ho1 := yn ho1 HO123
     have HO130 := yRl1 ho1 HB GE108
     replace HO_109001 := yRt HO_109001 hb ho0 ho1
     replace HO_109002 := yRt HO_109002 hb ho0 ho1
     replace HO113 := yRt HO113 hb ho0 ho1
     replace HO116 := yRt HO116 hb ho0 ho1
     replace HO120 := yRt HO120 hb ho0 ho1
     replace HO123 := yRt HO123 hb ho0 ho1
     replace BK108 := yK BK108 hb
     replace HB := yS1 HB GE108 hb
     (try clear hb)
     (try clear ho0)
     (try clear ho1)
     obtain ⟨Ao26, co26, eo26⟩ := Kd.R_slice HO127.out
     (first | subst eo26 | (injection eo26 with f1_ f2_ f3_; have f4_ := f1_.symm; have f5_ := f3_.symm; clear f1_ f2_ f3_; subst f4_; subst f5_))
     obtain ⟨Ao28, co28, eo28⟩ := Kd.R_slice HO130.out
     (first | subst eo28 | (injection eo28 with f1_ f2_ f3_; have f4_ := f1_.symm; have f5_ := f3_.symm; clear f1_ f2_ f3_; subst f4_; subst f5_))
     refine hK.out _ _ ⟨(blk_cell BK108.out 0).trans rfl, (blk_cell BK108.out 1).trans rfl, (blk_cell BK108.out 2).trans rfl, ((HB.out.cell (World.block_lt_of_cell? w _ hw109_0)).trans hw109_0), ((HB.out.cell (World.block_lt_of_cell? w _ hw109_1)).trans hw109_1), ((HB.out.cell (World.block_lt_of_cell? w _ hw109_2)).trans hw109_2)⟩ (fun hHeld => ?_)
     clear hK K
     refine norm_ (a' := ?_) ?_ ?_
     rotate_left
     · show Act.put _ (some 35) _ = _
       simp only [Act.put, List.setIfInBounds_toArray, List.set_cons_zero, List.set_cons_succ, i64_w, i32_w]
       rfl
     refine last_ (i := 14) (N := none) #[true, true, true, true, true, true, true, true, true, true, true, true, true, true, true] rfl rfl (one_of HT_.out (by kernel_rfl)) (by decide) (fun K hK => ?_)
     have hs25 : w24.cell? ⟨gb108, 0, none⟩ = some (.bool x109000_2) := (blk_cell BK108.out 0).trans rfl
     have hfs25 := blk_frozen BK108.out 0
     have hs27 : w24.cell? ⟨gb108, 1, none⟩ = some (.slice Ao20 x109001_2.length co20) := (blk_cell BK108.out 1).trans rfl
     have hfs27 := blk_frozen BK108.out 1
     have hs29 : w24.cell? ⟨gb108, 2, none⟩ = some (.slice Ao21 x109002_2.length co21) := (blk_cell BK108.out 2).trans rfl
     have hfs29 := blk_frozen BK108.out 2
     refine skip_ (w1 := ?_) (by rfl) rfl ?_ ?_
     rotate_left
     · go_simp
       rfl
     refine hK.out _ _ ?_
     clear hK K
     refine done_ (done_of HT_.out (by kernel_rfl)) ?_
     try go_wp2
     go_roundg k2
     case measure => have := HK1.out; have := HK2.out; omega
     case rel => exact ⟨(wrap64 (x8_2 + 1)), (t124), (t125), (t128), (.slice Ao26 t125.length co26), (.slice Ao28 t128.length co28), zF, H', ⟨zo2 HK1 HK2⟩, ⟨by (with_reducible repeat (first | apply Kd.S_alloc | apply Kd.S_drewN | apply Kd.S_drew)); exact Kd.S_mono (Kd.S_far (p := ⟨gb108, 2, none⟩) (Kd.S_far (p := ⟨gb108, 1, none⟩) (Kd.S_far (p := ⟨gb108, 0, none⟩) (Kd.S_mono HO_5.out (fun k_ hk => (⟨hk, hk.1.1.1.1.1.1.2.2⟩ : _ ∧ k_ ≠ gb108))) (fun _ hk => hk.2) (.bool t124)) (fun _ hk => hk.2) (.slice Ao26 t125.length co26)) (fun _ hk => hk.2) (.slice Ao28 t128.length co28)) (fun _ hk => ⟨hk.1.1.2, ⟨hk.1.2, hk.1.1.1.1.1.1.1.2.2⟩⟩)⟩, ⟨by (with_reducible repeat (first | apply Kd.R_alloc | apply Kd.R_drewN | apply Kd.R_drew)); exact yf HO127.out BK108.out (fun _ hk => hk.1.1.1.1.1.1.1)⟩, ⟨by (with_reducible repeat (first | apply Kd.R_alloc | apply Kd.R_drewN | apply Kd.R_drew)); exact yf HO130.out BK108.out (fun _ hk => hk.1.1.1.1.1.1.1)⟩, ⟨zP3 BK108.out⟩, ⟨zB1 HB.out GE108.out⟩⟩
   replace H := zg H
   obtain ⟨c30, H⟩ := H
   have LMc30 := Aside0.mk c30
   clear c30
   obtain ⟨y131, hy131⟩ : ∃ y_ : List (S60), y_ = (x5_1 ++ [(⟨x109000_2, x109001_2, x109002_2⟩ : S60)]) := ⟨_, rfl⟩
   replace H : (r24_Transform.l0 k2 a0 l1 y131 (wrap64 (x6_1 + 1))) = some r := zY hy131 H
   have Ny131 := Aside0.mk hy131
   clear hy131
   have H' := Aside0.mk H
   clear H
   obtain ⟨hcz31_0, hcz31_1, hcz31_2, hfz31_0, hfz31_1, hfz31_2⟩ := zz3 BK108
   obtain ⟨Ao33, co33, rfl⟩ := Kd.R_slice HO_109001.out
   obtain ⟨Ao34, co34, rfl⟩ := Kd.R_slice HO_109002.out
   go_wp2_with (first | ((with_reducible refine gate_builtin (b := .append) (xs := #[.tmp 36, .tmp 38]) rfl ?_); at_builtin; refine Kd.S_append k60 (w0 := w) w.heap.size rfl (.tmp 36) (.tmp 38) 83 60 (.agg #[(.bool false), (.slice none 0 0), (.slice none 0 0)]) 56 rfl Try.underlying83 info60 rfl (by decide) (by omega) u5 x5_1 (⟨x109000_2, x109001_2, x109002_2⟩ : S60) [.bool x109000_2, .slice Ao33 x109001_2.length co33, .slice Ao34 x109002_2.length co34] (fun k_ => k_ ≠ gb108) (fun k_ => some k_ = (.slice Ao33 x109001_2.length co33 : Value).ownBlock ∨ some k_ = (.slice Ao34 x109002_2.length co34 : Value).ownBlock) rfl rfl ?aP (fun k_ hk_ => hk_.elim (fun h_ => ((Kd.R_mono (ok' := fun k_ => ((fun k_ => k_ ≠ gb108)) k_ ∧ some k_ ≠ (u5 : Value).ownBlock) (Kd.R_types (Kd.R_apart' (HO_109001.out) (Kd.S_typed HO_5.out) (by decide)) BK108.out (by decide)) (fun k_ hk => ⟨hk.2, hk.1.2⟩))).1 k_ h_.symm) (fun h_ => ((Kd.R_mono (ok' := fun k_ => ((fun k_ => k_ ≠ gb108)) k_ ∧ some k_ ≠ (u5 : Value).ownBlock) (Kd.R_types (Kd.R_apart' (HO_109002.out) (Kd.S_typed HO_5.out) (by decide)) BK108.out (by decide)) (fun k_ hk => ⟨hk.2, hk.1.2⟩))).1 k_ h_.symm)) ?aF ?aO ?aB ?aS ?aL ?_; (case aP => exact k60_mkM _ _ _ (⟨x109000_2, x109001_2, x109002_2⟩ : S60) (Kd.R_mono (Kd.R_tight rfl (Kd.R_mono (ok' := fun k_ => ((fun k_ => k_ ≠ gb108)) k_ ∧ some k_ ≠ (u5 : Value).ownBlock) (Kd.R_types (Kd.R_apart' (HO_109001.out) (Kd.S_typed HO_5.out) (by decide)) BK108.out (by decide)) (fun k_ hk => ⟨hk.2, hk.1.2⟩))) (fun _ h_ => Or.inl h_)) (Kd.R_mono (Kd.R_tight rfl (Kd.R_mono (ok' := fun k_ => ((fun k_ => k_ ≠ gb108)) k_ ∧ some k_ ≠ (u5 : Value).ownBlock) (Kd.R_types (Kd.R_apart' (HO_109002.out) (Kd.S_typed HO_5.out) (by decide)) BK108.out (by decide)) (fun k_ hk => ⟨hk.2, hk.1.2⟩))) (fun _ h_ => Or.inr (h_)))); (case aB => exact (zB1 HB.out GE108.out)); (case aF => exact (fun k_ hk => Kd.freshB (g := gb108) (o := .cells #[.bool x109000_2, .slice Ao33 x109001_2.length co33, .slice Ao34 x109002_2.length co34] 60 (0, 0)) (by (with_reducible repeat (first | refine blk_drewN ?_ _ | refine blk_drew ?_ | refine blk_alloc ?_ _)); exact BK108.out) k_ hk)); (case aO => exact (by (with_reducible repeat (first | apply Kd.S_alloc | apply Kd.S_drewN | apply Kd.S_drew)); exact Kd.S_mono HO_5.out (fun k_ hk => ⟨hk.2.2, fun e_ => e_.elim (fun h_ => hk.1 h_) (fun h_ => hk.2.1 h_)⟩))); (case aS => exact (below_size (zB1 HB.out GE108.out))); (case aL => have := LMc30.out; omega); intro v132 w32 ho hb hg hat; rw [← Ny131.out] at ho; replace BK108 := Aside0.mk (blk_grown (g := gb108) (o := .cells #[.bool x109000_2, .slice Ao33 x109001_2.length co33, .slice Ao34 x109002_2.length co34] 60 (0, 0)) (by (with_reducible repeat (first | refine blk_drewN ?_ _ | refine blk_drew ?_ | refine blk_alloc ?_ _)); exact BK108.out) hg (Kd.S_away HO_5.out (fun _ hk => hk.2.2))); replace HB := Aside0.mk (hb); have HO133 := Aside0.mk (ho); clear HO_5 HO_109001 HO_109002; clear ho hb hg hat))
   go_roundg k2
   case measure => have := HK1.out; have := HK2.out; omega
   case rel => exact ⟨(y131), (wrap64 (x6_1 + 1)), zF, H', ⟨zo2 HK1 HK2⟩, ⟨by (with_reducible repeat (first | apply Kd.S_alloc | apply Kd.S_drewN | apply Kd.S_drew)); exact Kd.S_mono HO133.out (fun _ hk => trivial)⟩, ⟨zB1 HB.out GE108.out⟩⟩
 obtain rfl := Option.some.inj H
 go_wp2
 go_ret
 exact ⟨_, zE, zS HO_5.out, zB HB.out⟩
set_option maxHeartbeats 8000000 in
set_option maxRecDepth 100000 in
theorem r24_Total.calls (k : Nat) (A0 : Option Addr) (c0 : Nat) (l0 : List (List Int)) (r : List Int) (w : World) (hr0 : Kd.C (Kd.slice 97 (Kd.int .u32)) w A0 l0.length l0) (hc0 : l0.length ≤ c0) (h : r24_Total.f k l0 = some r) :
    Calls Try.prog 89 #[.slice A0 l0.length c0] w fun e w' => ∃ v0_ : Value, e = .returned (v0_) ∧ Kd.R (Kd.int .u32) 97 w' w.heap.size (fun _ => True) v0_ r ∧ Below w.heap.size w w' := by
 have HR0 := Aside0.mk hr0
 have HC0 := Aside0.mk hc0
 clear hr0 hc0
 have HB := Aside0.mk (Below.refl w.heap.size w)
 have H : (r24_Total.l0 k l0 (([] : List Int)) 0) = some r := h
 clear h
 obtain ⟨y101, hy101⟩ : ∃ y_ : List Int, y_ = (([] : List Int)) := ⟨_, rfl⟩
 replace H : (r24_Total.l0 k l0 y101 0) = some r := zY hy101 H
 have Ny101 := Aside0.mk hy101
 clear hy101
 have H' := Aside0.mk H
 clear H
 go_enter Try.func89, Try.ntmps89
 go_wp2_with (first | ((with_reducible refine gate_dst (N := 5) rfl ?_); refine Kd.R_lit (Kd.int .u32) _ 97 ?hg (N := 5) ?hd (xs := ([] : List Int)) (inner := []) (ok := fun _ => True) (okp := fun _ => True) ?hr ?hp (fun _ hk => hk) trivial (Below.refl _ _) (Nat.le_refl _) (by simp) ?_; (case hd => rfl); (case hg => rfl); (case hr => first | (go_simp; done) | (go_simp; rfl)); (case hp => exact (Reps.none _ _)); intro v102 w2 ho3 hb hg_ hnew_; clear hg_ hnew_; (first | rw [← Ny101.out] at ho3 | (simp only [Int.reduceToNat] at ho3; rw [← Ny101.out] at ho3)); have HO103 := yRl ho3 HB; replace HB := yS HB hb; clear hb ho3))
 go_loopg [3, 4] k (fun kq v3 v4 w' => ∃ (x3_1 : List Int) (x4_1 : Int), v4 = .int .i64 x4_1 ∧ Aside0 (r24_Total.l0 kq l0 x3_1 x4_1 = some r) ∧ Aside0 (kq ≤ k) ∧ Aside0 (Kd.R (Kd.int .u32) 97 w' w.heap.size (fun _ => True) v3 x3_1) ∧ Aside0 (Below w.heap.size w w'))
 case atStart => exact ⟨(y101), (0), zF, H', ⟨Nat.le_refl _⟩, ⟨zR HO103.out⟩, ⟨zB HB.out⟩⟩
 clear H'
 obtain ⟨x3_1, x4_1, rfl, HA, HK1, HO_3, HB⟩ := hrel
 cases gk with | zero => exact absurd HA.out (by simp [r24_Total.l0]) | succ k1 => ?_
 have H := HA.out
 clear HA
 simp only [r24_Total.l0] at H
 replace H := zid H
 rcases H with ⟨c4b0, H⟩ | ⟨c4b0, H⟩
 · replace H := zgd H
   obtain ⟨c5b0, H⟩ := H
   replace H := zb H
   obtain ⟨t105, A6, H⟩ := H
   have H' := Aside0.mk H
   clear H
   have p104 : 0 ≤ (x4_1 : Int) := zd
   have q104 : x4_1 < (l0.length : Int) := zd
   obtain ⟨ad104, A104_0, c104_0, e104, hx104_0, hl104_0, hi104_0⟩ := at_L3 HR0.out x4_1 p104 q104
   cases e104
   replace hx104_0 := (HB.out.cell (World.block_lt_of_cell? w _ hx104_0)).trans hx104_0
   have HR104_0 := Aside0.mk hi104_0
   have HC104_0 := Aside0.mk hl104_0
   clear hi104_0 hl104_0
   replace p104 := eq_true p104
   replace q104 := eq_true q104
   obtain ⟨Ao7, co7, rfl⟩ := Kd.R_slice HO_3.out
   go_wp2_with (first | ((with_reducible refine gC 86 ?_); refine zG (some 17) Try.func86 #[.slice Ao7 x3_1.length co7, .slice A104_0 (rd_L3 l0 x4_1).length c104_0] ?_; (with_reducible refine (r1_Add.calls k1 _ _ x3_1 _ _ (rd_L3 l0 x4_1) t105 _ ?side1 ?side2 ?side3 ?side4 A6.out).mono ?_); (case side1 => exact zC (Kd.R_reads' HO_3.out).2.2); (case side2 => exact (Kd.R_reads' HO_3.out).2.1); (case side3 => exact zC (Kd.C_below HR104_0.out HB.out)); (case side4 => exact HC104_0.out); rintro e w8 ⟨v106, rfl, ho0, hb⟩; refine ⟨_, rfl, ?_⟩; replace ho0 := yn ho0 HO_3; have HO107 := yRl ho0 HB; replace HO_3 := yRe HO_3 ho0 hb; replace HB := yS HB hb; (try clear hb ho0)))
   go_roundg k1
   case measure => have := HK1.out; omega
   case rel => exact ⟨(t105), (wrap64 (x4_1 + 1)), zF, H', ⟨zo1 HK1⟩, ⟨by (with_reducible repeat (first | apply Kd.R_alloc | apply Kd.R_drewN | apply Kd.R_drew)); exact Kd.R_mono HO107.out (fun _ hk => trivial)⟩, ⟨zB HB.out⟩⟩
 obtain rfl := Option.some.inj H
 go_wp2
 go_ret
 exact ⟨_, zE, zR HO_3.out, zB HB.out⟩
set_option maxHeartbeats 8000000 in
set_option maxRecDepth 100000 in
theorem r1_Same.calls (k : Nat) (A0 : Option Addr) (c0 : Nat) (l0 : List Int) (A1 : Option Addr) (c1 : Nat) (l1 : List Int) (r : Bool) (w : World) (hr0 : Kd.C (Kd.int .u32) w A0 l0.length l0) (hc0 : l0.length ≤ c0) (hr1 : Kd.C (Kd.int .u32) w A1 l1.length l1) (hc1 : l1.length ≤ c1) (h : r1_Same.f k l0 l1 = some r) :
    Calls Try.prog 25 #[.slice A0 l0.length c0, .slice A1 l1.length c1] w fun e w' => e = .returned (.bool r) ∧ Drawn0 w w' := by
 have HR0 := Aside0.mk hr0
 have HC0 := Aside0.mk hc0
 clear hr0 hc0
 have HR1 := Aside0.mk hr1
 have HC1 := Aside0.mk hc1
 clear hr1 hc1
 have H : (if (l0.length : Int) = (l1.length : Int) then (r1_Same.l0 k l0 l1 0) else (some false)) = some r := h
 clear h
 replace H := zi H
 rcases H with ⟨c3, H⟩ | ⟨c3, H⟩
 · have c3b0 := beq_iff_eq.mpr c3
   have c3b1 := bne_eq_false_iff_eq.mpr c3
   have c3b2 : (l0.length == l1.length) = true := by first | simpa using c3 | (simp at c3 ⊢; omega)
   clear c3
   have H' := Aside0.mk H
   clear H
   go_enter Try.func25, Try.ntmps25
   go_wp2
   repeat (go_quiet (fail); try go_wp2)
   go_loopg [5] k (fun kq v5 w' => ∃ (x5_1 : Int), v5 = .int .i64 x5_1 ∧ Aside0 (r1_Same.l0 kq l0 l1 x5_1 = some r) ∧ Aside0 (kq ≤ k) ∧ Drawn0 w w')
   case atStart => exact ⟨(0), zF, H', ⟨Nat.le_refl _⟩, by repeat (first | exact Drawn0.refl _ | apply Drawn0.step)⟩
   clear H'
   (try clear c3);(try clear c3b0);(try clear c3b1);(try clear c3b2)
   obtain ⟨x5_1, rfl, HA, HK1, ⟨m1, rfl⟩⟩ := hrel
   cases gk with | zero => exact absurd HA.out (by simp [r1_Same.l0]) | succ k1 => ?_
   have H := HA.out
   clear HA
   simp only [r1_Same.l0] at H
   replace H := zid H
   rcases H with ⟨c4b0, H⟩ | ⟨c4b0, H⟩
   · replace H := zgd H
     obtain ⟨c5b0, H⟩ := H
     replace H := zgd H
     obtain ⟨c6b0, H⟩ := H
     replace H := zi H
     rcases H with ⟨c7, H⟩ | ⟨c7, H⟩
     · have c7b0 := beq_iff_eq.mpr c7
       have c7b1 := bne_eq_false_iff_eq.mpr c7
       clear c7
       have H' := Aside0.mk H
       clear H
       have p101 : 0 ≤ (x5_1 : Int) := zd
       have q101 : x5_1 < (l0.length : Int) := zd
       obtain ⟨ad101, e101, hx101_0⟩ := Kd.at_int HR0.out x5_1 p101 q101
       cases e101
       replace p101 := eq_true p101
       replace q101 := eq_true q101
       have p102 : 0 ≤ (x5_1 : Int) := zd
       have q102 : x5_1 < (l1.length : Int) := zd
       obtain ⟨ad102, e102, hx102_0⟩ := Kd.at_int HR1.out x5_1 p102 q102
       cases e102
       replace p102 := eq_true p102
       replace q102 := eq_true q102
       go_wp2
       repeat (go_quiet (fail); try go_wp2)
       go_roundg k1
       case measure => have := HK1.out; omega
       case rel => exact ⟨(wrap64 (x5_1 + 1)), zF, H', ⟨zo1 HK1⟩, by repeat (first | exact Drawn0.refl _ | apply Drawn0.step)⟩
     have c7b0 := beq_eq_false_iff_ne.mpr c7
     have c7b1 := bne_iff_ne.mpr c7
     obtain rfl := Option.some.inj H
     have p101 : 0 ≤ (x5_1 : Int) := zd
     have q101 : x5_1 < (l0.length : Int) := zd
     obtain ⟨ad101, e101, hx101_0⟩ := Kd.at_int HR0.out x5_1 p101 q101
     cases e101
     replace p101 := eq_true p101
     replace q101 := eq_true q101
     have p102 : 0 ≤ (x5_1 : Int) := zd
     have q102 : x5_1 < (l1.length : Int) := zd
     obtain ⟨ad102, e102, hx102_0⟩ := Kd.at_int HR1.out x5_1 p102 q102
     cases e102
     replace p102 := eq_true p102
     replace q102 := eq_true q102
     go_wp2
     repeat (go_quiet (fail); try go_wp2)
     go_ret
     exact ⟨zF, by repeat (first | exact Drawn0.refl _ | apply Drawn0.step)⟩
   obtain rfl := Option.some.inj H
   go_wp2
   repeat (go_quiet (fail); try go_wp2)
   go_ret
   exact ⟨zF, by repeat (first | exact Drawn0.refl _ | apply Drawn0.step)⟩
 have c3b0 := beq_eq_false_iff_ne.mpr c3
 have c3b1 := bne_iff_ne.mpr c3
 have c3b2 : (l0.length == l1.length) = false := by first | simpa using c3 | (simp at c3 ⊢; omega)
 obtain rfl := Option.some.inj H
 go_enter Try.func25, Try.ntmps25
 go_wp2
 repeat (go_quiet (fail); try go_wp2)
 go_ret
 exact ⟨zF, by repeat (first | exact Drawn0.refl _ | apply Drawn0.step)⟩
set_option maxHeartbeats 8000000 in
set_option maxRecDepth 100000 in
theorem r2_Whole.calls (k : Nat) (a0_0 : Bool) (A0_1 : Option Addr) (c0_1 : Nat) (l0_1 : List Int) (A0_2 : Option Addr) (c0_2 : Nat) (l0_2 : List Int) (r1 : List Int) (r2 : Bool) (w : World) (hr0_1 : Kd.C (Kd.int .u32) w A0_1 l0_1.length l0_1) (hc0_1 : l0_1.length ≤ c0_1) (hr0_2 : Kd.C (Kd.int .u32) w A0_2 l0_2.length l0_2) (hc0_2 : l0_2.length ≤ c0_2) (h : r2_Whole.f k a0_0 l0_1 l0_2 = some (r1, r2)) :
    Calls Try.prog 91 #[.agg #[.bool a0_0, .slice A0_1 l0_1.length c0_1, .slice A0_2 l0_2.length c0_2]] w fun e w' => ∃ v0_ : Value, e = .returned (.tuple #[v0_, .bool r2]) ∧ Kd.R (Kd.int .u32) 97 w' w.heap.size (fun _ => True) v0_ r1 ∧ Below w.heap.size w w' := by
 have hu60 := Try.underlying60
 have HR0_1 := Aside0.mk hr0_1
 have HC0_1 := Aside0.mk hc0_1
 clear hr0_1 hc0_1
 have HR0_2 := Aside0.mk hr0_2
 have HC0_2 := Aside0.mk hc0_2
 clear hr0_2 hc0_2
 have HB := Aside0.mk (Below.refl w.heap.size w)
 have H : ((r2_Trim.f k a0_0 l0_1 l0_2).bind fun bt102 => (if bt102.1 = true then (some (([] : List Int), false)) else ((r1_Same.f k bt102.2.2 (([1] : List Int))).bind fun t112 => (if t112 = true then (some (bt102.2.1, true)) else (some (([] : List Int), false)))))) = some (r1, r2) := h
 clear h
 replace H := zb H
 obtain ⟨⟨t102, t103, t106⟩, A2, H⟩ := H
 dsimp only at H
 by_cases c3 : t102 = true
 · subst c3
   rw [if_pos rfl] at H
   simp only [Option.some.injEq, Prod.mk.injEq] at H
   obtain ⟨rfl, rfl⟩ := H
   go_enter Try.func91, Try.ntmps91
   go_wp2_with (first | ((with_reducible refine gate_dst (N := 1) rfl ?_); (try (refine gate_guard (by rfl) ?_; dsimp only)); refine box_event ?hg (N := 1) ?hd (cs := #[.bool a0_0, .slice A0_1 l0_1.length c0_1, .slice A0_2 l0_2.length c0_2]) (t := 60) ?hr ?_; (case hd => rfl); (case hg => rfl); (case hr => first | (go_simp; done) | (go_simp; rfl)); intro gb101 hg w4 hbox hb; have BK101 := Aside0.mk (hbox); have GW101 := yg hg HB; have GE101 := yg hg HB; replace HB := yS HB hb; clear hb hbox hg; obtain ⟨hcz5_0, hcz5_1, hcz5_2, hfz5_0, hfz5_1, hfz5_2⟩ := zz3 BK101) | ((with_reducible refine gC 99 ?_); refine zG (some 5) Try.func99 #[.agg #[.bool a0_0, .slice A0_1 l0_1.length c0_1, .slice A0_2 l0_2.length c0_2]] ?_; (with_reducible refine (r2_Trim.calls k a0_0 _ _ l0_1 _ _ l0_2 true t103 t106 _ ?side1 ?side2 ?side3 ?side4 A2.out).mono ?_); (case side1 => exact zC (Kd.C_below HR0_1.out HB.out)); (case side2 => exact HC0_1.out); (case side3 => exact zC (Kd.C_below HR0_2.out HB.out)); (case side4 => exact HC0_2.out); rintro e w6 ⟨v104, v107, rfl, ho0, ho1, hb⟩; refine ⟨_, rfl, ?_⟩; have HO105 := yRl1 ho0 HB GE101; have HO108 := yRl1 ho1 HB GE101; replace BK101 := yK BK101 hb; replace HB := yS1 HB GE101 hb; (try clear hb ho0); (try clear ho1); obtain ⟨hcz7_0, hcz7_1, hcz7_2, hfz7_0, hfz7_1, hfz7_2⟩ := zz3 BK101; obtain ⟨Ao8, co8, rfl⟩ := Kd.R_slice HO105.out; obtain ⟨Ao9, co9, rfl⟩ := Kd.R_slice HO108.out))
   go_ret2
   exact ⟨_, zE, z0, zB1 HB.out GE101.out⟩
 replace c3 := Bool.eq_false_iff.mpr c3
 subst c3
 rw [if_neg Bool.false_ne_true] at H
 obtain ⟨y109, hy109⟩ : ∃ y_ : List Int, y_ = (([1] : List Int)) := ⟨_, rfl⟩
 replace H : ((r1_Same.f k t106 y109).bind fun t112 => (if t112 = true then (some (t103, true)) else (some (([] : List Int), false)))) = some (r1, r2) := zY hy109 H
 have Ny109 := Aside0.mk hy109
 clear hy109
 replace H := zb H
 obtain ⟨t112, A10, H⟩ := H
 by_cases c11 : t112 = true
 · subst c11
   rw [if_pos rfl] at H
   simp only [Option.some.injEq, Prod.mk.injEq] at H
   obtain ⟨rfl, rfl⟩ := H
   go_enter Try.func91, Try.ntmps91
   go_wp2_with (first | ((with_reducible refine gate_dst (N := 1) rfl ?_); (try (refine gate_guard (by rfl) ?_; dsimp only)); refine box_event ?hg (N := 1) ?hd (cs := #[.bool a0_0, .slice A0_1 l0_1.length c0_1, .slice A0_2 l0_2.length c0_2]) (t := 60) ?hr ?_; (case hd => rfl); (case hg => rfl); (case hr => first | (go_simp; done) | (go_simp; rfl)); intro gb101 hg w12 hbox hb; have BK101 := Aside0.mk (hbox); have GW101 := yg hg HB; have GE101 := yg hg HB; replace HB := yS HB hb; clear hb hbox hg; obtain ⟨hcz13_0, hcz13_1, hcz13_2, hfz13_0, hfz13_1, hfz13_2⟩ := zz3 BK101) | ((with_reducible refine gC 99 ?_); refine zG (some 5) Try.func99 #[.agg #[.bool a0_0, .slice A0_1 l0_1.length c0_1, .slice A0_2 l0_2.length c0_2]] ?_; (with_reducible refine (r2_Trim.calls k a0_0 _ _ l0_1 _ _ l0_2 false t103 t106 _ ?side1 ?side2 ?side3 ?side4 A2.out).mono ?_); (case side1 => exact zC (Kd.C_below HR0_1.out HB.out)); (case side2 => exact HC0_1.out); (case side3 => exact zC (Kd.C_below HR0_2.out HB.out)); (case side4 => exact HC0_2.out); rintro e w14 ⟨v104, v107, rfl, ho0, ho1, hb⟩; refine ⟨_, rfl, ?_⟩; have HO105 := yRl1 ho0 HB GE101; have HO108 := yRl1 ho1 HB GE101; replace BK101 := yK BK101 hb; replace HB := yS1 HB GE101 hb; (try clear hb ho0); (try clear ho1); obtain ⟨hcz15_0, hcz15_1, hcz15_2, hfz15_0, hfz15_1, hfz15_2⟩ := zz3 BK101; obtain ⟨Ao16, co16, rfl⟩ := Kd.R_slice HO105.out; obtain ⟨Ao17, co17, rfl⟩ := Kd.R_slice HO108.out) | ((with_reducible refine gate_dst (N := 11) rfl ?_); (try (refine gate_guard (by rfl) ?_; dsimp only)); refine Kd.R_lit (Kd.int .u32) _ 97 ?hg (N := 11) ?hd (xs := ([1] : List Int)) (inner := [.int .u32 1]) (ok := fun _ => True) (okp := fun _ => True) ?hr ?hp (fun _ hk => hk) trivial (Below.refl _ _) (Nat.le_refl _) (by simp) ?_; (case hd => rfl); (case hg => rfl); (case hr => first | (go_simp; done) | (go_simp; rfl)); (case hp => exact (Reps.one (show Kd.M (Kd.int .u32) _ _ _ 1 [.int .u32 1] from rfl) (Reps.none _ _))); intro v110 w18 ho19 hb hg_ hnew_; clear hg_ hnew_; (first | rw [← Ny109.out] at ho19 | (simp only [Int.reduceToNat] at ho19; rw [← Ny109.out] at ho19)); replace ho19 := ynf ho19 HO105 BK101; replace ho19 := ynf ho19 HO108 BK101; have HO111 := yRl1 ho19 HB GE101; replace HO105 := yRef HO105 BK101 ho19 hb; replace HO108 := yRef HO108 BK101 ho19 hb; replace BK101 := yP3 BK101 hb; replace HB := yS1 HB GE101 hb; clear hb ho19; obtain ⟨Ao20, co20, rfl⟩ := Kd.R_slice HO111.out) | (go_at_call 25; (with_reducible refine (r1_Same.calls k _ _ t106 _ _ y109 true _ ?side1 ?side2 ?side3 ?side4 A10.out).mono ?_); (case side1 => exact zC (Kd.R_reads' HO108.out).2.2); (case side2 => exact (Kd.R_reads' HO108.out).2.1); (case side3 => exact zC (Kd.R_reads' HO111.out).2.2); (case side4 => exact (Kd.R_reads' HO111.out).2.1); rintro e w' ⟨rfl, ⟨nd, rfl⟩⟩; obtain ⟨hcz21_0, hcz21_1, hcz21_2, hfz21_0, hfz21_1, hfz21_2⟩ := zz3 BK101))
   go_ret2
   exact ⟨_, zE, by (with_reducible repeat (first | apply Kd.R_alloc | apply Kd.R_drewN | apply Kd.R_drew)); exact Kd.R_mono HO105.out (fun _ hk => trivial), zB1 HB.out GE101.out⟩
 replace c11 := Bool.eq_false_iff.mpr c11
 subst c11
 rw [if_neg Bool.false_ne_true] at H
 simp only [Option.some.injEq, Prod.mk.injEq] at H
 obtain ⟨rfl, rfl⟩ := H
 go_enter Try.func91, Try.ntmps91
 go_wp2_with (first | ((with_reducible refine gate_dst (N := 1) rfl ?_); (try (refine gate_guard (by rfl) ?_; dsimp only)); refine box_event ?hg (N := 1) ?hd (cs := #[.bool a0_0, .slice A0_1 l0_1.length c0_1, .slice A0_2 l0_2.length c0_2]) (t := 60) ?hr ?_; (case hd => rfl); (case hg => rfl); (case hr => first | (go_simp; done) | (go_simp; rfl)); intro gb101 hg w22 hbox hb; have BK101 := Aside0.mk (hbox); have GW101 := yg hg HB; have GE101 := yg hg HB; replace HB := yS HB hb; clear hb hbox hg; obtain ⟨hcz23_0, hcz23_1, hcz23_2, hfz23_0, hfz23_1, hfz23_2⟩ := zz3 BK101) | ((with_reducible refine gC 99 ?_); refine zG (some 5) Try.func99 #[.agg #[.bool a0_0, .slice A0_1 l0_1.length c0_1, .slice A0_2 l0_2.length c0_2]] ?_; (with_reducible refine (r2_Trim.calls k a0_0 _ _ l0_1 _ _ l0_2 false t103 t106 _ ?side1 ?side2 ?side3 ?side4 A2.out).mono ?_); (case side1 => exact zC (Kd.C_below HR0_1.out HB.out)); (case side2 => exact HC0_1.out); (case side3 => exact zC (Kd.C_below HR0_2.out HB.out)); (case side4 => exact HC0_2.out); rintro e w24 ⟨v104, v107, rfl, ho0, ho1, hb⟩; refine ⟨_, rfl, ?_⟩; have HO105 := yRl1 ho0 HB GE101; have HO108 := yRl1 ho1 HB GE101; replace BK101 := yK BK101 hb; replace HB := yS1 HB GE101 hb; (try clear hb ho0); (try clear ho1); obtain ⟨hcz25_0, hcz25_1, hcz25_2, hfz25_0, hfz25_1, hfz25_2⟩ := zz3 BK101; obtain ⟨Ao26, co26, rfl⟩ := Kd.R_slice HO105.out; obtain ⟨Ao27, co27, rfl⟩ := Kd.R_slice HO108.out) | ((with_reducible refine gate_dst (N := 11) rfl ?_); (try (refine gate_guard (by rfl) ?_; dsimp only)); refine Kd.R_lit (Kd.int .u32) _ 97 ?hg (N := 11) ?hd (xs := ([1] : List Int)) (inner := [.int .u32 1]) (ok := fun _ => True) (okp := fun _ => True) ?hr ?hp (fun _ hk => hk) trivial (Below.refl _ _) (Nat.le_refl _) (by simp) ?_; (case hd => rfl); (case hg => rfl); (case hr => first | (go_simp; done) | (go_simp; rfl)); (case hp => exact (Reps.one (show Kd.M (Kd.int .u32) _ _ _ 1 [.int .u32 1] from rfl) (Reps.none _ _))); intro v110 w28 ho29 hb hg_ hnew_; clear hg_ hnew_; (first | rw [← Ny109.out] at ho29 | (simp only [Int.reduceToNat] at ho29; rw [← Ny109.out] at ho29)); replace ho29 := ynf ho29 HO105 BK101; replace ho29 := ynf ho29 HO108 BK101; have HO111 := yRl1 ho29 HB GE101; replace HO105 := yRef HO105 BK101 ho29 hb; replace HO108 := yRef HO108 BK101 ho29 hb; replace BK101 := yP3 BK101 hb; replace HB := yS1 HB GE101 hb; clear hb ho29; obtain ⟨Ao30, co30, rfl⟩ := Kd.R_slice HO111.out) | (go_at_call 25; (with_reducible refine (r1_Same.calls k _ _ t106 _ _ y109 false _ ?side1 ?side2 ?side3 ?side4 A10.out).mono ?_); (case side1 => exact zC (Kd.R_reads' HO108.out).2.2); (case side2 => exact (Kd.R_reads' HO108.out).2.1); (case side3 => exact zC (Kd.R_reads' HO111.out).2.2); (case side4 => exact (Kd.R_reads' HO111.out).2.1); rintro e w' ⟨rfl, ⟨nd, rfl⟩⟩))
 go_ret2
 exact ⟨_, zE, z0, zB1 HB.out GE101.out⟩
set_option maxHeartbeats 8000000 in
set_option maxRecDepth 100000 in
theorem r24_Dual.calls (k : Nat) (a0 : Int) (A1 : Option Addr) (c1 : Nat) (l1 : List (List Int)) (r1 : List (List Int)) (r2 : Int) (w : World) (hr1 : Kd.C (Kd.slice 97 (Kd.int .u32)) w A1 l1.length l1) (hc1 : l1.length ≤ c1) (h : r24_Dual.f k a0 l1 = some (r1, r2)) :
    Calls Try.prog 39 #[.int .i64 a0, .slice A1 l1.length c1] w fun e w' => ∃ v0_ : Value, e = .returned (.tuple #[v0_, .int .i64 r2]) ∧ Kd.S (Kd.slice 97 (Kd.int .u32)) 29 w' w.heap.size (fun _ => True) v0_ r1 ∧ Below w.heap.size w w' := by
 have hu60 := Try.underlying60
 have HR1 := Aside0.mk hr1
 have HC1 := Aside0.mk hc1
 clear hr1 hc1
 have HB := Aside0.mk (Below.refl w.heap.size w)
 have H : ((r24_Order.f a0).bind fun t101 => (if t101 = 0 then ((r24_Shape.f (l1.length : Int)).bind fun t102 => (if t102 = 0 then ((r24_Total.f k l1).bind fun t103 => ((r1_Zero.f k t103).bind fun t106 => (if t106 = true then (some (([] : List (List Int)), 7)) else (r24_Dual.l0 k a0 l1 t103 ([] : List (S60)) 0)))) else (some (([] : List (List Int)), 3)))) else (some (([] : List (List Int)), 6)))) = some (r1, r2) := h
 clear h
 replace H := zb H
 obtain ⟨t101, A3, H⟩ := H
 replace H := zi H
 rcases H with ⟨c4, H⟩ | ⟨c4, H⟩
 · have c4b0 := beq_iff_eq.mpr c4
   have c4b1 := bne_eq_false_iff_eq.mpr c4
   clear c4
   replace H := zb H
   obtain ⟨t102, A5, H⟩ := H
   replace H := zi H
   rcases H with ⟨c6, H⟩ | ⟨c6, H⟩
   · have c6b0 := beq_iff_eq.mpr c6
     have c6b1 := bne_eq_false_iff_eq.mpr c6
     clear c6
     replace H := zb H
     obtain ⟨t103, A7, H⟩ := H
     replace H := zb H
     obtain ⟨t106, A8, H⟩ := H
     by_cases c9 : t106 = true
     · subst c9
       rw [if_pos rfl] at H
       simp only [Option.some.injEq, Prod.mk.injEq] at H
       obtain ⟨rfl, rfl⟩ := H
       go_enter Try.func39, Try.ntmps39
       go_wp2_with (first | ((with_reducible refine gC 43 ?_); refine zG (some 15) Try.func43 #[.int .i64 a0] ?_; (with_reducible refine (r24_Order.calls a0 t101 _ A3.out).mono ?_); rintro e w' ⟨rfl, ⟨nd, rfl⟩⟩; refine ⟨_, rfl, ?_⟩) | ((with_reducible refine gC 35 ?_); refine zG (some 19) Try.func35 #[.int .i64 (l1.length : Int)] ?_; (with_reducible refine (r24_Shape.calls (l1.length : Int) t102 _ A5.out).mono ?_); rintro e w' ⟨rfl, ⟨nd, rfl⟩⟩; refine ⟨_, rfl, ?_⟩) | ((with_reducible refine gC 89 ?_); refine zG (some 22) Try.func89 #[.slice A1 l1.length c1] ?_; (with_reducible refine (r24_Total.calls k _ _ l1 t103 _ ?side1 ?side2 A7.out).mono ?_); (case side1 => exact zC HR1.out); (case side2 => exact HC1.out); rintro e w10 ⟨v104, rfl, ho0, hb⟩; refine ⟨_, rfl, ?_⟩; have HO105 := yRl ho0 HB; replace HB := yS HB hb; (try clear hb ho0); obtain ⟨Ao11, co11, rfl⟩ := Kd.R_slice HO105.out) | ((with_reducible refine gC 27 ?_); refine zG (some 24) Try.func27 #[.slice Ao11 t103.length co11] ?_; (with_reducible refine (r1_Zero.calls k _ _ t103 true _ ?side1 ?side2 A8.out).mono ?_); (case side1 => exact zC (Kd.R_reads' HO105.out).2.2); (case side2 => exact (Kd.R_reads' HO105.out).2.1); rintro e w12 ⟨rfl, hb⟩; refine ⟨_, rfl, ?_⟩; replace HO105 := yRb HO105 hb; replace HB := yS HB hb; (try clear hb); (try clear hb2); (try clear hk); (try clear hi)))
       go_ret2
       exact ⟨_, zE, by first | exact Kd.S_nil _ _ _ _ _ | exact Kd.N_nil _ _ _ _ _ | exact Kd.V_nil _ _ _ _ _ | exact Kd.Q_nil _ _ _ _ _ | exact Kd.R_nil _ _ _ _ _, zB HB.out⟩
     replace c9 := Bool.eq_false_iff.mpr c9
     subst c9
     rw [if_neg Bool.false_ne_true] at H
     have H' := Aside0.mk H
     clear H
     go_enter Try.func39, Try.ntmps39
     go_wp2_with (first | ((with_reducible refine gC 43 ?_); refine zG (some 15) Try.func43 #[.int .i64 a0] ?_; (with_reducible refine (r24_Order.calls a0 t101 _ A3.out).mono ?_); rintro e w' ⟨rfl, ⟨nd, rfl⟩⟩; refine ⟨_, rfl, ?_⟩) | ((with_reducible refine gC 35 ?_); refine zG (some 19) Try.func35 #[.int .i64 (l1.length : Int)] ?_; (with_reducible refine (r24_Shape.calls (l1.length : Int) t102 _ A5.out).mono ?_); rintro e w' ⟨rfl, ⟨nd, rfl⟩⟩; refine ⟨_, rfl, ?_⟩) | ((with_reducible refine gC 89 ?_); refine zG (some 22) Try.func89 #[.slice A1 l1.length c1] ?_; (with_reducible refine (r24_Total.calls k _ _ l1 t103 _ ?side1 ?side2 A7.out).mono ?_); (case side1 => exact zC HR1.out); (case side2 => exact HC1.out); rintro e w13 ⟨v104, rfl, ho0, hb⟩; refine ⟨_, rfl, ?_⟩; have HO105 := yRl ho0 HB; replace HB := yS HB hb; (try clear hb ho0); obtain ⟨Ao14, co14, rfl⟩ := Kd.R_slice HO105.out) | ((with_reducible refine gC 27 ?_); refine zG (some 24) Try.func27 #[.slice Ao14 t103.length co14] ?_; (with_reducible refine (r1_Zero.calls k _ _ t103 false _ ?side1 ?side2 A8.out).mono ?_); (case side1 => exact zC (Kd.R_reads' HO105.out).2.2); (case side2 => exact (Kd.R_reads' HO105.out).2.1); rintro e w15 ⟨rfl, hb⟩; refine ⟨_, rfl, ?_⟩; replace HO105 := yRb HO105 hb; replace HB := yS HB hb; (try clear hb); (try clear hb2); (try clear hk); (try clear hi)))
     go_loopg [7, 8] k (fun kq v7 v8 w' => ∃ (x7_1 : List (S60)) (x8_1 : Int), v8 = .int .i64 x8_1 ∧ Aside0 (r24_Dual.l0 kq a0 l1 t103 x7_1 x8_1 = some (r1, r2)) ∧ Aside0 (kq ≤ k) ∧ Aside0 (Kd.R (Kd.int .u32) 97 w' w.heap.size (fun _ => True) (.slice Ao14 t103.length co14) t103) ∧ Aside0 (Kd.S k60 60 w' w.heap.size (fun k_ => some k_ ≠ ((.slice Ao14 t103.length co14) : Value).ownBlock) v7 x7_1) ∧ Aside0 (Below w.heap.size w w'))
     case atStart => exact ⟨(([] : List (S60))), (0), zF, H', ⟨Nat.le_refl _⟩, ⟨zR HO105.out⟩, ⟨by first | exact Kd.S_nil _ _ _ _ _ | exact Kd.N_nil _ _ _ _ _ | exact Kd.V_nil _ _ _ _ _ | exact Kd.Q_nil _ _ _ _ _ | exact Kd.R_nil _ _ _ _ _⟩, ⟨zB HB.out⟩⟩
     clear H'
     (try clear c4);(try clear c4b0);(try clear c4b1);(try clear c6);(try clear c6b0);(try clear c6b1);(try clear c9)
     obtain ⟨x7_1, x8_1, rfl, HA, HK1, HO_6, HO_7, HB⟩ := hrel
     cases gk with | zero => exact absurd HA.out (by simp [r24_Dual.l0]) | succ k1 => ?_
     have H := HA.out
     clear HA
     simp only [r24_Dual.l0] at H
     replace H := zid H
     rcases H with ⟨c16b0, H⟩ | ⟨c16b0, H⟩
     · replace H := zgd H
       obtain ⟨c17b0, H⟩ := H
       replace H := zb H
       obtain ⟨⟨t108, t109, t112⟩, A18, H⟩ := H
       dsimp only at H
       replace H := zg H
       obtain ⟨c19, H⟩ := H
       have LMc19 := Aside0.mk c19
       clear c19
       obtain ⟨y115, hy115⟩ : ∃ y_ : List (S60), y_ = (x7_1 ++ [(⟨t108, t109, t112⟩ : S60)]) := ⟨_, rfl⟩
       replace H : (r24_Dual.l0 k1 a0 l1 t103 y115 (wrap64 (x8_1 + 1))) = some (r1, r2) := zY hy115 H
       have Ny115 := Aside0.mk hy115
       clear hy115
       have H' := Aside0.mk H
       clear H
       have p107 : 0 ≤ (x8_1 : Int) := zd
       have q107 : x8_1 < (l1.length : Int) := zd
       obtain ⟨ad107, A107_0, c107_0, e107, hx107_0, hl107_0, hi107_0⟩ := at_L3 HR1.out x8_1 p107 q107
       cases e107
       replace hx107_0 := (HB.out.cell (World.block_lt_of_cell? w _ hx107_0)).trans hx107_0
       have HR107_0 := Aside0.mk hi107_0
       have HC107_0 := Aside0.mk hl107_0
       clear hi107_0 hl107_0
       replace p107 := eq_true p107
       replace q107 := eq_true q107
       go_wp2_with (first | ((with_reducible refine gC 90 ?_); refine zG (some 37) Try.func90 #[.bool false, .slice A107_0 (rd_L3 l1 x8_1).length c107_0, .slice Ao14 t103.length co14] ?_; (with_reducible refine (r2_Make.calls k1 false _ _ (rd_L3 l1 x8_1) _ _ t103 t108 t109 t112 _ ?side1 ?side2 ?side3 ?side4 A18.out).mono ?_); (case side1 => exact zC (Kd.C_below HR107_0.out HB.out)); (case side2 => exact HC107_0.out); (case side3 => exact zC (Kd.R_reads' HO_6.out).2.2); (case side4 => exact (Kd.R_reads' HO_6.out).2.1); rintro e w20 ⟨v110, v113, rfl, ho0, ho1, hb⟩; refine ⟨_, rfl, ?_⟩; replace HO_7 := Aside0.mk (Kd.S_mono (Kd.S_told (Kd.S_told (Kd.S_old (zS HO_7.out) hb) (Kd.R_base ho0)) (Kd.R_base ho1)) (fun _ h_ => h_.1)); replace ho0 := yn ho0 HO_6; have HO111 := yRl ho0 HB; replace ho1 := yn ho1 HO_6; have HO114 := yRl ho1 HB; replace HO_6 := yRt HO_6 hb ho0 ho1; replace HB := yS HB hb; (try clear hb ho0); (try clear ho1); obtain ⟨Ao22, co22, rfl⟩ := Kd.R_slice HO111.out; obtain ⟨Ao23, co23, rfl⟩ := Kd.R_slice HO114.out) | ((with_reducible refine gate_builtin (b := .append) (xs := #[.tmp 31, .tmp 38]) rfl ?_); at_builtin; refine Kd.S_append k60 (w0 := w) w.heap.size rfl (.tmp 31) (.tmp 38) 83 60 (.agg #[(.bool false), (.slice none 0 0), (.slice none 0 0)]) 56 rfl Try.underlying83 info60 rfl (by decide) (by omega) u7 x7_1 (⟨t108, t109, t112⟩ : S60) [.bool t108, .slice Ao22 t109.length co22, .slice Ao23 t112.length co23] (fun k_ => some k_ ≠ (.slice Ao14 t103.length co14 : Value).ownBlock) (fun k_ => some k_ = (.slice Ao22 t109.length co22 : Value).ownBlock ∨ some k_ = (.slice Ao23 t112.length co23 : Value).ownBlock) rfl rfl ?aP (fun k_ hk_ => hk_.elim (fun h_ => ((Kd.R_mono (ok' := fun k_ => ((fun k_ => some k_ ≠ (.slice Ao14 t103.length co14 : Value).ownBlock)) k_ ∧ some k_ ≠ (u7 : Value).ownBlock) (Kd.R_apart' (HO111.out) (Kd.S_typed HO_7.out) (by decide)) (fun k_ hk => ⟨hk.1.2, hk.2⟩))).1 k_ h_.symm) (fun h_ => ((Kd.R_mono (ok' := fun k_ => ((fun k_ => some k_ ≠ (.slice Ao14 t103.length co14 : Value).ownBlock)) k_ ∧ some k_ ≠ (u7 : Value).ownBlock) (Kd.R_apart' (HO114.out) (Kd.S_typed HO_7.out) (by decide)) (fun k_ hk => ⟨hk.1.2, hk.2⟩))).1 k_ h_.symm)) ?aF ?aO ?aB ?aS ?aL ?_; (case aP => exact k60_mkM _ _ _ (⟨t108, t109, t112⟩ : S60) (Kd.R_mono (Kd.R_tight rfl (Kd.R_mono (ok' := fun k_ => ((fun k_ => some k_ ≠ (.slice Ao14 t103.length co14 : Value).ownBlock)) k_ ∧ some k_ ≠ (u7 : Value).ownBlock) (Kd.R_apart' (HO111.out) (Kd.S_typed HO_7.out) (by decide)) (fun k_ hk => ⟨hk.1.2, hk.2⟩))) (fun _ h_ => Or.inl h_)) (Kd.R_mono (Kd.R_tight rfl (Kd.R_mono (ok' := fun k_ => ((fun k_ => some k_ ≠ (.slice Ao14 t103.length co14 : Value).ownBlock)) k_ ∧ some k_ ≠ (u7 : Value).ownBlock) (Kd.R_apart' (HO114.out) (Kd.S_typed HO_7.out) (by decide)) (fun k_ hk => ⟨hk.1.2, hk.2⟩))) (fun _ h_ => Or.inr (h_)))); (case aB => exact (zB HB.out)); (case aF => exact (fun k_ hk => Kd.fresh' (Kd.R_lt (zR HO_6.out)) k_ hk)); (case aO => exact (by (with_reducible repeat (first | apply Kd.S_alloc | apply Kd.S_drewN | apply Kd.S_drew)); exact Kd.S_mono HO_7.out (fun k_ hk => ⟨hk.1.1, fun e_ => e_.elim (fun h_ => hk.1.2 h_) (fun h_ => hk.2 h_)⟩))); (case aS => exact (below_size (zB HB.out))); (case aL => have := LMc19.out; omega); intro v116 w21 ho hb hg hat; rw [← Ny115.out] at ho; replace HO_6 := Aside0.mk (Kd.R_over' (zR HO_6.out) (Kd.S_typed (zS HO_7.out)) (by decide) hg); replace HB := Aside0.mk (hb); have HO117 := Aside0.mk (ho); clear HO_7 HO111 HO114; clear ho hb hg hat))
       go_roundg k1
       case measure => have := HK1.out; omega
       case rel => exact ⟨(y115), (wrap64 (x8_1 + 1)), zF, H', ⟨zo1 HK1⟩, ⟨by (with_reducible repeat (first | apply Kd.R_alloc | apply Kd.R_drewN | apply Kd.R_drew)); exact Kd.R_mono HO_6.out (fun _ hk => trivial)⟩, ⟨zS HO117.out⟩, ⟨zB HB.out⟩⟩
     replace H := zb H
     obtain ⟨t118, A24, H⟩ := H
     have H' := Aside0.mk H
     clear H
     obtain ⟨Ao25, co25, rfl⟩ := Kd.S_slice HO_7.out
     go_wp2_with (first | ((with_reducible refine gC 66 ?_); refine zG (some 42) Try.func66 #[.int .i64 a0, .slice Ao25 x7_1.length co25] ?_; (with_reducible refine (r24_Transform.calls k1 a0 _ _ x7_1 t118 _ ?side1 ?side2 A24.out).mono ?_); (case side1 => exact zC (Kd.S_reads' HO_7.out).2.2); (case side2 => exact (Kd.S_reads' HO_7.out).2.1); rintro e w26 ⟨v119, rfl, ho0, hb⟩; refine ⟨_, rfl, ?_⟩; have HO120 := Aside0.mk (Kd.S_lower (Kd.S_new' (Kd.S_new' ho0 (Kd.R_lt (zR HO_6.out))) (Kd.S_lt (zS HO_7.out))) (below_size (zB HB.out))); replace HO_6 := yRb HO_6 hb; replace HO_7 := Aside0.mk (Kd.S_elder' (zS HO_7.out) (Kd.S_base ho0) hb); replace HB := yS HB hb; (try clear hb ho0)))
     go_loopg [10, 11] k1 (fun kq v10 v11 w' => ∃ (x10_2 : List (List Int)) (x11_2 : Int), v11 = .int .i64 x11_2 ∧ Aside0 (r24_Dual.l1 kq t118 x10_2 x11_2 = some (r1, r2)) ∧ Aside0 (kq ≤ k1) ∧ Aside0 (Kd.S k60 60 w' w.heap.size (fun _ => True) v119 t118) ∧ Aside0 (Kd.S (Kd.slice 97 (Kd.int .u32)) 29 w' w.heap.size (fun _ => True) v10 x10_2) ∧ Aside0 (Below w.heap.size w w'))
     case atStart => exact ⟨(([] : List (List Int))), (0), zF, H', ⟨Nat.le_refl _⟩, ⟨by (with_reducible repeat (first | apply Kd.S_alloc | apply Kd.S_drewN | apply Kd.S_drew)); exact Kd.S_mono HO120.out (fun _ hk => trivial)⟩, ⟨by first | exact Kd.S_nil _ _ _ _ _ | exact Kd.N_nil _ _ _ _ _ | exact Kd.V_nil _ _ _ _ _ | exact Kd.Q_nil _ _ _ _ _ | exact Kd.R_nil _ _ _ _ _⟩, ⟨zB HB.out⟩⟩
     clear H'
     (try clear c4);(try clear c4b0);(try clear c4b1);(try clear c6);(try clear c6b0);(try clear c6b1);(try clear c9);(try clear c16b0);(try clear c17b0);(try clear c19);(try clear hx107_0);(try clear p107);(try clear q107)
     obtain ⟨x10_2, x11_2, rfl, HA, HK2, HO_9, HO_10, HB⟩ := hrel
     cases gk with | zero => exact absurd HA.out (by simp [r24_Dual.l1]) | succ k2 => ?_
     have H := HA.out
     clear HA
     simp only [r24_Dual.l1] at H
     replace H := zid H
     rcases H with ⟨c27b0, H⟩ | ⟨c27b0, H⟩
     · replace H := zgd H
       obtain ⟨c28b0, H⟩ := H
       replace H := zb H
       obtain ⟨⟨t122, t125⟩, A29, H⟩ := H
       dsimp only at H
       by_cases c30 : t125 = true
       · subst c30
         rw [if_pos rfl] at H
         replace H := zg H
         obtain ⟨c31, H⟩ := H
         have LMc31 := Aside0.mk c31
         clear c31
         obtain ⟨y126, hy126⟩ : ∃ y_ : List (List Int), y_ = (x10_2 ++ [t122]) := ⟨_, rfl⟩
         replace H : (r24_Dual.l1 k2 t118 y126 (wrap64 (x11_2 + 1))) = some (r1, r2) := zY hy126 H
         have Ny126 := Aside0.mk hy126
         clear hy126
         have H' := Aside0.mk H
         clear H
         obtain ⟨Ao32, co32, rfl⟩ := Kd.S_slice HO_9.out
         have p121 : 0 ≤ (x11_2 : Int) := zd
         have q121 : x11_2 < (t118.length : Int) := zd
         obtain ⟨ad121, A121_1, c121_1, A121_2, c121_2, e121, hx121_0, hx121_1, hx121_2, hl121_1, hi121_1, hl121_2, hi121_2⟩ := at_T60 (Kd.S_reads' HO_9.out).2.2 x11_2 p121 q121
         cases e121
         obtain ⟨ce121, hce121, hMe121, hcc121⟩ := Kd.S_get HO_9.out z60 x11_2 p121 (by first | exact q121 | exact zd | (have e_ := (Kd.S_reads' HO_9.out).1; omega))
         obtain ⟨ve121_1, ve121_2, rfl, ge121_1, ge121_2⟩ := k60_openM hMe121
         have hv121_1 := hcc121 1 _ rfl
         rw [add_field _ _ 1 (by omega)] at hv121_1
         replace hv121_1 := Option.some.inj (hv121_1.symm.trans hx121_1)
         rw [hv121_1] at ge121_1
         have HL121_1 := Aside0.mk (show Kd.R (Kd.int .u32) 97 _ _ _ _ ((rd_T60 t118 x11_2).f1) from ge121_1)
         clear hv121_1 ge121_1
         have hv121_2 := hcc121 2 _ rfl
         rw [add_field _ _ 2 (by omega)] at hv121_2
         replace hv121_2 := Option.some.inj (hv121_2.symm.trans hx121_2)
         rw [hv121_2] at ge121_2
         have HL121_2 := Aside0.mk (show Kd.R (Kd.int .u32) 97 _ _ _ _ ((rd_T60 t118 x11_2).f2) from ge121_2)
         clear hv121_2 ge121_2
         clear hcc121 hce121
         have HR121_1 := Aside0.mk hi121_1
         have HC121_1 := Aside0.mk hl121_1
         clear hi121_1 hl121_1
         have HR121_2 := Aside0.mk hi121_2
         have HC121_2 := Aside0.mk hl121_2
         clear hi121_2 hl121_2
         replace p121 := eq_true p121
         replace q121 := eq_true q121
         go_wp2_with (first | ((with_reducible refine gC 91 ?_); refine zG (some 54) Try.func91 #[.agg #[.bool ((rd_T60 t118 x11_2).f0), .slice A121_1 ((rd_T60 t118 x11_2).f1).length c121_1, .slice A121_2 ((rd_T60 t118 x11_2).f2).length c121_2]] ?_; (with_reducible refine (r2_Whole.calls k2 ((rd_T60 t118 x11_2).f0) _ _ ((rd_T60 t118 x11_2).f1) _ _ ((rd_T60 t118 x11_2).f2) t122 true _ ?side1 ?side2 ?side3 ?side4 A29.out).mono ?_); (case side1 => repeat (first | exact (zCr HR121_1.out) | (with_reducible refine Kd.C_alloc ?_ _) | (with_reducible refine Kd.C_drewN ?_ _) | (with_reducible refine Kd.C_drew ?_))); (case side2 => exact HC121_1.out); (case side3 => repeat (first | exact (zCr HR121_2.out) | (with_reducible refine Kd.C_alloc ?_ _) | (with_reducible refine Kd.C_drewN ?_ _) | (with_reducible refine Kd.C_drew ?_))); (case side4 => exact HC121_2.out); rintro e w33 ⟨v123, rfl, ho0, hb⟩; refine ⟨_, rfl, ?_⟩; replace HO_9 := Aside0.mk (Kd.S_elder' (zS HO_9.out) (Kd.R_base ho0) hb); replace HO_10 := Aside0.mk (Kd.S_elder' (zS HO_10.out) (Kd.R_base ho0) hb); replace ho0 := yn ho0 HL121_1; replace ho0 := yn ho0 HL121_2; have HO124 := yRl ho0 HB; replace HL121_1 := yRe HL121_1 ho0 hb; replace HL121_2 := yRe HL121_2 ho0 hb; (try replace HR121_1 := yCb HR121_1 hb); (try replace HR121_2 := yCb HR121_2 hb); replace HB := yS HB hb; (try clear hb ho0); obtain ⟨Ao35, co35, rfl⟩ := Kd.R_slice HO124.out) | ((with_reducible refine gate_builtin (b := .append) (xs := #[.tmp 59, .tmp 61]) rfl ?_); at_builtin; refine Kd.S_append (Kd.slice 97 (Kd.int .u32)) (w0 := w) w.heap.size rfl (.tmp 59) (.tmp 61) 33 29 (.slice none 0 0) 24 rfl Try.underlying33 info29 rfl (by decide) (by omega) u10 x10_2 t122 [.slice Ao35 t122.length co35] (fun _ => True) (fun k_ => some k_ = (.slice Ao35 t122.length co35 : Value).ownBlock) rfl rfl ?aP (fun k_ hk_ => ((Kd.R_mono (ok' := fun k_ => ((fun _ => True)) k_ ∧ some k_ ≠ (u10 : Value).ownBlock) (Kd.R_apart' (HO124.out) (Kd.S_typed HO_10.out) (by decide)) (fun k_ hk => ⟨trivial, hk.2⟩))).1 k_ hk_.symm) ?aF ?aO ?aB ?aS ?aL ?_; (case aP => exact Kd.M_row (Kd.R_mono (Kd.R_tight rfl (Kd.R_mono (ok' := fun k_ => ((fun _ => True)) k_ ∧ some k_ ≠ (u10 : Value).ownBlock) (Kd.R_apart' (HO124.out) (Kd.S_typed HO_10.out) (by decide)) (fun k_ hk => ⟨trivial, hk.2⟩))) (fun _ h_ => h_))); (case aB => exact (zB HB.out)); (case aF => exact (fun _ _ => trivial)); (case aO => exact (by (with_reducible repeat (first | apply Kd.S_alloc | apply Kd.S_drewN | apply Kd.S_drew)); exact Kd.S_mono HO_10.out (fun k_ hk => ⟨trivial, fun e_ => hk.2 e_⟩))); (case aS => exact (below_size (zB HB.out))); (case aL => have := LMc31.out; omega); intro v127 w34 ho hb hg hat; rw [← Ny126.out] at ho; replace HO_9 := Aside0.mk (Kd.S_over' (zS HO_9.out) (Kd.S_typed (zS HO_10.out)) (by decide) hg); replace HL121_1 := Aside0.mk (Kd.R_over' (zR HL121_1.out) (Kd.S_typed (zS HO_10.out)) (by decide) hg); replace HL121_2 := Aside0.mk (Kd.R_over' (zR HL121_2.out) (Kd.S_typed (zS HO_10.out)) (by decide) hg); replace HB := Aside0.mk (hb); have HO128 := Aside0.mk (ho); clear HO_10 HO124; clear ho hb hg hat))
         go_roundg k2
         case measure => have := HK1.out; have := HK2.out; omega
         case rel => exact ⟨(y126), (wrap64 (x11_2 + 1)), zF, H', ⟨zo2 HK1 HK2⟩, ⟨by (with_reducible repeat (first | apply Kd.S_alloc | apply Kd.S_drewN | apply Kd.S_drew)); exact Kd.S_mono HO_9.out (fun _ hk => trivial)⟩, ⟨zS HO128.out⟩, ⟨zB HB.out⟩⟩
       replace c30 := Bool.eq_false_iff.mpr c30
       subst c30
       rw [if_neg Bool.false_ne_true] at H
       simp only [Option.some.injEq, Prod.mk.injEq] at H
       obtain ⟨rfl, rfl⟩ := H
       obtain ⟨Ao36, co36, rfl⟩ := Kd.S_slice HO_9.out
       have p121 : 0 ≤ (x11_2 : Int) := zd
       have q121 : x11_2 < (t118.length : Int) := zd
       obtain ⟨ad121, A121_1, c121_1, A121_2, c121_2, e121, hx121_0, hx121_1, hx121_2, hl121_1, hi121_1, hl121_2, hi121_2⟩ := at_T60 (Kd.S_reads' HO_9.out).2.2 x11_2 p121 q121
       cases e121
       obtain ⟨ce121, hce121, hMe121, hcc121⟩ := Kd.S_get HO_9.out z60 x11_2 p121 (by first | exact q121 | exact zd | (have e_ := (Kd.S_reads' HO_9.out).1; omega))
       obtain ⟨ve121_1, ve121_2, rfl, ge121_1, ge121_2⟩ := k60_openM hMe121
       have hv121_1 := hcc121 1 _ rfl
       rw [add_field _ _ 1 (by omega)] at hv121_1
       replace hv121_1 := Option.some.inj (hv121_1.symm.trans hx121_1)
       rw [hv121_1] at ge121_1
       have HL121_1 := Aside0.mk (show Kd.R (Kd.int .u32) 97 _ _ _ _ ((rd_T60 t118 x11_2).f1) from ge121_1)
       clear hv121_1 ge121_1
       have hv121_2 := hcc121 2 _ rfl
       rw [add_field _ _ 2 (by omega)] at hv121_2
       replace hv121_2 := Option.some.inj (hv121_2.symm.trans hx121_2)
       rw [hv121_2] at ge121_2
       have HL121_2 := Aside0.mk (show Kd.R (Kd.int .u32) 97 _ _ _ _ ((rd_T60 t118 x11_2).f2) from ge121_2)
       clear hv121_2 ge121_2
       clear hcc121 hce121
       have HR121_1 := Aside0.mk hi121_1
       have HC121_1 := Aside0.mk hl121_1
       clear hi121_1 hl121_1
       have HR121_2 := Aside0.mk hi121_2
       have HC121_2 := Aside0.mk hl121_2
       clear hi121_2 hl121_2
       replace p121 := eq_true p121
       replace q121 := eq_true q121
       go_wp2_with (first | ((with_reducible refine gC 91 ?_); refine zG (some 54) Try.func91 #[.agg #[.bool ((rd_T60 t118 x11_2).f0), .slice A121_1 ((rd_T60 t118 x11_2).f1).length c121_1, .slice A121_2 ((rd_T60 t118 x11_2).f2).length c121_2]] ?_; (with_reducible refine (r2_Whole.calls k2 ((rd_T60 t118 x11_2).f0) _ _ ((rd_T60 t118 x11_2).f1) _ _ ((rd_T60 t118 x11_2).f2) t122 false _ ?side1 ?side2 ?side3 ?side4 A29.out).mono ?_); (case side1 => repeat (first | exact (zCr HR121_1.out) | (with_reducible refine Kd.C_alloc ?_ _) | (with_reducible refine Kd.C_drewN ?_ _) | (with_reducible refine Kd.C_drew ?_))); (case side2 => exact HC121_1.out); (case side3 => repeat (first | exact (zCr HR121_2.out) | (with_reducible refine Kd.C_alloc ?_ _) | (with_reducible refine Kd.C_drewN ?_ _) | (with_reducible refine Kd.C_drew ?_))); (case side4 => exact HC121_2.out); rintro e w37 ⟨v123, rfl, ho0, hb⟩; refine ⟨_, rfl, ?_⟩; replace HO_9 := Aside0.mk (Kd.S_elder' (zS HO_9.out) (Kd.R_base ho0) hb); replace HO_10 := Aside0.mk (Kd.S_elder' (zS HO_10.out) (Kd.R_base ho0) hb); replace ho0 := yn ho0 HL121_1; replace ho0 := yn ho0 HL121_2; have HO124 := yRl ho0 HB; replace HL121_1 := yRe HL121_1 ho0 hb; replace HL121_2 := yRe HL121_2 ho0 hb; (try replace HR121_1 := yCb HR121_1 hb); (try replace HR121_2 := yCb HR121_2 hb); replace HB := yS HB hb; (try clear hb ho0)))
       go_ret2
       exact ⟨_, zE, by first | exact Kd.S_nil _ _ _ _ _ | exact Kd.N_nil _ _ _ _ _ | exact Kd.V_nil _ _ _ _ _ | exact Kd.Q_nil _ _ _ _ _ | exact Kd.R_nil _ _ _ _ _, zB HB.out⟩
     simp only [Option.some.injEq, Prod.mk.injEq] at H
     obtain ⟨rfl, rfl⟩ := H
     obtain ⟨Ao38, co38, rfl⟩ := Kd.S_slice HO_9.out
     go_wp2
     go_ret2
     exact ⟨_, zE, zS HO_10.out, zB HB.out⟩
   have c6b0 := beq_eq_false_iff_ne.mpr c6
   have c6b1 := bne_iff_ne.mpr c6
   simp only [Option.some.injEq, Prod.mk.injEq] at H
   obtain ⟨rfl, rfl⟩ := H
   go_enter Try.func39, Try.ntmps39
   go_wp2_with (first | ((with_reducible refine gC 43 ?_); refine zG (some 15) Try.func43 #[.int .i64 a0] ?_; (with_reducible refine (r24_Order.calls a0 t101 _ A3.out).mono ?_); rintro e w' ⟨rfl, ⟨nd, rfl⟩⟩; refine ⟨_, rfl, ?_⟩) | ((with_reducible refine gC 35 ?_); refine zG (some 19) Try.func35 #[.int .i64 (l1.length : Int)] ?_; (with_reducible refine (r24_Shape.calls (l1.length : Int) t102 _ A5.out).mono ?_); rintro e w' ⟨rfl, ⟨nd, rfl⟩⟩; refine ⟨_, rfl, ?_⟩))
   go_ret2
   exact ⟨_, zE, by first | exact Kd.S_nil _ _ _ _ _ | exact Kd.N_nil _ _ _ _ _ | exact Kd.V_nil _ _ _ _ _ | exact Kd.Q_nil _ _ _ _ _ | exact Kd.R_nil _ _ _ _ _, zB HB.out⟩
 have c4b0 := beq_eq_false_iff_ne.mpr c4
 have c4b1 := bne_iff_ne.mpr c4
 simp only [Option.some.injEq, Prod.mk.injEq] at H
 obtain ⟨rfl, rfl⟩ := H
 go_enter Try.func39, Try.ntmps39
 go_wp2_with (first | ((with_reducible refine gC 43 ?_); refine zG (some 15) Try.func43 #[.int .i64 a0] ?_; (with_reducible refine (r24_Order.calls a0 t101 _ A3.out).mono ?_); rintro e w' ⟨rfl, ⟨nd, rfl⟩⟩; refine ⟨_, rfl, ?_⟩))
 go_ret2
 exact ⟨_, zE, by first | exact Kd.S_nil _ _ _ _ _ | exact Kd.N_nil _ _ _ _ _ | exact Kd.V_nil _ _ _ _ _ | exact Kd.Q_nil _ _ _ _ _ | exact Kd.R_nil _ _ _ _ _, zB HB.out⟩
set_option maxHeartbeats 8000000 in
set_option maxRecDepth 100000 in
theorem r24_Least.calls (k : Nat) (A0 : Option Addr) (c0 : Nat) (l0 : List (List Int)) (r : Int) (w : World) (hr0 : Kd.C (Kd.slice 97 (Kd.int .u32)) w A0 l0.length l0) (hc0 : l0.length ≤ c0) (h : r24_Least.f k l0 = some r) :
    Calls Try.prog 40 #[.slice A0 l0.length c0] w fun e w' => e = .returned (.int .i64 r) ∧ Below w.heap.size w w' := by
 have HR0 := Aside0.mk hr0
 have HC0 := Aside0.mk hc0
 clear hr0 hc0
 have HB := Aside0.mk (Below.refl w.heap.size w)
 have H : (r24_Least.l0 k l0 1) = some r := h
 clear h
 have H' := Aside0.mk H
 clear H
 go_enter Try.func40, Try.ntmps40
 go_wp2
 go_loopg [3] k (fun kq v3 w' => ∃ (x3_1 : Int), v3 = .int .i64 x3_1 ∧ Aside0 (r24_Least.l0 kq l0 x3_1 = some r) ∧ Aside0 (kq ≤ k) ∧ Aside0 (Below w.heap.size w w'))
 case atStart => exact ⟨(1), zF, H', ⟨Nat.le_refl _⟩, ⟨zB HB.out⟩⟩
 clear H'
 obtain ⟨x3_1, rfl, HA, HK1, HB⟩ := hrel
 cases gk with | zero => exact absurd HA.out (by simp [r24_Least.l0]) | succ k1 => ?_
 have H := HA.out
 clear HA
 simp only [r24_Least.l0] at H
 replace H := zid H
 rcases H with ⟨c2b0, H⟩ | ⟨c2b0, H⟩
 · replace H := zgd H
   obtain ⟨c3b0, H⟩ := H
   replace H := zb H
   obtain ⟨t102, A4, H⟩ := H
   by_cases c5 : t102 = true
   · subst c5
     rw [if_pos rfl] at H
     have H' := Aside0.mk H
     clear H
     have p101 : 0 ≤ (x3_1 : Int) := zd
     have q101 : x3_1 < (l0.length : Int) := zd
     obtain ⟨ad101, A101_0, c101_0, e101, hx101_0, hl101_0, hi101_0⟩ := at_L3 HR0.out x3_1 p101 q101
     cases e101
     replace hx101_0 := (HB.out.cell (World.block_lt_of_cell? w _ hx101_0)).trans hx101_0
     have HR101_0 := Aside0.mk hi101_0
     have HC101_0 := Aside0.mk hl101_0
     clear hi101_0 hl101_0
     replace p101 := eq_true p101
     replace q101 := eq_true q101
     go_wp2_with (first | ((with_reducible refine gC 27 ?_); refine zG (some 14) Try.func27 #[.slice A101_0 (rd_L3 l0 x3_1).length c101_0] ?_; (with_reducible refine (r1_Zero.calls k1 _ _ (rd_L3 l0 x3_1) true _ ?side1 ?side2 A4.out).mono ?_); (case side1 => exact zC (Kd.C_below HR101_0.out HB.out)); (case side2 => exact HC101_0.out); rintro e w6 ⟨rfl, hb⟩; refine ⟨_, rfl, ?_⟩; replace HB := yS HB hb; (try clear hb); (try clear hb2); (try clear hk); (try clear hi)))
     go_roundg k1
     case measure => have := HK1.out; omega
     case rel => exact ⟨(wrap64 (x3_1 + 1)), zF, H', ⟨zo1 HK1⟩, ⟨zB HB.out⟩⟩
   replace c5 := Bool.eq_false_iff.mpr c5
   subst c5
   rw [if_neg Bool.false_ne_true] at H
   obtain rfl := Option.some.inj H
   have p101 : 0 ≤ (x3_1 : Int) := zd
   have q101 : x3_1 < (l0.length : Int) := zd
   obtain ⟨ad101, A101_0, c101_0, e101, hx101_0, hl101_0, hi101_0⟩ := at_L3 HR0.out x3_1 p101 q101
   cases e101
   replace hx101_0 := (HB.out.cell (World.block_lt_of_cell? w _ hx101_0)).trans hx101_0
   have HR101_0 := Aside0.mk hi101_0
   have HC101_0 := Aside0.mk hl101_0
   clear hi101_0 hl101_0
   replace p101 := eq_true p101
   replace q101 := eq_true q101
   go_wp2_with (first | ((with_reducible refine gC 27 ?_); refine zG (some 14) Try.func27 #[.slice A101_0 (rd_L3 l0 x3_1).length c101_0] ?_; (with_reducible refine (r1_Zero.calls k1 _ _ (rd_L3 l0 x3_1) false _ ?side1 ?side2 A4.out).mono ?_); (case side1 => exact zC (Kd.C_below HR101_0.out HB.out)); (case side2 => exact HC101_0.out); rintro e w7 ⟨rfl, hb⟩; refine ⟨_, rfl, ?_⟩; replace HB := yS HB hb; (try clear hb); (try clear hb2); (try clear hk); (try clear hi)))
   go_ret
   exact ⟨zE, zB HB.out⟩
 obtain rfl := Option.some.inj H
 go_wp2
 go_ret
 exact ⟨zE, zB HB.out⟩
set_option maxHeartbeats 8000000 in
set_option maxRecDepth 100000 in
theorem r24_nonzero.calls (k : Nat) (A0 : Option Addr) (c0 : Nat) (l0 : List (List Int)) (a1 : Int) (r : Int) (w : World) (hr0 : Kd.C (Kd.slice 97 (Kd.int .u32)) w A0 l0.length l0) (hc0 : l0.length ≤ c0) (h : r24_nonzero.f k l0 a1 = some r) :
    Calls Try.prog 92 #[.slice A0 l0.length c0, .int .i64 a1] w fun e w' => e = .returned (.int .i64 r) ∧ Below w.heap.size w w' := by
 have HR0 := Aside0.mk hr0
 have HC0 := Aside0.mk hc0
 clear hr0 hc0
 have HB := Aside0.mk (Below.refl w.heap.size w)
 have H : (r24_nonzero.l0 k l0 a1 0 1) = some r := h
 clear h
 have H' := Aside0.mk H
 clear H
 go_enter Try.func92, Try.ntmps92
 go_wp2
 go_loopg [5, 6] k (fun kq v5 v6 w' => ∃ (x5_1 : Int) (x6_1 : Int), v5 = .int .i64 x5_1 ∧ v6 = .int .i64 x6_1 ∧ Aside0 (r24_nonzero.l0 kq l0 a1 x5_1 x6_1 = some r) ∧ Aside0 (kq ≤ k) ∧ Aside0 (Below w.heap.size w w'))
 case atStart => exact ⟨(0), (1), zF, zF, H', ⟨Nat.le_refl _⟩, ⟨zB HB.out⟩⟩
 clear H'
 obtain ⟨x5_1, x6_1, rfl, rfl, HA, HK1, HB⟩ := hrel
 cases gk with | zero => exact absurd HA.out (by simp [r24_nonzero.l0]) | succ k1 => ?_
 have H := HA.out
 clear HA
 simp only [r24_nonzero.l0] at H
 replace H := zid H
 rcases H with ⟨c3b0, H⟩ | ⟨c3b0, H⟩
 · replace H := zgd H
   obtain ⟨c4b0, H⟩ := H
   replace H := zgd H
   obtain ⟨c5b0, H⟩ := H
   replace H := zb H
   obtain ⟨t102, A6, H⟩ := H
   by_cases c7 : t102 = true
   · subst c7
     rw [if_pos rfl] at H
     have H' := Aside0.mk H
     clear H
     have p101 : 0 ≤ (x6_1 : Int) := zd
     have q101 : x6_1 < (l0.length : Int) := zd
     obtain ⟨ad101, A101_0, c101_0, e101, hx101_0, hl101_0, hi101_0⟩ := at_L3 HR0.out x6_1 p101 q101
     cases e101
     replace hx101_0 := (HB.out.cell (World.block_lt_of_cell? w _ hx101_0)).trans hx101_0
     have HR101_0 := Aside0.mk hi101_0
     have HC101_0 := Aside0.mk hl101_0
     clear hi101_0 hl101_0
     replace p101 := eq_true p101
     replace q101 := eq_true q101
     go_wp2_with (first | ((with_reducible refine gC 27 ?_); refine zG (some 16) Try.func27 #[.slice A101_0 (rd_L3 l0 x6_1).length c101_0] ?_; (with_reducible refine (r1_Zero.calls k1 _ _ (rd_L3 l0 x6_1) true _ ?side1 ?side2 A6.out).mono ?_); (case side1 => exact zC (Kd.C_below HR101_0.out HB.out)); (case side2 => exact HC101_0.out); rintro e w8 ⟨rfl, hb⟩; refine ⟨_, rfl, ?_⟩; replace HB := yS HB hb; (try clear hb); (try clear hb2); (try clear hk); (try clear hi)))
     go_roundg k1
     case measure => have := HK1.out; omega
     case rel => exact ⟨(x5_1), (wrap64 (x6_1 + 1)), zF, zF, H', ⟨zo1 HK1⟩, ⟨zB HB.out⟩⟩
   replace c7 := Bool.eq_false_iff.mpr c7
   subst c7
   rw [if_neg Bool.false_ne_true] at H
   have H' := Aside0.mk H
   clear H
   have p101 : 0 ≤ (x6_1 : Int) := zd
   have q101 : x6_1 < (l0.length : Int) := zd
   obtain ⟨ad101, A101_0, c101_0, e101, hx101_0, hl101_0, hi101_0⟩ := at_L3 HR0.out x6_1 p101 q101
   cases e101
   replace hx101_0 := (HB.out.cell (World.block_lt_of_cell? w _ hx101_0)).trans hx101_0
   have HR101_0 := Aside0.mk hi101_0
   have HC101_0 := Aside0.mk hl101_0
   clear hi101_0 hl101_0
   replace p101 := eq_true p101
   replace q101 := eq_true q101
   go_wp2_with (first | ((with_reducible refine gC 27 ?_); refine zG (some 16) Try.func27 #[.slice A101_0 (rd_L3 l0 x6_1).length c101_0] ?_; (with_reducible refine (r1_Zero.calls k1 _ _ (rd_L3 l0 x6_1) false _ ?side1 ?side2 A6.out).mono ?_); (case side1 => exact zC (Kd.C_below HR101_0.out HB.out)); (case side2 => exact HC101_0.out); rintro e w9 ⟨rfl, hb⟩; refine ⟨_, rfl, ?_⟩; replace HB := yS HB hb; (try clear hb); (try clear hb2); (try clear hk); (try clear hi)))
   go_roundg k1
   case measure => have := HK1.out; omega
   case rel => exact ⟨(wrap64 (x5_1 + 1)), (wrap64 (x6_1 + 1)), zF, zF, H', ⟨zo1 HK1⟩, ⟨zB HB.out⟩⟩
 obtain rfl := Option.some.inj H
 go_wp2
 go_ret
 exact ⟨zE, zB HB.out⟩
set_option maxHeartbeats 8000000 in
set_option maxRecDepth 100000 in
theorem r24_Strength.calls (k : Nat) (a0 : Int) (A1 : Option Addr) (c1 : Nat) (l1 : List (List Int)) (r : Int) (w : World) (hr1 : Kd.C (Kd.slice 97 (Kd.int .u32)) w A1 l1.length l1) (hc1 : l1.length ≤ c1) (h : r24_Strength.f k a0 l1 = some r) :
    Calls Try.prog 41 #[.int .i64 a0, .slice A1 l1.length c1] w fun e w' => e = .returned (.int .i64 r) ∧ Below w.heap.size w w' := by
 have HR1 := Aside0.mk hr1
 have HC1 := Aside0.mk hc1
 clear hr1 hc1
 have HB := Aside0.mk (Below.refl w.heap.size w)
 have H : (r24_Strength.l0 k a0 l1 0 1) = some r := h
 clear h
 have H' := Aside0.mk H
 clear H
 go_enter Try.func41, Try.ntmps41
 go_wp2
 go_loopg [5, 6] k (fun kq v5 v6 w' => ∃ (x5_1 : Int) (x6_1 : Int), v5 = .int .i64 x5_1 ∧ v6 = .int .i64 x6_1 ∧ Aside0 (r24_Strength.l0 kq a0 l1 x5_1 x6_1 = some r) ∧ Aside0 (kq ≤ k) ∧ Aside0 (Below w.heap.size w w'))
 case atStart => exact ⟨(0), (1), zF, zF, H', ⟨Nat.le_refl _⟩, ⟨zB HB.out⟩⟩
 clear H'
 obtain ⟨x5_1, x6_1, rfl, rfl, HA, HK1, HB⟩ := hrel
 cases gk with | zero => exact absurd HA.out (by simp [r24_Strength.l0]) | succ k1 => ?_
 have H := HA.out
 clear HA
 simp only [r24_Strength.l0] at H
 replace H := zid H
 rcases H with ⟨c3b0, H⟩ | ⟨c3b0, H⟩
 · replace H := zb H
   obtain ⟨t101, A4, H⟩ := H
   replace H := zid H
   rcases H with ⟨c5b0, H⟩ | ⟨c5b0, H⟩
   · have H' := Aside0.mk H
     clear H
     go_wp2_with (first | ((with_reducible refine gC 92 ?_); refine zG (some 18) Try.func92 #[.slice A1 l1.length c1, .int .i64 (wrap64 ((wrap64 ((l1.length : Int) - 1)) - x6_1))] ?_; (with_reducible refine (r24_nonzero.calls k1 _ _ l1 (wrap64 ((wrap64 ((l1.length : Int) - 1)) - x6_1)) t101 _ ?side1 ?side2 A4.out).mono ?_); (case side1 => exact zC (Kd.C_below HR1.out HB.out)); (case side2 => exact HC1.out); rintro e w6 ⟨rfl, hb⟩; refine ⟨_, rfl, ?_⟩; replace HB := yS HB hb; (try clear hb); (try clear hb2); (try clear hk); (try clear hi)))
     go_roundg k1
     case measure => have := HK1.out; omega
     case rel => exact ⟨(x6_1), (wrap64 (x6_1 + 1)), zF, zF, H', ⟨zo1 HK1⟩, ⟨zB HB.out⟩⟩
   have H' := Aside0.mk H
   clear H
   go_wp2_with (first | ((with_reducible refine gC 92 ?_); refine zG (some 18) Try.func92 #[.slice A1 l1.length c1, .int .i64 (wrap64 ((wrap64 ((l1.length : Int) - 1)) - x6_1))] ?_; (with_reducible refine (r24_nonzero.calls k1 _ _ l1 (wrap64 ((wrap64 ((l1.length : Int) - 1)) - x6_1)) t101 _ ?side1 ?side2 A4.out).mono ?_); (case side1 => exact zC (Kd.C_below HR1.out HB.out)); (case side2 => exact HC1.out); rintro e w7 ⟨rfl, hb⟩; refine ⟨_, rfl, ?_⟩; replace HB := yS HB hb; (try clear hb); (try clear hb2); (try clear hk); (try clear hi)))
   go_roundg k1
   case measure => have := HK1.out; omega
   case rel => exact ⟨(x5_1), (wrap64 (x6_1 + 1)), zF, zF, H', ⟨zo1 HK1⟩, ⟨zB HB.out⟩⟩
 obtain rfl := Option.some.inj H
 go_wp2
 go_ret
 exact ⟨zE, zB HB.out⟩
set_option maxHeartbeats 8000000 in
set_option maxRecDepth 100000 in
theorem w24_MacwilliamsStrengths.calls (k : Nat) (a0 : Int) (A1 : Option Addr) (c1 : Nat) (l1 : List (List Int)) (r : Bool) (w : World) (hr1 : Kd.C (Kd.slice 97 (Kd.int .u32)) w A1 l1.length l1) (hc1 : l1.length ≤ c1) (h : w24_MacwilliamsStrengths.f k a0 l1 = some r) :
    Calls Try.prog 7 #[.int .i64 a0, .slice A1 l1.length c1] w fun e w' => e = .returned (.bool r) ∧ Below w.heap.size w w' := by
 have HR1 := Aside0.mk hr1
 have HC1 := Aside0.mk hc1
 clear hr1 hc1
 have HB := Aside0.mk (Below.refl w.heap.size w)
 have H : ((w24_long.f k 8 l1).bind fun t101 => (if t101 = true then (some true) else (if (l1.length : Int) > 20 then (w24_MacwilliamsStrengths.j0 k a0 l1 (decide ((l1.length : Int) ≤ 65))) else (w24_MacwilliamsStrengths.j0 k a0 l1 false)))) = some r := h
 clear h
 replace H := zb H
 obtain ⟨t101, A3, H⟩ := H
 by_cases c4 : t101 = true
 · subst c4
   rw [if_pos rfl] at H
   obtain rfl := Option.some.inj H
   go_enter Try.func7, Try.ntmps7
   go_wp2_with (first | ((with_reducible refine gC 33 ?_); refine zG (some 11) Try.func33 #[.int .i64 8, .slice A1 l1.length c1] ?_; (with_reducible refine (w24_long.calls k 8 _ _ l1 true _ ?side1 ?side2 A3.out).mono ?_); (case side1 => exact zC HR1.out); (case side2 => exact HC1.out); rintro e w' ⟨rfl, ⟨nd, rfl⟩⟩; refine ⟨_, rfl, ?_⟩))
   go_ret
   exact ⟨zE, zB HB.out⟩
 replace c4 := Bool.eq_false_iff.mpr c4
 subst c4
 rw [if_neg Bool.false_ne_true] at H
 have HC5 := Aside0.mk H
 clear H
 go_enter Try.func7, Try.ntmps7
 go_upto_region 3 with (first | ((with_reducible refine gC 33 ?_); refine zG (some 11) Try.func33 #[.int .i64 8, .slice A1 l1.length c1] ?_; (with_reducible refine (w24_long.calls k 8 _ _ l1 false _ ?side1 ?side2 A3.out).mono ?_); (case side1 => exact zC HR1.out); (case side2 => exact HC1.out); rintro e w' ⟨rfl, ⟨nd, rfl⟩⟩; refine ⟨_, rfl, ?_⟩))
 (try simp only [Act.put, List.setIfInBounds_toArray, List.set_cons_zero, List.set_cons_succ])
 go_cut [19] (fun v19 wc => ∃ (kq : Nat) (x19_4 : Bool), v19 = .bool x19_4 ∧ Aside0 (w24_MacwilliamsStrengths.j0 kq a0 l1 x19_4 = some r) ∧ Aside0 (kq ≤ k) ∧ Aside0 (Below w.heap.size w wc))
 case first =>
  have H := HC5.out
  clear HC5
  replace H := zi H
  rcases H with ⟨c6, H⟩ | ⟨c6, H⟩
  · have c6b0 : decide (20 < (l1.length : Int)) = true := decide_eq_true c6
    have c6b1 : decide (20 < l1.length) = true := decide_eq_true (by omega)
    clear c6
    (first | rw [c6b0] | (simp only [i64_w, i32_w]; rw [c6b0]) | rw [c6b1] | skip)
    have H' := Aside0.mk H
    clear H
    go_wp2
    go_meet
    case rel => exact ⟨_, (decide ((l1.length : Int) ≤ 65)), zF, H', ⟨zO⟩, ⟨zB HB.out⟩⟩
  have c6b0 : decide (20 < (l1.length : Int)) = false := decide_eq_false c6
  have c6b1 : decide (20 < l1.length) = false := decide_eq_false (by omega)
  clear c6
  (first | rw [c6b0] | (simp only [i64_w, i32_w]; rw [c6b0]) | rw [c6b1] | skip)
  have H' := Aside0.mk H
  clear H
  go_wp2
  go_meet
  case rel => exact ⟨_, (false), zF, H', ⟨zO⟩, ⟨zB HB.out⟩⟩
 clear HC5
 (try clear c4);(try clear c6);(try clear c6b0);(try clear c6b1)
 obtain ⟨kq, x19_4, rfl, HA, HJ4, HB⟩ := hcut
 cases kq with | zero => exact absurd HA.out (by simp [w24_MacwilliamsStrengths.j0]) | succ kj4 => ?_
 have H := HA.out
 clear HA
 simp only [w24_MacwilliamsStrengths.j0] at H
 by_cases c7 : x19_4 = true
 · subst c7
   rw [if_pos rfl] at H
   obtain rfl := Option.some.inj H
   go_wp2
   go_ret
   exact ⟨zE, zB HB.out⟩
 replace c7 := Bool.eq_false_iff.mpr c7
 subst c7
 rw [if_neg Bool.false_ne_true] at H
 replace H := zb H
 obtain ⟨⟨t102, t103⟩, A8, H⟩ := H
 dsimp only at H
 replace H := zb H
 obtain ⟨⟨t104, t105⟩, A9, H⟩ := H
 dsimp only at H
 replace H := zi H
 rcases H with ⟨c10, H⟩ | ⟨c10, H⟩
 · have c10b0 := beq_iff_eq.mpr c10
   have c10b1 := bne_eq_false_iff_eq.mpr c10
   clear c10
   replace H := zb H
   obtain ⟨t108, A11, H⟩ := H
   replace H := zi H
   rcases H with ⟨c12, H⟩ | ⟨c12, H⟩
   · have c12b0 := beq_iff_eq.mpr c12
     have c12b1 := bne_eq_false_iff_eq.mpr c12
     clear c12
     replace H := zi H
     rcases H with ⟨c13, H⟩ | ⟨c13, H⟩
     · have c13b0 := beq_iff_eq.mpr c13
       have c13b1 := bne_eq_false_iff_eq.mpr c13
       clear c13
       obtain rfl := Option.some.inj H
       go_wp2_with (first | ((with_reducible refine gC 38 ?_); refine zG (some 23) Try.func38 #[.int .i64 a0, .slice A1 l1.length c1] ?_; (with_reducible refine (mw_Strength.calls kj4 a0 _ _ l1 t102 t103 _ ?side1 ?side2 A8.out).mono ?_); (case side1 => exact zC (Kd.C_below HR1.out HB.out)); (case side2 => exact HC1.out); rintro e w14 ⟨rfl, hb⟩; refine ⟨_, rfl, ?_⟩; replace HB := yS HB hb; (try clear hb); (try clear hb2); (try clear hk); (try clear hi)) | ((with_reducible refine gC 39 ?_); refine zG (some 29) Try.func39 #[.int .i64 a0, .slice A1 l1.length c1] ?_; (with_reducible refine (r24_Dual.calls kj4 a0 _ _ l1 t104 t105 _ ?side1 ?side2 A9.out).mono ?_); (case side1 => exact zC (Kd.C_below HR1.out HB.out)); (case side2 => exact HC1.out); rintro e w15 ⟨v106, rfl, ho0, hb⟩; refine ⟨_, rfl, ?_⟩; have HO107 := Aside0.mk (Kd.S_lower ho0 (below_size (zB HB.out))); replace HB := yS HB hb; (try clear hb ho0)) | ((with_reducible refine gC 40 ?_); refine zG (some 42) Try.func40 #[.slice A1 l1.length c1] ?_; (with_reducible refine (r24_Least.calls kj4 _ _ l1 t108 _ ?side1 ?side2 A11.out).mono ?_); (case side1 => exact zC (Kd.C_below HR1.out HB.out)); (case side2 => exact HC1.out); rintro e w16 ⟨rfl, hb⟩; refine ⟨_, rfl, ?_⟩; replace HO107 := Aside0.mk (Kd.S_below (zS HO107.out) hb); replace HB := yS HB hb; (try clear hb); (try clear hb2); (try clear hk); (try clear hi)))
       go_ret
       exact ⟨zE, zB HB.out⟩
     have c13b0 := beq_eq_false_iff_ne.mpr c13
     have c13b1 := bne_iff_ne.mpr c13
     obtain rfl := Option.some.inj H
     go_wp2_with (first | ((with_reducible refine gC 38 ?_); refine zG (some 23) Try.func38 #[.int .i64 a0, .slice A1 l1.length c1] ?_; (with_reducible refine (mw_Strength.calls kj4 a0 _ _ l1 t102 t103 _ ?side1 ?side2 A8.out).mono ?_); (case side1 => exact zC (Kd.C_below HR1.out HB.out)); (case side2 => exact HC1.out); rintro e w17 ⟨rfl, hb⟩; refine ⟨_, rfl, ?_⟩; replace HB := yS HB hb; (try clear hb); (try clear hb2); (try clear hk); (try clear hi)) | ((with_reducible refine gC 39 ?_); refine zG (some 29) Try.func39 #[.int .i64 a0, .slice A1 l1.length c1] ?_; (with_reducible refine (r24_Dual.calls kj4 a0 _ _ l1 t104 t105 _ ?side1 ?side2 A9.out).mono ?_); (case side1 => exact zC (Kd.C_below HR1.out HB.out)); (case side2 => exact HC1.out); rintro e w18 ⟨v106, rfl, ho0, hb⟩; refine ⟨_, rfl, ?_⟩; have HO107 := Aside0.mk (Kd.S_lower ho0 (below_size (zB HB.out))); replace HB := yS HB hb; (try clear hb ho0)) | ((with_reducible refine gC 40 ?_); refine zG (some 42) Try.func40 #[.slice A1 l1.length c1] ?_; (with_reducible refine (r24_Least.calls kj4 _ _ l1 t108 _ ?side1 ?side2 A11.out).mono ?_); (case side1 => exact zC (Kd.C_below HR1.out HB.out)); (case side2 => exact HC1.out); rintro e w19 ⟨rfl, hb⟩; refine ⟨_, rfl, ?_⟩; replace HO107 := Aside0.mk (Kd.S_below (zS HO107.out) hb); replace HB := yS HB hb; (try clear hb); (try clear hb2); (try clear hk); (try clear hi)))
     go_ret
     exact ⟨zE, zB HB.out⟩
   have c12b0 := beq_eq_false_iff_ne.mpr c12
   have c12b1 := bne_iff_ne.mpr c12
   replace H := zi H
   rcases H with ⟨c20, H⟩ | ⟨c20, H⟩
   · have c20b0 := beq_iff_eq.mpr c20
     have c20b1 := bne_eq_false_iff_eq.mpr c20
     clear c20
     replace H := zb H
     obtain ⟨t109, A21, H⟩ := H
     obtain rfl := Option.some.inj H
     go_wp2_with (first | ((with_reducible refine gC 38 ?_); refine zG (some 23) Try.func38 #[.int .i64 a0, .slice A1 l1.length c1] ?_; (with_reducible refine (mw_Strength.calls kj4 a0 _ _ l1 t102 t103 _ ?side1 ?side2 A8.out).mono ?_); (case side1 => exact zC (Kd.C_below HR1.out HB.out)); (case side2 => exact HC1.out); rintro e w22 ⟨rfl, hb⟩; refine ⟨_, rfl, ?_⟩; replace HB := yS HB hb; (try clear hb); (try clear hb2); (try clear hk); (try clear hi)) | ((with_reducible refine gC 39 ?_); refine zG (some 29) Try.func39 #[.int .i64 a0, .slice A1 l1.length c1] ?_; (with_reducible refine (r24_Dual.calls kj4 a0 _ _ l1 t104 t105 _ ?side1 ?side2 A9.out).mono ?_); (case side1 => exact zC (Kd.C_below HR1.out HB.out)); (case side2 => exact HC1.out); rintro e w23 ⟨v106, rfl, ho0, hb⟩; refine ⟨_, rfl, ?_⟩; have HO107 := Aside0.mk (Kd.S_lower ho0 (below_size (zB HB.out))); replace HB := yS HB hb; (try clear hb ho0)) | ((with_reducible refine gC 40 ?_); refine zG (some 42) Try.func40 #[.slice A1 l1.length c1] ?_; (with_reducible refine (r24_Least.calls kj4 _ _ l1 t108 _ ?side1 ?side2 A11.out).mono ?_); (case side1 => exact zC (Kd.C_below HR1.out HB.out)); (case side2 => exact HC1.out); rintro e w24 ⟨rfl, hb⟩; refine ⟨_, rfl, ?_⟩; replace HO107 := Aside0.mk (Kd.S_below (zS HO107.out) hb); replace HB := yS HB hb; (try clear hb); (try clear hb2); (try clear hk); (try clear hi); obtain ⟨Ao25, co25, rfl⟩ := Kd.S_slice HO107.out) | (go_at_call 41; (with_reducible refine (r24_Strength.calls kj4 t108 _ _ t104 t109 _ ?side1 ?side2 A21.out).mono ?_); (case side1 => exact zC (Kd.S_reads' HO107.out).2.2); (case side2 => exact (Kd.S_reads' HO107.out).2.1); rintro e w26 ⟨rfl, hb⟩; replace HO107 := Aside0.mk (Kd.S_below (zS HO107.out) hb); replace HB := yS HB hb; (try clear hb); (try clear hb2); (try clear hk); (try clear hi)))
     go_ret
     exact ⟨zE, zB HB.out⟩
   have c20b0 := beq_eq_false_iff_ne.mpr c20
   have c20b1 := bne_iff_ne.mpr c20
   obtain rfl := Option.some.inj H
   go_wp2_with (first | ((with_reducible refine gC 38 ?_); refine zG (some 23) Try.func38 #[.int .i64 a0, .slice A1 l1.length c1] ?_; (with_reducible refine (mw_Strength.calls kj4 a0 _ _ l1 t102 t103 _ ?side1 ?side2 A8.out).mono ?_); (case side1 => exact zC (Kd.C_below HR1.out HB.out)); (case side2 => exact HC1.out); rintro e w27 ⟨rfl, hb⟩; refine ⟨_, rfl, ?_⟩; replace HB := yS HB hb; (try clear hb); (try clear hb2); (try clear hk); (try clear hi)) | ((with_reducible refine gC 39 ?_); refine zG (some 29) Try.func39 #[.int .i64 a0, .slice A1 l1.length c1] ?_; (with_reducible refine (r24_Dual.calls kj4 a0 _ _ l1 t104 t105 _ ?side1 ?side2 A9.out).mono ?_); (case side1 => exact zC (Kd.C_below HR1.out HB.out)); (case side2 => exact HC1.out); rintro e w28 ⟨v106, rfl, ho0, hb⟩; refine ⟨_, rfl, ?_⟩; have HO107 := Aside0.mk (Kd.S_lower ho0 (below_size (zB HB.out))); replace HB := yS HB hb; (try clear hb ho0)) | ((with_reducible refine gC 40 ?_); refine zG (some 42) Try.func40 #[.slice A1 l1.length c1] ?_; (with_reducible refine (r24_Least.calls kj4 _ _ l1 t108 _ ?side1 ?side2 A11.out).mono ?_); (case side1 => exact zC (Kd.C_below HR1.out HB.out)); (case side2 => exact HC1.out); rintro e w29 ⟨rfl, hb⟩; refine ⟨_, rfl, ?_⟩; replace HO107 := Aside0.mk (Kd.S_below (zS HO107.out) hb); replace HB := yS HB hb; (try clear hb); (try clear hb2); (try clear hk); (try clear hi)))
   go_ret
   exact ⟨zE, zB HB.out⟩
 have c10b0 := beq_eq_false_iff_ne.mpr c10
 have c10b1 := bne_iff_ne.mpr c10
 replace H := zi H
 rcases H with ⟨c30, H⟩ | ⟨c30, H⟩
 · have c30b0 := beq_iff_eq.mpr c30
   have c30b1 := bne_eq_false_iff_eq.mpr c30
   clear c30
   obtain rfl := Option.some.inj H
   go_wp2_with (first | ((with_reducible refine gC 38 ?_); refine zG (some 23) Try.func38 #[.int .i64 a0, .slice A1 l1.length c1] ?_; (with_reducible refine (mw_Strength.calls kj4 a0 _ _ l1 t102 t103 _ ?side1 ?side2 A8.out).mono ?_); (case side1 => exact zC (Kd.C_below HR1.out HB.out)); (case side2 => exact HC1.out); rintro e w31 ⟨rfl, hb⟩; refine ⟨_, rfl, ?_⟩; replace HB := yS HB hb; (try clear hb); (try clear hb2); (try clear hk); (try clear hi)) | ((with_reducible refine gC 39 ?_); refine zG (some 29) Try.func39 #[.int .i64 a0, .slice A1 l1.length c1] ?_; (with_reducible refine (r24_Dual.calls kj4 a0 _ _ l1 t104 t105 _ ?side1 ?side2 A9.out).mono ?_); (case side1 => exact zC (Kd.C_below HR1.out HB.out)); (case side2 => exact HC1.out); rintro e w32 ⟨v106, rfl, ho0, hb⟩; refine ⟨_, rfl, ?_⟩; have HO107 := Aside0.mk (Kd.S_lower ho0 (below_size (zB HB.out))); replace HB := yS HB hb; (try clear hb ho0)))
   go_ret
   exact ⟨zE, zB HB.out⟩
 have c30b0 := beq_eq_false_iff_ne.mpr c30
 have c30b1 := bne_iff_ne.mpr c30
 obtain rfl := Option.some.inj H
 go_wp2_with (first | ((with_reducible refine gC 38 ?_); refine zG (some 23) Try.func38 #[.int .i64 a0, .slice A1 l1.length c1] ?_; (with_reducible refine (mw_Strength.calls kj4 a0 _ _ l1 t102 t103 _ ?side1 ?side2 A8.out).mono ?_); (case side1 => exact zC (Kd.C_below HR1.out HB.out)); (case side2 => exact HC1.out); rintro e w33 ⟨rfl, hb⟩; refine ⟨_, rfl, ?_⟩; replace HB := yS HB hb; (try clear hb); (try clear hb2); (try clear hk); (try clear hi)) | ((with_reducible refine gC 39 ?_); refine zG (some 29) Try.func39 #[.int .i64 a0, .slice A1 l1.length c1] ?_; (with_reducible refine (r24_Dual.calls kj4 a0 _ _ l1 t104 t105 _ ?side1 ?side2 A9.out).mono ?_); (case side1 => exact zC (Kd.C_below HR1.out HB.out)); (case side2 => exact HC1.out); rintro e w34 ⟨v106, rfl, ho0, hb⟩; refine ⟨_, rfl, ?_⟩; have HO107 := Aside0.mk (Kd.S_lower ho0 (below_size (zB HB.out))); replace HB := yS HB hb; (try clear hb ho0)))
 go_ret
 exact ⟨zE, zB HB.out⟩
end Go.Proofs.Ytifkbghnmhineaa.PAll
section
set_option linter.unusedVariables false
set_option linter.unusedSimpArgs false
namespace Mw
open Go Go.RowKit Go.Proofs.YtifkbghnmhineaaW.PrintWords
def Ev {α : Type} (g : Nat → Option α) (r : α) : Prop := ∃ K, ∀ k, K ≤ k → g k = some r
theorem Ev.of {α : Type} {g : Nat → Option α} {r : α} (h : ∀ k, g k = some r) : Ev g r := ⟨0, fun k _ => h k⟩
theorem Ev.some {α : Type} (r : α) : Ev (fun _ => some r) r := ⟨0, fun _ _ => rfl⟩
theorem Ev.succ {α : Type} {g : Nat → Option α} {r : α} (h : Ev (fun k => g (k + 1)) r) : Ev g r := by
  obtain ⟨K, h⟩ := h
  refine ⟨K + 1, fun k hk => ?_⟩
  obtain ⟨m, rfl⟩ : ∃ m, k = m + 1 := ⟨k - 1, by omega⟩
  exact h m (by omega)
theorem Ev.bind {α β : Type} {g : Nat → Option α} {f : Nat → α → Option β} {a : α} {r : β} (hg : Ev g a) (hf : Ev (fun k => f k a) r) : Ev (fun k => (g k).bind (f k)) r := by
  obtain ⟨K, hg⟩ := hg
  obtain ⟨L, hf⟩ := hf
  refine ⟨K + L, fun k hk => ?_⟩
  show (g k).bind (f k) = _
  rw [hg k (by omega)]
  exact hf k (by omega)
theorem Ev.cast {α : Type} {g : Nat → Option α} {r s : α} (h : Ev g r) (e : r = s) : Ev g s := e ▸ h
theorem Ev.get {α : Type} {g : Nat → Option α} {r : α} (h : Ev g r) : ∃ k, g k = Option.some r := by
  obtain ⟨K, h⟩ := h
  exact ⟨K, h K (Nat.le_refl K)⟩
theorem w64 {x : Int} (h0 : -9223372036854775808 ≤ x) (h1 : x ≤ 9223372036854775807) : wrap64 x = x := by unfold wrap64; omega
theorem wn {x : Int} {n : Nat} (h : x = (n : Int)) (hn : n < 9223372036854775808) : wrap64 x = (n : Int) := by subst h; exact w64 (by omega) (by omega)
theorem u64w {x : Int} (h0 : 0 ≤ x) (h1 : x < 18446744073709551616) : IntKind.u64.wrap x = x := by
  simp [IntKind.wrap, IntKind.bits, IntKind.signed]; omega
theorem u64m (x : Int) : IntKind.u64.wrap x = x % 18446744073709551616 := by
  simp [IntKind.wrap, IntKind.bits, IntKind.signed]
def bp : Nat → Nat
  | 0 => 1
  | n + 1 => 4294967296 * bp n
theorem bp_pos : ∀ n, 0 < bp n
  | 0 => by decide
  | n + 1 => by have := bp_pos n; simp only [bp]; omega
theorem bp_mono : ∀ {m n : Nat}, m ≤ n → bp m ≤ bp n := by
  intro m n h
  induction n with
  | zero => have : m = 0 := by omega
            subst this; exact Nat.le_refl _
  | succ n ih =>
    by_cases e : m = n + 1
    · subst e; exact Nat.le_refl _
    · have := ih (by omega); simp only [bp]; omega
theorem bp_add : ∀ (m n : Nat), bp (m + n) = bp m * bp n
  | m, 0 => by simp [bp]
  | m, n + 1 => by rw [← Nat.add_assoc, bp, bp, bp_add m n, Nat.mul_left_comm]
def lv : List Int → Int
  | [] => 0
  | a :: l => a + 4294967296 * lv l
def Lm (l : List Int) : Prop := ∀ x ∈ l, 0 ≤ x ∧ x < 4294967296
def dg (n : Nat) : List Int := if n = 0 then [] else ((n % 4294967296 : Nat) : Int) :: dg (n / 4294967296)
termination_by n
decreasing_by omega
theorem dg_zero : dg 0 = [] := by rw [dg]; rfl
theorem dg_pos {n : Nat} (h : n ≠ 0) : dg n = ((n % 4294967296 : Nat) : Int) :: dg (n / 4294967296) := by rw [dg, if_neg h]
theorem lv_dg : ∀ n : Nat, lv (dg n) = n := by
  intro n
  induction n using Nat.strongRecOn with
  | _ n ih =>
    by_cases h : n = 0
    · subst h; rw [dg_zero]; rfl
    · rw [dg_pos h, lv, ih _ (by omega)]; omega
theorem lm_nil : Lm [] := by intro x hx; simp at hx
theorem lm_cons {a : Int} {l : List Int} : Lm (a :: l) ↔ (0 ≤ a ∧ a < 4294967296) ∧ Lm l := by
  constructor
  · intro h; exact ⟨h a (by simp), fun x hx => h x (by simp [hx])⟩
  · intro h x hx
    exact (List.mem_cons.mp hx).elim (fun e => e ▸ h.1) (fun e => h.2 x e)
theorem lm_dg : ∀ n : Nat, Lm (dg n) := by
  intro n
  induction n using Nat.strongRecOn with
  | _ n ih =>
    by_cases h : n = 0
    · subst h; rw [dg_zero]; exact lm_nil
    · rw [dg_pos h, lm_cons]; exact ⟨by omega, ih _ (by omega)⟩
theorem lv_nonneg : ∀ {l : List Int}, Lm l → 0 ≤ lv l
  | [], _ => Int.le_refl 0
  | a :: l, h => by have := lv_nonneg (lm_cons.mp h).2; have := (lm_cons.mp h).1; simp only [lv]; omega
theorem lv_lt : ∀ {l : List Int}, Lm l → lv l < bp l.length
  | [], _ => by simp [lv, bp]
  | a :: l, h => by
    have h1 := lv_lt (lm_cons.mp h).2
    have h2 := (lm_cons.mp h).1
    simp only [lv, List.length_cons, bp]
    omega
theorem lv_append : ∀ (l m : List Int), lv (l ++ m) = lv l + (bp l.length : Int) * lv m
  | [], m => by simp [lv, bp]
  | a :: l, m => by
    simp only [List.cons_append, lv, List.length_cons, bp, Int.natCast_mul]
    rw [lv_append l m, Int.mul_add, Int.mul_assoc]
    omega
theorem lv_rep : ∀ n : Nat, lv (List.replicate n 0) = 0
  | 0 => rfl
  | n + 1 => by rw [List.replicate_succ, lv, lv_rep n]; rfl
theorem lm_rep (n : Nat) : Lm (List.replicate n 0) := by
  intro x hx; rw [(List.mem_replicate.mp hx).2]; omega
theorem dg_lv : ∀ {l : List Int}, Lm l → (∀ h : l ≠ [], l.getLast h ≠ 0) → dg (lv l).toNat = l
  | [], _, _ => by simp only [lv]; exact dg_zero
  | a :: l, h, hl => by
    have h1 := lm_cons.mp h
    have h0 := lv_nonneg h1.2
    have ih : l ≠ [] → dg (lv l).toNat = l := fun hne => dg_lv h1.2 (fun hh => by
      have := hl (by simp)
      rwa [List.getLast_cons hh] at this)
    by_cases hne : l = []
    · subst hne
      have ha := hl (by simp)
      simp only [List.getLast_singleton] at ha
      simp only [lv]
      rw [dg_pos (by omega), show (a + 4294967296 * 0).toNat / 4294967296 = 0 by omega, dg_zero]
      congr 1
      omega
    · have ih := ih hne
      have hpos : lv l ≠ 0 := by
        intro e
        rw [e] at ih
        rw [show (0 : Int).toNat = 0 from rfl, dg_zero] at ih
        exact hne ih.symm
      simp only [lv]
      rw [dg_pos (by omega), show (a + 4294967296 * lv l).toNat / 4294967296 = (lv l).toNat by omega, ih]
      congr 1
      omega
theorem dg_last : ∀ (n : Nat) (h : dg n ≠ []), (dg n).getLast h ≠ 0 := by
  intro n
  induction n using Nat.strongRecOn with
  | _ n ih =>
    intro h
    by_cases h0 : n = 0
    · subst h0; exact absurd dg_zero h
    · have e := dg_pos h0
      by_cases hd : n / 4294967296 = 0
      · rw [hd, dg_zero] at e
        simp only [e, List.getLast_singleton]
        omega
      · have hne : dg (n / 4294967296) ≠ [] := by rw [dg_pos hd]; simp
        have := ih (n / 4294967296) (by omega) hne
        simp only [e]
        rw [List.getLast_cons hne]
        exact this
theorem dg_inj {m n : Nat} (h : dg m = dg n) : m = n := by
  have := lv_dg m
  rw [h, lv_dg] at this
  omega
theorem dg_len_le {n m : Nat} (h : n < bp m) : (dg n).length ≤ m := by
  induction m generalizing n with
  | zero => have : n = 0 := by simp only [bp] at h; omega
            subst this; rw [dg_zero]; simp
  | succ m ih =>
    by_cases h0 : n = 0
    · subst h0; rw [dg_zero]; simp
    · rw [dg_pos h0, List.length_cons]
      have := ih (n := n / 4294967296) (by simp only [bp] at h; omega)
      omega
theorem dg_lt_len (n : Nat) : n < bp (dg n).length := by
  have h := lv_lt (lm_dg n)
  rw [lv_dg] at h
  omega
theorem dg_len_zero {n : Nat} : (dg n).length = 0 ↔ n = 0 := by
  constructor
  · intro h
    by_cases h0 : n = 0
    · exact h0
    · rw [dg_pos h0] at h; simp at h
  · intro h; subst h; rw [dg_zero]; rfl
theorem dg_len_mono {m n : Nat} (h : m ≤ n) : (dg m).length ≤ (dg n).length := dg_len_le (Nat.lt_of_le_of_lt h (dg_lt_len n))
theorem dg_small {n : Nat} (h0 : n ≠ 0) (h : n < 4294967296) : dg n = [(n : Int)] := by
  rw [dg_pos h0, show n / 4294967296 = 0 by omega, dg_zero, show n % 4294967296 = n by omega]
theorem dg_one : dg 1 = [1] := dg_small (by decide) (by decide)
theorem lv_le_of_len {l : List Int} (h : Lm l) {m : Nat} (hm : l.length ≤ m) : (lv l).toNat < bp m := by
  have h1 := lv_lt h
  have h2 := bp_mono hm
  have h3 := lv_nonneg h
  omega
theorem rd_lt {l : List Int} {i : Nat} (h : i < l.length) : rd l (i : Int) = l[i] := by
  unfold rd
  simp [List.getD_eq_getElem?_getD, h]
theorem rd_ge {l : List Int} {i : Nat} (h : l.length ≤ i) : rd l (i : Int) = 0 := by
  unfold rd
  simp [List.getD_eq_getElem?_getD, h]
theorem rd_lm {l : List Int} (hl : Lm l) (i : Int) : 0 ≤ rd l i ∧ rd l i < 4294967296 := by
  unfold rd
  rw [List.getD_eq_getElem?_getD]
  by_cases h : i.toNat < l.length
  · rw [List.getElem?_eq_getElem h]
    exact hl _ (List.getElem_mem h)
  · rw [List.getElem?_eq_none (by omega)]; simp
theorem take_succ_rd {l : List Int} {i : Nat} (h : i < l.length) : l.take (i + 1) = l.take i ++ [rd l (i : Int)] := by
  rw [List.take_succ_eq_append_getElem h, rd_lt h]
theorem lv_take_succ {l : List Int} {i : Nat} (h : i < l.length) : lv (l.take (i + 1)) = lv (l.take i) + (bp i : Int) * rd l (i : Int) := by
  rw [take_succ_rd h, lv_append, List.length_take, Nat.min_eq_left (by omega)]
  simp [lv]
theorem lv_set : ∀ {l : List Int} {i : Nat} (v : Int), i < l.length → lv (l.set i v) = lv l + (bp i : Int) * (v - rd l (i : Int))
  | [], i, v, h => by simp at h
  | a :: l, 0, v, _ => by
    rw [show ((0 : Nat) : Int) = ((0 : Nat) : Int) from rfl, rd_lt (by simp)]
    simp only [List.set_cons_zero, lv, List.getElem_cons_zero, bp]; omega
  | a :: l, i + 1, v, h => by
    have h' : i < l.length := by simpa using h
    have ih := lv_set v h'
    rw [rd_lt h'] at ih
    rw [rd_lt h]
    simp only [List.set_cons_succ, lv, List.getElem_cons_succ, bp, Int.natCast_mul]
    rw [ih, Int.mul_add, Int.mul_assoc]
    omega
theorem lm_set {l : List Int} {i : Nat} {v : Int} (h : Lm l) (h0 : 0 ≤ v) (h1 : v < 4294967296) : Lm (l.set i v) := by
  intro x hx
  rcases List.mem_or_eq_of_mem_set hx with e | e
  · exact h x e
  · subst e; exact ⟨h0, h1⟩
theorem rd_set_ne {l : List Int} {i j : Nat} (v : Int) (h : i ≠ j) : rd (l.set i v) (j : Int) = rd l (j : Int) := by
  unfold rd
  simp [List.getD_eq_getElem?_getD, h]
theorem lm_take {l : List Int} (h : Lm l) (n : Nat) : Lm (l.take n) := fun x hx => h x (List.mem_of_mem_take hx)
theorem lm_append {l m : List Int} (h1 : Lm l) (h2 : Lm m) : Lm (l ++ m) := by
  intro x hx
  rcases List.mem_append.mp hx with e | e
  · exact h1 x e
  · exact h2 x e
theorem dg_take {l : List Int} (h : Lm l) {n : Nat} (hn : n ≤ l.length) (hz : ∀ i : Nat, n ≤ i → i < l.length → rd l (i : Int) = 0) (hl : n = 0 ∨ rd l ((n - 1 : Nat) : Int) ≠ 0) :
    l.take n = dg (lv l).toNat := by
  have hv : lv l = lv (l.take n) := by
    have : ∀ m : Nat, n + m ≤ l.length → lv (l.take (n + m)) = lv (l.take n) := by
      intro m
      induction m with
      | zero => intro _; rfl
      | succ m ih =>
        intro hm
        rw [← Nat.add_assoc, lv_take_succ (by omega), hz (n + m) (by omega) (by omega), ih (by omega)]; simp
    have := this (l.length - n) (by omega)
    rw [show n + (l.length - n) = l.length by omega, List.take_of_length_le (Nat.le_refl _)] at this
    exact this
  rw [hv]
  symm
  refine dg_lv (lm_take h n) (fun hne => ?_)
  rcases hl with e | e
  · subst e; simp at hne
  · rw [List.getLast_eq_getElem]
    simp only [List.length_take, Nat.min_eq_left hn]
    have hp : n ≠ 0 := by intro e0; subst e0; simp at hne
    rw [List.getElem_take]
    rw [rd_lt (by omega)] at e
    exact e
theorem lv_nil : lv [] = 0 := rfl
theorem lv_cons (a : Int) (l : List Int) : lv (a :: l) = a + 4294967296 * lv l := rfl
theorem bp_zero : bp 0 = 1 := rfl
theorem bp_succ (n : Nat) : bp (n + 1) = 4294967296 * bp n := rfl
attribute [irreducible] lv bp
end Mw
end
section
set_option linter.unusedVariables false
set_option linter.unusedSimpArgs false
namespace Mw
open Go Go.RowKit Go.Proofs.YtifkbghnmhineaaW.PrintWords Go.Proofs.YtifkbghnmhineaaW.PrintLast Go.Proofs.YtifkbghnmhineaaW.PrintMore Go.Proofs.Ytifkbghnmhineaa.PAll
theorem short_loop {l : List Int} (hl : Lm l) (hlen : l.length < 1099511627776) : ∀ n : Nat, n ≤ l.length → (∀ i : Nat, n ≤ i → i < l.length → rd l (i : Int) = 0) →
    Ev (fun k => nat_short.l0 k l (n : Int)) (dg (lv l).toNat) := by
  intro n
  induction n with
  | zero =>
    intro hn hz
    refine Ev.succ ?_
    simp only [nat_short.l0, if_neg (show ¬ ((0 : Nat) : Int) > 0 by omega), if_pos (show (0 : Int) ≤ ((0 : Nat) : Int) by omega), if_pos (show ((0 : Nat) : Int) ≤ (l.length : Int) by omega)]
    refine Ev.cast (Ev.some _) ?_
    rw [show (((0 : Nat) : Int)).toNat = 0 from rfl]
    exact dg_take hl hn hz (.inl rfl)
  | succ n ih =>
    intro hn hz
    refine Ev.succ ?_
    have e : wrap64 (((n + 1 : Nat) : Int) - 1) = (n : Int) := by rw [w64 (by omega) (by omega)]; omega
    by_cases h : rd l (n : Int) = 0
    · simp only [nat_short.l0, e, if_pos (show ((n + 1 : Nat) : Int) > 0 by omega), if_pos (show (0 : Int) ≤ (n : Int) by omega), if_pos (show (n : Int) < (l.length : Int) by omega), if_pos h]
      exact ih (by omega) (fun i h1 h2 => by
        by_cases e2 : i = n
        · subst e2; exact h
        · exact hz i (by omega) h2)
    · simp only [nat_short.l0, e, if_pos (show ((n + 1 : Nat) : Int) > 0 by omega), if_pos (show (0 : Int) ≤ (n : Int) by omega), if_pos (show (n : Int) < (l.length : Int) by omega), if_neg h, if_pos (show (0 : Int) ≤ ((n + 1 : Nat) : Int) by omega), if_pos (show ((n + 1 : Nat) : Int) ≤ (l.length : Int) by omega)]
      refine Ev.cast (Ev.some _) ?_
      rw [show (((n + 1 : Nat) : Int)).toNat = n + 1 by omega]
      exact dg_take hl hn hz (.inr h)
theorem short_ev {l : List Int} (hl : Lm l) (hlen : l.length < 1099511627776) : Ev (fun k => nat_short.f k l) (dg (lv l).toNat) := by
  simp only [nat_short.f]
  exact short_loop hl hlen l.length (Nat.le_refl _) (fun i h1 h2 => by omega)
theorem dg_len_of {l : List Int} (hl : Lm l) : (dg (lv l).toNat).length ≤ l.length := dg_len_le (lv_le_of_len hl (Nat.le_refl _))
theorem trim_ev {l : List Int} (hl : Lm l) (hlen : l.length < 1099511627776) : Ev (fun k => nat_Trim.f k l) (dg (lv l).toNat) := by
  simp only [nat_Trim.f]
  refine Ev.bind (short_ev hl hlen) ?_
  have := dg_len_of hl
  simp only [List.length_nil, List.nil_append, if_pos (show 0 + (dg (lv l).toNat).length < 35184372088832 by omega)]
  exact Ev.some _
theorem of_ev {n : Nat} (hn : n < 18446744073709551616) : Ev (fun k => nat_Of.f k (n : Int)) (dg n) := by
  simp only [nat_Of.f]
  have hl : Lm [(n : Int) % 4294967296, ((n : Int) / 4294967296) % 4294967296] := by
    rw [lm_cons, lm_cons]
    exact ⟨by omega, by omega, lm_nil⟩
  refine Ev.bind (trim_ev hl (by simp)) ?_
  refine Ev.cast (Ev.some _) ?_
  congr 1
  simp only [lv_cons, lv_nil]
  omega
theorem plus_loop {a b : List Int} (ha : Lm a) (hb : Lm b) (hab : b.length ≤ a.length) (hlen : a.length < 549755813888) : ∀ (d : Nat) (i : Nat) (o : List Int) (c : Int), i + d = a.length → o.length = a.length + 1 → Lm o →
    0 ≤ c → c ≤ 1 → (∀ j : Nat, i ≤ j → rd o (j : Int) = 0) → Aside0 (lv o + (bp i : Int) * c = lv (a.take i) + lv (b.take i)) →
    Ev (fun k => nat_plus.l0 k a b o c (a.length : Int) (i : Int)) (dg (lv a + lv b).toNat) := by
  intro d
  induction d with
  | zero =>
    intro i o c hi ho hol hc0 hc1 hz hv
    have hi : i = a.length := by omega
    subst hi
    refine Ev.succ ?_
    simp only [nat_plus.l0, if_neg (show ¬ ((a.length : Nat) : Int) < (a.length : Int) by omega), if_pos (show (0 : Int) ≤ (a.length : Int) by omega), if_pos (show (a.length : Int) < (o.length : Int) by omega)]
    have hs : Lm (o.set ((a.length : Int) : Int).toNat (c % 4294967296)) := lm_set hol (by omega) (by omega)
    refine Ev.bind (short_ev hs (by rw [List.length_set]; omega)) ?_
    refine Ev.cast (Ev.some _) ?_
    congr 2
    rw [Int.toNat_natCast, lv_set _ (by omega), hz _ (Nat.le_refl _), show c % 4294967296 = c by omega, Int.sub_zero, hv.out, List.take_of_length_le (Nat.le_refl _), List.take_of_length_le hab]
  | succ d ih =>
    intro i o c hi ho hol hc0 hc1 hz hv
    have hia : i < a.length := by omega
    refine Ev.succ ?_
    have ra := rd_lm ha (i : Int)
    have rb := rd_lm hb (i : Int)
    have e1 : wrap64 ((i : Int) + 1) = ((i + 1 : Nat) : Int) := by rw [w64 (by omega) (by omega)]; omega
    have step : ∀ s : Int, 0 ≤ s → s ≤ 8589934591 → s = rd a (i : Int) + c + rd b (i : Int) →
        Ev (fun k => nat_plus.l0 k a b (o.set ((i : Int)).toNat (s % 4294967296)) (s / 4294967296) (a.length : Int) ((i + 1 : Nat) : Int)) (dg (lv a + lv b).toNat) := by
      intro s hs0 hs1 hs
      refine ih (i + 1) _ _ (by omega) (by rw [List.length_set]; exact ho) (lm_set hol (by omega) (by omega)) (by omega) (by omega) (fun j hj => ?_) ?_
      · rw [Int.toNat_natCast, rd_set_ne _ (by omega)]; exact hz j (by omega)
      · refine ⟨?_⟩
        rw [Int.toNat_natCast, lv_set _ (by omega), hz i (Nat.le_refl _), lv_take_succ hia]
        have hbt : lv (b.take (i + 1)) = lv (b.take i) + (bp i : Int) * rd b (i : Int) := by
          by_cases hib : i < b.length
          · exact lv_take_succ hib
          · rw [rd_ge (by omega), List.take_of_length_le (by omega), List.take_of_length_le (by omega)]; simp
        rw [hbt]
        have hdiv : s % 4294967296 + 4294967296 * (s / 4294967296) = rd a (i : Int) + c + rd b (i : Int) := by omega
        have hm := congrArg (fun z => (bp i : Int) * z) hdiv
        simp only [Int.mul_add] at hm
        rw [Int.mul_left_comm] at hm
        rw [Int.sub_zero, bp_succ, Int.natCast_mul, Int.mul_assoc]
        have hv := hv.out
        clear ih hz hdiv hs hs0 hs1 ra rb e1 hc0 hc1
        omega
    by_cases hib : i < b.length
    · have e2 : IntKind.u64.wrap (IntKind.u64.wrap (IntKind.u64.wrap (rd a (i : Int)) + c) + IntKind.u64.wrap (rd b (i : Int))) = rd a (i : Int) + c + rd b (i : Int) := by
        rw [u64w ra.1 (by omega), u64w rb.1 (by omega), u64w (x := rd a (i : Int) + c) (by omega) (by omega), u64w (x := rd a (i : Int) + c + rd b (i : Int)) (by omega) (by omega)]
      simp only [nat_plus.l0, e1, e2, if_pos (show (i : Int) < (a.length : Int) by omega), if_pos (show (0 : Int) ≤ (i : Int) by omega), if_pos (show (i : Int) < (b.length : Int) by omega), if_pos (show (i : Int) < (o.length : Int) by omega)]
      exact step (rd a (i : Int) + c + rd b (i : Int)) (by omega) (by omega) rfl
    · have e2 : IntKind.u64.wrap (IntKind.u64.wrap (rd a (i : Int)) + c) = rd a (i : Int) + c := by
        rw [u64w ra.1 (by omega), u64w (x := rd a (i : Int) + c) (by omega) (by omega)]
      simp only [nat_plus.l0, e1, e2, if_pos (show (i : Int) < (a.length : Int) by omega), if_pos (show (0 : Int) ≤ (i : Int) by omega), if_neg (show ¬ (i : Int) < (b.length : Int) by omega), if_pos (show (i : Int) < (o.length : Int) by omega)]
      exact step (rd a (i : Int) + c) (by omega) (by omega) (by rw [rd_ge (l := b) (by omega)]; omega)
theorem plus_long {a b : List Int} (ha : Lm a) (hb : Lm b) (hab : b.length ≤ a.length) (hlen : a.length < 549755813888) : Ev (fun k => nat_plus.j0 k a b) (dg (lv a + lv b).toNat) := by
  refine Ev.succ ?_
  have e1 : wrap64 ((a.length : Int) + 1) = ((a.length + 1 : Nat) : Int) := by rw [w64 (by omega) (by omega)]; omega
  simp only [nat_plus.j0, e1, Int.toNat_natCast, if_pos (show (0 : Int) ≤ ((a.length + 1 : Nat) : Int) by omega), if_pos (show a.length + 1 ≤ 70368744177664 by omega)]
  exact plus_loop ha hb hab hlen a.length 0 _ 0 (by omega) (by simp) (lm_rep _) (by omega) (by omega) (fun j _ => by
    by_cases h : j < a.length + 1
    · rw [rd_lt (by simpa using h)]; simp
    · exact rd_ge (by simp; omega)) ⟨by rw [lv_rep]; simp [lv_nil]⟩
theorem plus_ev {a b : List Int} (ha : Lm a) (hb : Lm b) (h1 : a.length < 549755813888) (h2 : b.length < 549755813888) : Ev (fun k => nat_plus.f k a b) (dg (lv a + lv b).toNat) := by
  simp only [nat_plus.f]
  by_cases h : (a.length : Int) < (b.length : Int)
  · simp only [if_pos h]
    rw [Int.add_comm]
    exact plus_long hb ha (by omega) h2
  · simp only [if_neg h]
    exact plus_long ha hb (by omega) h1
def lsum : List (List Int) → Int
  | [] => 0
  | a :: l => lv a + lsum l
def Lms (l : List (List Int)) : Prop := ∀ x ∈ l, Lm x ∧ x.length < 1073741824
theorem rd3_lt {l : List (List Int)} {i : Nat} (h : i < l.length) : rd_L3 l (i : Int) = l[i] := by
  unfold rd_L3
  simp [List.getD_eq_getElem?_getD, h]
theorem lsum_take {l : List (List Int)} {i : Nat} (h : i < l.length) : lsum (l.take (i + 1)) = lsum (l.take i) + lv l[i] := by
  have app : ∀ (a b : List (List Int)), lsum (a ++ b) = lsum a + lsum b := by
    intro a
    induction a with
    | nil => intro b; simp [lsum]
    | cons x a ih => intro b; simp only [List.cons_append, lsum]; rw [ih]; omega
  rw [List.take_succ_eq_append_getElem h, app]
  simp [lsum]
theorem lv_dg_toNat {x : Int} (h : 0 ≤ x) : lv (dg x.toNat) = x := by rw [lv_dg]; omega
theorem add_loop {l : List (List Int)} (hl : Lms l) (hlen : l.length < 1073741824) : ∀ (d i : Nat) (s : List Int), i + d = l.length → Lm s → s.length ≤ 1073741824 + i → lv s = lsum (l.take i) →
    Ev (fun k => nat_Add.l0 k s l (l.length : Int) (i : Int)) (dg (lsum l).toNat) := by
  intro d
  induction d with
  | zero =>
    intro i s hi hs hsl hv
    have hi : i = l.length := by omega
    subst hi
    refine Ev.succ ?_
    simp only [nat_Add.l0, if_neg (show ¬ ((l.length : Nat) : Int) < (l.length : Int) by omega)]
    refine Ev.bind (trim_ev hs (by omega)) ?_
    refine Ev.cast (Ev.some _) ?_
    rw [hv, List.take_of_length_le (Nat.le_refl _)]
  | succ d ih =>
    intro i s hi hs hsl hv
    have hil : i < l.length := by omega
    have hx := hl l[i] (List.getElem_mem hil)
    refine Ev.succ ?_
    have e1 : wrap64 ((i : Int) + 1) = ((i + 1 : Nat) : Int) := by rw [w64 (by omega) (by omega)]; omega
    simp only [nat_Add.l0, e1, rd3_lt hil, if_pos (show (i : Int) < (l.length : Int) by omega), if_pos (show (0 : Int) ≤ (i : Int) by omega)]
    refine Ev.bind (short_ev hx.1 (by omega)) ?_
    have h2 := dg_len_of hx.1
    refine Ev.bind (plus_ev hs (lm_dg _) (by omega) (by omega)) ?_
    have h3 : 0 ≤ lv s := lv_nonneg hs
    have h4 : 0 ≤ lv l[i] := lv_nonneg hx.1
    refine ih (i + 1) _ (by omega) (lm_dg _) ?_ ?_
    · rw [lv_dg_toNat h4]
      have h5 := lv_le_of_len hs hsl
      have h6 := lv_le_of_len hx.1 (m := 1073741824 + i) (by omega)
      refine dg_len_le ?_
      rw [show 1073741824 + (i + 1) = (1073741824 + i) + 1 by omega, bp_succ]
      generalize bp (1073741824 + i) = p at *
      omega
    · rw [lv_dg_toNat h4, lv_dg_toNat (by omega), hv, lsum_take hil]
theorem add_ev {l : List (List Int)} (hl : Lms l) (hlen : l.length < 1073741824) : Ev (fun k => nat_Add.f k l) (dg (lsum l).toNat) := by
  simp only [nat_Add.f]
  exact add_loop hl hlen l.length 0 [] (by omega) lm_nil (by simp) (by simp [lv_nil, lsum])
theorem add2_ev {a b : Nat} (ha : (dg a).length < 1073741824) (hb : (dg b).length < 1073741824) : Ev (fun k => nat_Add.f k [dg a, dg b]) (dg (a + b)) := by
  refine Ev.cast (add_ev (l := [dg a, dg b]) (fun x hx => ?_) (by simp)) ?_
  · rcases List.mem_cons.mp hx with e | e
    · exact e ▸ ⟨lm_dg a, ha⟩
    · rw [List.mem_singleton.mp e]; exact ⟨lm_dg b, hb⟩
  · congr 1
    simp only [lsum, lv_dg]
    omega
end Mw
end
section
namespace Mw
def sm : Nat → (Nat → Int) → Int
  | 0, _ => 0
  | n + 1, f => sm n f + f n
theorem sm_congr {n : Nat} {f g : Nat → Int} (h : ∀ i, i < n → f i = g i) : sm n f = sm n g := by
  induction n with
  | zero => rfl
  | succ n ih => simp only [sm]; rw [ih (fun i hi => h i (by omega)), h n (by omega)]
theorem sm_zero {n : Nat} {f : Nat → Int} (h : ∀ i, i < n → f i = 0) : sm n f = 0 := by
  induction n with
  | zero => rfl
  | succ n ih => simp only [sm]; rw [ih (fun i hi => h i (by omega)), h n (by omega)]; rfl
theorem sm_sub (n : Nat) (f g : Nat → Int) : sm n (fun i => f i - g i) = sm n f - sm n g := by
  induction n with
  | zero => rfl
  | succ n ih => simp only [sm]; rw [ih]; omega
theorem sm_head (n : Nat) (f : Nat → Int) : sm (n + 1) f = f 0 + sm n (fun i => f (i + 1)) := by
  induction n with
  | zero => simp [sm]
  | succ n ih => rw [sm, ih]; simp only [sm]; omega
theorem sm_single {n a : Nat} {f : Nat → Int} (ha : a < n) (h : ∀ i, i < n → i ≠ a → f i = 0) : sm n f = f a := by
  induction n with
  | zero => omega
  | succ n ih =>
    simp only [sm]
    by_cases e : a = n
    · subst e; rw [sm_zero (fun i hi => h i (by omega) (by omega))]; omega
    · rw [ih (by omega) (fun i hi hne => h i (by omega) hne), h n (by omega) (by omega)]; omega
def bin : Nat → Nat → Nat
  | _, 0 => 1
  | 0, _ + 1 => 0
  | n + 1, k + 1 => bin n k + bin n (k + 1)
theorem bin_zero (n : Nat) : bin n 0 = 1 := by cases n <;> rfl
theorem bin_succ (n k : Nat) : bin (n + 1) (k + 1) = bin n k + bin n (k + 1) := rfl
theorem bin_above : ∀ {n k : Nat}, n < k → bin n k = 0
  | 0, 0, h => by omega
  | 0, _ + 1, _ => rfl
  | n + 1, 0, h => by omega
  | n + 1, k + 1, h => by rw [bin_succ, bin_above (n := n) (k := k) (by omega), bin_above (n := n) (k := k + 1) (by omega)]
theorem bin_self (n : Nat) : bin n n = 1 := by
  induction n with
  | zero => rfl
  | succ n ih => rw [bin_succ, ih, bin_above (by omega)]
theorem bin_one (n : Nat) : bin n 1 = n := by
  induction n with
  | zero => rfl
  | succ n ih => rw [bin_succ, ih, bin_zero]; omega
theorem bin_step : ∀ (n k : Nat), (k + 1) * bin n (k + 1) = (n - k) * bin n k
  | 0, k => by rw [bin_above (by omega)]; simp
  | n + 1, 0 => by rw [bin_one, bin_zero]; omega
  | n + 1, k + 1 => by
    rw [bin_succ, bin_succ]
    have h1 := bin_step n k
    have h2 := bin_step n (k + 1)
    by_cases hk : k + 1 ≤ n
    · obtain ⟨m, rfl⟩ : ∃ m, n = m + (k + 1) := ⟨n - (k + 1), by omega⟩
      rw [show m + (k + 1) - k = m + 1 by omega] at h1
      rw [show m + (k + 1) - (k + 1) = m by omega] at h2
      rw [show m + (k + 1) + 1 - (k + 1) = m + 1 by omega]
      grind
    · by_cases hk2 : k = n
      · subst hk2
        rw [bin_above (n := k) (k := k + 1 + 1) (by omega), bin_above (n := k) (k := k + 1) (by omega)]; simp
      · rw [bin_above (n := n) (k := k + 1 + 1) (by omega), bin_above (n := n) (k := k + 1) (by omega), bin_above (n := n) (k := k) (by omega)]; simp
theorem bin_symm : ∀ {n k : Nat}, k ≤ n → bin n (n - k) = bin n k
  | 0, k, h => by have : k = 0 := by omega
                  subst this; rfl
  | n + 1, 0, _ => by rw [Nat.sub_zero, bin_self, bin_zero]
  | n + 1, k + 1, h => by
    rw [Nat.add_sub_add_right]
    by_cases e : k = n
    · subst e; rw [Nat.sub_self, bin_zero, bin_self]
    · obtain ⟨m, hm⟩ : ∃ m, n - k = m + 1 := ⟨n - k - 1, by omega⟩
      rw [hm, bin_succ, bin_succ]
      have h1 := bin_symm (n := n) (k := k) (by omega)
      have h2 := bin_symm (n := n) (k := k + 1) (by omega)
      rw [hm] at h1
      rw [show n - (k + 1) = m by omega] at h2
      omega
def kr (g : Int) : Nat → Nat → Nat → Int
  | 0, 0, 0 => 1
  | 0, 0, _ + 1 => 0
  | a + 1, 0, 0 => kr g a 0 0
  | a + 1, 0, k + 1 => kr g a 0 (k + 1) + g * kr g a 0 k
  | a, b + 1, 0 => kr g a b 0
  | a, b + 1, k + 1 => kr g a b (k + 1) - kr g a b k
theorem kr_b0 (g : Int) (a b : Nat) : kr g a (b + 1) 0 = kr g a b 0 := by cases a <;> simp [kr]
theorem kr_b (g : Int) (a b k : Nat) : kr g a (b + 1) (k + 1) = kr g a b (k + 1) - kr g a b k := by cases a <;> simp [kr]
theorem kr_zero (g : Int) (a b : Nat) : kr g a b 0 = 1 := by
  induction b with
  | zero => induction a with
    | zero => simp [kr]
    | succ a ih => simp [kr, ih]
  | succ b ih => rw [kr_b0, ih]
theorem kr_a (g : Int) (a b k : Nat) : kr g (a + 1) b (k + 1) = kr g a b (k + 1) + g * kr g a b k := by
  induction b generalizing k with
  | zero => simp [kr]
  | succ b ih =>
    rw [kr_b, kr_b, ih]
    cases k with
    | zero => rw [kr_zero, kr_zero, kr_zero]; omega
    | succ k => rw [ih, kr_b]; grind
theorem kr_first (g : Int) (a k : Nat) : kr g a 0 k = (bin a k : Int) * g ^ k := by
  induction a generalizing k with
  | zero => cases k with
    | zero => simp [kr, bin]
    | succ k => simp [kr, bin]
  | succ a ih => cases k with
    | zero => simp [kr_zero, bin_zero]
    | succ k => rw [kr_a, ih, ih, bin_succ, Int.pow_succ, Int.natCast_add]; grind
theorem kr_row (g : Int) (a b k : Nat) : kr g a (b + 1) (k + 1) = kr g (a + 1) b (k + 1) - kr g (a + 1) b k - g * kr g a (b + 1) k := by
  have h := kr_a g a (b + 1) k
  rw [kr_b] at h
  omega
def krF (g : Int) (a b k : Nat) : Int := sm (k + 1) (fun j => (-1) ^ j * (g ^ (k - j) * ((bin b j : Int) * (bin a (k - j) : Int))))
theorem kr_formula (g : Int) (a b k : Nat) : kr g a b k = krF g a b k := by
  induction b generalizing k with
  | zero =>
    rw [kr_first, krF]
    rw [sm_single (a := 0) (by omega)]
    · simp [bin_zero]; grind
    · intro i _ hne
      obtain ⟨m, rfl⟩ : ∃ m, i = m + 1 := ⟨i - 1, by omega⟩
      simp [bin]
  | succ b ih =>
    cases k with
    | zero => rw [kr_zero]; simp [krF, sm, bin_zero]
    | succ k =>
      rw [kr_b, ih, ih, krF, krF, krF]
      rw [sm_head (k + 1) (fun j => (-1) ^ j * (g ^ (k + 1 - j) * ((bin (b + 1) j : Int) * (bin a (k + 1 - j) : Int))))]
      rw [sm_head (k + 1) (fun j => (-1) ^ j * (g ^ (k + 1 - j) * ((bin b j : Int) * (bin a (k + 1 - j) : Int))))]
      simp only [bin_zero, Nat.add_sub_add_right]
      rw [Int.add_sub_assoc]
      congr 1
      rw [← sm_sub]
      refine sm_congr fun i hi => ?_
      rw [bin_succ, Int.natCast_add, Int.pow_succ]
      grind
end Mw
end
section
set_option linter.unusedVariables false
set_option linter.unusedSimpArgs false
namespace Mw
open Go Go.RowKit Go.Proofs.YtifkbghnmhineaaW.PrintWords Go.Proofs.YtifkbghnmhineaaW.PrintLast Go.Proofs.YtifkbghnmhineaaW.PrintMore Go.Proofs.Ytifkbghnmhineaa.PAll
theorem rd_rep (n : Nat) (j : Nat) : rd (List.replicate n 0) (j : Int) = 0 := by
  by_cases h : j < n
  · rw [rd_lt (by simpa using h)]; simp
  · exact rd_ge (by simp; omega)
theorem mac_bound {x y z c : Int} (hx0 : 0 ≤ x) (hx1 : x < 4294967296) (hy0 : 0 ≤ y) (hy1 : y < 4294967296) (hz0 : 0 ≤ z) (hz1 : z < 4294967296) (hc0 : 0 ≤ c) (hc1 : c < 4294967296) :
    0 ≤ x * y ∧ x * y + z + c < 18446744073709551616 := by
  have hp0 : 0 ≤ x * y := Int.mul_nonneg hx0 hy0
  have hp1 : x * y ≤ 4294967295 * 4294967295 := Int.mul_le_mul (by omega) (by omega) hy0 (by decide)
  generalize x * y = p at *
  omega
theorem mac_wrap {x y z c : Int} (hx0 : 0 ≤ x) (hx1 : x < 4294967296) (hy0 : 0 ≤ y) (hy1 : y < 4294967296) (hz0 : 0 ≤ z) (hz1 : z < 4294967296) (hc0 : 0 ≤ c) (hc1 : c < 4294967296) :
    IntKind.u64.wrap (IntKind.u64.wrap (IntKind.u64.wrap (IntKind.u64.wrap x * IntKind.u64.wrap y) + IntKind.u64.wrap z) + c) = x * y + z + c := by
  have hb := mac_bound hx0 hx1 hy0 hy1 hz0 hz1 hc0 hc1
  rw [u64w (x := x) (by omega) (by omega), u64w (x := y) (by omega) (by omega), u64w (x := z) (by omega) (by omega)]
  generalize x * y = p at *
  rw [u64w (x := p) (by omega) (by omega), u64w (x := p + z) (by omega) (by omega), u64w (x := p + z + c) (by omega) (by omega)]
theorem split_div (s : Int) : s % 4294967296 + 4294967296 * (s / 4294967296) = s := by omega
theorem div_bound {s : Int} (h0 : 0 ≤ s) (h1 : s < 18446744073709551616) : 0 ≤ s % 4294967296 ∧ s % 4294967296 < 4294967296 ∧ 0 ≤ s / 4294967296 ∧ s / 4294967296 < 4294967296 := by omega
theorem times_inner {x : Int} {b l18 : List Int} (hx0 : 0 ≤ x) (hx1 : x < 4294967296) (hb : Lm b) (hbl : b.length < 536870912) (x19 : Int) (i L : Nat) (hL : i + b.length + 1 ≤ L) (hL2 : L < 1073741824) (V : Int) (R : List Int)
    (next : ∀ o : List Int, o.length = L → Lm o → (∀ j : Nat, i + 1 + b.length ≤ j → rd o (j : Int) = 0) → Aside0 (lv o = V + (bp i : Int) * (x * lv b)) → Ev (fun k => nat_times.l0 k b o l18 x19 ((i + 1 : Nat) : Int)) R) :
    ∀ (d j : Nat) (o : List Int) (c : Int), j + d = b.length → o.length = L → Lm o → 0 ≤ c → c < 4294967296 → (∀ m : Nat, i + b.length ≤ m → rd o (m : Int) = 0) →
      Aside0 (lv o + (bp (i + j) : Int) * c = V + (bp i : Int) * (x * lv (b.take j))) →
      Ev (fun k => nat_times.l1 k b o (i : Int) x c l18 x19 (i : Int) b (b.length : Int) (j : Int)) R := by
  intro d
  induction d with
  | zero =>
    intro j o c hj ho hol hc0 hc1 hz hv
    have hj : j = b.length := by omega
    subst hj
    refine Ev.succ ?_
    simp only [nat_times.l1, wn (show (i : Int) + (b.length : Int) = ((i + b.length : Nat) : Int) by omega) (by omega), wn (show (i : Int) + 1 = ((i + 1 : Nat) : Int) by omega) (by omega), if_neg (show ¬ ((b.length : Nat) : Int) < (b.length : Int) by omega), if_pos (show (0 : Int) ≤ ((i + b.length : Nat) : Int) by omega), if_pos (show ((i + b.length : Nat) : Int) < (o.length : Int) by omega)]
    rw [Int.toNat_natCast, show c % 4294967296 = c by omega]
    refine next _ (by rw [List.length_set]; omega) (lm_set hol hc0 hc1) (fun m hm => ?_) ⟨?_⟩
    · rw [rd_set_ne _ (by omega)]; exact hz m (by omega)
    · rw [lv_set _ (by omega), hz _ (Nat.le_refl _), Int.sub_zero, hv.out, List.take_of_length_le (Nat.le_refl _)]
  | succ d ih =>
    intro j o c hj ho hol hc0 hc1 hz hv
    have hjb : j < b.length := by omega
    refine Ev.succ ?_
    have rb := rd_lm hb (j : Int)
    have ro := rd_lm hol ((i + j : Nat) : Int)
    simp only [nat_times.l1, wn (show (i : Int) + (j : Int) = ((i + j : Nat) : Int) by omega) (by omega), wn (show (j : Int) + 1 = ((j + 1 : Nat) : Int) by omega) (by omega), if_pos (show (j : Int) < (b.length : Int) by omega), if_pos (show (0 : Int) ≤ (j : Int) by omega), if_pos (show (0 : Int) ≤ ((i + j : Nat) : Int) by omega), if_pos (show ((i + j : Nat) : Int) < (o.length : Int) by omega), mac_wrap hx0 hx1 rb.1 rb.2 ro.1 ro.2 hc0 hc1]
    have hb2 := mac_bound hx0 hx1 rb.1 rb.2 ro.1 ro.2 hc0 hc1
    have hdef : ∃ s, s = x * rd b (j : Int) + rd o ((i + j : Nat) : Int) + c := ⟨_, rfl⟩
    obtain ⟨s, hs⟩ := hdef
    have hs0 : 0 ≤ s := by rw [hs]; exact Int.add_nonneg (Int.add_nonneg hb2.1 ro.1) hc0
    have hs1 : s < 18446744073709551616 := by rw [hs]; exact hb2.2
    have hd := div_bound hs0 hs1
    clear hb2
    rw [← hs]
    rw [Int.toNat_natCast]
    have hs := Aside0.mk hs
    refine ih (j + 1) _ _ (by omega) (by rw [List.length_set]; omega) (lm_set hol hd.1 hd.2.1) hd.2.2.1 hd.2.2.2 (fun m hm => ?_) ⟨?_⟩
    · rw [rd_set_ne _ (by omega)]; exact hz m hm
    · rw [lv_set _ (by omega), lv_take_succ hjb, ← Nat.add_assoc, bp_succ, Int.natCast_mul]
      have hdiv : s % 4294967296 + 4294967296 * (s / 4294967296) = x * rd b (j : Int) + rd o ((i + j : Nat) : Int) + c := by rw [split_div]; exact hs.out
      have hv := hv.out
      have hbp : ((bp (i + j) : Nat) : Int) = (bp i : Int) * (bp j : Int) := by rw [bp_add, Int.natCast_mul]
      clear ih hz next hs hs0 hs1 hd rb ro hc0 hc1
      generalize s % 4294967296 = y at *
      generalize s / 4294967296 = u at *
      generalize (bp (i + j) : Int) = p at *
      generalize (bp i : Int) = pi at *
      generalize (bp j : Int) = pj at *
      generalize rd b (j : Int) = rb at *
      generalize rd o ((i + j : Nat) : Int) = ro at *
      generalize lv o = lo at *
      generalize lv (b.take j) = lt at *
      subst hbp
      have h1 : lo + pi * pj * c = V + pi * (x * lt) := hv
      have h2 : y + 4294967296 * u = x * rb + ro + c := hdiv
      show lo + pi * pj * (y - ro) + 4294967296 * (pi * pj) * u = V + pi * (x * (lt + pj * rb))
      have h3 : pi * pj * (y + 4294967296 * u) = pi * pj * (x * rb + ro + c) := by rw [h2]
      grind
theorem times_outer {b l : List Int} (hb : Lm b) (hl : Lm l) (hbl : b.length < 268435456) (hll : l.length < 268435456) : ∀ (d i : Nat) (o : List Int), i + d = l.length → o.length = l.length + b.length → Lm o → (∀ m : Nat, i + b.length ≤ m → rd o (m : Int) = 0) →
    Aside0 (lv o = lv (l.take i) * lv b) → Ev (fun k => nat_times.l0 k b o l (l.length : Int) (i : Int)) (dg (lv l * lv b).toNat) := by
  intro d
  induction d with
  | zero =>
    intro i o hi ho hol hz hv
    have hi : i = l.length := by omega
    subst hi
    refine Ev.succ ?_
    simp only [nat_times.l0, if_neg (show ¬ ((l.length : Nat) : Int) < (l.length : Int) by omega)]
    refine Ev.bind (short_ev hol (by omega)) ?_
    refine Ev.cast (Ev.some _) ?_
    rw [hv.out, List.take_of_length_le (Nat.le_refl _)]
  | succ d ih =>
    intro i o hi ho hol hz hv
    have hil : i < l.length := by omega
    refine Ev.succ ?_
    have rl := rd_lm hl (i : Int)
    simp only [nat_times.l0, if_pos (show (i : Int) < (l.length : Int) by omega), if_pos (show (0 : Int) ≤ (i : Int) by omega)]
    refine times_inner (l18 := l) rl.1 rl.2 hb (by omega) (l.length : Int) i (l.length + b.length) (by omega) (by omega) (lv (l.take i) * lv b) _ (fun o2 h1 h2 h3 h4 => ?_) b.length 0 o 0 (by omega) ho hol (by omega) (by omega) hz ⟨?_⟩
    · refine ih (i + 1) o2 (by omega) h1 h2 (fun m hm => h3 m hm) ⟨?_⟩
      rw [h4.out, lv_take_succ hil, Int.add_mul, Int.mul_assoc]
    · rw [hv.out]; simp [lv_nil]
theorem times_ev {a b : List Int} (ha : Lm a) (hb : Lm b) (h1 : a.length < 268435456) (h2 : b.length < 268435456) : Ev (fun k => nat_times.f k a b) (dg (lv a * lv b).toNat) := by
  simp only [nat_times.f]
  simp only [wn (show (a.length : Int) + (b.length : Int) = ((a.length + b.length : Nat) : Int) by omega) (by omega), Int.toNat_natCast, if_pos (show (0 : Int) ≤ ((a.length + b.length : Nat) : Int) by omega), if_pos (show a.length + b.length ≤ 70368744177664 by omega)]
  exact times_outer hb ha h2 h1 a.length 0 _ (by omega) (by simp) (lm_rep _) (fun m _ => rd_rep _ m) ⟨by rw [lv_rep]; simp [lv_nil]⟩
theorem mul2_ev {a b : Nat} (ha : (dg a).length < 134217728) (hb : (dg b).length < 134217728) : Ev (fun k => nat_Mul.f k [dg a, dg b]) (dg (a * b)) := by
  simp only [nat_Mul.f]
  have mul_len : ∀ x y : Nat, (dg (x * y)).length ≤ (dg x).length + (dg y).length := by
    intro x y
    refine dg_len_le ?_
    rw [bp_add]
    exact Nat.mul_lt_mul'' (dg_lt_len x) (dg_lt_len y)
  have one : lv [1] = 1 := by rw [lv_cons, lv_nil]; rfl
  have l1 : Lm [1] := by rw [lm_cons]; exact ⟨by omega, lm_nil⟩
  refine Ev.succ ?_
  simp only [nat_Mul.l0, List.length_cons, List.length_nil, w64 (x := (0 : Int) + 1) (by omega) (by omega)]
  rw [show ((0 + 1 + 1 : Nat) : Int) = 2 from rfl]
  simp only [if_pos (show (0 : Int) < 2 by omega), if_pos (show (0 : Int) ≤ 0 by omega)]
  rw [show rd_L3 [dg a, dg b] 0 = dg a from rfl]
  refine Ev.bind (short_ev (lm_dg a) (by omega)) ?_
  rw [lv_dg, Int.toNat_natCast]
  refine Ev.bind (times_ev l1 (lm_dg a) (by simp) (by omega)) ?_
  rw [one, lv_dg, Int.one_mul, Int.toNat_natCast]
  refine Ev.succ ?_
  rw [show (0 : Int) + 1 = 1 from rfl]
  simp only [nat_Mul.l0, List.length_cons, List.length_nil, w64 (x := (1 : Int) + 1) (by omega) (by omega)]
  rw [show ((0 + 1 + 1 : Nat) : Int) = 2 from rfl]
  simp only [if_pos (show (1 : Int) < 2 by omega), if_pos (show (0 : Int) ≤ 1 by omega)]
  rw [show rd_L3 [dg a, dg b] 1 = dg b from rfl]
  refine Ev.bind (short_ev (lm_dg b) (by omega)) ?_
  rw [lv_dg, Int.toNat_natCast]
  refine Ev.bind (times_ev (lm_dg a) (lm_dg b) (by omega) (by omega)) ?_
  rw [lv_dg, lv_dg, ← Int.natCast_mul, Int.toNat_natCast]
  rw [show (1 : Int) + 1 = 2 from rfl]
  refine Ev.succ ?_
  simp only [nat_Mul.l0, if_neg (show ¬ (2 : Int) < 2 by omega)]
  have := mul_len a b
  refine Ev.bind (trim_ev (lm_dg (a * b)) (by omega)) ?_
  rw [lv_dg, Int.toNat_natCast]
  exact Ev.some _
theorem wraps_u64 (n : Int) (h0 : 0 ≤ n) (h1 : n < 2 ^ 64) : IntKind.u64.wrap n = n := u64w h0 (by omega)
theorem join32 {x y : Int} (hx0 : 0 ≤ x) (hx1 : x < 4294967296) (hy0 : 0 ≤ y) (hy1 : y < 4294967296) : Go.bits .or .u64 (IntKind.u64.wrap (x * 4294967296)) (IntKind.u64.wrap y) = x * 4294967296 + y := by
  rw [u64w (x := x * 4294967296) (by omega) (by omega), u64w (x := y) (by omega) (by omega)]
  exact bits_join .u64 64 (by decide) wraps_u64 32 _ _ (by omega) (by omega) (by omega) hy0 (by omega) (by omega)
theorem digit_bounds {r b y : Int} (hr0 : 0 ≤ r) (hrb : r < b) (hb : b < 4294967296) (hy0 : 0 ≤ y) (hy1 : y < 4294967296) :
    0 ≤ (r * 4294967296 + y) / b ∧ (r * 4294967296 + y) / b < 4294967296 ∧ 0 ≤ (r * 4294967296 + y) % b ∧ (r * 4294967296 + y) % b < b := by
  have hbp : 0 < b := by omega
  refine ⟨Int.ediv_nonneg (by omega) (by omega), ?_, Int.emod_nonneg _ (by omega), Int.emod_lt_of_pos _ hbp⟩
  refine Int.ediv_lt_of_lt_mul hbp ?_
  have : (r + 1) * 4294967296 ≤ b * 4294967296 := by omega
  omega
theorem digit_loop {a : List Int} {b : Int} (ha : Lm a) (hb0 : 0 < b) (hb1 : b < 4294967296) (hlen : a.length < 1073741824) : ∀ (n : Nat) (o : List Int) (r : Int), n ≤ a.length → o.length = a.length → Lm o → (∀ j : Nat, j < n → rd o (j : Int) = 0) → 0 ≤ r → r < b →
    Aside0 (lv o * b + (bp n : Int) * r = lv a - lv (a.take n)) → Ev (fun k => nat_digit.l0 k a b o r ((n : Int) - 1)) (dg (lv a / b).toNat, lv a % b) := by
  intro n
  induction n with
  | zero =>
    intro o r hn ho hol hz hr0 hr1 hv
    refine Ev.succ ?_
    simp only [nat_digit.l0, if_neg (show ¬ ((0 : Nat) : Int) - 1 ≥ 0 by omega)]
    refine Ev.bind (short_ev hol (by omega)) ?_
    refine Ev.cast (Ev.some _) ?_
    have hv := hv.out
    rw [List.take_zero, lv_nil, bp_zero] at hv
    have e : lv a = b * lv o + r := by rw [Int.mul_comm]; omega
    have h1 : lv a / b = lv o := by
      rw [e, Int.add_comm, Int.add_mul_ediv_left _ _ (by omega), Int.ediv_eq_zero_of_lt hr0 hr1]; omega
    have h2 : lv a % b = r := by
      rw [e, Int.add_comm, Int.add_mul_emod_self_left, Int.emod_eq_of_lt hr0 hr1]
    rw [h1, h2]
    clear hv e h1 h2
    congr 1
    omega
  | succ n ih =>
    intro o r hn ho hol hz hr0 hr1 hv
    refine Ev.succ ?_
    have ra := rd_lm ha (n : Int)
    have hd := digit_bounds hr0 hr1 hb1 ra.1 ra.2
    have hdiv : b * ((r * 4294967296 + rd a (n : Int)) / b) + (r * 4294967296 + rd a (n : Int)) % b = r * 4294967296 + rd a (n : Int) := Int.mul_ediv_add_emod _ _
    have t0 : 0 ≤ r * 4294967296 + rd a (n : Int) := by omega
    simp only [nat_digit.l0, show ((n + 1 : Nat) : Int) - 1 = (n : Int) from by omega, if_pos (show (n : Int) ≥ 0 by omega), if_pos (show (0 : Int) ≤ (n : Int) by omega), if_pos (show (n : Int) < (a.length : Int) by omega), if_pos (show (n : Int) < (o.length : Int) by omega), if_neg (show ¬ b = 0 by omega),
      join32 hr0 (by omega) ra.1 ra.2, w64 (x := (n : Int) - 1) (by omega) (by omega), u64w (x := b) (by omega) (by omega)]
    rw [Int.tdiv_eq_ediv_of_nonneg t0, Int.tmod_eq_emod_of_nonneg t0]
    generalize (r * 4294967296 + rd a (n : Int)) / b = q at *
    generalize (r * 4294967296 + rd a (n : Int)) % b = s at *
    rw [u64w (x := q) hd.1 (by omega), show q % 4294967296 = q by omega, Int.toNat_natCast]
    refine ih _ _ (by omega) (by rw [List.length_set]; exact ho) (lm_set hol hd.1 hd.2.1) (fun j hj => ?_) hd.2.2.1 hd.2.2.2 ⟨?_⟩
    · rw [rd_set_ne _ (by omega)]; exact hz j (by omega)
    · have hv := hv.out
      rw [lv_take_succ (l := a) (i := n) (by omega), bp_succ, Int.natCast_mul] at hv
      rw [lv_set (l := o) (i := n) _ (by omega), hz n (by omega)]
      clear ih hz hd ra t0
      generalize lv o = x at *
      generalize (bp n : Int) = p at *
      generalize rd a (n : Int) = y at *
      generalize lv a = A at *
      generalize lv (a.take n) = T at *
      have hv : x * b + 4294967296 * p * r = A - (T + p * y) := hv
      have h3 : p * (b * q + s) = p * (r * 4294967296 + y) := by rw [hdiv]
      grind
theorem digit_ev {a : List Int} {b : Int} (ha : Lm a) (hb0 : 0 < b) (hb1 : b < 4294967296) (hlen : a.length < 1073741824) : Ev (fun k => nat_digit.f k a b) (dg (lv a / b).toNat, lv a % b) := by
  simp only [nat_digit.f, Int.toNat_natCast, if_pos (show (0 : Int) ≤ (a.length : Int) by omega), if_pos (show a.length ≤ 70368744177664 by omega), w64 (x := (a.length : Int) - 1) (by omega) (by omega)]
  exact digit_loop ha hb0 hb1 hlen a.length _ 0 (Nat.le_refl _) (by simp) (lm_rep _) (fun j _ => rd_rep _ j) (by omega) (by omega) ⟨by rw [lv_rep, List.take_of_length_le (Nat.le_refl _)]; simp⟩
theorem bin_mul (n i : Nat) : bin n i * (n - i) = (i + 1) * bin n (i + 1) := by rw [bin_step, Nat.mul_comm]
theorem bin_lt (n k : Nat) : bin n k ≤ 2 ^ n := by
  induction n generalizing k with
  | zero => cases k <;> simp [bin]
  | succ n ih => cases k with
    | zero => rw [bin_zero]; exact Nat.one_le_two_pow
    | succ k => rw [bin_succ, Nat.pow_succ]; have h1 := ih k; have h2 := ih (k + 1); omega
theorem pow2_bp (m : Nat) : 2 ^ (32 * m) = bp m := by
  induction m with
  | zero => rw [bp_zero]
  | succ m ih => rw [Nat.mul_succ, Nat.pow_add, ih, bp_succ, Nat.mul_comm]
theorem bin_len {n : Nat} (hn : n ≤ 4096) (k : Nat) : (dg (bin n k)).length ≤ 129 := by
  refine dg_len_le ?_
  have h1 := bin_lt n k
  have h2 : ∀ m, n ≤ 32 * m → 2 ^ n ≤ bp m := fun m h => by rw [← pow2_bp]; exact Nat.pow_le_pow_right (by decide) h
  have h2 := h2 128 (by omega)
  have h3 := bp_pos 128
  rw [show 129 = 128 + 1 from rfl, bp_succ]
  generalize 2 ^ n = p at *
  generalize bp 128 = u at *
  omega
theorem binomial_loop {n : Nat} (hn : n ≤ 4096) : ∀ (d i m : Nat), i + d = m → m ≤ n → Ev (fun k => nat_Binomial.l0 k (n : Int) (dg (bin n i)) (m : Int) (i : Int)) (dg (bin n m), 0) := by
  intro d
  induction d with
  | zero =>
    intro i m hi hm
    have hi : i = m := by omega
    subst hi
    refine Ev.succ ?_
    simp only [nat_Binomial.l0, if_neg (show ¬ (i : Int) < (i : Int) by omega)]
    have := bin_len hn i
    refine Ev.bind (trim_ev (lm_dg _) (by omega)) ?_
    rw [lv_dg, Int.toNat_natCast]
    exact Ev.some _
  | succ d ih =>
    intro i m hi hm
    refine Ev.succ ?_
    have hl := bin_len hn i
    have e0 : ((n : Int) - (i : Int)) % 4294967296 = ((n - i : Nat) : Int) := by omega
    have e1 : ((i + 1 : Nat) : Int) % 4294967296 = ((i + 1 : Nat) : Int) := by omega
    simp only [nat_Binomial.l0, w64 (x := (n : Int) - (i : Int)) (by omega) (by omega), wn (show (i : Int) + 1 = ((i + 1 : Nat) : Int) by omega) (by omega), if_pos (show (i : Int) < (m : Int) by omega), e0, e1]
    have l1 : Lm [((n - i : Nat) : Int)] := by rw [lm_cons]; exact ⟨by omega, lm_nil⟩
    refine Ev.bind (times_ev (lm_dg _) l1 (by omega) (by simp)) ?_
    have v1 : lv (dg (bin n i)) * lv [((n - i : Nat) : Int)] = ((bin n i * (n - i) : Nat) : Int) := by rw [lv_dg, lv_cons, lv_nil, Int.natCast_mul]; simp
    rw [v1, Int.toNat_natCast, bin_mul]
    have hl2 : (dg ((i + 1) * bin n (i + 1))).length ≤ 130 := by
      refine dg_len_le ?_
      rw [← bin_mul]
      have h1 := dg_lt_len (bin n i)
      have h2 := bp_mono hl
      have h3 : bin n i < bp 129 := by omega
      rw [show 130 = 129 + 1 from rfl, bp_succ, Nat.mul_comm]
      have h4 : n - i ≤ 4294967296 := by omega
      exact Nat.lt_of_le_of_lt (Nat.mul_le_mul_right _ h4) (Nat.mul_lt_mul_of_pos_left h3 (by decide))
    refine Ev.bind (digit_ev (lm_dg _) (by omega) (by omega) (by omega)) ?_
    rw [lv_dg]
    have v2 : (((i + 1) * bin n (i + 1) : Nat) : Int) / ((i + 1 : Nat) : Int) = ((bin n (i + 1) : Nat) : Int) := by
      rw [Int.natCast_mul, Int.mul_ediv_cancel_left _ (by omega)]
    rw [v2, Int.toNat_natCast]
    exact ih (i + 1) m (by omega) hm
theorem binomial_ev {n m : Nat} (hn : n ≤ 4096) (hm : m ≤ n) : Ev (fun k => nat_Binomial.f k (n : Int) (m : Int)) (dg (bin n m), 0) := by
  simp only [nat_Binomial.f, if_neg (show ¬ (n : Int) < 0 by omega), decide_eq_false (show ¬ (n : Int) > 4096 by omega)]
  refine Ev.succ ?_
  simp only [nat_Binomial.j0, Bool.false_eq_true, if_false, if_neg (show ¬ (m : Int) < 0 by omega), decide_eq_false (show ¬ (m : Int) > (n : Int) by omega)]
  refine Ev.succ ?_
  simp only [nat_Binomial.j1, Bool.false_eq_true, if_false, wn (show (n : Int) - (m : Int) = ((n - m : Nat) : Int) by omega) (by omega)]
  have hone : ([1] : List Int) = dg (bin n 0) := by rw [bin_zero, dg_one]
  rw [hone]
  have hz : (0 : Int) = ((0 : Nat) : Int) := rfl
  by_cases h : m ≤ n - m
  · rw [show mn (m : Int) ((n - m : Nat) : Int) = (m : Int) from by unfold mn; split <;> omega]
    exact binomial_loop hn m 0 m (by omega) hm
  · rw [show mn (m : Int) ((n - m : Nat) : Int) = ((n - m : Nat) : Int) from by unfold mn; split <;> omega, ← bin_symm hm]
    exact binomial_loop hn (n - m) 0 (n - m) (by omega) (by omega)
theorem bits_half (x : Nat) (h : x < 4294967296) : Lib.bitLen x ≤ 32 := Lib.bitLen_le x 32 (by decide) (by omega)
theorem bitLen_zero : Lib.bitLen 0 = 0 := by decide
theorem bitLen_pos {x : Nat} (h0 : x ≠ 0) (h : x < 4294967296) : 1 ≤ Lib.bitLen x := by
  rw [Lib.bitLen_half x h0 (by omega)]; omega
theorem bitLen_lt : ∀ (b x : Nat), x < 4294967296 → Lib.bitLen x ≤ b → x < 2 ^ b := by
  intro b
  induction b with
  | zero =>
    intro x hx hb
    by_cases h : x = 0
    · subst h; decide
    · have := bitLen_pos h hx; omega
  | succ b ih =>
    intro x hx hb
    by_cases h : x = 0
    · subst h; exact Nat.two_pow_pos _
    · rw [Lib.bitLen_half x h (by omega)] at hb
      have := ih (x / 2) (by omega) (by omega)
      rw [Nat.pow_succ]
      omega
theorem dg_head {n : Nat} {i : Nat} (hi : i + 1 = (dg n).length) : rd (dg n) (i : Int) ≠ 0 := by
  have hne : dg n ≠ [] := by intro e; rw [e] at hi; simp at hi
  have := dg_last n hne
  rw [List.getLast_eq_getElem] at this
  rw [rd_lt (by omega)]
  have e : (dg n).length - 1 = i := by omega
  simpa [e] using this
def bl (n : Nat) : Nat := if n = 0 then 0 else 32 * ((dg n).length - 1) + Lib.bitLen (rd (dg n) (((dg n).length - 1 : Nat) : Int)).toNat
theorem bits_ev {n : Nat} (hn : (dg n).length < 33554432) : Ev (fun k => nat_Bits.f k (dg n)) ((bl n : Nat) : Int) := by
  simp only [nat_Bits.f]
  refine Ev.bind (short_ev (lm_dg n) (by omega)) ?_
  rw [lv_dg, Int.toNat_natCast]
  by_cases h : n = 0
  · subst h
    rw [dg_zero]
    simp only [List.length_nil, if_pos (show ((0 : Nat) : Int) = 0 from rfl)]
    exact Ev.cast (Ev.some _) (by simp [bl])
  · have hp : (dg n).length ≠ 0 := by rw [Ne, dg_len_zero]; exact h
    obtain ⟨m, hm⟩ : ∃ m, (dg n).length = m + 1 := ⟨(dg n).length - 1, by omega⟩
    have hb : bl n = 32 * m + Lib.bitLen (rd (dg n) (m : Int)).toNat := by unfold bl; rw [if_neg h, hm]; rfl
    have hr := rd_lm (lm_dg n) (m : Int)
    have hbl := bits_half (rd (dg n) (m : Int)).toNat (by omega)
    rw [hb, hm]
    have f1 : bits_Len32.f (rd (dg n) (m : Int)) = some ((Lib.bitLen (rd (dg n) (m : Int)).toNat : Nat) : Int) := by
      unfold bits_Len32.f
      rw [if_pos hr.1, if_pos (by omega)]
    simp only [if_neg (show ¬ ((m + 1 : Nat) : Int) = 0 by omega), wn (show ((m + 1 : Nat) : Int) - 1 = (m : Int) by omega) (by omega), if_pos (show (0 : Int) ≤ (m : Int) by omega), if_pos (show (m : Int) < ((m + 1 : Nat) : Int) by omega), f1, Option.bind_some]
    refine Ev.cast (Ev.some _) ?_
    rw [wn (show (32 : Int) * (m : Int) = ((32 * m : Nat) : Int) by omega) (by omega), wn (show ((32 * m : Nat) : Int) + ((Lib.bitLen (rd (dg n) (m : Int)).toNat : Nat) : Int) = ((32 * m + Lib.bitLen (rd (dg n) (m : Int)).toNat : Nat) : Int) by omega) (by omega)]
theorem bl_zero {n : Nat} : bl n = 0 ↔ n = 0 := by
  constructor
  · intro h
    by_cases h0 : n = 0
    · exact h0
    · unfold bl at h
      rw [if_neg h0] at h
      have hp : (dg n).length ≠ 0 := by rw [Ne, dg_len_zero]; exact h0
      obtain ⟨m, hm⟩ : ∃ m, (dg n).length = m + 1 := ⟨(dg n).length - 1, by omega⟩
      have hr := rd_lm (lm_dg n) (m : Int)
      have h1 := dg_head hm.symm
      rw [hm, show m + 1 - 1 = m from rfl] at h
      have := bitLen_pos (x := (rd (dg n) (m : Int)).toNat) (by omega) (by omega)
      omega
  · intro h; subst h; rfl
theorem bl_small {n : Nat} (h0 : n ≠ 0) (h : n < 4294967296) : bl n = Lib.bitLen n := by
  unfold bl
  rw [if_neg h0, dg_small h0 h]
  simp [rd]
theorem bl_one {n : Nat} : bl n = 1 ↔ n = 1 := by
  constructor
  · intro h
    have hn0 : n ≠ 0 := by intro e; subst e; rw [bl_zero.mpr rfl] at h; omega
    unfold bl at h
    rw [if_neg hn0] at h
    have hp : (dg n).length ≠ 0 := by rw [Ne, dg_len_zero]; exact hn0
    obtain ⟨m, hm⟩ : ∃ m, (dg n).length = m + 1 := ⟨(dg n).length - 1, by omega⟩
    have hr := rd_lm (lm_dg n) (m : Int)
    have h1 := dg_head hm.symm
    rw [hm, show m + 1 - 1 = m from rfl] at h
    have h2 := bitLen_pos (x := (rd (dg n) (m : Int)).toNat) (by omega) (by omega)
    have hm0 : m = 0 := by omega
    subst hm0
    have hn : n < 4294967296 := by
      have := dg_lt_len n
      rw [hm, show (0 + 1 : Nat) = 0 + 1 from rfl, bp_succ, bp_zero] at this
      omega
    have h4 : dg n = [(n : Int)] := dg_small hn0 hn
    rw [h4] at h
    have h3 := bitLen_lt 1 n hn (by simp [rd] at h; omega)
    omega
  · intro h; subst h; rw [bl_small (by decide) (by decide)]; decide
theorem pow_len (x n m : Nat) (h : (dg x).length ≤ m) : (dg (x ^ n)).length ≤ m * n + 1 := by
  refine dg_len_le ?_
  have h1 := dg_lt_len x
  have h2 := bp_mono h
  have h3 : ∀ n, x ^ n ≤ bp (m * n) := by
    intro n
    induction n with
    | zero => simp [bp_zero]
    | succ n ih => rw [Nat.pow_succ, Nat.mul_succ, bp_add]; exact Nat.mul_le_mul ih (by omega)
  have h4 := h3 n
  rw [bp_succ]
  have h5 := bp_pos (m * n)
  omega
theorem and1 {n : Nat} (hn : n < 9223372036854775808) : Go.bits .and .i64 (n : Int) 1 = ((n % 2 : Nat) : Int) := by
  have := bits_mask .i64 63 (by decide) (fun n h0 h1 => by
    rw [IntKind.wrap_i64]
    have : n < 9223372036854775808 := by omega
    omega) 1 (by decide) (n : Int) (by omega) (by have : (n : Int) < 9223372036854775808 := by omega
                                                  omega)
  rw [show (2 : Int) ^ 1 - 1 = 1 from rfl, show (2 : Int) ^ 1 = 2 from rfl] at this
  rw [this]
  omega
theorem mul_len (x y : Nat) : (dg (x * y)).length ≤ (dg x).length + (dg y).length := by
  refine dg_len_le ?_
  rw [bp_add]
  exact Nat.mul_lt_mul'' (dg_lt_len x) (dg_lt_len y)
theorem times2_ev {a b : Nat} (h1 : (dg a).length < 268435456) (h2 : (dg b).length < 268435456) : Ev (fun k => nat_times.f k (dg a) (dg b)) (dg (a * b)) := by
  refine Ev.cast (times_ev (lm_dg a) (lm_dg b) h1 h2) ?_
  rw [lv_dg, lv_dg, ← Int.natCast_mul, Int.toNat_natCast]
theorem trim2_ev {a : Nat} (h1 : (dg a).length < 268435456) : Ev (fun k => nat_Trim.f k (dg a)) (dg a) := by
  refine Ev.cast (trim_ev (lm_dg a) (by omega)) ?_
  rw [lv_dg, Int.toNat_natCast]
theorem pow_half (y x n : Nat) : y * x ^ n = (if n % 2 = 1 then y * x else y) * (x * x) ^ (n / 2) := by
  have e : n = 2 * (n / 2) + n % 2 := by omega
  have h : x ^ n = (x * x) ^ (n / 2) * x ^ (n % 2) := by
    conv => lhs; rw [e]
    rw [Nat.pow_add, Nat.pow_mul, Nat.pow_two]
  rw [h]
  by_cases g : n % 2 = 1
  · rw [if_pos g, g, Nat.pow_one]; simp only [Nat.mul_assoc, Nat.mul_comm x]
  · rw [if_neg g, show n % 2 = 0 by omega, Nat.pow_zero, Nat.mul_one]
theorem pow_loop : ∀ (n : Nat), 0 < n → n < 4611686018427387904 → ∀ (y x : Nat), Aside0 ((dg x).length * n + (dg y).length ≤ 4096) → Ev (fun k => nat_Pow.l0 k (n : Int) (dg y) (dg x)) (dg (y * x ^ n), 0) := by
  intro n
  induction n using Nat.strongRecOn with
  | _ n ih =>
    intro h0 h1 y x hl
    have hx : (dg x).length ≤ 4096 := by
      have h2 := hl.out
      have h3 : (dg x).length * 1 ≤ (dg x).length * n := Nat.mul_le_mul_left _ h0
      omega
    have hy : (dg y).length ≤ 4096 := by have := hl.out; omega
    have hyx := mul_len y x
    have hxx := mul_len x x
    refine Ev.succ ?_
    have hd : (n : Int) / 2 = ((n / 2 : Nat) : Int) := by omega
    have hy2 : Aside0 ((dg (x * x)).length * (n / 2) + (dg (if n % 2 = 1 then y * x else y)).length ≤ 4096) := by
      refine ⟨?_⟩
      have h2 := hl.out
      have h3 : (dg (x * x)).length * (n / 2) ≤ ((dg x).length + (dg x).length) * (n / 2) := Nat.mul_le_mul_right _ hxx
      have h4 : ((dg x).length + (dg x).length) * (n / 2) + (dg x).length * (n % 2) = (dg x).length * n := by
        conv => rhs; rw [show n = 2 * (n / 2) + n % 2 by omega]
        rw [Nat.mul_add, ← Nat.two_mul, Nat.mul_assoc, Nat.mul_left_comm]
      by_cases g : n % 2 = 1
      · rw [if_pos g]
        rw [g, Nat.mul_one] at h4
        omega
      · rw [if_neg g]
        rw [show n % 2 = 0 by omega, Nat.mul_zero] at h4
        omega
    have fin : n / 2 = 0 → Ev (fun k => if (((dg (if n % 2 = 1 then y * x else y)).length : Nat) : Int) > 4096 then some (([] : List Int), (8 : Int)) else (nat_Trim.f k (dg (if n % 2 = 1 then y * x else y))).bind fun t => some (t, 0)) (dg (y * x ^ n), 0) := by
      intro hz
      have h2 := hy2.out
      rw [hz, Nat.mul_zero] at h2
      rw [pow_half y x n, hz, Nat.pow_zero, Nat.mul_one]
      simp only [if_neg (show ¬ (((dg (if n % 2 = 1 then y * x else y)).length : Nat) : Int) > 4096 by omega)]
      refine Ev.bind (trim2_ev (by omega)) ?_
      exact Ev.some _
    have go : n / 2 ≠ 0 → Ev (fun k => (nat_times.f k (dg x) (dg x)).bind fun t => nat_Pow.l0 k ((n / 2 : Nat) : Int) (dg (if n % 2 = 1 then y * x else y)) t) (dg (y * x ^ n), 0) := by
      intro hz
      refine Ev.bind (times2_ev (by omega) (by omega)) ?_
      rw [pow_half y x n]
      exact ih (n / 2) (by omega) (by omega) (by omega) _ _ hy2
    simp only [nat_Pow.l0, and1 (show n < 9223372036854775808 by omega), hd]
    clear hy2 hl
    by_cases g : n % 2 = 1
    · rw [if_pos g] at fin go
      simp only [if_pos (show ((n % 2 : Nat) : Int) = 1 by omega)]
      refine Ev.bind (times2_ev (by omega) (by omega)) ?_
      by_cases hz : n / 2 = 0
      · simp only [if_pos (show ((n / 2 : Nat) : Int) = 0 by omega)]
        exact fin hz
      · simp only [if_neg (show ¬ ((n / 2 : Nat) : Int) = 0 by omega)]
        exact go hz
    · rw [if_neg g] at fin go
      simp only [if_neg (show ¬ ((n % 2 : Nat) : Int) = 1 by omega)]
      by_cases hz : n / 2 = 0
      · simp only [if_pos (show ((n / 2 : Nat) : Int) = 0 by omega)]
        exact fin hz
      · simp only [if_neg (show ¬ ((n / 2 : Nat) : Int) = 0 by omega)]
        exact go hz
theorem pow_ev {x n : Nat} (hx : x < 4294967296) (hn : n < 4096) : Ev (fun k => nat_Pow.f k (dg x) (n : Int)) (dg (x ^ n), 0) := by
  have hxl : (dg x).length ≤ 1 := dg_len_le (by rw [show (1 : Nat) = 0 + 1 from rfl, bp_succ, bp_zero]; omega)
  simp only [nat_Pow.f, if_neg (show ¬ (n : Int) < 0 by omega)]
  refine Ev.bind (bits_ev (by omega)) ?_
  have one : ([1] : List Int) = dg 1 := dg_one.symm
  by_cases h0 : n = 0
  · subst h0
    simp only [if_pos (show ((0 : Nat) : Int) = 0 from rfl)]
    refine Ev.succ ?_
    simp only [nat_Pow.j0, if_true, Nat.pow_zero, one]
    exact Ev.some _
  · simp only [if_neg (show ¬ (n : Int) = 0 by omega)]
    by_cases h1 : x = 1
    · subst h1
      rw [bl_one.mpr rfl]
      refine Ev.succ ?_
      simp only [nat_Pow.j0, Nat.one_pow, one]
      exact Ev.some _
    · have hb1 : bl x ≠ 1 := fun e => h1 (bl_one.mp e)
      have hbl : bl x ≤ 32 := by
        by_cases hx0 : x = 0
        · subst hx0; rw [bl_zero.mpr rfl]; omega
        · rw [bl_small hx0 hx]; exact bits_half x hx
      rw [show (((bl x : Nat) : Int) == 1) = false from by simp; omega]
      refine Ev.succ ?_
      simp only [nat_Pow.j0, Bool.false_eq_true, if_false]
      by_cases hx0 : x = 0
      · subst hx0
        simp only [bl_zero.mpr rfl, if_pos (show ((0 : Nat) : Int) = 0 from rfl)]
        rw [Nat.zero_pow (by omega), dg_zero]
        exact Ev.some _
      · have hb0 : bl x ≠ 0 := fun e => hx0 (bl_zero.mp e)
        have hmul : (bl x - 1) * n ≤ 31 * 4095 := Nat.mul_le_mul (by omega) (by omega)
        have e2 : wrap64 (wrap64 ((bl x : Int) - 1) * (n : Int)) = (((bl x - 1) * n : Nat) : Int) := by
          rw [wn (show (bl x : Int) - 1 = ((bl x - 1 : Nat) : Int) by omega) (by omega)]
          exact wn (by rw [Int.natCast_mul]) (by omega)
        have e3 : ¬ wrap64 (wrap64 ((bl x : Int) - 1) * (n : Int)) ≥ 131072 := by rw [e2]; clear e2; omega
        simp only [if_neg (show ¬ ((bl x : Nat) : Int) = 0 by clear e2 e3; omega), if_neg (show ¬ (n : Int) > 131072 by clear e2 e3; omega), if_neg e3]
        clear e2 e3
        refine Ev.bind (short_ev (lm_dg x) (by omega)) ?_
        rw [lv_dg, Int.toNat_natCast, one]
        refine Ev.cast (pow_loop n (by omega) (by omega) 1 x ⟨?_⟩) (by rw [Nat.one_mul])
        have h5 : (dg x).length * n ≤ 1 * 4095 := Nat.mul_le_mul hxl (by omega)
        rw [dg_one]
        simp only [List.length_cons, List.length_nil]
        omega
theorem rtrim_loop {l : List Int} (hl : Lm l) (hlen : l.length < 1099511627776) : ∀ n : Nat, n ≤ l.length → (∀ i : Nat, n ≤ i → i < l.length → rd l (i : Int) = 0) →
    Ev (fun k => r1_Trim.l0 k l (n : Int)) (dg (lv l).toNat) := by
  intro n
  induction n with
  | zero =>
    intro hn hz
    refine Ev.succ ?_
    simp only [r1_Trim.l0, Option.bind_some, if_neg (show ¬ ((0 : Nat) : Int) > 0 by omega), if_pos (show (0 : Int) ≤ ((0 : Nat) : Int) by omega), if_pos (show ((0 : Nat) : Int) ≤ (l.length : Int) by omega), if_pos (show ([] : List Int).length + (l.take ((0 : Nat) : Int).toNat).length < 35184372088832 by simp), List.nil_append]
    refine Ev.cast (Ev.some _) ?_
    rw [show (((0 : Nat) : Int)).toNat = 0 from rfl]
    exact dg_take hl hn hz (.inl rfl)
  | succ n ih =>
    intro hn hz
    refine Ev.succ ?_
    have e : wrap64 (((n + 1 : Nat) : Int) - 1) = (n : Int) := by rw [w64 (by omega) (by omega)]; omega
    by_cases h : rd l (n : Int) = 0
    · simp only [r1_Trim.l0, e, if_pos (show ((n + 1 : Nat) : Int) > 0 by omega), if_pos (show (0 : Int) ≤ (n : Int) by omega), if_pos (show (n : Int) < (l.length : Int) by omega), if_pos h]
      exact ih (by omega) (fun i h1 h2 => by
        by_cases e2 : i = n
        · subst e2; exact h
        · exact hz i (by omega) h2)
    · have hlt : ([] : List Int).length + (l.take ((n + 1 : Nat) : Int).toNat).length < 35184372088832 := by
        rw [List.length_take, List.length_nil]; clear e; omega
      simp only [r1_Trim.l0, Option.bind_some, e, if_pos (show ((n + 1 : Nat) : Int) > 0 by omega), if_pos (show (0 : Int) ≤ (n : Int) by omega), if_pos (show (n : Int) < (l.length : Int) by omega), if_neg h, if_pos (show (0 : Int) ≤ ((n + 1 : Nat) : Int) by omega), if_pos (show ((n + 1 : Nat) : Int) ≤ (l.length : Int) by omega), if_pos hlt, List.nil_append]
      refine Ev.cast (Ev.some _) ?_
      rw [show (((n + 1 : Nat) : Int)).toNat = n + 1 by omega]
      exact dg_take hl hn hz (.inr h)
theorem rtrim_ev {l : List Int} (hl : Lm l) (hlen : l.length < 1099511627776) : Ev (fun k => r1_Trim.f k l) (dg (lv l).toNat) := by
  simp only [r1_Trim.f]
  exact rtrim_loop hl hlen l.length (Nat.le_refl _) (fun i h1 h2 => by omega)
theorem rtrim2_ev {a : Nat} (h1 : (dg a).length < 268435456) : Ev (fun k => r1_Trim.f k (dg a)) (dg a) := by
  refine Ev.cast (rtrim_ev (lm_dg a) (by omega)) ?_
  rw [lv_dg, Int.toNat_natCast]
theorem rof_ev {n : Nat} (hn : n < 18446744073709551616) : Ev (fun k => r1_Of.f k (n : Int)) (dg n) := by
  simp only [r1_Of.f]
  have e1 : Int.tmod (n : Int) 4294967296 = (n : Int) % 4294967296 := Int.tmod_eq_emod_of_nonneg (by omega)
  have e2 : Int.tdiv (n : Int) 4294967296 = (n : Int) / 4294967296 := Int.tdiv_eq_ediv_of_nonneg (by omega)
  rw [e1, e2, u64w (x := (n : Int) / 4294967296) (by clear e1 e2; omega) (by clear e1 e2; omega)]
  have hl : Lm [(n : Int) % 4294967296 % 4294967296, ((n : Int) / 4294967296) % 4294967296] := by
    rw [lm_cons, lm_cons]
    clear e1 e2
    exact ⟨by omega, by omega, lm_nil⟩
  refine Ev.bind (rtrim_ev hl (by simp)) ?_
  refine Ev.cast (Ev.some _) ?_
  congr 1
  simp only [lv_cons, lv_nil]
  clear e1 e2
  omega
theorem limb_eq {l : List Int} (hl : Lm l) (i : Nat) : r1_limb.f l (i : Int) = some (rd l (i : Int)) := by
  unfold r1_limb.f
  have r := rd_lm hl (i : Int)
  by_cases h : i < l.length
  · rw [if_pos (by omega), if_pos (by omega), u64w r.1 (by omega)]
  · rw [if_neg (by omega), rd_ge (by omega)]
theorem lv_take_any (l : List Int) (i : Nat) : lv (l.take (i + 1)) = lv (l.take i) + (bp i : Int) * rd l (i : Int) := by
  by_cases h : i < l.length
  · exact lv_take_succ h
  · rw [rd_ge (by omega), List.take_of_length_le (by omega), List.take_of_length_le (by omega)]; simp
theorem radd_sum {a b c : Int} (ha0 : 0 ≤ a) (ha1 : a < 4294967296) (hb0 : 0 ≤ b) (hb1 : b < 4294967296) (hc0 : 0 ≤ c) (hc1 : c ≤ 1) :
    IntKind.u64.wrap (IntKind.u64.wrap (a + b) + c) = a + b + c := by
  rw [u64w (x := a + b) (by omega) (by omega), u64w (by omega) (by omega)]
theorem tmod_nn {a : Int} (b : Int) (h : 0 ≤ a) : Int.tmod a b = a % b := Int.tmod_eq_emod_of_nonneg h
theorem tdiv_nn {a : Int} (b : Int) (h : 0 ≤ a) : Int.tdiv a b = a / b := Int.tdiv_eq_ediv_of_nonneg h
theorem radd_loop {a b : List Int} (ha : Lm a) (hb : Lm b) (hla : a.length < 549755813888) (hlb : b.length < 549755813888) : ∀ (d i : Nat) (o : List Int) (c : Int), i + d = max a.length b.length + 1 → o.length = i → Lm o → 0 ≤ c → c ≤ 1 → (d = 0 → c = 0) →
    Aside0 (lv o + (bp i : Int) * c = lv (a.take i) + lv (b.take i)) → Ev (fun k => r1_Add.l0 k a b o c (i : Int)) (dg (lv a + lv b).toNat) := by
  intro d
  induction d with
  | zero =>
    intro i o c hi ho hol hc0 hc1 hz hv
    have hc := hz rfl
    subst hc
    refine Ev.succ ?_
    simp only [r1_Add.l0, if_neg (show ¬ (i : Int) < (a.length : Int) by omega), if_neg (show ¬ (i : Int) < (b.length : Int) by omega), decide_eq_false (show ¬ (0 : Int) > 0 by omega)]
    refine Ev.succ ?_
    simp only [r1_Add.j1, Bool.false_eq_true, if_false]
    refine Ev.bind (rtrim_ev hol (by omega)) ?_
    refine Ev.cast (Ev.some _) ?_
    have hv := hv.out
    rw [List.take_of_length_le (by omega), List.take_of_length_le (by omega), Int.mul_zero, Int.add_zero] at hv
    rw [hv]
  | succ d ih =>
    intro i o c hi ho hol hc0 hc1 hz hv
    have ra := rd_lm ha (i : Int)
    have rb := rd_lm hb (i : Int)
    have body : Ev (fun k => r1_Add.j1 k a b o c (i : Int) true) (dg (lv a + lv b).toNat) := by
      refine Ev.succ ?_
      simp only [r1_Add.j1, if_true, limb_eq ha, limb_eq hb, Option.bind_some, if_pos (show o.length < 35184372088832 by omega), radd_sum ra.1 ra.2 rb.1 rb.2 hc0 hc1, tmod_nn 4294967296 (show 0 ≤ rd a (i : Int) + rd b (i : Int) + c by omega), tdiv_nn 4294967296 (show 0 ≤ rd a (i : Int) + rd b (i : Int) + c by omega), wn (show (i : Int) + 1 = ((i + 1 : Nat) : Int) by omega) (by omega), u64w (x := (rd a (i : Int) + rd b (i : Int) + c) / 4294967296) (by omega) (by omega), show (rd a (i : Int) + rd b (i : Int) + c) % 4294967296 % 4294967296 = (rd a (i : Int) + rd b (i : Int) + c) % 4294967296 by omega]
      have hs : ∃ s, s = rd a (i : Int) + rd b (i : Int) + c := ⟨_, rfl⟩
      obtain ⟨s, hs⟩ := hs
      rw [← hs]
      have hs0 : 0 ≤ s := by omega
      have hs1 : s ≤ 8589934591 := by omega
      refine ih (i + 1) _ _ (by omega) (by rw [List.length_append]; simp [ho]) (lm_append hol (lm_cons.mpr ⟨by omega, lm_nil⟩)) (by omega) (by omega) (fun hd => ?_) ⟨?_⟩
      · have h1 : rd a (i : Int) = 0 := rd_ge (by omega)
        have h2 : rd b (i : Int) = 0 := rd_ge (by omega)
        omega
      · rw [lv_append, lv_cons, lv_nil, ho, lv_take_any, lv_take_any, bp_succ, Int.natCast_mul]
        have hv := hv.out
        have hdiv : s % 4294967296 + 4294967296 * (s / 4294967296) = rd a (i : Int) + rd b (i : Int) + c := by rw [split_div]; exact hs
        clear ih hz hs hs0 hs1 ra rb hc0 hc1
        generalize s % 4294967296 = y at *
        generalize s / 4294967296 = u at *
        generalize (bp i : Int) = p at *
        generalize rd a (i : Int) = x at *
        generalize rd b (i : Int) = z at *
        generalize lv (a.take i) = la at *
        generalize lv (b.take i) = lb at *
        generalize lv o = lo at *
        show lo + p * (y + 4294967296 * 0) + 4294967296 * p * u = la + p * x + (lb + p * z)
        have h3 : p * (y + 4294967296 * u) = p * (x + z + c) := by rw [hdiv]
        have h4 : lo + p * c = la + lb := hv
        grind
    refine Ev.succ ?_
    simp only [r1_Add.l0]
    by_cases h1 : (i : Int) < (a.length : Int)
    · simp only [if_pos h1]; exact body
    · simp only [if_neg h1]
      by_cases h2 : (i : Int) < (b.length : Int)
      · simp only [if_pos h2]; exact body
      · simp only [if_neg h2]
        by_cases h3 : c > 0
        · simp only [decide_eq_true h3]; exact body
        · simp only [decide_eq_false h3]
          have hc : c = 0 := by omega
          subst hc
          refine Ev.succ ?_
          simp only [r1_Add.j1, Bool.false_eq_true, if_false]
          refine Ev.bind (rtrim_ev hol (by omega)) ?_
          refine Ev.cast (Ev.some _) ?_
          have hv := hv.out
          rw [List.take_of_length_le (by omega), List.take_of_length_le (by omega), Int.mul_zero, Int.add_zero] at hv
          rw [hv]
theorem radd_ev {a b : List Int} (ha : Lm a) (hb : Lm b) (hla : a.length < 549755813888) (hlb : b.length < 549755813888) : Ev (fun k => r1_Add.f k a b) (dg (lv a + lv b).toNat) := by
  simp only [r1_Add.f]
  exact radd_loop ha hb hla hlb _ 0 [] 0 (by rw [Nat.zero_add]) rfl lm_nil (by omega) (by omega) (fun h => by omega) ⟨by simp [lv_nil]⟩
theorem radd2_ev {a b : Nat} (ha : (dg a).length < 268435456) (hb : (dg b).length < 268435456) : Ev (fun k => r1_Add.f k (dg a) (dg b)) (dg (a + b)) := by
  refine Ev.cast (radd_ev (lm_dg a) (lm_dg b) (by omega) (by omega)) ?_
  rw [lv_dg, lv_dg, ← Int.natCast_add, Int.toNat_natCast]
theorem same_loop (a b : List Int) (hab : a.length = b.length) (hlen : a.length < 549755813888) : ∀ (d i : Nat), i + d = a.length → a.take i = b.take i → Ev (fun k => r1_Same.l0 k a b (i : Int)) (decide (a = b)) := by
  intro d
  induction d with
  | zero =>
    intro i hi he
    refine Ev.succ ?_
    simp only [r1_Same.l0, if_neg (show ¬ (i : Int) < (a.length : Int) by omega)]
    rw [List.take_of_length_le (by omega), List.take_of_length_le (by omega)] at he
    refine Ev.cast (Ev.some _) (decide_eq_true he).symm
  | succ d ih =>
    intro i hi he
    refine Ev.succ ?_
    simp only [r1_Same.l0, if_pos (show (i : Int) < (a.length : Int) by omega), if_pos (show (0 : Int) ≤ (i : Int) by omega), if_pos (show (i : Int) < (b.length : Int) by omega), wn (show (i : Int) + 1 = ((i + 1 : Nat) : Int) by omega) (by omega)]
    by_cases h : rd a (i : Int) = rd b (i : Int)
    · simp only [if_pos h]
      exact ih (i + 1) (by omega) (by rw [take_succ_rd (by omega), take_succ_rd (by omega), he, h])
    · simp only [if_neg h]
      exact Ev.cast (Ev.some _) (decide_eq_false (fun e => h (by rw [e]))).symm
theorem same_ev (a b : List Int) (hlen : a.length < 549755813888) : Ev (fun k => r1_Same.f k a b) (decide (a = b)) := by
  simp only [r1_Same.f]
  by_cases h : a.length = b.length
  · simp only [if_pos (show (a.length : Int) = (b.length : Int) by omega)]
    exact same_loop a b h hlen a.length 0 (by omega) rfl
  · simp only [if_neg (show ¬ (a.length : Int) = (b.length : Int) by omega)]
    exact Ev.cast (Ev.some _) (decide_eq_false (fun e => h (by rw [e]))).symm
theorem rmul_inner {b l : List Int} (hl : Lm l) (hb : Lm b) (hbl : b.length < 268435456) (hll : l.length < 268435456) (i : Nat) (hi : i < l.length) (V : Int) (R : List Int)
    (next : ∀ o : List Int, o.length = l.length + b.length → Lm o → (∀ j : Nat, i + 1 + b.length ≤ j → rd o (j : Int) = 0) → Aside0 (lv o = V + (bp i : Int) * (rd l (i : Int) * lv b)) → Ev (fun k => r1_Mul.l0 k l b o ((i + 1 : Nat) : Int)) R) :
    ∀ (d j : Nat) (o : List Int) (c : Int), j + d = b.length → o.length = l.length + b.length → Lm o → 0 ≤ c → c < 4294967296 → (∀ m : Nat, i + b.length ≤ m → rd o (m : Int) = 0) →
      Aside0 (lv o + (bp (i + j) : Int) * c = V + (bp i : Int) * (rd l (i : Int) * lv (b.take j))) →
      Ev (fun k => r1_Mul.l1 k l b o (i : Int) c (j : Int)) R := by
  intro d
  induction d with
  | zero =>
    intro j o c hj ho hol hc0 hc1 hz hv
    have hj : j = b.length := by omega
    subst hj
    refine Ev.succ ?_
    simp only [r1_Mul.l1, wn (show (i : Int) + (b.length : Int) = ((i + b.length : Nat) : Int) by omega) (by omega), wn (show (i : Int) + 1 = ((i + 1 : Nat) : Int) by omega) (by omega), if_neg (show ¬ ((b.length : Nat) : Int) < (b.length : Int) by omega), if_pos (show (0 : Int) ≤ ((i + b.length : Nat) : Int) by omega), if_pos (show ((i + b.length : Nat) : Int) < (o.length : Int) by omega)]
    rw [Int.toNat_natCast, show c % 4294967296 = c by omega]
    refine next _ (by rw [List.length_set]; omega) (lm_set hol hc0 hc1) (fun m hm => ?_) ⟨?_⟩
    · rw [rd_set_ne _ (by omega)]; exact hz m (by omega)
    · rw [lv_set _ (by omega), hz _ (Nat.le_refl _), Int.sub_zero, hv.out, List.take_of_length_le (Nat.le_refl _)]
  | succ d ih =>
    intro j o c hj ho hol hc0 hc1 hz hv
    have hjb : j < b.length := by omega
    have rl := rd_lm hl (i : Int)
    refine Ev.succ ?_
    have rb := rd_lm hb (j : Int)
    have ro := rd_lm hol ((i + j : Nat) : Int)
    have hb2 := mac_bound rl.1 rl.2 rb.1 rb.2 ro.1 ro.2 hc0 hc1
    have hs00 : 0 ≤ rd l (i : Int) * rd b (j : Int) + rd o ((i + j : Nat) : Int) + c := Int.add_nonneg (Int.add_nonneg hb2.1 ro.1) hc0
    simp only [r1_Mul.l1, wn (show (i : Int) + (j : Int) = ((i + j : Nat) : Int) by omega) (by omega), wn (show (j : Int) + 1 = ((j + 1 : Nat) : Int) by omega) (by omega), if_pos (show (j : Int) < (b.length : Int) by omega), if_pos (show (0 : Int) ≤ (i : Int) by omega), if_pos (show (i : Int) < (l.length : Int) by omega), if_pos (show (0 : Int) ≤ (j : Int) by omega), if_pos (show (0 : Int) ≤ ((i + j : Nat) : Int) by omega), if_pos (show ((i + j : Nat) : Int) < (o.length : Int) by omega), mac_wrap rl.1 rl.2 rb.1 rb.2 ro.1 ro.2 hc0 hc1, tmod_nn 4294967296 hs00, tdiv_nn 4294967296 hs00]
    have hdef : ∃ s, s = rd l (i : Int) * rd b (j : Int) + rd o ((i + j : Nat) : Int) + c := ⟨_, rfl⟩
    obtain ⟨s, hs⟩ := hdef
    have hs0 : 0 ≤ s := by rw [hs]; exact hs00
    have hs1 : s < 18446744073709551616 := by rw [hs]; exact hb2.2
    have hd := div_bound hs0 hs1
    clear hb2
    rw [← hs]
    rw [Int.toNat_natCast]
    have hs := Aside0.mk hs
    have hq : IntKind.u64.wrap (s / 4294967296) = s / 4294967296 := u64w hd.2.2.1 (by omega)
    rw [hq]
    clear hq
    rw [show s % 4294967296 % 4294967296 = s % 4294967296 by omega]
    refine ih (j + 1) _ _ (by omega) (by rw [List.length_set]; omega) (lm_set hol hd.1 hd.2.1) hd.2.2.1 hd.2.2.2 (fun m hm => ?_) ⟨?_⟩
    · rw [rd_set_ne _ (by omega)]; exact hz m hm
    · rw [lv_set _ (by omega), lv_take_succ hjb, ← Nat.add_assoc, bp_succ, Int.natCast_mul]
      have hdiv : s % 4294967296 + 4294967296 * (s / 4294967296) = rd l (i : Int) * rd b (j : Int) + rd o ((i + j : Nat) : Int) + c := by rw [split_div]; exact hs.out
      have hv := hv.out
      have hbp : ((bp (i + j) : Nat) : Int) = (bp i : Int) * (bp j : Int) := by rw [bp_add, Int.natCast_mul]
      clear ih hz next hs hs0 hs1 hd rb ro hc0 hc1 hs00 rl
      generalize s % 4294967296 = y at *
      generalize s / 4294967296 = u at *
      generalize (bp (i + j) : Int) = p at *
      generalize (bp i : Int) = pi at *
      generalize (bp j : Int) = pj at *
      generalize rd b (j : Int) = rb at *
      generalize rd l (i : Int) = x at *
      generalize rd o ((i + j : Nat) : Int) = ro at *
      generalize lv o = lo at *
      generalize lv (b.take j) = lt at *
      subst hbp
      have h1 : lo + pi * pj * c = V + pi * (x * lt) := hv
      have h2 : y + 4294967296 * u = x * rb + ro + c := hdiv
      show lo + pi * pj * (y - ro) + 4294967296 * (pi * pj) * u = V + pi * (x * (lt + pj * rb))
      have h3 : pi * pj * (y + 4294967296 * u) = pi * pj * (x * rb + ro + c) := by rw [h2]
      grind
theorem rmul_outer {b l : List Int} (hb : Lm b) (hl : Lm l) (hbl : b.length < 268435456) (hll : l.length < 268435456) : ∀ (d i : Nat) (o : List Int), i + d = l.length → o.length = l.length + b.length → Lm o → (∀ m : Nat, i + b.length ≤ m → rd o (m : Int) = 0) →
    Aside0 (lv o = lv (l.take i) * lv b) → Ev (fun k => r1_Mul.l0 k l b o (i : Int)) (dg (lv l * lv b).toNat) := by
  intro d
  induction d with
  | zero =>
    intro i o hi ho hol hz hv
    have hi : i = l.length := by omega
    subst hi
    refine Ev.succ ?_
    simp only [r1_Mul.l0, if_neg (show ¬ ((l.length : Nat) : Int) < (l.length : Int) by omega)]
    refine Ev.bind (rtrim_ev hol (by omega)) ?_
    refine Ev.cast (Ev.some _) ?_
    rw [hv.out, List.take_of_length_le (Nat.le_refl _)]
  | succ d ih =>
    intro i o hi ho hol hz hv
    have hil : i < l.length := by omega
    refine Ev.succ ?_
    simp only [r1_Mul.l0, if_pos (show (i : Int) < (l.length : Int) by omega)]
    refine rmul_inner hl hb hbl hll i hil (lv (l.take i) * lv b) _ (fun o2 h1 h2 h3 h4 => ?_) b.length 0 o 0 (by omega) ho hol (by omega) (by omega) hz ⟨?_⟩
    · refine ih (i + 1) o2 (by omega) h1 h2 (fun m hm => h3 m hm) ⟨?_⟩
      rw [h4.out, lv_take_succ hil, Int.add_mul, Int.mul_assoc]
    · rw [hv.out]; simp [lv_nil]
theorem rmul_ev {a b : List Int} (ha : Lm a) (hb : Lm b) (h1 : a.length < 268435456) (h2 : b.length < 268435456) : Ev (fun k => r1_Mul.f k a b) (dg (lv a * lv b).toNat) := by
  simp only [r1_Mul.f]
  simp only [wn (show (a.length : Int) + (b.length : Int) = ((a.length + b.length : Nat) : Int) by omega) (by omega), Int.toNat_natCast, if_pos (show (0 : Int) ≤ ((a.length + b.length : Nat) : Int) by omega), if_pos (show a.length + b.length ≤ 70368744177664 by omega)]
  exact rmul_outer hb ha h2 h1 a.length 0 _ (by omega) (by simp) (lm_rep _) (fun m _ => rd_rep _ m) ⟨by rw [lv_rep]; simp [lv_nil]⟩
theorem rmul2_ev {a b : Nat} (h1 : (dg a).length < 268435456) (h2 : (dg b).length < 268435456) : Ev (fun k => r1_Mul.f k (dg a) (dg b)) (dg (a * b)) := by
  refine Ev.cast (rmul_ev (lm_dg a) (lm_dg b) h1 h2) ?_
  rw [lv_dg, lv_dg, ← Int.natCast_mul, Int.toNat_natCast]
theorem rbits_loop : ∀ (b x n : Nat), x < 4294967296 → Lib.bitLen x = b → n + b < 9223372036854775000 → Ev (fun k => r1_Bits.l0 k (n : Int) (x : Int)) ((n + b : Nat) : Int) := by
  intro b
  induction b with
  | zero =>
    intro x n hx hb hn
    have h0 : x = 0 := by
      by_cases h : x = 0
      · exact h
      · have := bitLen_pos h hx; omega
    subst h0
    refine Ev.succ ?_
    simp only [r1_Bits.l0, if_neg (show ¬ ((0 : Nat) : Int) > 0 by omega)]
    exact Ev.some _
  | succ b ih =>
    intro x n hx hb hn
    have h0 : x ≠ 0 := by intro h; subst h; rw [bitLen_zero] at hb; omega
    have hb2 : b + 1 ≤ 32 := by rw [← hb]; exact bits_half x hx
    rw [Lib.bitLen_half x h0 (by omega)] at hb
    refine Ev.succ ?_
    simp only [r1_Bits.l0, if_pos (show (x : Int) > 0 by omega), tdiv_nn 2 (show (0 : Int) ≤ (x : Int) by omega), show (x : Int) / 2 % 4294967296 = ((x / 2 : Nat) : Int) by omega, wn (show (n : Int) + 1 = ((n + 1 : Nat) : Int) by omega) (by omega)]
    refine Ev.cast (ih (x / 2) (n + 1) (by omega) (by omega) (by omega)) (by omega)
theorem rbits_ev {n : Nat} (hn : (dg n).length < 33554432) : Ev (fun k => r1_Bits.f k (dg n)) ((bl n : Nat) : Int) := by
  simp only [r1_Bits.f]
  refine Ev.bind (rtrim2_ev (by omega)) ?_
  by_cases h : n = 0
  · subst h
    rw [dg_zero]
    simp only [List.length_nil, if_pos (show ((0 : Nat) : Int) = 0 from rfl)]
    exact Ev.cast (Ev.some _) (by simp [bl])
  · have hp : (dg n).length ≠ 0 := by rw [Ne, dg_len_zero]; exact h
    obtain ⟨m, hm⟩ : ∃ m, (dg n).length = m + 1 := ⟨(dg n).length - 1, by omega⟩
    have hb : bl n = 32 * m + Lib.bitLen (rd (dg n) (m : Int)).toNat := by unfold bl; rw [if_neg h, hm]; rfl
    have hr := rd_lm (lm_dg n) (m : Int)
    have hbl := bits_half (rd (dg n) (m : Int)).toNat (by omega)
    rw [hb, hm]
    simp only [if_neg (show ¬ ((m + 1 : Nat) : Int) = 0 by omega), wn (show ((m + 1 : Nat) : Int) - 1 = (m : Int) by omega) (by omega), if_pos (show (0 : Int) ≤ (m : Int) by omega), if_pos (show (m : Int) < ((m + 1 : Nat) : Int) by omega)]
    rw [wn (show (32 : Int) * (m : Int) = ((32 * m : Nat) : Int) by omega) (by omega)]
    obtain ⟨x, hx⟩ : ∃ x : Nat, rd (dg n) (m : Int) = (x : Int) := ⟨(rd (dg n) (m : Int)).toNat, by omega⟩
    rw [hx] at hr hbl ⊢
    exact rbits_loop _ x (32 * m) (by omega) rfl (by omega)
theorem bl_le_one {n : Nat} : bl n ≤ 1 ↔ n ≤ 1 := by
  constructor
  · intro h
    by_cases h1 : bl n = 1
    · rw [bl_one.mp h1]; exact Nat.le_refl _
    · have h2 : n = 0 := bl_zero.mp (by omega)
      omega
  · intro h
    by_cases h1 : n = 1
    · rw [bl_one.mpr h1]; exact Nat.le_refl _
    · have h2 : bl n = 0 := bl_zero.mpr (by omega)
      omega
theorem rsmall_loop {a : List Int} {b : Int} (ha : Lm a) (hb0 : 0 < b) (hb1 : b < 4294967296) (hlen : a.length < 1073741824) : ∀ (n : Nat) (o : List Int) (r : Int), n ≤ a.length → o.length = a.length → Lm o → (∀ j : Nat, j < n → rd o (j : Int) = 0) → 0 ≤ r → r < b →
    Aside0 (lv o * b + (bp n : Int) * r = lv a - lv (a.take n)) → Ev (fun k => r1_small.l0 k a b o r ((n : Int) - 1)) (dg (lv a / b).toNat) := by
  intro n
  induction n with
  | zero =>
    intro o r hn ho hol hz hr0 hr1 hv
    refine Ev.succ ?_
    simp only [r1_small.l0, if_neg (show ¬ ((0 : Nat) : Int) - 1 ≥ 0 by omega)]
    refine Ev.bind (rtrim_ev hol (by omega)) ?_
    refine Ev.cast (Ev.some _) ?_
    have hv := hv.out
    rw [List.take_zero, lv_nil, bp_zero] at hv
    have e : lv a = b * lv o + r := by rw [Int.mul_comm]; omega
    have h1 : lv a / b = lv o := by
      rw [e, Int.add_comm, Int.add_mul_ediv_left _ _ (by omega), Int.ediv_eq_zero_of_lt hr0 hr1]; omega
    rw [h1]
  | succ n ih =>
    intro o r hn ho hol hz hr0 hr1 hv
    refine Ev.succ ?_
    have ra := rd_lm ha (n : Int)
    have hd := digit_bounds hr0 hr1 hb1 ra.1 ra.2
    have hdiv : b * ((r * 4294967296 + rd a (n : Int)) / b) + (r * 4294967296 + rd a (n : Int)) % b = r * 4294967296 + rd a (n : Int) := Int.mul_ediv_add_emod _ _
    have t0 : 0 ≤ r * 4294967296 + rd a (n : Int) := by omega
    simp only [r1_small.l0, show ((n + 1 : Nat) : Int) - 1 = (n : Int) from by omega, if_pos (show (n : Int) ≥ 0 by omega), if_pos (show (0 : Int) ≤ (n : Int) by omega), if_pos (show (n : Int) < (a.length : Int) by omega), if_pos (show (n : Int) < (o.length : Int) by omega), u64w (x := b) (by omega) (by omega), if_neg (show ¬ b = 0 by omega),
      u64w (x := rd a (n : Int)) ra.1 (by omega), u64w (x := r * 4294967296) (by omega) (by omega), u64w (x := r * 4294967296 + rd a (n : Int)) (by omega) (by omega), w64 (x := (n : Int) - 1) (by omega) (by omega)]
    rw [Int.tdiv_eq_ediv_of_nonneg t0, Int.tmod_eq_emod_of_nonneg t0]
    generalize (r * 4294967296 + rd a (n : Int)) / b = q at *
    generalize (r * 4294967296 + rd a (n : Int)) % b = s at *
    rw [u64w (x := q) hd.1 (by omega), show q % 4294967296 = q by omega, Int.toNat_natCast]
    refine ih _ _ (by omega) (by rw [List.length_set]; exact ho) (lm_set hol hd.1 hd.2.1) (fun j hj => ?_) hd.2.2.1 hd.2.2.2 ⟨?_⟩
    · rw [rd_set_ne _ (by omega)]; exact hz j (by omega)
    · have hv := hv.out
      rw [lv_take_succ (l := a) (i := n) (by omega), bp_succ, Int.natCast_mul] at hv
      rw [lv_set (l := o) (i := n) _ (by omega), hz n (by omega)]
      clear ih hz hd ra t0
      generalize lv o = x at *
      generalize (bp n : Int) = p at *
      generalize rd a (n : Int) = y at *
      generalize lv a = A at *
      generalize lv (a.take n) = T at *
      have hv : x * b + 4294967296 * p * r = A - (T + p * y) := hv
      have h3 : p * (b * q + s) = p * (r * 4294967296 + y) := by rw [hdiv]
      grind
theorem rsmall_ev {a n d : Nat} (ha : (dg a).length < 134217728) (hn : n < 4294967296) (hd0 : 0 < d) (hd1 : d < 4294967296) : Ev (fun k => r1_small.f k (dg a) (n : Int) (d : Int)) (dg (a * n / d)) := by
  simp only [r1_small.f, u64w (x := (n : Int)) (by omega) (by omega)]
  refine Ev.bind (rof_ev (by omega)) ?_
  have hnl : (dg n).length ≤ 1 := dg_len_le (by rw [show (1 : Nat) = 0 + 1 from rfl, bp_succ, bp_zero]; omega)
  refine Ev.bind (rmul2_ev (by omega) (by omega)) ?_
  have hl := mul_len a n
  simp only [if_pos (show (0 : Int) ≤ ((dg (a * n)).length : Int) by omega), Int.toNat_natCast, if_pos (show (dg (a * n)).length ≤ 70368744177664 by omega), w64 (x := ((dg (a * n)).length : Int) - 1) (by omega) (by omega)]
  refine Ev.cast (rsmall_loop (lm_dg _) (b := (d : Int)) (by omega) (by omega) (by omega) _ _ 0 (Nat.le_refl _) (by simp) (lm_rep _) (fun j _ => rd_rep _ j) (by omega) (by omega) ⟨by rw [lv_rep, List.take_of_length_le (Nat.le_refl _)]; simp⟩) ?_
  rw [lv_dg, ← Int.natCast_ediv, Int.toNat_natCast]
theorem choose_loop {n : Nat} (hn : n ≤ 4096) : ∀ (d i m : Nat), i + d = m → m ≤ n → Ev (fun k => r1_Choose.l0 k (n : Int) (m : Int) (dg (bin n i)) (i : Int)) (dg (bin n m)) := by
  intro d
  induction d with
  | zero =>
    intro i m hi hm
    have hi : i = m := by omega
    subst hi
    refine Ev.succ ?_
    simp only [r1_Choose.l0, if_neg (show ¬ (i : Int) < (i : Int) by omega)]
    exact Ev.some _
  | succ d ih =>
    intro i m hi hm
    refine Ev.succ ?_
    have hl := bin_len hn i
    simp only [r1_Choose.l0, wn (show (n : Int) - (i : Int) = ((n - i : Nat) : Int) by omega) (by omega), wn (show (i : Int) + 1 = ((i + 1 : Nat) : Int) by omega) (by omega), if_pos (show (i : Int) < (m : Int) by omega)]
    refine Ev.bind (rsmall_ev (by omega) (by omega) (by omega) (by omega)) ?_
    rw [bin_mul, Nat.mul_div_cancel_left _ (by omega)]
    exact ih (i + 1) m (by omega) hm
theorem choose_ev {n m : Nat} (hn : n ≤ 4096) (hm : m < 9223372036854775808) : Ev (fun k => r1_Choose.f k (n : Int) (m : Int)) (dg (bin n m)) := by
  simp only [r1_Choose.f, if_neg (show ¬ (m : Int) < 0 by omega)]
  by_cases h : n < m
  · simp only [decide_eq_true (show (m : Int) > (n : Int) by omega)]
    refine Ev.succ ?_
    simp only [r1_Choose.j0, if_true, bin_above h, dg_zero]
    exact Ev.some _
  · simp only [decide_eq_false (show ¬ (m : Int) > (n : Int) by omega)]
    refine Ev.succ ?_
    simp only [r1_Choose.j0, Bool.false_eq_true, if_false]
    rw [show ([1] : List Int) = dg (bin n 0) by rw [bin_zero, dg_one]]
    exact choose_loop hn m 0 m (by omega) (by omega)
theorem half_twice (n p : Nat) : n / p / 2 = n / (2 * p) := by rw [Nat.div_div_eq_div_mul, Nat.mul_comm]
theorem rpow_step (a n p : Nat) : a ^ (n / (2 * p)) * a ^ (n / (2 * p)) * (if n / p % 2 = 1 then a else 1) = a ^ (n / p) := by
  rw [← half_twice]
  generalize n / p = m
  rw [← Nat.pow_add]
  by_cases h : m % 2 = 1
  · rw [if_pos h, ← Nat.pow_succ]; congr 1; omega
  · rw [if_neg h, Nat.mul_one]; congr 1; omega
theorem rpow_loop {a n : Nat} (ha : (dg a).length ≤ 1) (hn : n < 4096) : ∀ (s : Nat), s ≤ 19 → ∀ d p : Nat, d = 2 ^ s / 2 → p = 2 ^ s → Ev (fun k => r1_Pow.l0 k (dg a) (n : Int) (dg (a ^ (n / p))) (d : Int)) (dg (a ^ n), 0) := by
  intro s
  induction s with
  | zero =>
    intro _ d p hd hp
    subst hd
    subst hp
    refine Ev.succ ?_
    rw [Nat.pow_zero, Nat.div_one]
    simp only [r1_Pow.l0, if_neg (show ¬ ((1 / 2 : Nat) : Int) > 0 by omega)]
    exact Ev.some _
  | succ s ih =>
    intro hs d p hd hp
    have hd2 : d = 2 ^ s := by rw [hd, Nat.pow_succ, Nat.mul_div_cancel _ (by decide)]
    have hp2 : p = 2 * d := by rw [hp, hd2, Nat.pow_succ, Nat.mul_comm]
    have hpos : 0 < d := by rw [hd2]; exact Nat.two_pow_pos s
    have hbig : d ≤ 524288 := by rw [hd2]; exact Nat.pow_le_pow_right (n := 2) (by decide) (show s ≤ 19 by omega)
    have hle : ∀ m, m ≤ n → (dg (a ^ m)).length ≤ 4096 := by
      intro m hm
      have := pow_len a m 1 ha
      omega
    have hm1 : n / p ≤ n := Nat.div_le_self _ _
    have hm2 : n / d ≤ n := Nat.div_le_self _ _
    have hl1 := hle _ hm1
    have hl2 := hle _ hm2
    have hst := rpow_step a n d
    rw [← hp2] at hst
    have hsq := mul_len (a ^ (n / p)) (a ^ (n / p))
    refine Ev.succ ?_
    have hw : wrap64 ((n / d : Nat) : Int) = ((n / d : Nat) : Int) := wn rfl (by omega)
    have hq : Int.tdiv (n : Int) (d : Int) = ((n / d : Nat) : Int) := by rw [Int.tdiv_eq_ediv_of_nonneg (by omega), ← Int.natCast_ediv]
    have hm : Int.tmod ((n / d : Nat) : Int) 2 = ((n / d % 2 : Nat) : Int) := by rw [Int.tmod_eq_emod_of_nonneg (Int.natCast_nonneg _)]; rfl
    have hh : wrap64 (Int.tdiv (d : Int) 2) = ((d / 2 : Nat) : Int) := by
      clear hw hq hm
      rw [Int.tdiv_eq_ediv_of_nonneg (by omega)]; exact wn (by omega) (by omega)
    simp only [r1_Pow.l0, if_pos (show (d : Int) > 0 by omega), if_neg (show ¬ (d : Int) = 0 by omega), hq, hw, hm, hh]
    clear hq hw hm hh
    refine Ev.bind (rmul2_ev (by omega) (by omega)) ?_
    have nx := ih (by omega) (d / 2) d (by rw [hd2]) hd2
    by_cases g : n / d % 2 = 1
    · rw [if_pos g] at hst
      simp only [if_pos (show ((n / d % 2 : Nat) : Int) = 1 by omega)]
      refine Ev.bind (rmul2_ev (by omega) (by omega)) ?_
      rw [hst]
      simp only [if_neg (show ¬ (((dg (a ^ (n / d))).length : Nat) : Int) > 4096 by omega)]
      exact nx
    · rw [if_neg g, Nat.mul_one] at hst
      simp only [if_neg (show ¬ ((n / d % 2 : Nat) : Int) = 1 by omega)]
      rw [hst]
      simp only [if_neg (show ¬ (((dg (a ^ (n / d))).length : Nat) : Int) > 4096 by omega)]
      exact nx
theorem rpow_ev {x n : Nat} (hx : x < 4294967296) (hn : n < 4096) : Ev (fun k => r1_Pow.f k (dg x) (n : Int)) (dg (x ^ n), 0) := by
  have hxl : (dg x).length ≤ 1 := dg_len_le (by rw [show (1 : Nat) = 0 + 1 from rfl, bp_succ, bp_zero]; omega)
  simp only [r1_Pow.f, if_neg (show ¬ (n : Int) < 0 by omega)]
  refine Ev.bind (rtrim2_ev (by omega)) ?_
  have one : ([1] : List Int) = dg 1 := dg_one.symm
  by_cases h0 : n = 0
  · subst h0
    simp only [if_pos (show ((0 : Nat) : Int) = 0 from rfl), Nat.pow_zero, one]
    exact Ev.some _
  · simp only [if_neg (show ¬ (n : Int) = 0 by omega)]
    refine Ev.bind (rbits_ev (by omega)) ?_
    by_cases h1 : x ≤ 1
    · have := bl_le_one.mpr h1
      simp only [if_pos (show ((bl x : Nat) : Int) ≤ 1 by omega)]
      have hx1 : x ^ n = x := by
        have : x = 0 ∨ x = 1 := by omega
        rcases this with e | e
        · subst e; exact Nat.zero_pow (by omega)
        · subst e; exact Nat.one_pow _
      rw [hx1]
      exact Ev.some _
    · have hb : ¬ bl x ≤ 1 := fun e => h1 (bl_le_one.mp e)
      simp only [if_neg (show ¬ ((bl x : Nat) : Int) ≤ 1 by omega), if_neg (show ¬ (n : Int) > 131072 by omega)]
      have := rpow_loop hxl hn 19 (Nat.le_refl _) 262144 524288 (by decide) (by decide)
      rw [Nat.div_eq_of_lt (show n < 524288 by omega), Nat.pow_zero, dg_one] at this
      exact this
def cmpZ (x y : Int) : Int := if x < y then -1 else if y < x then 1 else 0
theorem take_bound {a : List Int} (ha : Lm a) (n : Nat) : 0 ≤ lv (a.take n) ∧ lv (a.take n) < bp n := by
  have h1 := lv_nonneg (lm_take ha n)
  have h2 := lv_le_of_len (lm_take ha n) (m := n) (by rw [List.length_take]; omega)
  omega
theorem cmp_lt {a b : List Int} (ha : Lm a) (hb : Lm b) (n : Nat) (h : rd a (n : Int) < rd b (n : Int)) : lv (a.take (n + 1)) < lv (b.take (n + 1)) := by
  have h1 := take_bound ha n
  have h2 := take_bound hb n
  have h3 : (bp n : Int) * (rd a (n : Int) + 1) ≤ (bp n : Int) * rd b (n : Int) := Int.mul_le_mul_of_nonneg_left (by omega) (by omega)
  rw [lv_take_any, lv_take_any]
  rw [Int.mul_add, Int.mul_one] at h3
  generalize (bp n : Int) * rd a (n : Int) = x at *
  generalize (bp n : Int) * rd b (n : Int) = y at *
  omega
theorem cmp_step {a b : List Int} (ha : Lm a) (hb : Lm b) (n : Nat) : cmpZ (lv (a.take (n + 1))) (lv (b.take (n + 1))) = if rd a (n : Int) < rd b (n : Int) then -1 else if rd b (n : Int) < rd a (n : Int) then 1 else cmpZ (lv (a.take n)) (lv (b.take n)) := by
  by_cases h : rd a (n : Int) < rd b (n : Int)
  · rw [if_pos h]
    unfold cmpZ
    rw [if_pos (cmp_lt ha hb n h)]
  · rw [if_neg h]
    by_cases g : rd b (n : Int) < rd a (n : Int)
    · rw [if_pos g]
      have := cmp_lt hb ha n g
      unfold cmpZ
      rw [if_neg (by omega), if_pos this]
    · rw [if_neg g]
      have e : rd a (n : Int) = rd b (n : Int) := by omega
      rw [lv_take_any, lv_take_any, e]
      unfold cmpZ
      generalize (bp n : Int) * rd b (n : Int) = y at *
      by_cases h1 : lv (a.take n) < lv (b.take n)
      · rw [if_pos h1, if_pos (by omega)]
      · rw [if_neg h1, if_neg (by omega)]
        by_cases h2 : lv (b.take n) < lv (a.take n)
        · rw [if_pos h2, if_pos (by omega)]
        · rw [if_neg h2, if_neg (by omega)]
theorem ncmp_loop {a b : List Int} (ha : Lm a) (hb : Lm b) (hlen : a.length < 1073741824) (hab : a.length = b.length) : ∀ n : Nat, n ≤ a.length → Ev (fun k => nat_Cmp.l0 k a b ((n : Int) - 1)) (cmpZ (lv (a.take n)) (lv (b.take n))) := by
  intro n
  induction n with
  | zero =>
    intro _
    refine Ev.succ ?_
    simp only [nat_Cmp.l0, if_neg (show ¬ ((0 : Nat) : Int) - 1 ≥ 0 by omega)]
    exact Ev.cast (Ev.some _) (by simp [cmpZ])
  | succ n ih =>
    intro hn
    refine Ev.succ ?_
    rw [cmp_step ha hb n]
    simp only [nat_Cmp.l0, show ((n + 1 : Nat) : Int) - 1 = (n : Int) from by omega, if_pos (show (n : Int) ≥ 0 by omega), if_pos (show (0 : Int) ≤ (n : Int) by omega), if_pos (show (n : Int) < (a.length : Int) by omega), if_pos (show (n : Int) < (b.length : Int) by omega), w64 (x := (n : Int) - 1) (by omega) (by omega)]
    by_cases h : rd a (n : Int) < rd b (n : Int)
    · simp only [if_pos h]; exact Ev.some _
    · simp only [if_neg h]
      by_cases g : rd b (n : Int) < rd a (n : Int)
      · simp only [if_pos g, if_pos (show rd a (n : Int) > rd b (n : Int) from g)]; exact Ev.some _
      · simp only [if_neg g, if_neg (show ¬ rd a (n : Int) > rd b (n : Int) from g)]; exact ih (by omega)
theorem ncmp_ev {a b : Nat} (h1 : (dg a).length < 268435456) (h2 : (dg b).length < 268435456) : Ev (fun k => nat_Cmp.f k (dg a) (dg b)) (cmpZ (a : Int) (b : Int)) := by
  simp only [nat_Cmp.f]
  refine Ev.bind (short_ev (lm_dg a) (by omega)) ?_
  refine Ev.bind (short_ev (lm_dg b) (by omega)) ?_
  rw [lv_dg, lv_dg, Int.toNat_natCast, Int.toNat_natCast]
  by_cases h : (dg a).length = (dg b).length
  · simp only [if_pos (show ((dg a).length : Int) = ((dg b).length : Int) by omega), w64 (x := ((dg a).length : Int) - 1) (by omega) (by omega)]
    have := ncmp_loop (lm_dg a) (lm_dg b) (by omega) h _ (Nat.le_refl _)
    rw [List.take_of_length_le (Nat.le_refl _), List.take_of_length_le (by omega), lv_dg, lv_dg] at this
    exact this
  · simp only [if_neg (show ¬ ((dg a).length : Int) = ((dg b).length : Int) by omega)]
    by_cases g : (dg a).length < (dg b).length
    · simp only [if_pos (show ((dg a).length : Int) < ((dg b).length : Int) by omega)]
      have hlt : a < b := by
        by_cases e : b ≤ a
        · have := dg_len_mono e; omega
        · omega
      exact Ev.cast (Ev.some _) (by unfold cmpZ; rw [if_pos (by omega)])
    · simp only [if_neg (show ¬ ((dg a).length : Int) < ((dg b).length : Int) by omega)]
      have hlt : b < a := by
        by_cases e : a ≤ b
        · have := dg_len_mono e; omega
        · omega
      exact Ev.cast (Ev.some _) (by unfold cmpZ; rw [if_neg (by omega), if_pos (by omega)])
theorem rcmp_loop {a b : List Int} (ha : Lm a) (hb : Lm b) : ∀ n : Nat, n < 1073741824 → Ev (fun k => r1_Cmp.l0 k a b ((n : Int) - 1)) (cmpZ (lv (a.take n)) (lv (b.take n))) := by
  intro n
  induction n with
  | zero =>
    intro _
    refine Ev.succ ?_
    simp only [r1_Cmp.l0, if_neg (show ¬ ((0 : Nat) : Int) - 1 ≥ 0 by omega)]
    exact Ev.cast (Ev.some _) (by simp [cmpZ])
  | succ n ih =>
    intro hn
    refine Ev.succ ?_
    rw [cmp_step ha hb n]
    simp only [r1_Cmp.l0, show ((n + 1 : Nat) : Int) - 1 = (n : Int) from by omega, if_pos (show (n : Int) ≥ 0 by omega), limb_eq ha, limb_eq hb, Option.bind_some, w64 (x := (n : Int) - 1) (by omega) (by omega)]
    by_cases h : rd a (n : Int) < rd b (n : Int)
    · simp only [if_pos h]; exact Ev.some _
    · simp only [if_neg h]
      by_cases g : rd b (n : Int) < rd a (n : Int)
      · simp only [if_pos g, if_pos (show rd a (n : Int) > rd b (n : Int) from g)]; exact Ev.some _
      · simp only [if_neg g, if_neg (show ¬ rd a (n : Int) > rd b (n : Int) from g)]; exact ih (by omega)
theorem rcmp_ev {a b : Nat} (h1 : (dg a).length < 268435456) (h2 : (dg b).length < 268435456) : Ev (fun k => r1_Cmp.f k (dg a) (dg b)) (cmpZ (a : Int) (b : Int)) := by
  simp only [r1_Cmp.f]
  have hm : mx ((dg a).length : Int) ((dg b).length : Int) = ((max (dg a).length (dg b).length : Nat) : Int) := by unfold mx; split <;> omega
  rw [hm, w64 (x := ((max (dg a).length (dg b).length : Nat) : Int) - 1) (by clear hm; omega) (by clear hm; omega)]
  have := rcmp_loop (lm_dg a) (lm_dg b) (max (dg a).length (dg b).length) (by clear hm; omega)
  rw [List.take_of_length_le (by clear hm; omega), List.take_of_length_le (by clear hm; omega), lv_dg, lv_dg] at this
  exact this
theorem sub_low {a b c : Int} (ha0 : 0 ≤ a) (ha1 : a < 4294967296) (hb0 : 0 ≤ b) (hb1 : b < 4294967296) (hc0 : 0 ≤ c) (hc1 : c ≤ 1) :
    IntKind.u64.wrap (IntKind.u64.wrap (IntKind.u64.wrap a - c) - IntKind.u64.wrap b) % 4294967296 = (a - c - b) % 4294967296 := by
  simp only [u64m]; omega
theorem sub_high {a b c : Int} (ha0 : 0 ≤ a) (ha1 : a < 4294967296) (hb0 : 0 ≤ b) (hb1 : b < 4294967296) (hc0 : 0 ≤ c) (hc1 : c ≤ 1) :
    IntKind.u64.wrap (IntKind.u64.wrap (IntKind.u64.wrap a - c) - IntKind.u64.wrap b) / 9223372036854775808 = -((a - c - b) / 4294967296) := by
  simp only [u64m]; omega
theorem sub_low0 {a c : Int} (ha0 : 0 ≤ a) (ha1 : a < 4294967296) (hc0 : 0 ≤ c) (hc1 : c ≤ 1) : IntKind.u64.wrap (IntKind.u64.wrap a - c) % 4294967296 = (a - c - 0) % 4294967296 := by
  simp only [u64m]; omega
theorem sub_high0 {a c : Int} (ha0 : 0 ≤ a) (ha1 : a < 4294967296) (hc0 : 0 ≤ c) (hc1 : c ≤ 1) : IntKind.u64.wrap (IntKind.u64.wrap a - c) / 9223372036854775808 = -((a - c - 0) / 4294967296) := by
  simp only [u64m]; omega
theorem sub_bounds {a b c : Int} (ha0 : 0 ≤ a) (ha1 : a < 4294967296) (hb0 : 0 ≤ b) (hb1 : b < 4294967296) (hc0 : 0 ≤ c) (hc1 : c ≤ 1) :
    0 ≤ (a - c - b) % 4294967296 ∧ (a - c - b) % 4294967296 < 4294967296 ∧ 0 ≤ -((a - c - b) / 4294967296) ∧ -((a - c - b) / 4294967296) ≤ 1 ∧ (a - c - b) % 4294967296 = a - c - b + 4294967296 * -((a - c - b) / 4294967296) := by omega
theorem nsub_loop {a b : List Int} (ha : Lm a) (hb : Lm b) (hlen : a.length < 1073741824) (hba : b.length ≤ a.length) (hle : lv b ≤ lv a) : ∀ (d i : Nat) (o : List Int) (c : Int), i + d = a.length → o.length = a.length → Lm o → 0 ≤ c → c ≤ 1 → (∀ j : Nat, i ≤ j → rd o (j : Int) = rd a (j : Int)) →
    Aside0 (lv o = lv a - lv (b.take i) + (bp i : Int) * c) → Ev (fun k => nat_Sub.l0 k b o c (a.length : Int) (i : Int)) (dg (lv a - lv b).toNat, 0) := by
  intro d
  induction d with
  | zero =>
    intro i o c hi ho hol hc0 hc1 hr hv
    have hi : i = a.length := by omega
    subst hi
    refine Ev.succ ?_
    simp only [nat_Sub.l0, if_neg (show ¬ ((a.length : Nat) : Int) < (a.length : Int) by omega)]
    refine Ev.bind (short_ev hol (by omega)) ?_
    refine Ev.cast (Ev.some _) ?_
    have hv := hv.out
    rw [List.take_of_length_le hba] at hv
    have h1 := lv_le_of_len hol (m := a.length) (by omega)
    have h2 := lv_nonneg hol
    have hc : c = 0 := by
      by_cases e : c = 1
      · subst e; rw [Int.mul_one] at hv; omega
      · omega
    subst hc
    rw [hv, Int.mul_zero, Int.add_zero]
  | succ d ih =>
    intro i o c hi ho hol hc0 hc1 hr hv
    have hia : i < a.length := by omega
    have ra := rd_lm ha (i : Int)
    have rb := rd_lm hb (i : Int)
    have hri := hr i (Nat.le_refl _)
    have step : Ev (fun k => nat_Sub.l0 k b (o.set ((i : Int)).toNat ((rd a (i : Int) - c - rd b (i : Int)) % 4294967296)) (-((rd a (i : Int) - c - rd b (i : Int)) / 4294967296)) (a.length : Int) ((i + 1 : Nat) : Int)) (dg (lv a - lv b).toNat, 0) := by
      have sb := sub_bounds ra.1 ra.2 rb.1 rb.2 hc0 hc1
      rw [Int.toNat_natCast]
      refine ih (i + 1) _ _ (by omega) (by rw [List.length_set]; exact ho) (lm_set hol sb.1 sb.2.1) sb.2.2.1 sb.2.2.2.1 (fun j hj => ?_) ⟨?_⟩
      · rw [rd_set_ne _ (by omega)]; exact hr j (by omega)
      · rw [lv_set _ (by omega), lv_take_any, bp_succ, Int.natCast_mul, sb.2.2.2.2, hri, hv.out]
        generalize -((rd a (i : Int) - c - rd b (i : Int)) / 4294967296) = u at *
        generalize (bp i : Int) = p at *
        generalize rd a (i : Int) = x at *
        generalize rd b (i : Int) = y at *
        show lv a - lv (b.take i) + p * c + p * (x - c - y + 4294967296 * u - x) = lv a - (lv (b.take i) + p * y) + 4294967296 * p * u
        grind
    refine Ev.succ ?_
    by_cases hib : i < b.length
    · simp only [nat_Sub.l0, wn (show (i : Int) + 1 = ((i + 1 : Nat) : Int) by omega) (by omega), if_pos (show (i : Int) < (a.length : Int) by omega), if_pos (show (0 : Int) ≤ (i : Int) by omega), if_pos (show (i : Int) < (o.length : Int) by omega), if_pos (show (i : Int) < (b.length : Int) by omega), hri, sub_low ra.1 ra.2 rb.1 rb.2 hc0 hc1, sub_high ra.1 ra.2 rb.1 rb.2 hc0 hc1]
      exact step
    · have hb0 : rd b (i : Int) = 0 := rd_ge (by omega)
      rw [hb0] at step
      simp only [nat_Sub.l0, wn (show (i : Int) + 1 = ((i + 1 : Nat) : Int) by omega) (by omega), if_pos (show (i : Int) < (a.length : Int) by omega), if_pos (show (0 : Int) ≤ (i : Int) by omega), if_pos (show (i : Int) < (o.length : Int) by omega), if_neg (show ¬ (i : Int) < (b.length : Int) by omega), hri, sub_low0 ra.1 ra.2 hc0 hc1, sub_high0 ra.1 ra.2 hc0 hc1]
      exact step
theorem nsub_ev {a b : Nat} (h1 : (dg a).length < 268435456) (hab : b ≤ a) : Ev (fun k => nat_Sub.f k (dg a) (dg b)) (dg (a - b), 0) := by
  have hl := dg_len_mono hab
  simp only [nat_Sub.f]
  refine Ev.bind (ncmp_ev (by omega) (by omega)) ?_
  have hc : ¬ cmpZ (a : Int) (b : Int) < 0 := by unfold cmpZ; rw [if_neg (by omega)]; split <;> omega
  simp only [if_neg hc]
  refine Ev.bind (trim2_ev (by omega)) ?_
  refine Ev.cast (nsub_loop (lm_dg a) (lm_dg b) (by omega) hl (by rw [lv_dg, lv_dg]; omega) (dg a).length 0 _ 0 (by omega) rfl (lm_dg a) (by omega) (by omega) (fun j _ => rfl) ⟨by simp [lv_nil]⟩) ?_
  rw [lv_dg, lv_dg]
  congr 2
  omega
theorem rsub_sum {a b c : Int} (ha0 : 0 ≤ a) (ha1 : a < 4294967296) (hb0 : 0 ≤ b) (hb1 : b < 4294967296) (hc0 : 0 ≤ c) (hc1 : c ≤ 1) :
    IntKind.u64.wrap (IntKind.u64.wrap (IntKind.u64.wrap (a + 4294967296) - b) - c) = a + 4294967296 - b - c := by
  rw [u64w (x := a + 4294967296) (by omega) (by omega), u64w (x := a + 4294967296 - b) (by omega) (by omega), u64w (by omega) (by omega)]
theorem rsub_loop {a b : List Int} (ha : Lm a) (hb : Lm b) (hlen : a.length < 1073741824) (hba : b.length ≤ a.length) (hle : lv b ≤ lv a) : ∀ (d i : Nat) (o : List Int) (c : Int), i + d = a.length → o.length = i → Lm o → 0 ≤ c → c ≤ 1 →
    Aside0 (lv o = lv (a.take i) - lv (b.take i) + (bp i : Int) * c) → Ev (fun k => r1_Sub.l0 k a b o c (i : Int)) (dg (lv a - lv b).toNat) := by
  intro d
  induction d with
  | zero =>
    intro i o c hi ho hol hc0 hc1 hv
    have hi : i = a.length := by omega
    subst hi
    refine Ev.succ ?_
    simp only [r1_Sub.l0, if_neg (show ¬ ((a.length : Nat) : Int) < (a.length : Int) by omega)]
    refine Ev.bind (rtrim_ev hol (by omega)) ?_
    refine Ev.cast (Ev.some _) ?_
    have hv := hv.out
    rw [List.take_of_length_le (Nat.le_refl _), List.take_of_length_le hba] at hv
    have h1 := lv_le_of_len hol (m := a.length) (by omega)
    have h2 := lv_nonneg hol
    have hc : c = 0 := by
      by_cases e : c = 1
      · subst e; rw [Int.mul_one] at hv; omega
      · omega
    subst hc
    rw [hv, Int.mul_zero, Int.add_zero]
  | succ d ih =>
    intro i o c hi ho hol hc0 hc1 hv
    have hia : i < a.length := by omega
    have ra := rd_lm ha (i : Int)
    have rb := rd_lm hb (i : Int)
    have hsd : ∃ s, s = rd a (i : Int) + 4294967296 - rd b (i : Int) - c := ⟨_, rfl⟩
    obtain ⟨s, hs⟩ := hsd
    have hs0 : 0 ≤ s := by omega
    have hs1 : s < 8589934592 := by omega
    refine Ev.succ ?_
    simp only [r1_Sub.l0, limb_eq ha, limb_eq hb, Option.bind_some, if_pos (show (i : Int) < (a.length : Int) by omega), if_pos (show o.length < 35184372088832 by omega), rsub_sum ra.1 ra.2 rb.1 rb.2 hc0 hc1, ← hs, tmod_nn 4294967296 hs0, tdiv_nn 4294967296 hs0, wn (show (i : Int) + 1 = ((i + 1 : Nat) : Int) by omega) (by omega), u64w (x := s / 4294967296) (by omega) (by omega), u64w (x := 1 - s / 4294967296) (by omega) (by omega), show s % 4294967296 % 4294967296 = s % 4294967296 by omega]
    refine ih (i + 1) _ _ (by omega) (by rw [List.length_append]; simp [ho]) (lm_append hol (lm_cons.mpr ⟨by omega, lm_nil⟩)) (by omega) (by omega) ⟨?_⟩
    rw [lv_append, lv_cons, lv_nil, ho, lv_take_any, lv_take_any, bp_succ, Int.natCast_mul, hv.out]
    have hdiv : s % 4294967296 + 4294967296 * (s / 4294967296) = rd a (i : Int) + 4294967296 - rd b (i : Int) - c := by rw [split_div]; exact hs
    clear ih hs hs0 hs1 ra rb hc0 hc1 hv
    generalize s % 4294967296 = y at *
    generalize s / 4294967296 = u at *
    generalize (bp i : Int) = p at *
    generalize rd a (i : Int) = x at *
    generalize rd b (i : Int) = z at *
    generalize lv (a.take i) = la at *
    generalize lv (b.take i) = lb at *
    show la - lb + p * c + p * (y + 4294967296 * 0) = la + p * x - (lb + p * z) + 4294967296 * p * (1 - u)
    have h3 : p * (y + 4294967296 * u) = p * (x + 4294967296 - z - c) := by rw [hdiv]
    grind
theorem rsub_ev {a b : Nat} (h1 : (dg a).length < 268435456) (hab : b ≤ a) : Ev (fun k => r1_Sub.f k (dg a) (dg b)) (dg (a - b)) := by
  have hl := dg_len_mono hab
  simp only [r1_Sub.f]
  refine Ev.cast (rsub_loop (lm_dg a) (lm_dg b) (by omega) hl (by rw [lv_dg, lv_dg]; omega) (dg a).length 0 [] 0 (by omega) rfl lm_nil (by omega) (by omega) ⟨by simp [lv_nil]⟩) ?_
  rw [lv_dg, lv_dg]
  congr 1
  omega
theorem bitLen_ge : ∀ (b x : Nat), x < 4294967296 → x ≠ 0 → Lib.bitLen x = b + 1 → 2 ^ b ≤ x := by
  intro b
  induction b with
  | zero => intro x _ h0 _; rw [Nat.pow_zero]; omega
  | succ b ih =>
    intro x hx h0 hb
    rw [Lib.bitLen_half x h0 (by omega)] at hb
    have h2 : x / 2 ≠ 0 := by intro e; rw [e, bitLen_zero] at hb; omega
    have := ih (x / 2) (by omega) h2 (by omega)
    rw [Nat.pow_succ]
    omega
theorem bl_bounds {n : Nat} (h : n ≠ 0) : 2 ^ (bl n - 1) ≤ n ∧ n < 2 ^ bl n ∧ 1 ≤ bl n := by
  have hp : (dg n).length ≠ 0 := by rw [Ne, dg_len_zero]; exact h
  obtain ⟨m, hm⟩ : ∃ m, (dg n).length = m + 1 := ⟨(dg n).length - 1, by omega⟩
  have hb : bl n = 32 * m + Lib.bitLen (rd (dg n) (m : Int)).toNat := by unfold bl; rw [if_neg h, hm]; rfl
  have hr := rd_lm (lm_dg n) (m : Int)
  have ht := dg_head hm.symm
  obtain ⟨x, hx⟩ : ∃ x : Nat, rd (dg n) (m : Int) = (x : Int) := ⟨(rd (dg n) (m : Int)).toNat, by omega⟩
  have hv : lv (dg n) = lv ((dg n).take m) + (bp m : Int) * (x : Int) := by
    have := lv_take_succ (l := dg n) (i := m) (by omega)
    rw [← hm, List.take_of_length_le (Nat.le_refl _), hx] at this
    exact this
  have hlow := take_bound (lm_dg n) m
  rw [lv_dg] at hv
  rw [hx] at hr ht hb
  rw [Int.toNat_natCast] at hb
  have hx0 : x ≠ 0 := by omega
  have hx1 : x < 4294967296 := by omega
  obtain ⟨c, hc⟩ : ∃ c, Lib.bitLen x = c + 1 := ⟨Lib.bitLen x - 1, by have := bitLen_pos hx0 hx1; omega⟩
  have h1 := bitLen_ge c x hx1 hx0 hc
  have h2 := bitLen_lt (c + 1) x hx1 (by omega)
  obtain ⟨y, hy⟩ : ∃ y : Nat, lv ((dg n).take m) = (y : Int) := ⟨(lv ((dg n).take m)).toNat, by omega⟩
  rw [hy] at hlow hv
  have hn : n = y + bp m * x := by
    have : ((n : Nat) : Int) = ((y + bp m * x : Nat) : Int) := by rw [hv, Int.natCast_add, Int.natCast_mul]
    omega
  have hy2 : y < bp m := by omega
  rw [hb, hc]
  refine ⟨?_, ?_, by omega⟩
  · rw [show 32 * m + (c + 1) - 1 = 32 * m + c by omega, Nat.pow_add, pow2_bp]
    have := Nat.mul_le_mul_left (bp m) h1
    omega
  · rw [Nat.pow_add, pow2_bp]
    have h3 : bp m * (x + 1) ≤ bp m * 2 ^ (c + 1) := Nat.mul_le_mul_left _ (by omega)
    rw [Nat.mul_add, Nat.mul_one] at h3
    omega
theorem shl_limb {x c : Int} {m : Nat} (hx0 : 0 ≤ x) (hx1 : x < 4294967296) (hm : m < 32) (hc0 : 0 ≤ c) (hc1 : c < 4294967296) :
    IntKind.u64.wrap (shl .u64 (IntKind.u64.wrap x) (m : Int) + c) = x * ((2 ^ m : Nat) : Int) + c ∧ 0 ≤ x * ((2 ^ m : Nat) : Int) + c ∧ x * ((2 ^ m : Nat) : Int) + c < 18446744073709551616 := by
  have hp : 2 ^ m ≤ 2147483648 := Nat.pow_le_pow_right (n := 2) (by decide) (show m ≤ 31 by omega)
  have hb : x * ((2 ^ m : Nat) : Int) ≤ 4294967295 * 2147483648 := Int.mul_le_mul (by omega) (Int.ofNat_le.mpr hp) (Int.natCast_nonneg _) (by decide)
  have h0 : 0 ≤ x * ((2 ^ m : Nat) : Int) := Int.mul_nonneg hx0 (Int.natCast_nonneg _)
  have e : shl .u64 (IntKind.u64.wrap x) (m : Int) = x * ((2 ^ m : Nat) : Int) := by
    unfold shl
    rw [u64w (x := x) hx0 (by omega), Int.toNat_natCast, Nat.min_eq_left (show m ≤ IntKind.u64.bits by simp [IntKind.bits]; omega)]
    rw [show (2 : Int) ^ m = ((2 ^ m : Nat) : Int) by rw [Int.natCast_pow]; rfl]
    exact u64w h0 (by omega)
  rw [e]
  generalize x * ((2 ^ m : Nat) : Int) = y at *
  exact ⟨u64w (by omega) (by omega), by omega, by omega⟩
theorem rshift_loop {a : List Int} {n m z : Nat} (ha : Lm a) (hla : a.length < 268435456) (hz : z < 268435456) (hnm : Int.tmod (n : Int) 32 = (m : Int)) (hm : m < 32) : ∀ (d i : Nat) (o : List Int) (c : Int), i + d = a.length → o.length = z + i → Lm o → 0 ≤ c → c < 4294967296 →
    Aside0 (lv o + (bp (z + i) : Int) * c = (bp z : Int) * (lv (a.take i) * ((2 ^ m : Nat) : Int))) → Ev (fun k => r1_shift.l0 k a (n : Int) o c (i : Int)) (dg ((bp z : Int) * (lv a * ((2 ^ m : Nat) : Int))).toNat) := by
  intro d
  induction d with
  | zero =>
    intro i o c hi ho hol hc0 hc1 hv
    have hi : i = a.length := by omega
    subst hi
    refine Ev.succ ?_
    simp only [r1_shift.l0, if_neg (show ¬ ((a.length : Nat) : Int) < (a.length : Int) by omega), if_pos (show o.length < 35184372088832 by omega)]
    have hl : Lm (o ++ [c % 4294967296]) := lm_append hol (lm_cons.mpr ⟨by omega, lm_nil⟩)
    refine Ev.bind (rtrim_ev hl (by rw [List.length_append]; simp; omega)) ?_
    refine Ev.cast (Ev.some _) ?_
    have hv := hv.out
    rw [List.take_of_length_le (Nat.le_refl _)] at hv
    rw [lv_append, lv_cons, lv_nil, ho, show c % 4294967296 = c by omega, Int.mul_zero, Int.add_zero, hv]
  | succ d ih =>
    intro i o c hi ho hol hc0 hc1 hv
    have hia : i < a.length := by omega
    have ra := rd_lm ha (i : Int)
    have sl := shl_limb ra.1 ra.2 hm hc0 hc1
    refine Ev.succ ?_
    simp only [r1_shift.l0, hnm, sl.1, if_pos (show (i : Int) < (a.length : Int) by omega), if_pos (show (0 : Int) ≤ (i : Int) by omega), if_pos (show (0 : Int) ≤ (m : Int) by omega), if_pos (show o.length < 35184372088832 by omega), wn (show (i : Int) + 1 = ((i + 1 : Nat) : Int) by omega) (by omega), tmod_nn 4294967296 sl.2.1, tdiv_nn 4294967296 sl.2.1]
    have hsd : ∃ s, s = rd a (i : Int) * ((2 ^ m : Nat) : Int) + c := ⟨_, rfl⟩
    obtain ⟨s, hs⟩ := hsd
    have hs0 : 0 ≤ s := by rw [hs]; exact sl.2.1
    have hs1 : s < 18446744073709551616 := by rw [hs]; exact sl.2.2
    clear sl
    rw [← hs]
    have hd := div_bound hs0 hs1
    have hs := Aside0.mk hs
    rw [show s % 4294967296 % 4294967296 = s % 4294967296 by omega]
    rw [u64w (x := s / 4294967296) hd.2.2.1 (by omega)]
    refine ih (i + 1) _ _ (by omega) (by rw [List.length_append]; simp [ho]; omega) (lm_append hol (lm_cons.mpr ⟨⟨hd.1, hd.2.1⟩, lm_nil⟩)) hd.2.2.1 hd.2.2.2 ⟨?_⟩
    have hdiv : s % 4294967296 + 4294967296 * (s / 4294967296) = rd a (i : Int) * ((2 ^ m : Nat) : Int) + c := by rw [split_div]; exact hs.out
    rw [lv_append, lv_cons, lv_nil, ho, lv_take_any, ← Nat.add_assoc, bp_succ, Int.natCast_mul]
    have hv := hv.out
    have hbp : ((bp (z + i) : Nat) : Int) = (bp z : Int) * (bp i : Int) := by rw [bp_add, Int.natCast_mul]
    clear ih hs hs0 hs1 hd ra hc0 hc1 hnm hm
    generalize s % 4294967296 = y at *
    generalize s / 4294967296 = u at *
    generalize (bp (z + i) : Int) = p at *
    generalize (bp z : Int) = pz at *
    generalize (bp i : Int) = pi at *
    generalize rd a (i : Int) = x at *
    generalize ((2 ^ m : Nat) : Int) = P at *
    generalize lv (a.take i) = la at *
    generalize lv o = lo at *
    subst hbp
    show lo + pz * pi * (y + 4294967296 * 0) + 4294967296 * (pz * pi) * u = pz * ((la + pi * x) * P)
    have h3 : pz * pi * (y + 4294967296 * u) = pz * pi * (x * P + c) := by rw [hdiv]
    grind
theorem rshift_ev {a n : Nat} (ha : (dg a).length < 134217728) (hn : n < 4294967296) : Ev (fun k => r1_shift.f k (dg a) (n : Int)) (dg (a * 2 ^ n)) := by
  have h1 : Int.tdiv (n : Int) 32 = ((n / 32 : Nat) : Int) := by rw [Int.tdiv_eq_ediv_of_nonneg (by omega)]; rfl
  have h2 : Int.tmod (n : Int) 32 = ((n % 32 : Nat) : Int) := by rw [Int.tmod_eq_emod_of_nonneg (by omega)]; rfl
  have h3 : wrap64 ((n / 32 : Nat) : Int) = ((n / 32 : Nat) : Int) := wn rfl (by clear h1 h2; omega)
  simp only [r1_shift.f, h1, h3, if_pos (show (0 : Int) ≤ ((n / 32 : Nat) : Int) by omega), Int.toNat_natCast, if_pos (show n / 32 ≤ 70368744177664 by clear h1 h2 h3; omega)]
  clear h1 h3
  refine Ev.cast (rshift_loop (z := n / 32) (lm_dg a) (by clear h2; omega) (by clear h2; omega) h2 (by clear h2; omega) (dg a).length 0 _ 0 (by omega) (by simp) (lm_rep _) (by omega) (by omega) ⟨by rw [lv_rep]; simp [lv_nil]⟩) ?_
  clear h2
  rw [lv_dg, ← Int.natCast_mul, ← Int.natCast_mul, Int.toNat_natCast]
  congr 1
  rw [← pow2_bp, Nat.mul_left_comm, ← Nat.pow_add]
  congr 2
  omega
theorem pow2_len (i : Nat) : (dg (2 ^ i)).length ≤ i / 32 + 1 := by
  refine dg_len_le ?_
  rw [← pow2_bp]
  exact Nat.pow_lt_pow_right (by decide) (by omega)
theorem rdivmod_loop {a b : Nat} (hb : b ≠ 0) (hla : (dg a).length < 1048576) (hlb : (dg b).length < 1048576) : ∀ (n : Nat), n < 67108864 → ∀ (quo rem : Nat), quo * b + rem = a → rem < b * 2 ^ n →
    Ev (fun k => r1_DivMod.l0 k (dg b) (dg quo) (dg rem) ((n : Int) - 1)) (dg (a / b), dg (a % b)) := by
  intro n
  induction n with
  | zero =>
    intro _ quo rem h1 h2
    rw [Nat.pow_zero, Nat.mul_one] at h2
    have hq : a / b = quo := by
      rw [← h1, Nat.mul_comm, Nat.mul_add_div (by omega), Nat.div_eq_of_lt h2, Nat.add_zero]
    have hr : a % b = rem := by
      rw [← h1, Nat.mul_comm, Nat.mul_add_mod, Nat.mod_eq_of_lt h2]
    have hql : (dg quo).length ≤ (dg a).length := dg_len_mono (by
      rw [← hq]; exact Nat.div_le_self _ _)
    refine Ev.succ ?_
    simp only [r1_DivMod.l0, if_neg (show ¬ ((0 : Nat) : Int) - 1 ≥ 0 by omega)]
    refine Ev.bind (rtrim2_ev (by omega)) ?_
    rw [hq, hr]
    exact Ev.some _
  | succ n ih =>
    intro hn quo rem h1 h2
    have hql : (dg quo).length ≤ (dg a).length := dg_len_mono (by
      have : quo * 1 ≤ quo * b := Nat.mul_le_mul_left _ (by omega)
      omega)
    have hrl : (dg rem).length ≤ (dg a).length := dg_len_mono (by omega)
    have hp := pow2_len n
    have ht := mul_len b (2 ^ n)
    refine Ev.succ ?_
    simp only [r1_DivMod.l0, show ((n + 1 : Nat) : Int) - 1 = (n : Int) from by omega, if_pos (show (n : Int) ≥ 0 by omega), w64 (x := (n : Int) - 1) (by omega) (by omega)]
    refine Ev.bind (rshift_ev (by omega) (by omega)) ?_
    refine Ev.bind (rcmp_ev (by omega) (by omega)) ?_
    by_cases h : b * 2 ^ n ≤ rem
    · have hc : cmpZ (rem : Int) ((b * 2 ^ n : Nat) : Int) ≥ 0 := by
        unfold cmpZ
        rw [if_neg (by omega)]
        split <;> omega
      simp only [if_pos hc]
      refine Ev.bind (rsub_ev (by omega) h) ?_
      rw [show ([1] : List Int) = dg 1 from dg_one.symm]
      refine Ev.bind (rshift_ev (by rw [dg_one]; simp) (by omega)) ?_
      rw [Nat.one_mul]
      refine Ev.bind (radd2_ev (by omega) (by omega)) ?_
      refine ih (by omega) _ _ ?_ ?_
      · rw [Nat.add_mul, Nat.mul_comm (2 ^ n) b]
        generalize b * 2 ^ n = t at *
        omega
      · rw [Nat.pow_succ, ← Nat.mul_assoc] at h2
        generalize b * 2 ^ n = t at *
        omega
    · have hc : ¬ cmpZ (rem : Int) ((b * 2 ^ n : Nat) : Int) ≥ 0 := by
        unfold cmpZ
        rw [if_pos (by omega)]
        omega
      simp only [if_neg hc]
      exact ih (by omega) quo rem h1 (by omega)
theorem bl_le (n : Nat) : bl n ≤ 32 * (dg n).length := by
  by_cases h : n = 0
  · subst h; rw [bl_zero.mpr rfl]; omega
  · have hb := bl_bounds h
    have h1 := dg_lt_len n
    rw [← pow2_bp] at h1
    have h2 : bl n - 1 < 32 * (dg n).length := by
      refine (Nat.pow_lt_pow_iff_right (a := 2) (by decide)).mp (Nat.lt_of_le_of_lt hb.1 h1)
    omega
theorem rdivmod_ev {a b : Nat} (hb : b ≠ 0) (hla : (dg a).length < 1048576) (hlb : (dg b).length < 1048576) : Ev (fun k => r1_DivMod.f k (dg a) (dg b)) (dg (a / b), dg (a % b)) := by
  simp only [r1_DivMod.f]
  refine Ev.bind (rtrim2_ev (by omega)) ?_
  refine Ev.bind (rbits_ev (by omega)) ?_
  refine Ev.bind (rbits_ev (by omega)) ?_
  have ba := bl_le a
  have bb := bl_le b
  have hbb := bl_bounds hb
  rw [show ([] : List Int) = dg 0 from dg_zero.symm]
  by_cases h : bl b ≤ bl a
  · rw [show wrap64 (((bl a : Nat) : Int) - ((bl b : Nat) : Int)) = ((bl a - bl b + 1 : Nat) : Int) - 1 from by rw [w64 (by omega) (by omega)]; omega]
    refine rdivmod_loop hb hla hlb _ (by omega) 0 a (by omega) ?_
    by_cases ha : a = 0
    · subst ha; exact Nat.mul_pos (by omega) (Nat.two_pow_pos _)
    · have hba := bl_bounds ha
      refine Nat.lt_of_lt_of_le hba.2.1 ?_
      rw [show bl a = (bl b - 1) + (bl a - bl b + 1) by omega, Nat.pow_add]
      rw [show (bl b - 1) + (bl a - bl b + 1) - bl b + 1 = bl a - bl b + 1 by omega]
      exact Nat.mul_le_mul_right _ hbb.1
  · rw [show wrap64 (((bl a : Nat) : Int) - ((bl b : Nat) : Int)) = -((bl b - bl a : Nat) : Int) from by rw [w64 (by omega) (by omega)]; omega]
    have hlt : a < b := by
      by_cases ha : a = 0
      · omega
      · have hba := bl_bounds ha
        refine Nat.lt_of_lt_of_le hba.2.1 (Nat.le_trans ?_ hbb.1)
        exact Nat.pow_le_pow_right (by decide) (by omega)
    refine Ev.succ ?_
    simp only [r1_DivMod.l0, if_neg (show ¬ -((bl b - bl a : Nat) : Int) ≥ 0 by omega)]
    refine Ev.bind (rtrim2_ev (by rw [dg_zero]; simp)) ?_
    rw [Nat.div_eq_of_lt hlt, Nat.mod_eq_of_lt hlt]
    exact Ev.some _
theorem rzero_ev {a : Nat} (h : (dg a).length < 268435456) : Ev (fun k => r1_Zero.f k (dg a)) (decide (a = 0)) := by
  simp only [r1_Zero.f]
  refine Ev.bind (rtrim2_ev h) ?_
  refine Ev.cast (Ev.some _) ?_
  by_cases h0 : a = 0
  · subst h0; rw [dg_zero]; simp
  · rw [decide_eq_false h0]
    have : (dg a).length ≠ 0 := by rw [Ne, dg_len_zero]; exact h0
    simp only [beq_eq_false_iff_ne]
    omega
theorem rgcd_loop : ∀ (b a : Nat), (dg a).length < 1048576 → (dg b).length < 1048576 → Ev (fun k => r1_Gcd.l0 k (dg a) (dg b)) (dg (Nat.gcd a b)) := by
  intro b
  induction b using Nat.strongRecOn with
  | _ b ih =>
    intro a h1 h2
    refine Ev.succ ?_
    simp only [r1_Gcd.l0]
    refine Ev.bind (rzero_ev (by omega)) ?_
    by_cases h0 : b = 0
    · subst h0
      simp only [decide_true, if_true, Nat.gcd_zero_right]
      refine Ev.bind (rtrim2_ev (by omega)) ?_
      exact Ev.some _
    · simp only [decide_eq_false h0, Bool.false_eq_true, if_false]
      refine Ev.bind (rdivmod_ev h0 h1 h2) ?_
      rw [Nat.gcd_comm, Nat.gcd_rec, Nat.gcd_comm]
      have hlt := Nat.mod_lt a (show b > 0 by omega)
      refine ih (a % b) hlt b h2 ?_
      have := dg_len_mono (Nat.le_of_lt hlt)
      omega
theorem rgcd_ev {a b : Nat} (h1 : (dg a).length < 1048576) (h2 : (dg b).length < 1048576) : Ev (fun k => r1_Gcd.f k (dg a) (dg b)) (dg (Nat.gcd a b)) := by
  simp only [r1_Gcd.f]
  exact rgcd_loop b a h1 h2
theorem short2_ev {a : Nat} (h1 : (dg a).length < 268435456) : Ev (fun k => nat_short.f k (dg a)) (dg a) := by
  refine Ev.cast (short_ev (lm_dg a) (by omega)) ?_
  rw [lv_dg, Int.toNat_natCast]
theorem ndivmod1_ev {a b : Nat} (hb0 : b ≠ 0) (hb1 : b < 4294967296) (hla : (dg a).length < 268435456) : Ev (fun k => nat_DivMod.f k (dg a) (dg b)) (dg (a / b), dg (a % b), 0) := by
  have hb : dg b = [(b : Int)] := dg_small hb0 hb1
  have hbl : (dg b).length = 1 := by rw [hb]; rfl
  simp only [nat_DivMod.f]
  refine Ev.bind (short2_ev hla) ?_
  refine Ev.bind (short2_ev (by omega)) ?_
  rw [hbl]
  simp only [if_neg (show ¬ ((1 : Nat) : Int) = 0 by omega)]
  refine Ev.bind (ncmp_ev hla (by omega)) ?_
  by_cases h : a < b
  · have hc : cmpZ (a : Int) (b : Int) < 0 := by unfold cmpZ; rw [if_pos (by omega)]; omega
    simp only [if_pos hc]
    refine Ev.bind (trim2_ev hla) ?_
    rw [Nat.div_eq_of_lt h, Nat.mod_eq_of_lt h, dg_zero]
    exact Ev.some _
  · have hc : ¬ cmpZ (a : Int) (b : Int) < 0 := by unfold cmpZ; rw [if_neg (by omega)]; split <;> omega
    simp only [if_neg hc, if_pos (show ((1 : Nat) : Int) = 1 by omega), if_pos (show (0 : Int) < ((1 : Nat) : Int) by omega)]
    have hr : rd (dg b) 0 = (b : Int) := by rw [hb]; rfl
    rw [hr]
    refine Ev.bind (digit_ev (lm_dg a) (by omega) (by omega) (by omega)) ?_
    have hm : lv (dg a) % (b : Int) = ((a % b : Nat) : Int) := by rw [lv_dg, Int.natCast_emod]
    have hd : (lv (dg a) / (b : Int)).toNat = a / b := by rw [lv_dg, ← Int.natCast_ediv, Int.toNat_natCast]
    have hmb : a % b < b := Nat.mod_lt _ (by omega)
    rw [hm, hd]
    clear hm hd hr
    simp only [u64w (x := ((a % b : Nat) : Int)) (by omega) (by omega)]
    refine Ev.bind (of_ev (by omega)) ?_
    exact Ev.some _
def sg (neg : Bool) (n : Nat) : Int := if neg = true then -(n : Int) else (n : Int)
def rz (z : Int) : Bool × List Int × List Int := (decide (z < 0), dg z.natAbs, dg 1)
theorem sg_abs (neg : Bool) (n : Nat) : (sg neg n).natAbs = n := by unfold sg; cases neg <;> simp
theorem sg_neg {neg : Bool} {n : Nat} (h : n ≠ 0) : decide (sg neg n < 0) = neg := by
  unfold sg
  cases neg
  · simp
  · simp; omega
theorem sg_self (z : Int) : sg (decide (z < 0)) z.natAbs = z := by
  unfold sg
  by_cases h : z < 0
  · rw [if_pos (decide_eq_true h)]; omega
  · rw [if_neg (by simpa using h)]; omega
theorem rz_sg {neg : Bool} {n : Nat} (h : n ≠ 0) : rz (sg neg n) = (neg, dg n, dg 1) := by
  unfold rz
  rw [sg_neg h, sg_abs]
theorem rz_zero : rz 0 = (false, [], [1]) := by unfold rz; simp [dg_zero, dg_one]
theorem sg_zero (neg : Bool) : sg neg 0 = 0 := by unfold sg; cases neg <;> simp
theorem one_len : (dg 1).length = 1 := by rw [dg_one]; rfl
theorem rmake_ev {neg : Bool} {n : Nat} (h : (dg n).length < 1048576) : Ev (fun k => r2_Make.f k neg (dg n) (dg 1)) (rz (sg neg n)) := by
  simp only [r2_Make.f]
  refine Ev.bind (rzero_ev (by omega)) ?_
  by_cases h0 : n = 0
  · subst h0
    simp only [decide_true, if_true]
    refine Ev.succ ?_
    simp only [r2_Make.j0, if_true]
    rw [sg_zero, rz_zero]
    exact Ev.some _
  · simp only [decide_eq_false h0, Bool.false_eq_true, if_false]
    have := one_len
    refine Ev.bind (rzero_ev (by omega)) ?_
    refine Ev.succ ?_
    simp only [show decide ((1 : Nat) = 0) = false from rfl, r2_Make.j0, Bool.false_eq_true, if_false]
    refine Ev.bind (rgcd_ev h (by omega)) ?_
    rw [Nat.gcd_one_right]
    refine Ev.bind (rdivmod_ev (by decide) h (by omega)) ?_
    refine Ev.bind (rdivmod_ev (by decide) (by omega) (by omega)) ?_
    simp only [Nat.div_one]
    rw [rz_sg h0]
    exact Ev.some _
def Few (z : Int) : Prop := (dg z.natAbs).length < 262144
theorem rtrimq_ev {z : Int} (h : Few z) : Ev (fun k => r2_Trim.f k (rz z).1 (rz z).2.1 (rz z).2.2) (rz z) := by
  have h : (dg z.natAbs).length < 262144 := h
  simp only [r2_Trim.f]
  refine Ev.bind (rmake_ev (neg := decide (z < 0)) (n := z.natAbs) (by omega)) ?_
  rw [sg_self]
  exact Ev.some _
theorem rnatq_ev {n : Nat} (h : (dg n).length < 262144) : Ev (fun k => r2_Nat.f k (dg n)) (rz (n : Int)) := by
  simp only [r2_Nat.f, show ([1] : List Int) = dg 1 from dg_one.symm]
  refine Ev.bind (rmake_ev (neg := false) (n := n) (by omega)) ?_
  exact Ev.some _
theorem rnegq_ev {z : Int} (h : Few z) : Ev (fun k => r2_Neg.f k (rz z).1 (rz z).2.1 (rz z).2.2) (rz (-z)) := by
  simp only [r2_Neg.f]
  refine Ev.bind (rtrimq_ev h) ?_
  have h : (dg z.natAbs).length < 262144 := h
  refine Ev.bind (rmake_ev (neg := !decide (z < 0)) (n := z.natAbs) (by omega)) ?_
  have e : sg (!decide (z < 0)) z.natAbs = -z := by
    unfold sg
    by_cases g : z < 0
    · simp [g]; omega
    · simp [g]; omega
  rw [e]
  exact Ev.some _
theorem raddq_ev {x y : Int} (hx : Few x) (hy : Few y) : Ev (fun k => r2_Add.f k (rz x).1 (rz x).2.1 (rz x).2.2 (rz y).1 (rz y).2.1 (rz y).2.2) (rz (x + y)) := by
  simp only [r2_Add.f]
  refine Ev.bind (rtrimq_ev hx) ?_
  refine Ev.bind (rtrimq_ev hy) ?_
  have hx : (dg x.natAbs).length < 262144 := hx
  have hy : (dg y.natAbs).length < 262144 := hy
  have h1 := one_len
  simp only [rz]
  refine Ev.bind (rmul2_ev (by omega) (by omega)) ?_
  refine Ev.bind (rmul2_ev (by omega) (by omega)) ?_
  refine Ev.bind (rmul2_ev (by omega) (by omega)) ?_
  simp only [Nat.mul_one]
  by_cases hs : (decide (x < 0) == decide (y < 0)) = true
  · simp only [hs, if_true]
    refine Ev.bind (radd2_ev (by omega) (by omega)) ?_
    have hl : (dg (x.natAbs + y.natAbs)).length < 1048576 := by
      have hb1 := dg_lt_len x.natAbs
      have hb2 := dg_lt_len y.natAbs
      have hb3 := bp_mono (show (dg x.natAbs).length ≤ 262144 by omega)
      have hb4 := bp_mono (show (dg y.natAbs).length ≤ 262144 by omega)
      have : (dg (x.natAbs + y.natAbs)).length ≤ 262144 + 1 := dg_len_le (by rw [bp_succ]; generalize bp 262144 = p at *; omega)
      omega
    refine Ev.bind (rmake_ev hl) ?_
    refine Ev.cast (Ev.some _) ?_
    have e : sg (decide (x < 0)) (x.natAbs + y.natAbs) = x + y := by
      unfold sg
      by_cases g : x < 0
      · have g2 : y < 0 := by simpa [g] using hs
        simp [g]; omega
      · have g2 : ¬ y < 0 := by simpa [g] using hs
        simp [g]; omega
    rw [e]
    rfl
  · simp only [hs, Bool.false_eq_true, if_false]
    refine Ev.bind (rcmp_ev (by omega) (by omega)) ?_
    by_cases hle : y.natAbs ≤ x.natAbs
    · have hc : cmpZ ((x.natAbs : Nat) : Int) ((y.natAbs : Nat) : Int) ≥ 0 := by
        unfold cmpZ
        rw [if_neg (by omega)]
        split <;> omega
      simp only [if_pos hc]
      refine Ev.bind (rsub_ev (by omega) hle) ?_
      have hl := dg_len_mono (show x.natAbs - y.natAbs ≤ x.natAbs by omega)
      refine Ev.bind (rmake_ev (by omega)) ?_
      refine Ev.cast (Ev.some _) ?_
      have e : sg (decide (x < 0)) (x.natAbs - y.natAbs) = x + y := by
        unfold sg
        by_cases g : x < 0
        · have g2 : ¬ y < 0 := by simpa [g] using hs
          simp [g]; omega
        · have g2 : y < 0 := by simpa [g] using hs
          simp [g]; omega
      rw [e]
      rfl
    · have hc : ¬ cmpZ ((x.natAbs : Nat) : Int) ((y.natAbs : Nat) : Int) ≥ 0 := by
        unfold cmpZ
        rw [if_pos (by omega)]
        omega
      simp only [if_neg hc]
      refine Ev.bind (rsub_ev (by omega) (by omega)) ?_
      have hl := dg_len_mono (show y.natAbs - x.natAbs ≤ y.natAbs by omega)
      refine Ev.bind (rmake_ev (by omega)) ?_
      refine Ev.cast (Ev.some _) ?_
      have e : sg (decide (y < 0)) (y.natAbs - x.natAbs) = x + y := by
        unfold sg
        by_cases g : y < 0
        · have g2 : ¬ x < 0 := by intro g3; apply hs; simp [g, g3]
          simp [g]; omega
        · have g2 : x < 0 := by
            by_cases g3 : x < 0
            · exact g3
            · exact absurd (by simp [g, g3]) hs
          simp [g]; omega
      rw [e]
      rfl
theorem rabs_ev {z : Int} (h0 : -4611686018427387904 ≤ z) (h1 : z ≤ 4611686018427387904) : Ev (fun k => r2_abs.f k z) (dg z.natAbs) := by
  simp only [r2_abs.f]
  by_cases h : z < 0
  · simp only [if_pos h]
    have e : IntKind.u64.wrap (wrap64 (-(wrap64 (z + 1)))) = ((z.natAbs - 1 : Nat) : Int) := by
      rw [w64 (x := z + 1) (by omega) (by omega), w64 (x := -(z + 1)) (by omega) (by omega), u64w (by omega) (by omega)]
      omega
    rw [e]
    clear e
    refine Ev.bind (rof_ev (by omega)) ?_
    rw [show ([1] : List Int) = dg 1 from dg_one.symm]
    have hl : (dg (z.natAbs - 1)).length ≤ 3 := dg_len_le (by
      simp only [bp_succ, bp_zero]; omega)
    have := one_len
    refine Ev.bind (radd2_ev (by omega) (by omega)) ?_
    exact Ev.cast (Ev.some _) (by congr 1; omega)
  · simp only [if_neg h]
    have e : IntKind.u64.wrap z = ((z.natAbs : Nat) : Int) := by rw [u64w (by omega) (by omega)]; omega
    rw [e]
    clear e
    refine Ev.bind (rof_ev (by omega)) ?_
    exact Ev.some _
theorem rintq_ev {z : Int} (h0 : -4611686018427387904 ≤ z) (h1 : z ≤ 4611686018427387904) : Ev (fun k => r2_Int.f k z) (rz z) := by
  simp only [r2_Int.f, r2_Of.f]
  refine Ev.bind (Ev.bind (rabs_ev h0 h1) (Ev.bind (rabs_ev (z := 1) (by omega) (by omega)) (Ev.bind (rmake_ev (neg := (decide (z < 0) != decide ((1 : Int) < 0))) (n := z.natAbs) ?_) (Ev.some _)))) ?_
  · have hl : (dg z.natAbs).length ≤ 3 := dg_len_le (by simp only [bp_succ, bp_zero]; omega)
    omega
  · refine Ev.cast (Ev.some _) ?_
    have e : (decide (z < 0) != decide ((1 : Int) < 0)) = decide (z < 0) := by simp
    rw [e, sg_self]
theorem L1 {W V p v1 v2 Vl Wl u2 top q r : Int} (hp : 0 < p) (hV : V = Vl + p * v2 + 4294967296 * (p * v1)) (hW : W = Wl + p * u2 + 4294967296 * (p * top)) (hv2 : 0 ≤ v2) (hVl : 0 ≤ Vl) (hu2 : u2 < 4294967296) (hWl : Wl < p)
    (hq : q * v1 + r = top) (hr : r < v1) (hq0 : 0 ≤ q) : W < (q + 1) * V := by
  have h1 : p * (u2 + 1) ≤ p * 4294967296 := Int.mul_le_mul_of_nonneg_left (by omega) (by omega)
  have h2 : p * (top + 1) ≤ p * ((q + 1) * v1) := Int.mul_le_mul_of_nonneg_left (by grind) (by omega)
  have h3 : 0 ≤ (q + 1) * Vl := Int.mul_nonneg (by omega) hVl
  have h4 : 0 ≤ (q + 1) * (p * v2) := Int.mul_nonneg (by omega) (Int.mul_nonneg (by omega) hv2)
  subst hV hW
  grind
theorem L3 {W V p v1 v2 Vl Wl u2 top q r : Int} (hp : 0 < p) (hV : V = Vl + p * v2 + 4294967296 * (p * v1)) (hW : W = Wl + p * u2 + 4294967296 * (p * top)) (hVl : 0 ≤ Vl) (hWl : Wl < p)
    (hq : q * v1 + r = top) (ht : r * 4294967296 + u2 < q * v2) (hq0 : 0 ≤ q) : W < q * V := by
  have h1 : p * (r * 4294967296 + u2 + 1) ≤ p * (q * v2) := Int.mul_le_mul_of_nonneg_left (by omega) (by omega)
  have h3 : 0 ≤ q * Vl := Int.mul_nonneg (by omega) hVl
  subst hV hW hq
  grind
theorem L4 {W V p v1 v2 Vl Wl u2 top q r : Int} (hp : 0 < p) (hV : V = Vl + p * v2 + 4294967296 * (p * v1)) (hW : W = Wl + p * u2 + 4294967296 * (p * top)) (hVl : 0 ≤ Vl) (hVl1 : Vl < p) (hv2 : 0 ≤ v2) (hv1 : 1 ≤ v1) (hWl : 0 ≤ Wl)
    (hq : q * v1 + r = top) (ht : q * v2 ≤ r * 4294967296 + u2) (hq0 : 0 ≤ q) (hq1 : q < 4294967296) : (q - 1) * V ≤ W := by
  have h1 : p * (q * v2) ≤ p * (r * 4294967296 + u2) := Int.mul_le_mul_of_nonneg_left (by omega) (by omega)
  have h2 : q * Vl ≤ 4294967296 * p := by
    have a : q * Vl ≤ q * p := Int.mul_le_mul_of_nonneg_left (by omega) hq0
    have b : q * p ≤ 4294967296 * p := Int.mul_le_mul_of_nonneg_right (by omega) (by omega)
    omega
  have h3 : p * 1 ≤ p * v1 := Int.mul_le_mul_of_nonneg_left hv1 (by omega)
  have h4 : 0 ≤ p * v2 := Int.mul_nonneg (by omega) hv2
  subst hV hW hq
  grind
theorem L5a {W V p v1 v2 Vl Wl u2 u1 u0 : Int} (hp : 0 < p) (hV : V = Vl + p * v2 + 4294967296 * (p * v1)) (hW : W = Wl + p * u2 + 4294967296 * (p * (u0 * 4294967296 + u1))) (hVl1 : Vl < p) (hv2 : v2 < 4294967296) (hWl : 0 ≤ Wl) (hu2 : 0 ≤ u2) (hu1 : 0 ≤ u1)
    (hWV : W < 4294967296 * V) : u0 ≤ v1 := by
  have h1 : p * (v2 + 1) ≤ p * 4294967296 := Int.mul_le_mul_of_nonneg_left (by omega) (by omega)
  have h2 : 0 ≤ p * u2 := Int.mul_nonneg (by omega) hu2
  have h3 : 0 ≤ p * u1 := Int.mul_nonneg (by omega) hu1
  have h5 : p * u0 < p * (v1 + 1) := by subst hV hW; grind
  have := Int.lt_of_mul_lt_mul_left h5 (by omega)
  omega
theorem L5 {W V p v1 v2 Vl Wl u2 u1 u0 q r : Int} (hp : 0 < p) (hV : V = Vl + p * v2 + 4294967296 * (p * v1)) (hW : W = Wl + p * u2 + 4294967296 * (p * (u0 * 4294967296 + u1))) (hVl1 : Vl < p) (hv2 : v2 < 4294967296) (hWl : 0 ≤ Wl) (hu2 : 0 ≤ u2) (hu1 : 0 ≤ u1) (hu1' : u1 < 4294967296)
    (hWV : W < 4294967296 * V) (hv1 : 1 ≤ v1) (hq : q * v1 + r = u0 * 4294967296 + u1) (hr : 4294967296 ≤ r) (hq0 : 0 ≤ q) : q < 4294967296 ∧ q * V ≤ W := by
  have h0 := L5a hp hV hW hVl1 hv2 hWl hu2 hu1 hWV
  have hqv : q * v1 < 4294967296 * v1 := by omega
  have hq1 : q < 4294967296 := Int.lt_of_mul_lt_mul_right hqv (by omega)
  refine ⟨hq1, ?_⟩
  have h1 : p * (v2 + 1) ≤ p * 4294967296 := Int.mul_le_mul_of_nonneg_left (by omega) (by omega)
  have h2 : 0 ≤ p * u2 := Int.mul_nonneg (by omega) hu2
  have h4 : V ≤ p * (4294967296 * (v1 + 1)) := by subst hV; grind
  have h5 : q * V ≤ q * (p * (4294967296 * (v1 + 1))) := Int.mul_le_mul_of_nonneg_left h4 hq0
  have h6 : p * (q * v1 + q) ≤ p * (u0 * 4294967296 + u1) := Int.mul_le_mul_of_nonneg_left (by omega) (by omega)
  subst hW
  grind
def Rz {α : Type} (P : α → Prop) (g : Nat → Option α) : Prop := ∃ r, Ev g r ∧ P r
theorem Rz.succ {α : Type} {P : α → Prop} {g : Nat → Option α} (h : Rz P (fun k => g (k + 1))) : Rz P g := by
  obtain ⟨r, h1, h2⟩ := h
  exact ⟨r, Ev.succ h1, h2⟩
theorem Rz.bind {α β : Type} {P : β → Prop} {g : Nat → Option α} {f : Nat → α → Option β} {a : α} (hg : Ev g a) (hf : Rz P (fun k => f k a)) : Rz P (fun k => (g k).bind (f k)) := by
  obtain ⟨r, h1, h2⟩ := hf
  exact ⟨r, Ev.bind hg h1, h2⟩
theorem Rz.some {α : Type} {P : α → Prop} {r : α} (h : P r) : Rz P (fun _ => Option.some r) := ⟨r, Ev.some r, h⟩
theorem mulc {q v c : Int} (hq0 : 0 ≤ q) (hq1 : q < 4294967296) (hv0 : 0 ≤ v) (hv1 : v < 4294967296) (hc0 : 0 ≤ c) (hc1 : c < 4294967296) :
    IntKind.u64.wrap (IntKind.u64.wrap (q * IntKind.u64.wrap v) + c) = q * v + c ∧ 0 ≤ q * v + c ∧ q * v + c < 18446744073709551616 := by
  have h1 : q * v ≤ 4294967295 * 4294967295 := Int.mul_le_mul (by omega) (by omega) hv0 (by omega)
  have h0 : 0 ≤ q * v := Int.mul_nonneg hq0 hv0
  rw [u64w (x := v) hv0 (by omega)]
  generalize q * v = s at *
  rw [u64w (x := s) h0 (by omega), u64w (by omega) (by omega)]
  omega
theorem subl {u s b : Int} (hu0 : 0 ≤ u) (hu1 : u < 4294967296) (hb0 : 0 ≤ b) (hb1 : b ≤ 1) :
    ∃ y b' : Int, IntKind.u64.wrap (IntKind.u64.wrap (IntKind.u64.wrap u - s % 4294967296) - b) % 4294967296 = y ∧ IntKind.u64.wrap (IntKind.u64.wrap (IntKind.u64.wrap u - s % 4294967296) - b) / 9223372036854775808 = b' ∧
      0 ≤ y ∧ y < 4294967296 ∧ 0 ≤ b' ∧ b' ≤ 1 ∧ y = u - s % 4294967296 - b + 4294967296 * b' := by
  refine ⟨_, _, rfl, rfl, ?_⟩
  rw [u64m, u64m, u64m]
  omega
theorem topl {u c b : Int} (hu0 : 0 ≤ u) (hu1 : u < 4294967296) (hc0 : 0 ≤ c) (hc1 : c < 4294967296) (hb0 : 0 ≤ b) (hb1 : b ≤ 1) :
    ∃ y b' : Int, IntKind.u64.wrap (IntKind.u64.wrap (IntKind.u64.wrap u - c) - b) % 4294967296 = y ∧ IntKind.u64.wrap (IntKind.u64.wrap (IntKind.u64.wrap u - c) - b) / 9223372036854775808 = b' ∧
      0 ≤ y ∧ y < 4294967296 ∧ (b' = 0 ∨ b' = 1) ∧ y = u - c - b + 4294967296 * b' := by
  refine ⟨_, _, rfl, rfl, ?_⟩
  rw [u64m, u64m, u64m]
  omega
theorem step_sub {P : Int × List Int → Prop} {q u0 W : Int} {v : List Int} (hq0 : 0 ≤ q) (hq1 : q < 4294967296) (hv : Lm v) (hvl : v.length < 536870912)
    (hfin : ∀ (o : List Int) (bo ca : Int), o.length = v.length + 1 → Lm o → 0 ≤ bo → bo ≤ 1 → 0 ≤ ca → ca < 4294967296 → rd o (v.length : Int) = u0 → Aside0 (lv o - (bp v.length : Int) * (ca + bo) = W - q * lv v) → Rz P (fun k => nat_step.l1 k o v (v.length : Int) q bo ca (v.length : Int) (v.length : Int))) :
    ∀ (d i : Nat) (o : List Int) (bo ca : Int), i + d = v.length → o.length = v.length + 1 → Lm o → 0 ≤ bo → bo ≤ 1 → 0 ≤ ca → ca < 4294967296 → rd o (v.length : Int) = u0 → Aside0 (lv o - (bp i : Int) * (ca + bo) = W - q * lv (v.take i)) → Rz P (fun k => nat_step.l1 k o v (v.length : Int) q bo ca (v.length : Int) (i : Int)) := by
  intro d
  induction d with
  | zero =>
    intro i o bo ca hi hol ho hb0 hb1 hc0 hc1 hu he
    have hi : i = v.length := by omega
    subst hi
    refine hfin o bo ca hol ho hb0 hb1 hc0 hc1 hu ⟨?_⟩
    rw [he.out, List.take_of_length_le (Nat.le_refl _)]
  | succ d ih =>
    intro i o bo ca hi hol ho hb0 hb1 hc0 hc1 hu he
    have hiv : i < v.length := by omega
    have rv := rd_lm hv (i : Int)
    have ro := rd_lm ho (i : Int)
    obtain ⟨e1, s0, s1⟩ := mulc hq0 hq1 rv.1 rv.2 hc0 hc1
    obtain ⟨y, b', e2, e3, y0, y1, b0, b1, ey⟩ := subl (s := q * rd v (i : Int) + ca) ro.1 ro.2 hb0 hb1
    have hd := div_bound s0 s1
    have hs := split_div (q * rd v (i : Int) + ca)
    refine Rz.succ ?_
    simp only [nat_step.l1, if_pos (show (i : Int) < (v.length : Int) by omega), if_pos (show (0 : Int) ≤ (i : Int) by omega), if_pos (show (i : Int) < (o.length : Int) by omega), e1, e2, e3, Int.toNat_natCast, wn (show (i : Int) + 1 = ((i + 1 : Nat) : Int) by omega) (by omega)]
    refine ih (i + 1) _ _ _ (by omega) (by rw [List.length_set]; exact hol) (lm_set ho y0 y1) b0 b1 hd.2.2.1 hd.2.2.2 (by rw [rd_set_ne _ (by omega)]; exact hu) ⟨?_⟩
    rw [lv_set _ (by omega), lv_take_succ hiv, bp_succ, Int.natCast_mul]
    have he := he.out
    clear ih hfin e1 e2 e3 hd s0 s1
    generalize (q * rd v (i : Int) + ca) / 4294967296 = c2 at *
    generalize hsm : (q * rd v (i : Int) + ca) % 4294967296 = sm at *
    generalize (bp i : Int) = p at *
    generalize rd v (i : Int) = vi at *
    generalize rd o (i : Int) = ui at *
    generalize lv o = lo at *
    generalize lv (v.take i) = lt at *
    subst ey
    show lo + p * (ui - sm - bo + 4294967296 * b' - ui) - 4294967296 * p * (c2 + b') = W - q * (lt + p * vi)
    have h2 : p * (sm + 4294967296 * c2) = p * (q * vi + ca) := by rw [hs]
    grind
theorem addl {u v c : Int} (hu0 : 0 ≤ u) (hu1 : u < 4294967296) (hv0 : 0 ≤ v) (hv1 : v < 4294967296) (hc0 : 0 ≤ c) (hc1 : c ≤ 1) :
    IntKind.u64.wrap (IntKind.u64.wrap (IntKind.u64.wrap u + IntKind.u64.wrap v) + c) = u + v + c := by
  rw [u64m, u64m, u64m, u64m]
  omega
theorem step_add {P : Int × List Int → Prop} {q u0 W : Int} {v : List Int} (hv : Lm v) (hvl : v.length < 536870912)
    (hfin : ∀ (o : List Int) (ca : Int), o.length = v.length + 1 → Lm o → 0 ≤ ca → ca ≤ 1 → rd o (v.length : Int) = u0 → Aside0 (lv o + (bp v.length : Int) * ca = W + lv v) → Rz P (fun k => nat_step.l2 k o v (v.length : Int) q ca (v.length : Int) (v.length : Int))) :
    ∀ (d i : Nat) (o : List Int) (ca : Int), i + d = v.length → o.length = v.length + 1 → Lm o → 0 ≤ ca → ca ≤ 1 → rd o (v.length : Int) = u0 → Aside0 (lv o + (bp i : Int) * ca = W + lv (v.take i)) → Rz P (fun k => nat_step.l2 k o v (v.length : Int) q ca (v.length : Int) (i : Int)) := by
  intro d
  induction d with
  | zero =>
    intro i o ca hi hol ho hc0 hc1 hu he
    have hi : i = v.length := by omega
    subst hi
    refine hfin o ca hol ho hc0 hc1 hu ⟨?_⟩
    rw [he.out, List.take_of_length_le (Nat.le_refl _)]
  | succ d ih =>
    intro i o ca hi hol ho hc0 hc1 hu he
    have hiv : i < v.length := by omega
    have rv := rd_lm hv (i : Int)
    have ro := rd_lm ho (i : Int)
    have e1 := addl ro.1 ro.2 rv.1 rv.2 hc0 hc1
    have hs := split_div (rd o (i : Int) + rd v (i : Int) + ca)
    have hd : 0 ≤ (rd o (i : Int) + rd v (i : Int) + ca) % 4294967296 ∧ (rd o (i : Int) + rd v (i : Int) + ca) % 4294967296 < 4294967296 ∧ 0 ≤ (rd o (i : Int) + rd v (i : Int) + ca) / 4294967296 ∧ (rd o (i : Int) + rd v (i : Int) + ca) / 4294967296 ≤ 1 := by clear e1; omega
    refine Rz.succ ?_
    simp only [nat_step.l2, if_pos (show (i : Int) < (v.length : Int) by clear e1; omega), if_pos (show (0 : Int) ≤ (i : Int) by clear e1; omega), if_pos (show (i : Int) < (o.length : Int) by clear e1; omega), e1, Int.toNat_natCast, wn (show (i : Int) + 1 = ((i + 1 : Nat) : Int) by clear e1; omega) (by clear e1; omega)]
    clear e1
    refine ih (i + 1) _ _ (by omega) (by rw [List.length_set]; exact hol) (lm_set ho hd.1 hd.2.1) hd.2.2.1 hd.2.2.2 (by rw [rd_set_ne _ (by omega)]; exact hu) ⟨?_⟩
    rw [lv_set _ (by omega), lv_take_succ hiv, bp_succ, Int.natCast_mul]
    have he := he.out
    clear ih hfin hd
    generalize (rd o (i : Int) + rd v (i : Int) + ca) / 4294967296 = c2 at *
    generalize (rd o (i : Int) + rd v (i : Int) + ca) % 4294967296 = sm at *
    generalize (bp i : Int) = p at *
    generalize rd v (i : Int) = vi at *
    generalize rd o (i : Int) = ui at *
    generalize lv o = lo at *
    generalize lv (v.take i) = lt at *
    show lo + p * (sm - ui) + 4294967296 * p * c2 = W + (lt + p * vi)
    have h2 : p * (sm + 4294967296 * c2) = p * (ui + vi + ca) := by rw [hs]
    grind
def Stp (n : Nat) (W V : Int) (a : Int × List Int) : Prop := a.1 = W / V ∧ a.2.length = n + 1 ∧ Lm a.2 ∧ lv a.2 = W % V
theorem quo_of {W V q : Int} (h0 : q * V ≤ W) (h1 : W < (q + 1) * V) : W / V = q ∧ W % V = W - q * V := by
  have hV : 0 < V := by
    have e : (q + 1) * V = q * V + V := by grind
    omega
  have e : (q + 1) * V = q * V + V := by grind
  have := Int.ediv_emod_unique (a := W) (b := V) (r := W - q * V) (q := q) hV
  have h := this.mpr ⟨by grind, by omega, by omega⟩
  exact h
theorem step_j1 {x v : List Int} {q : Int} (hx : Lm x) (hv : Lm v) (hxl : x.length = v.length + 1) (hvl : v.length < 536870912) (hq0 : 0 ≤ q) (hq1 : q < 4294967296) (hW : lv x < 4294967296 * lv v) (hhi : lv x < (q + 1) * lv v) (hlo : (q - 1) * lv v ≤ lv x) :
    Rz (Stp v.length (lv x) (lv v)) (fun k => nat_step.j1 k x v (v.length : Int) q) := by
  have hV0 := lv_nonneg hv
  have hV1 := lv_lt hv
  have hx0 := lv_nonneg hx
  refine Rz.succ ?_
  simp only [nat_step.j1]
  refine step_sub (u0 := rd x (v.length : Int)) (W := lv x) hq0 hq1 hv hvl (fun o bo ca hol ho hb0 hb1 hc0 hc1 hu he => ?_) v.length 0 x 0 0 (by omega) hxl hx (by omega) (by omega) (by omega) (by omega) rfl ⟨by simp [lv_nil]⟩
  have ro := rd_lm ho (v.length : Int)
  obtain ⟨y, s, e2, e3, y0, y1, hs, ey⟩ := topl ro.1 ro.2 hc0 hc1 hb0 hb1
  have hlen : (v.length : Int) < (o.length : Int) := by clear e2 e3; omega
  refine Rz.succ ?_
  simp only [nat_step.l1, if_neg (show ¬ (v.length : Int) < (v.length : Int) from Int.lt_irrefl _), if_pos (show (0 : Int) ≤ (v.length : Int) from Int.natCast_nonneg _), if_pos hlen, e2, e3, Int.toNat_natCast, Option.bind_some]
  clear e2 e3
  have hval : lv (o.set v.length y) = lv x - q * lv v + (4294967296 * bp v.length : Nat) * s := by
    rw [lv_set _ (by omega)]
    have he := he.out
    rw [Int.natCast_mul]
    generalize (bp v.length : Int) = p at *
    generalize lv o = lo at *
    generalize rd o (v.length : Int) = ui at *
    subst ey
    show lo + p * (ui - ca - bo + 4294967296 * s - ui) = lv x - q * lv v + 4294967296 * p * s
    grind
  have hlm : Lm (o.set v.length y) := lm_set ho y0 y1
  have hln : (o.set v.length y).length = v.length + 1 := by rw [List.length_set]; exact hol
  have h0 := lv_nonneg hlm
  have h1 := lv_lt hlm
  rw [hln, bp_succ] at h1
  rcases hs with e | e
  · subst e
    simp only [if_true]
    refine Rz.some ⟨?_, hln, hlm, ?_⟩
    · show q % 4294967296 = _
      rw [(quo_of (W := lv x) (V := lv v) (q := q) (by rw [hval] at h0; omega) hhi).1]
      exact Int.emod_eq_of_lt hq0 hq1
    · show lv (o.set v.length y) = _
      rw [(quo_of (W := lv x) (V := lv v) (q := q) (by rw [hval] at h0; omega) hhi).2, hval]
      omega
  · subst e
    simp only [if_neg (show ¬ (1 : Int) = 0 by decide)]
    have hlt : lv x < q * lv v := by rw [hval] at h1; omega
    have e1 : (q - 1 + 1) * lv v = q * lv v := by rw [show q - 1 + 1 = q by omega]
    obtain ⟨hq, hr⟩ := quo_of (W := lv x) (V := lv v) (q := q - 1) hlo (by rw [e1]; exact hlt)
    refine step_add (u0 := rd (o.set v.length y) (v.length : Int)) (W := lv (o.set v.length y)) hv hvl (fun o2 ca2 hol2 ho2 hc20 hc21 hu2 he2 => ?_) v.length 0 _ 0 (by omega) hln hlm (by omega) (by omega) rfl ⟨by simp [lv_nil]⟩
    have ro2 := rd_lm ho2 (v.length : Int)
    have hlen2 : (v.length : Int) < (o2.length : Int) := by omega
    have hq1' : 0 ≤ q - 1 := by
      have h2 : 0 < q * lv v := by omega
      by_cases g : 0 < q
      · omega
      · have : q = 0 := by omega
        rw [this, Int.zero_mul] at h2
        omega
    refine Rz.succ ?_
    simp only [nat_step.l2, if_neg (show ¬ (v.length : Int) < (v.length : Int) from Int.lt_irrefl _), if_pos (show (0 : Int) ≤ (v.length : Int) from Int.natCast_nonneg _), if_pos hlen2, Int.toNat_natCast, u64w (x := q - 1) hq1' (by omega)]
    have y2 : 0 ≤ (rd o2 (v.length : Int) + ca2 % 4294967296) % 4294967296 ∧ (rd o2 (v.length : Int) + ca2 % 4294967296) % 4294967296 < 4294967296 := by omega
    have hlm2 : Lm (o2.set v.length ((rd o2 (v.length : Int) + ca2 % 4294967296) % 4294967296)) := lm_set ho2 y2.1 y2.2
    obtain ⟨t, ht, ht2⟩ : ∃ t : Int, (t = 0 ∨ t = 1) ∧ (rd o2 (v.length : Int) + ca2 % 4294967296) % 4294967296 = rd o2 (v.length : Int) + ca2 - 4294967296 * t := by
      by_cases g : rd o2 (v.length : Int) + ca2 < 4294967296
      · exact ⟨0, .inl rfl, by omega⟩
      · exact ⟨1, .inr rfl, by omega⟩
    have hval2 : lv (o2.set v.length ((rd o2 (v.length : Int) + ca2 % 4294967296) % 4294967296)) = lv x - (q - 1) * lv v + (4294967296 * bp v.length : Nat) * (1 - t) := by
      rw [lv_set _ (by omega), ht2]
      have he2 := he2.out
      rw [hval] at he2
      rw [Int.natCast_mul] at he2 ⊢
      generalize (bp v.length : Int) = p at *
      generalize lv o2 = lo at *
      generalize rd o2 (v.length : Int) = ui at *
      show lo + p * (ui + ca2 - 4294967296 * t - ui) = lv x - (q - 1) * lv v + 4294967296 * p * (1 - t)
      have : lo + p * ca2 = lv x - q * lv v + 4294967296 * p * 1 + lv v := he2
      grind
    have h2 := lv_lt hlm2
    rw [show (o2.set v.length ((rd o2 (v.length : Int) + ca2 % 4294967296) % 4294967296)).length = v.length + 1 by rw [List.length_set]; exact hol2, bp_succ] at h2
    have ht1 : t = 1 := by
      rcases ht with g | g
      · exfalso
        rw [hval2, g] at h2
        omega
      · exact g
    rw [ht1] at hval2
    refine Rz.some ⟨?_, by rw [List.length_set]; exact hol2, hlm2, ?_⟩
    · show (q - 1) % 4294967296 = _
      rw [hq]
      exact Int.emod_eq_of_lt hq1' (by omega)
    · show lv (o2.set v.length ((rd o2 (v.length : Int) + ca2 % 4294967296) % 4294967296)) = _
      rw [hr, hval2]
      omega
theorem step_est {x v : List Int} {Wl u2 u1 u0 Vl v2 v1 p : Int} {n : Nat} (hx : Lm x) (hv : Lm v) (hxl : x.length = v.length + 1) (hvl : v.length < 536870912) (hn : v.length = n + 2)
    (hp : 0 < p) (hV : lv v = Vl + p * v2 + 4294967296 * (p * v1)) (hWe : lv x = Wl + p * u2 + 4294967296 * (p * (u0 * 4294967296 + u1))) (hVl : 0 ≤ Vl) (hVl1 : Vl < p) (hWl : 0 ≤ Wl) (hWl1 : Wl < p)
    (r1 : rd v ((n + 1 : Nat) : Int) = v1) (r2 : rd v (n : Int) = v2) (ru2 : rd x (n : Int) = u2) (hv1 : 2147483648 ≤ v1) (hv1' : v1 < 4294967296) (hv2 : 0 ≤ v2) (hv2' : v2 < 4294967296) (hu2 : 0 ≤ u2) (hu2' : u2 < 4294967296) (hu1 : 0 ≤ u1) (hu1' : u1 < 4294967296)
    (hW : lv x < 4294967296 * lv v) :
    ∀ (d : Nat) (q r : Int), 4294967296 ≤ r + d * 2147483648 → q * v1 + r = u0 * 4294967296 + u1 → 0 ≤ r → r < 8589934592 → 0 ≤ q → q < 18446744073709551616 → lv x < (q + 1) * lv v →
    Rz (Stp v.length (lv x) (lv v)) (fun k => nat_step.l0 k x v (v.length : Int) q r) := by
  have hV0 : 0 ≤ lv v := lv_nonneg hv
  have done : ∀ (q r : Int), 4294967296 ≤ r → q * v1 + r = u0 * 4294967296 + u1 → 0 ≤ q → lv x < (q + 1) * lv v → Rz (Stp v.length (lv x) (lv v)) (fun k => nat_step.l0 k x v (v.length : Int) q r) := by
    intro q r hr hq hq0 hhi
    obtain ⟨h1, h2⟩ := L5 hp hV hWe hVl1 hv2' hWl hu2 hu1 hu1' hW (by omega) hq hr hq0
    refine Rz.succ ?_
    simp only [nat_step.l0, if_neg (show ¬ r < 4294967296 by omega)]
    refine step_j1 hx hv hxl hvl hq0 h1 hW hhi ?_
    have : (q - 1) * lv v = q * lv v - lv v := by grind
    omega
  intro d
  induction d with
  | zero =>
    intro q r hd hq hr0 hr1 hq0 hqb hhi
    exact done q r (by omega) hq hq0 hhi
  | succ d ih =>
    intro q r hd hq hr0 hr1 hq0 hqb hhi
    by_cases hr : 4294967296 ≤ r
    · exact done q r hr hq hq0 hhi
    have nxt : ∀ g : lv x < q * lv v, Rz (Stp v.length (lv x) (lv v)) (fun k => nat_step.l0 k x v (v.length : Int) (q - 1) (r + v1)) := by
      intro g
      have hq1 : 0 ≤ q - 1 := by
        by_cases g2 : 0 < q
        · omega
        · have e : q = 0 := by omega
          rw [e, Int.zero_mul] at g
          have := lv_nonneg hx
          omega
      refine ih (q - 1) (r + v1) (by omega) ?_ (by omega) (by omega) hq1 (by omega) (by rw [show q - 1 + 1 = q by omega]; exact g)
      have : (q - 1) * v1 = q * v1 - v1 := by grind
      omega
    refine Rz.succ ?_
    have i1 : wrap64 ((v.length : Int) - 1) = ((n + 1 : Nat) : Int) := wn (by omega) (by omega)
    have i2 : wrap64 ((v.length : Int) - 2) = (n : Int) := wn (by omega) (by omega)
    have c1 : (0 : Int) ≤ ((n + 1 : Nat) : Int) := by clear i1 i2; omega
    have c2 : ((n + 1 : Nat) : Int) < (v.length : Int) := by clear i1 i2; omega
    have c3 : (0 : Int) ≤ (n : Int) := by clear i1 i2; omega
    have c4 : (n : Int) < (v.length : Int) := by clear i1 i2; omega
    have c5 : (n : Int) < (x.length : Int) := by clear i1 i2; omega
    have c6 : r < 4294967296 := by clear i1 i2; omega
    by_cases hqB : q ≥ 4294967296
    · have g : lv x < q * lv v := by
        have := Int.mul_le_mul_of_nonneg_right (a := 4294967296) (b := q) (c := lv v) hqB hV0
        clear i1 i2
        omega
      simp only [nat_step.l0, if_pos c6, if_pos hqB, i1, if_pos c1, if_pos c2, r1, u64w (x := v1) (by clear i1 i2; omega) (by clear i1 i2; omega), u64w (x := q - 1) (by clear i1 i2; omega) (by clear i1 i2; omega), u64w (x := r + v1) (by clear i1 i2; omega) (by clear i1 i2; omega)]
      exact nxt g
    · have hqs : q < 4294967296 := by clear i1 i2; omega
      have hm0 : 0 ≤ q * v2 := Int.mul_nonneg hq0 hv2
      have hm1 : q * v2 ≤ 4294967295 * 4294967295 := Int.mul_le_mul (by clear i1 i2; omega) (by clear i1 i2; omega) hv2 (by decide)
      have ej := join32 (x := r) (y := u2) hr0 c6 hu2 hu2'
      by_cases ht : q * v2 > r * 4294967296 + u2
      · have g : lv x < q * lv v := L3 hp hV hWe hVl hWl1 hq (by clear i1 i2 ej; omega) hq0
        have hq1 : 0 ≤ q - 1 := by
          by_cases g2 : 0 < q
          · clear i1 i2 ej; omega
          · have e : q = 0 := by clear i1 i2 ej; omega
            rw [e, Int.zero_mul] at g
            have := lv_nonneg hx
            clear i1 i2 ej
            omega
        have z1 := u64w (x := v2) hv2 (by clear i1 i2 ej; omega)
        have z2 := u64w (x := q * v2) hm0 (by clear i1 i2 ej z1; omega)
        simp only [nat_step.l0, if_pos c6, if_neg hqB, i1, i2, if_pos c1, if_pos c2, if_pos c3, if_pos c4, if_pos c5, r1, r2, ru2, z1, z2, ej, if_pos ht, u64w (x := v1) (by clear i1 i2 ej z1 z2; omega) (by clear i1 i2 ej z1 z2; omega), u64w (x := q - 1) hq1 (by clear i1 i2 ej z1 z2; omega), u64w (x := r + v1) (by clear i1 i2 ej z1 z2; omega) (by clear i1 i2 ej z1 z2; omega)]
        exact nxt g
      · have z1 := u64w (x := v2) hv2 (by clear i1 i2 ej; omega)
        have z2 := u64w (x := q * v2) hm0 (by clear i1 i2 ej z1; omega)
        simp only [nat_step.l0, if_pos c6, if_neg hqB, i2, if_pos c3, if_pos c4, if_pos c5, r2, ru2, z1, z2, ej, if_neg ht]
        clear z1 z2 i1 i2 ej
        exact step_j1 hx hv hxl hvl hq0 hqs hW hhi (L4 hp hV hWe hVl hVl1 hv2 (by omega) hWl hq (by omega) hq0 hqs)
theorem lv_two {l : List Int} {n : Nat} (h : n + 2 ≤ l.length) : lv (l.take (n + 2)) = lv (l.take n) + (bp n : Int) * rd l (n : Int) + 4294967296 * ((bp n : Int) * rd l ((n + 1 : Nat) : Int)) := by
  rw [lv_take_succ (i := n + 1) (by omega), lv_take_succ (i := n) (by omega), bp_succ, Int.natCast_mul]
  show _ + 4294967296 * (bp n : Int) * _ = _
  rw [Int.mul_assoc]
theorem step_ev {x v : List Int} (hx : Lm x) (hv : Lm v) (hxl : x.length = v.length + 1) (hvl : v.length < 536870912) (hk : 2 ≤ v.length) (ht : 2147483648 ≤ rd v ((v.length - 1 : Nat) : Int)) (hW : lv x < 4294967296 * lv v) :
    Rz (Stp v.length (lv x) (lv v)) (fun k => nat_step.f k x v) := by
  obtain ⟨n, hn⟩ : ∃ n, v.length = n + 2 := ⟨v.length - 2, by omega⟩
  have hb := bp_pos n
  have eV := lv_two (l := v) (n := n) (by omega)
  rw [show n + 2 = v.length from hn.symm, List.take_of_length_le (Nat.le_refl _)] at eV
  have eX := lv_take_succ (l := x) (i := n + 2) (by omega)
  rw [show n + 2 + 1 = x.length by omega, List.take_of_length_le (Nat.le_refl _), lv_two (l := x) (n := n) (by omega), bp_succ, bp_succ, Int.natCast_mul, Int.natCast_mul] at eX
  have tv := take_bound hv n
  have tx := take_bound hx n
  have b1 := rd_lm hv ((n + 1 : Nat) : Int)
  have b2 := rd_lm hv (n : Int)
  have bu0 := rd_lm hx ((n + 2 : Nat) : Int)
  have bu1 := rd_lm hx ((n + 1 : Nat) : Int)
  have bu2 := rd_lm hx (n : Int)
  rw [show v.length - 1 = n + 1 by omega] at ht
  have eX' : lv x = lv (x.take n) + (bp n : Int) * rd x (n : Int) + 4294967296 * ((bp n : Int) * (rd x ((n + 2 : Nat) : Int) * 4294967296 + rd x ((n + 1 : Nat) : Int))) := by
    rw [eX]
    generalize (bp n : Int) = p
    show _ + 4294967296 * (4294967296 * p) * _ = _
    grind
  have top0 : 0 ≤ rd x ((n + 2 : Nat) : Int) * 4294967296 + rd x ((n + 1 : Nat) : Int) := by omega
  have top1 : rd x ((n + 2 : Nat) : Int) * 4294967296 + rd x ((n + 1 : Nat) : Int) < 18446744073709551616 := by omega
  have hmod := Int.emod_lt_of_pos (rd x ((n + 2 : Nat) : Int) * 4294967296 + rd x ((n + 1 : Nat) : Int)) (show 0 < rd v ((n + 1 : Nat) : Int) by omega)
  have hmod0 := Int.emod_nonneg (rd x ((n + 2 : Nat) : Int) * 4294967296 + rd x ((n + 1 : Nat) : Int)) (show rd v ((n + 1 : Nat) : Int) ≠ 0 by omega)
  have hdm := Int.mul_ediv_add_emod (rd x ((n + 2 : Nat) : Int) * 4294967296 + rd x ((n + 1 : Nat) : Int)) (rd v ((n + 1 : Nat) : Int))
  have hdiv0 : 0 ≤ (rd x ((n + 2 : Nat) : Int) * 4294967296 + rd x ((n + 1 : Nat) : Int)) / rd v ((n + 1 : Nat) : Int) := Int.ediv_nonneg top0 (by omega)
  have hdiv1 : (rd x ((n + 2 : Nat) : Int) * 4294967296 + rd x ((n + 1 : Nat) : Int)) / rd v ((n + 1 : Nat) : Int) ≤ rd x ((n + 2 : Nat) : Int) * 4294967296 + rd x ((n + 1 : Nat) : Int) := Int.ediv_le_self _ top0
  have ej := join32 bu0.1 bu0.2 bu1.1 bu1.2
  have z0 := u64w (x := rd v ((n + 1 : Nat) : Int)) b1.1 (by clear ej; omega)
  have i1 : wrap64 ((v.length : Int) - 1) = ((n + 1 : Nat) : Int) := wn (by clear ej z0; omega) (by clear ej z0; omega)
  have c1 : (0 : Int) ≤ ((n + 1 : Nat) : Int) := by clear i1 ej z0; omega
  have c2 : ((n + 1 : Nat) : Int) < (v.length : Int) := by clear i1 ej z0; omega
  have c3 : (0 : Int) ≤ (v.length : Int) := by clear i1 ej z0; omega
  have c4 : ((n + 1 : Nat) : Int) < (x.length : Int) := by clear i1 ej z0; omega
  have c5 : (v.length : Int) < (x.length : Int) := by clear i1 ej z0; omega
  have c6 : ¬ rd v ((n + 1 : Nat) : Int) = 0 := by clear i1 ej z0; omega
  have e0 : (v.length : Int) = ((n + 2 : Nat) : Int) := by clear i1 ej z0; omega
  simp only [nat_step.f, if_pos c3, if_pos c5, i1, if_pos c1, if_pos c4, if_pos c2, z0, if_neg c6]
  rw [show rd x (v.length : Int) = rd x ((n + 2 : Nat) : Int) by rw [e0]]
  have z3 := u64w (x := rd x ((n + 2 : Nat) : Int)) bu0.1 (by clear i1 ej z0; omega)
  simp only [z3, ej, Int.tdiv_eq_ediv_of_nonneg top0, Int.tmod_eq_emod_of_nonneg top0, u64w hdiv0 (Int.lt_of_le_of_lt hdiv1 top1)]
  clear i1 ej z0 z3
  refine step_est hx hv hxl hvl hn (by omega) eV eX' tv.1 tv.2 tx.1 tx.2 rfl rfl rfl ht b1.2 b2.1 b2.2 bu2.1 bu2.2 bu1.1 bu1.2 hW 2 _ _ (by omega) ?_ hmod0 (by omega) hdiv0 (Int.lt_of_le_of_lt hdiv1 top1) ?_
  · rw [Int.mul_comm]; exact hdm
  · exact L1 (by omega) eV eX' b2.1 tv.1 bu2.2 tx.2 (by rw [Int.mul_comm]; exact hdm) hmod hdiv0
end Mw
end
