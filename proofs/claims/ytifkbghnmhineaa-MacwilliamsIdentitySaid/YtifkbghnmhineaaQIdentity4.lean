/- What functions of the program do and come to, for the statement MacwilliamsIdentity, part 4. Conditions: as each theorem says. -/
import Derived.Test.YtifkbghnmhineaaQIdentity3

namespace Go.Proofs.Ytifkbghnmhineaa.PAll
open Go.RowKit Go.Proofs.YtifkbghnmhineaaW.PrintWords Go.Proofs.YtifkbghnmhineaaW.PrintLast Go.Proofs.YtifkbghnmhineaaW.PrintMore
attribute [local go_sem] max2_int min2_int max_two min_two max_three min_three max_four min_four
set_option linter.unusedVariables false
set_option linter.unusedSimpArgs false
set_option maxHeartbeats 8000000 in
set_option maxRecDepth 100000 in
theorem mw_Dual.calls (k : Nat) (a0 : Int) (A1 : Option Addr) (c1 : Nat) (l1 : List (List Int)) (r1 : List (List Int)) (r2 : Int) (w : World) (hr1 : Kd.C (Kd.slice 97 (Kd.int .u32)) w A1 l1.length l1) (hc1 : l1.length ≤ c1) (h : mw_Dual.f k a0 l1 = some (r1, r2)) :
    Calls Try.prog 57 #[.int .i64 a0, .slice A1 l1.length c1] w fun e w' => ∃ v0_ : Value, e = .returned (.tuple #[v0_, .int .i64 r2]) ∧ Kd.N (Kd.slice 97 (Kd.int .u32)) 29 w' w.heap.size (fun k_ => (w.heap.size ≤ k_)) v0_ r1 ∧ Below w.heap.size w w' := by
 have hu113 := Try.underlying113
 have HR1 := zk hr1
 have HC1 := zk hc1
 clear hr1 hc1
 have HB := zk (Below.refl w.heap.size w)
 have H := h
 clear h
 unfold mw_Dual.f at H
 replace H := zb H
 obtain ⟨ta1, A3, H⟩ := H
 replace H := zi H
 rcases H with ⟨c4, H⟩ | ⟨c4, H⟩
 · have c4b0 := beq_iff_eq.mpr c4
   have c4b1 := bne_eq_false_iff_eq.mpr c4
   clear c4
   replace H := zb H
   obtain ⟨ta2, A5, H⟩ := H
   replace H := zi H
   rcases H with ⟨c6, H⟩ | ⟨c6, H⟩
   · have c6b0 := beq_iff_eq.mpr c6
     have c6b1 := bne_eq_false_iff_eq.mpr c6
     clear c6
     simp only [Option.some.injEq, Prod.mk.injEq] at H
     obtain ⟨rfl, rfl⟩ := H
     go_enter Try.func57, Try.ntmps57
     go_wp2_with (first | ((with_reducible refine gC 102 ?_); refine zG (some 20) Try.func102 #[.int .i64 a0, .int .i64 (l1.length : Int)] ?_; (with_reducible refine (mw_wrong.calls a0 (l1.length : Int) ta1 _ A3.out).mono ?_); rintro e w' ⟨rfl, ⟨nd, rfl⟩⟩; refine ⟨_, rfl, ?_⟩) | ((with_reducible refine gC 73 ?_); refine zG (some 25) Try.func73 #[.slice A1 l1.length c1] ?_; (with_reducible refine (nat_Add.calls k _ _ l1 ta2 _ ?side1 ?side2 A5.out).mono ?_); (case side1 => exact zC HR1.out); (case side2 => exact HC1.out); rintro e w7 ⟨va3, rfl, ho0, hb⟩; refine ⟨_, rfl, ?_⟩; replace ho0 := Kd.R_newM (M := fun k_ => (w.heap.size ≤ k_)) ho0 (below_size (zB HB.out)) (fun k_ h_ => h_); have HOa4 := yRl ho0 HB; replace HB := yS HB hb; (try clear hb ho0); obtain ⟨Ao8, co8, rfl⟩ := Kd.R_slice HOa4.out))
     go_ret2
     exact ⟨_, zE, by first | exact Kd.S_nil _ _ _ _ _ | exact Kd.N_nil _ _ _ _ _ | exact Kd.V_nil _ _ _ _ _ | exact Kd.Q_nil _ _ _ _ _ | exact Kd.R_nil _ _ _ _ _, zB HB.out⟩
   have c6b0 := beq_eq_false_iff_ne.mpr c6
   have c6b1 := bne_iff_ne.mpr c6
   have c6b2 : ¬ (ta2 = []) := fun h_ => c6 (by rw [h_]; rfl)
   have H' := zk H
   clear H
   go_enter Try.func57, Try.ntmps57
   go_wp2_with (first | ((with_reducible refine gC 102 ?_); refine zG (some 20) Try.func102 #[.int .i64 a0, .int .i64 (l1.length : Int)] ?_; (with_reducible refine (mw_wrong.calls a0 (l1.length : Int) ta1 _ A3.out).mono ?_); rintro e w' ⟨rfl, ⟨nd, rfl⟩⟩; refine ⟨_, rfl, ?_⟩) | ((with_reducible refine gC 73 ?_); refine zG (some 25) Try.func73 #[.slice A1 l1.length c1] ?_; (with_reducible refine (nat_Add.calls k _ _ l1 ta2 _ ?side1 ?side2 A5.out).mono ?_); (case side1 => exact zC HR1.out); (case side2 => exact HC1.out); rintro e w9 ⟨va3, rfl, ho0, hb⟩; refine ⟨_, rfl, ?_⟩; replace ho0 := Kd.R_newM (M := fun k_ => (w.heap.size ≤ k_)) ho0 (below_size (zB HB.out)) (fun k_ h_ => h_); have HOa4 := yRl ho0 HB; replace HB := yS HB hb; (try clear hb ho0); obtain ⟨Ao10, co10, rfl⟩ := Kd.R_slice HOa4.out))
   go_loopg [8, 31] k (fun kq v8 v31 w' => ∃ (x8_1 : List (S113)) (x31_1 : Int), v31 = .int .i64 x31_1 ∧ Aside0 (mw_Dual.l0 kq a0 ta2 x8_1 l1 (l1.length : Int) x31_1 = some (r1, r2)) ∧ Aside0 (kq ≤ k) ∧ Aside0 (Kd.R (Kd.int .u32) 97 w' w.heap.size (fun k_ => (w.heap.size ≤ k_)) (.slice Ao10 ta2.length co10) ta2) ∧ Aside0 (Kd.N k113 113 w' w.heap.size (fun k_ => (w.heap.size ≤ k_) ∧ some k_ ≠ ((.slice Ao10 ta2.length co10) : Value).ownBlock) v8 x8_1) ∧ Aside0 (Below w.heap.size w w'))
   case atStart => exact ⟨(([] : List (S113))), (0), zF, H', ⟨Nat.le_refl _⟩, ⟨by (with_reducible repeat (first | apply Kd.R_alloc | apply Kd.R_drewN | apply Kd.R_drew)); exact Kd.R_mono HOa4.out (fun _ hk => hk.1)⟩, ⟨by first | exact Kd.S_nil _ _ _ _ _ | exact Kd.N_nil _ _ _ _ _ | exact Kd.V_nil _ _ _ _ _ | exact Kd.Q_nil _ _ _ _ _ | exact Kd.R_nil _ _ _ _ _⟩, ⟨zB HB.out⟩⟩
   clear H'
   (try clear c4);(try clear c4b0);(try clear c4b1);(try clear c6);(try clear c6b0);(try clear c6b1);(try clear c6b2)
   obtain ⟨x8_1, x31_1, rfl, HA, HK1, HO_7, HO_8, HB⟩ := hrel
   cases gk with | zero => exact absurd HA.out (by simp [mw_Dual.l0]) | succ k1 => ?_
   have H := HA.out
   clear HA
   simp only [mw_Dual.l0] at H
   replace H := zid H
   rcases H with ⟨c11b0, H⟩ | ⟨c11b0, H⟩
   · replace H := zgd H
     obtain ⟨c12b0, H⟩ := H
     replace H := zgd H
     obtain ⟨c13b0, H⟩ := H
     replace H := zb H
     obtain ⟨ta6, A14, H⟩ := H
     replace H := zg H
     obtain ⟨c15, H⟩ := H
     have LMc15 := zk c15
     clear c15
     obtain ⟨ya9, hya9⟩ : ∃ y_ : List (S113), y_ = (x8_1 ++ [(⟨false, ta6⟩ : S113)]) := ⟨_, rfl⟩
     replace H : (mw_Dual.l0 k1 a0 ta2 ya9 l1 (l1.length : Int) (wrap64 (x31_1 + 1))) = some (r1, r2) := zY hya9 H
     have Nya9 := zk hya9
     clear hya9
     have H' := zk H
     clear H
     have pa5 : 0 ≤ (x31_1 : Int) := zd
     have qa5 : x31_1 < (l1.length : Int) := zd
     obtain ⟨ada5, Aa5_0, ca5_0, ea5, hxa5_0, hla5_0, hia5_0⟩ := at_L3 HR1.out x31_1 pa5 qa5
     cases ea5
     replace hxa5_0 := (HB.out.cell (World.block_lt_of_cell? w _ hxa5_0)).trans hxa5_0
     have HRa5_0 := zk hia5_0
     have HCa5_0 := zk hla5_0
     clear hia5_0 hla5_0
     replace pa5 := eq_true pa5
     replace qa5 := eq_true qa5
     go_wp2_with (first | ((with_reducible refine gC 103 ?_); refine zG (some 37) Try.func103 #[.slice Aa5_0 (rd_L3 l1 x31_1).length ca5_0] ?_; (with_reducible refine (nat_Trim.calls k1 _ _ (rd_L3 l1 x31_1) ta6 _ ?side1 ?side2 A14.out).mono ?_); (case side1 => exact zC (Kd.C_below HRa5_0.out HB.out)); (case side2 => exact HCa5_0.out); rintro e w16 ⟨va7, rfl, ho0, hb⟩; refine ⟨_, rfl, ?_⟩; replace HO_8 := yNe HO_8 ho0 hb; replace ho0 := Kd.R_newM (M := fun k_ => (w.heap.size ≤ k_)) ho0 (below_size (zB HB.out)) (fun k_ h_ => h_); replace ho0 := yn ho0 HO_7; have HOa8 := yRl ho0 HB; replace HO_7 := yRe HO_7 ho0 hb; replace HB := yS HB hb; (try clear hb ho0); obtain ⟨Ao17, co17, rfl⟩ := Kd.R_slice HOa8.out) | ((with_reducible refine gate_builtin (b := .append) (xs := #[.tmp 35, .tmp 39]) rfl ?_); (try (refine gate_guard (by rfl) ?_; dsimp only)); at_builtin; refine Kd.N_append k113 (w0 := w) w.heap.size rfl (.tmp 35) (.tmp 39) 114 113 (.agg #[(.bool false), (.slice none 0 0)]) 32 rfl Try.underlying114 info113 rfl (by decide) (by omega) u8 x8_1 (⟨false, ta6⟩ : S113) [.bool false, .slice Ao17 ta6.length co17] (fun k_ => (w.heap.size ≤ k_) ∧ some k_ ≠ (.slice Ao10 ta2.length co10 : Value).ownBlock) (fun k_ => ((fun k_ => (w.heap.size ≤ k_) ∧ some k_ ≠ (.slice Ao10 ta2.length co10 : Value).ownBlock)) k_ ∧ some k_ ≠ (u8 : Value).ownBlock) rfl rfl ?aP (fun _ hk => hk) ?aF ?aO ?aB ?aS ?aL ?_; (case aP => exact (k113_mkF _ _ (⟨false, ta6⟩ : S113) (Kd.R_reads' (Kd.R_mono (ok' := (fun k_ => ((fun k_ => (w.heap.size ≤ k_) ∧ some k_ ≠ (.slice Ao10 ta2.length co10 : Value).ownBlock)) k_ ∧ some k_ ≠ (u8 : Value).ownBlock)) (Kd.R_apart' (HOa8.out) (Kd.N_typed HO_8.out) (by decide)) (fun k_ hk => by exact ⟨⟨hk.1.1.1, hk.1.2⟩, hk.2⟩))).2.1 (Kd.R_F (Kd.R_mono (ok' := (fun k_ => ((fun k_ => (w.heap.size ≤ k_) ∧ some k_ ≠ (.slice Ao10 ta2.length co10 : Value).ownBlock)) k_ ∧ some k_ ≠ (u8 : Value).ownBlock)) (Kd.R_apart' (HOa8.out) (Kd.N_typed HO_8.out) (by decide)) (fun k_ hk => by exact ⟨⟨hk.1.1.1, hk.1.2⟩, hk.2⟩))))); (case aB => exact (zB HB.out)); (case aF => exact (fun k_ hk => ⟨(Nat.le_trans (below_size (zB HB.out)) hk), Kd.fresh' (Kd.R_lt (zR HO_7.out)) k_ hk⟩)); (case aO => exact (by (with_reducible repeat (first | apply Kd.N_alloc | apply Kd.N_drewN | apply Kd.N_drew)); exact Kd.N_mono HO_8.out (fun _ hk => ⟨hk.1.1, hk.1.2⟩))); (case aS => exact (below_size (zB HB.out))); (case aL => have := LMc15.out; omega); intro vb0 w18 ho hb hg hat; rw [← Nya9.out] at ho; replace HO_7 := zk (Kd.R_over' (zR HO_7.out) (Kd.N_typed (zN HO_8.out)) (by decide) hg); replace HB := zk (hb); have HOb1 := zk (ho); clear HO_8 HOa8; clear ho hb hg hat))
     go_roundg k1
     case measure => have := HK1.out; omega
     case rel => exact ⟨(ya9), (wrap64 (x31_1 + 1)), zF, H', ⟨zo1 HK1⟩, ⟨by (with_reducible repeat (first | apply Kd.R_alloc | apply Kd.R_drewN | apply Kd.R_drew)); exact Kd.R_mono HO_7.out (fun _ hk => hk.1)⟩, ⟨zN HOb1.out⟩, ⟨zB HB.out⟩⟩
   replace H := zb H
   obtain ⟨tb2, A19, H⟩ := H
   have H' := zk H
   clear H
   obtain ⟨Ao20, co20, rfl⟩ := Kd.N_slice HO_8.out
   go_wp2_with (first | ((with_reducible refine gC 104 ?_); refine zG (some 44) Try.func104 #[.int .i64 a0, .slice Ao20 x8_1.length co20] ?_; (with_reducible refine (mw_sums.calls k1 a0 _ _ x8_1 tb2 _ ?side1 ?side2 A19.out).mono ?_); (case side1 => exact zC (Kd.N_reads' HO_8.out).2.2); (case side2 => exact (Kd.N_reads' HO_8.out).2.1); rintro e w21 ⟨vb3, rfl, ho0, hb⟩; refine ⟨_, rfl, ?_⟩; have HOb4 := zk (Kd.N_lower (Kd.N_mono (ok' := fun k_ => (w.heap.size ≤ k_) ∧ some k_ ≠ (.slice Ao10 ta2.length co10 : Value).ownBlock ∧ some k_ ≠ (.slice Ao20 x8_1.length co20 : Value).ownBlock) ho0 (fun k_ hk_ => ⟨(Nat.le_trans (below_size (zB HB.out)) hk_), (Kd.fresh' (Kd.R_lt (zR HO_7.out)) k_ hk_), (Kd.fresh' (Kd.N_lt (zN HO_8.out)) k_ hk_)⟩)) (below_size (zB HB.out))); replace HO_7 := yRb HO_7 hb; replace HO_8 := zk (Kd.N_elder' (zN HO_8.out) (Kd.N_base ho0) hb); replace HB := yS HB hb; (try clear hb ho0); obtain ⟨Ao22, co22, rfl⟩ := Kd.N_slice HOb4.out))
   go_loopg [11, 46] k1 (fun kq v11 v46 w' => ∃ (x11_2 : List (List Int)) (x46_2 : Int), v46 = .int .i64 x46_2 ∧ Aside0 (mw_Dual.l1 kq ta2 x11_2 tb2 (tb2.length : Int) x46_2 = some (r1, r2)) ∧ Aside0 (kq ≤ k1) ∧ Aside0 (Kd.R (Kd.int .u32) 97 w' w.heap.size (fun k_ => (w.heap.size ≤ k_)) (.slice Ao10 ta2.length co10) ta2) ∧ Aside0 (Kd.N (Kd.slice 97 (Kd.int .u32)) 29 w' w.heap.size (fun k_ => (w.heap.size ≤ k_) ∧ some k_ ≠ ((.slice Ao22 tb2.length co22) : Value).ownBlock) v11 x11_2) ∧ Aside0 (Kd.N k113 113 w' w.heap.size (fun k_ => (w.heap.size ≤ k_) ∧ some k_ ≠ ((.slice Ao10 ta2.length co10) : Value).ownBlock ∧ some k_ ≠ (v11 : Value).ownBlock) (.slice Ao22 tb2.length co22) tb2) ∧ Aside0 (Below w.heap.size w w'))
   case atStart => exact ⟨(([] : List (List Int))), (0), zF, H', ⟨Nat.le_refl _⟩, ⟨zR HO_7.out⟩, ⟨by first | exact Kd.S_nil _ _ _ _ _ | exact Kd.N_nil _ _ _ _ _ | exact Kd.V_nil _ _ _ _ _ | exact Kd.Q_nil _ _ _ _ _ | exact Kd.R_nil _ _ _ _ _⟩, ⟨by (with_reducible repeat (first | apply Kd.N_alloc | apply Kd.N_drewN | apply Kd.N_drew)); exact Kd.N_mono HOb4.out (fun _ hk => ⟨hk.1, ⟨hk.2.1, (by simp [Value.ownBlock])⟩⟩)⟩, ⟨zB HB.out⟩⟩
   clear H'
   (try clear c4);(try clear c4b0);(try clear c4b1);(try clear c6);(try clear c6b0);(try clear c6b1);(try clear c6b2);(try clear c11b0);(try clear c12b0);(try clear c13b0);(try clear c15);(try clear hxa5_0);(try clear pa5);(try clear qa5)
   obtain ⟨x11_2, x46_2, rfl, HA, HK2, HO_7, HO_11, HO_44, HB⟩ := hrel
   cases gk with | zero => exact absurd HA.out (by simp [mw_Dual.l1]) | succ k2 => ?_
   have H := HA.out
   clear HA
   simp only [mw_Dual.l1] at H
   replace H := zid H
   rcases H with ⟨c23b0, H⟩ | ⟨c23b0, H⟩
   · replace H := zgd H
     obtain ⟨c24b0, H⟩ := H
     replace H := zgd H
     obtain ⟨c25b0, H⟩ := H
     replace H := zb H
     obtain ⟨⟨tb7, tc0, tc3⟩, A26, H⟩ := H
     dsimp only at H
     replace H := zi H
     rcases H with ⟨c27, H⟩ | ⟨c27, H⟩
     · have c27b0 : decide (0 < (tc0.length : Int)) = true := decide_eq_true c27
       have c27b1 : decide (0 < tc0.length) = true := decide_eq_true (by omega)
       clear c27
       simp only [Option.some.injEq, Prod.mk.injEq] at H
       obtain ⟨rfl, rfl⟩ := H
       have pb5 : 0 ≤ (x46_2 : Int) := zd
       have qb5 : x46_2 < (tb2.length : Int) := zd
       obtain ⟨adb5, Ab5_1, cb5_1, eb5, hxb5_0, hxb5_1, hlb5_1, hib5_1⟩ := at_T113 (Kd.N_reads' HO_44.out).2.2 x46_2 pb5 qb5
       cases eb5
       obtain ⟨ceb5, hceb5, hMeb5, hccb5⟩ := Kd.N_get HO_44.out z113 x46_2 pb5 (by first | exact qb5 | exact zd | (have e_ := (Kd.N_reads' HO_44.out).1; omega))
       obtain ⟨uab5_1, ucb5_1, rfl, ulb5_1, geb5_1⟩ := k113_openF hMeb5
       have hvb5_1 := hccb5 1 _ rfl
       rw [add_field _ _ 1 (by omega)] at hvb5_1
       replace hvb5_1 := Option.some.inj (hvb5_1.symm.trans hxb5_1)
       injection hvb5_1 with hva_ hvn_ hvc_
       rw [hva_] at geb5_1
       rw [hvc_] at ulb5_1
       have HLb5_1 := zk (show Kd.V (Kd.int .u32) 97 _ w.heap.size _ _ ((rd_T113 tb2 x46_2).f1) from Kd.V_mk ulb5_1 geb5_1)
       clear hva_ hvn_ hvc_ geb5_1 ulb5_1
       clear hccb5 hceb5
       have HRb5_1 := zk hib5_1
       have HCb5_1 := zk hlb5_1
       clear hib5_1 hlb5_1
       replace pb5 := eq_true pb5
       replace qb5 := eq_true qb5
       go_wp2_with (first | ((with_reducible refine gate_dst (N := 13) rfl ?_); (try (refine gate_guard (by rfl) ?_; dsimp only)); refine box_event ?hg (N := 13) ?hd (cs := #[.bool false, .slice none 0 0]) (t := 113) ?hr ?_; (case hd => rfl); (case hg => rfl); (case hr => first | (go_simp; done) | (go_simp; rfl)); intro gbb6 hg w28 hbox hb; replace HO_7 := yRb HO_7 hb; replace HO_11 := zk (Kd.N_below (Kd.N_elderB (zN HO_11.out) gbb6 (Nat.le_of_eq hg.symm)) hb); replace HO_44 := zk (Kd.N_below (Kd.N_elderB (zN HO_44.out) gbb6 (Nat.le_of_eq hg.symm)) hb); replace HLb5_1 := yVB HLb5_1 hg hb; (try replace HRb5_1 := yCb HRb5_1 hb); have BKb6 := zk (hbox); have GWb6 := yg hg HB; have GEb6 := yg hg HB; replace HB := yS HB hb; clear hb hbox hg; obtain ⟨hcz29_0, hcz29_1, hfz29_0, hfz29_1⟩ := zz2 BKb6) | ((with_reducible refine gate_store (t := 113) (p := 13) rfl ?_); refine store_event (t := 113) (p := 13) (v := ?vo_w30) (w1 := ((w28.setCell ⟨gbb6, 0, none⟩ (.bool ((rd_T113 tb2 x46_2).f0))).setCell ⟨gbb6, 1, none⟩ (.slice Ab5_1 ((rd_T113 tb2 x46_2).f1).length cb5_1))) ?hg ?ho ?hn ?hr ?_; (case ho => rfl); (case hg => rfl); (case hn => rfl); (case hr => first | (go_simp; done) | (go_simp; rfl)); intro w30 hw; have n0_ : Aside0 (Kd.R (Kd.int .u32) 97 w30 w.heap.size (fun k_ => (w.heap.size ≤ k_)) (.slice Ao10 ta2.length co10) ta2) := ⟨(by rw [hw]; exact (by (with_reducible repeat (first | apply Kd.R_alloc | apply Kd.R_drewN | apply Kd.R_drew)); exact Kd.R_mono (Kd.R_far (p := ⟨gbb6, 1, none⟩) (Kd.R_far (p := ⟨gbb6, 0, none⟩) (Kd.R_types HO_7.out BKb6.out (by decide)) (fun _ hk => hk.2) (.bool ((rd_T113 tb2 x46_2).f0))) (fun _ hk => hk.2) (.slice Ab5_1 ((rd_T113 tb2 x46_2).f1).length cb5_1)) (fun _ hk => hk.1)))⟩; have n1_ : Aside0 (Kd.N (Kd.slice 97 (Kd.int .u32)) 29 w30 w.heap.size (fun k_ => (w.heap.size ≤ k_) ∧ some k_ ≠ (.slice (some adb5) tb2.length co22 : Value).ownBlock ∧ k_ ≠ gbb6) u11 x11_2) := ⟨(by rw [hw]; exact (by (with_reducible repeat (first | apply Kd.N_alloc | apply Kd.N_drewN | apply Kd.N_drew)); exact Kd.N_mono (Kd.N_far (p := ⟨gbb6, 1, none⟩) (Kd.N_far (p := ⟨gbb6, 0, none⟩) (Kd.N_mono HO_11.out (fun k_ hk => (⟨hk, hk.2⟩ : _ ∧ k_ ≠ gbb6))) (fun _ hk => hk.2) (.bool ((rd_T113 tb2 x46_2).f0))) (fun _ hk => hk.2) (.slice Ab5_1 ((rd_T113 tb2 x46_2).f1).length cb5_1)) (fun _ hk => ⟨hk.1.1.1, ⟨hk.1.1.2, hk.1.2⟩⟩)))⟩; have n2_ : Aside0 (Kd.N k113 113 w30 w.heap.size (fun k_ => (w.heap.size ≤ k_) ∧ some k_ ≠ (.slice Ao10 ta2.length co10 : Value).ownBlock ∧ some k_ ≠ (u11 : Value).ownBlock ∧ k_ ≠ gbb6) (.slice (some adb5) tb2.length co22) tb2) := ⟨(by rw [hw]; exact (by (with_reducible repeat (first | apply Kd.N_alloc | apply Kd.N_drewN | apply Kd.N_drew)); exact Kd.N_mono (Kd.N_far (p := ⟨gbb6, 1, none⟩) (Kd.N_far (p := ⟨gbb6, 0, none⟩) (Kd.N_mono HO_44.out (fun k_ hk => (⟨hk, hk.2⟩ : _ ∧ k_ ≠ gbb6))) (fun _ hk => hk.2) (.bool ((rd_T113 tb2 x46_2).f0))) (fun _ hk => hk.2) (.slice Ab5_1 ((rd_T113 tb2 x46_2).f1).length cb5_1)) (fun _ hk => ⟨hk.1.1.1, ⟨hk.1.1.2.1, ⟨hk.1.1.2.2, hk.1.2⟩⟩⟩)))⟩; have n3_ : Aside0 (Kd.V (Kd.int .u32) 97 w30 w.heap.size (fun k_ => (w.heap.size ≤ k_) ∧ some k_ ≠ (.slice Ao10 ta2.length co10 : Value).ownBlock ∧ some k_ ≠ (u11 : Value).ownBlock ∧ some k_ ≠ (.slice (some adb5) tb2.length co22 : Value).ownBlock ∧ k_ ≠ gbb6) (.slice Ab5_1 ((rd_T113 tb2 x46_2).f1).length cb5_1) ((rd_T113 tb2 x46_2).f1)) := ⟨(by rw [hw]; exact (by (with_reducible repeat (first | apply Kd.V_alloc | apply Kd.V_drewN | apply Kd.V_drew)); exact Kd.V_mono (Kd.V_far (p := ⟨gbb6, 1, none⟩) (Kd.V_far (p := ⟨gbb6, 0, none⟩) (Kd.V_mono HLb5_1.out (fun k_ hk => (⟨hk, hk.2⟩ : _ ∧ k_ ≠ gbb6))) (fun _ hk => hk.2) (.bool ((rd_T113 tb2 x46_2).f0))) (fun _ hk => hk.2) (.slice Ab5_1 ((rd_T113 tb2 x46_2).f1).length cb5_1)) (fun _ hk => ⟨hk.1.1.1.1, ⟨hk.1.1.1.2.1, ⟨hk.1.1.1.2.2, ⟨hk.1.1.2, hk.1.2⟩⟩⟩⟩)))⟩; have n4_ : Aside0 (w30.heap[gbb6]? = some (.cells #[.bool ((rd_T113 tb2 x46_2).f0), .slice Ab5_1 ((rd_T113 tb2 x46_2).f1).length cb5_1] 113 (0, 0))) := ⟨(by rw [hw]; exact (zP2 BKb6.out))⟩; have n5_ : Aside0 (Below w.heap.size w w30) := ⟨(by rw [hw]; exact (zB1 HB.out GEb6.out))⟩; clear hw; clear HO_7; clear HO_11; clear HO_44; clear HLb5_1; clear BKb6; clear HB; have HO_7 := n0_; have HO_11 := n1_; have HO_44 := n2_; have HLb5_1 := n3_; have BKb6 := n4_; have HB := n5_; clear n0_ n1_ n2_ n3_ n4_ n5_; obtain ⟨hcz31_0, hcz31_1, hfz31_0, hfz31_1⟩ := zz2 BKb6) | ((with_reducible refine gC 105 ?_); refine zG (some 54) Try.func105 #[.slice Ab5_1 ((rd_T113 tb2 x46_2).f1).length cb5_1, .slice Ao10 ta2.length co10] ?_; (with_reducible refine (nat_DivMod.calls k2 (fun k_ => ((w.heap.size ≤ k_) ∧ (some k_ ≠ (.slice Ao10 ta2.length co10 : Value).ownBlock ∧ (some k_ ≠ (u11 : Value).ownBlock ∧ (some k_ ≠ (.slice (some adb5) tb2.length co22 : Value).ownBlock ∧ k_ ≠ gbb6))))) _ _ ((rd_T113 tb2 x46_2).f1) (fun k_ => some k_ = (.slice Ao10 ta2.length co10 : Value).ownBlock) _ _ ta2 tb7 tc0 tc3 _ ?side1 ?side2 A26.out).mono ?_); (case side1 => exact HLb5_1.out); (case side2 => exact Kd.R_V (Kd.R_tight rfl (Kd.R_types (Kd.R_apart' (Kd.R_apart' (HO_7.out) (Kd.N_typed HO_11.out) (by decide)) (Kd.N_typed HO_44.out) (by decide)) BKb6.out (by decide)))); rintro e w32 ⟨vb8, vc1, rfl, ho0, ho1, hb⟩; refine ⟨_, rfl, ?_⟩; replace HLb5_1 := yVe HLb5_1 ho1 hb; have HOb9 := zk (Kd.V_lower (Kd.V_mono (ok' := fun k_ => (w.heap.size ≤ k_) ∧ some k_ ≠ (vc1 : Value).ownBlock ∧ some k_ ≠ (u11 : Value).ownBlock ∧ some k_ ≠ (.slice (some adb5) tb2.length co22 : Value).ownBlock ∧ k_ ≠ gbb6) ho0 (fun k_ hk_ => ⟨Or.elim hk_.1 (fun hs_ => Or.elim hs_ (fun hs_ => hs_.1) (fun hs_ => ((Kd.R_types (Kd.R_apart' (Kd.R_apart' (HO_7.out) (Kd.N_typed HO_11.out) (by decide)) (Kd.N_typed HO_44.out) (by decide)) BKb6.out (by decide)).1 k_ hs_.symm).1.1.1)) (fun hn_ => (Nat.le_trans (below_size (zB1 HB.out GEb6.out)) hn_)), hk_.2, Or.elim hk_.1 (fun hs_ => Or.elim hs_ (fun hs_ => hs_.2.2.1) (fun hs_ => ((Kd.R_types (Kd.R_apart' (Kd.R_apart' (HO_7.out) (Kd.N_typed HO_11.out) (by decide)) (Kd.N_typed HO_44.out) (by decide)) BKb6.out (by decide)).1 k_ hs_.symm).1.1.2)) (fun hn_ => (Kd.fresh' (Kd.N_lt (zN HO_11.out)) k_ hn_)), Or.elim hk_.1 (fun hs_ => Or.elim hs_ (fun hs_ => hs_.2.2.2.1) (fun hs_ => ((Kd.R_types (Kd.R_apart' (Kd.R_apart' (HO_7.out) (Kd.N_typed HO_11.out) (by decide)) (Kd.N_typed HO_44.out) (by decide)) BKb6.out (by decide)).1 k_ hs_.symm).1.2)) (fun hn_ => (Kd.fresh' (Kd.N_lt (zN HO_44.out)) k_ hn_)), Or.elim hk_.1 (fun hs_ => Or.elim hs_ (fun hs_ => hs_.2.2.2.2) (fun hs_ => ((Kd.R_types (Kd.R_apart' (Kd.R_apart' (HO_7.out) (Kd.N_typed HO_11.out) (by decide)) (Kd.N_typed HO_44.out) (by decide)) BKb6.out (by decide)).1 k_ hs_.symm).2)) (fun hn_ => (Kd.freshB (g := gbb6) (o := .cells #[.bool ((rd_T113 tb2 x46_2).f0), .slice Ab5_1 ((rd_T113 tb2 x46_2).f1).length cb5_1] 113 (0, 0)) (zK BKb6.out) k_ hn_))⟩)) (below_size (zB1 HB.out GEb6.out))); replace HO_11 := yNe HO_11 ho1 hb; replace HO_44 := yNe HO_44 ho1 hb; replace ho1 := Kd.R_newM (M := fun k_ => (w.heap.size ≤ k_)) (yt ho1) (below_size (zB1 HB.out GEb6.out)) (fun k_ h_ => h_); replace ho1 := yn ho1 HO_7; have HOc2 := yRl1 ho1 HB GEb6; replace HO_7 := yRe HO_7 ho1 hb; (try replace HRb5_1 := yCb HRb5_1 hb); replace BKb6 := yK BKb6 hb; replace HB := yS1 HB GEb6 hb; (try clear hb ho0); (try clear ho1); obtain ⟨Ao33, co33, rfl⟩ := Kd.R_slice HOc2.out))
       go_ret2
       exact ⟨_, zE, by first | exact Kd.S_nil _ _ _ _ _ | exact Kd.N_nil _ _ _ _ _ | exact Kd.V_nil _ _ _ _ _ | exact Kd.Q_nil _ _ _ _ _ | exact Kd.R_nil _ _ _ _ _, zB1 HB.out GEb6.out⟩
     have c27b0 : decide (0 < (tc0.length : Int)) = false := decide_eq_false c27
     have c27b1 : decide (0 < tc0.length) = false := decide_eq_false (by omega)
     clear c27
     obtain ⟨bq34, hbq34⟩ : ∃ b_ : Bool, b_ = ((rd_T113 tb2 x46_2).f0) := ⟨_, rfl⟩
     replace H : (if bq34 = true then (if (((rd_T113 tb2 x46_2).f1).length : Int) > 0 then (some (([] : List (List Int)), 5)) else (if x11_2.length < 5864062014805 then (mw_Dual.l1 k2 ta2 (x11_2 ++ [tb7]) tb2 (tb2.length : Int) (wrap64 (x46_2 + 1))) else (none))) else (if x11_2.length < 5864062014805 then (mw_Dual.l1 k2 ta2 (x11_2 ++ [tb7]) tb2 (tb2.length : Int) (wrap64 (x46_2 + 1))) else (none))) = some (r1, r2) := by rw [← hbq34] at H; exact H
     have Nbq34 := zk hbq34
     clear hbq34
     by_cases c35 : bq34 = true
     · subst c35
       rw [if_pos rfl] at H
       replace H := zi H
       rcases H with ⟨c36, H⟩ | ⟨c36, H⟩
       · have c36b0 : decide (0 < (((rd_T113 tb2 x46_2).f1).length : Int)) = true := decide_eq_true c36
         have c36b1 : decide (0 < ((rd_T113 tb2 x46_2).f1).length) = true := decide_eq_true (by omega)
         clear c36
         simp only [Option.some.injEq, Prod.mk.injEq] at H
         obtain ⟨rfl, rfl⟩ := H
         have pb5 : 0 ≤ (x46_2 : Int) := zd
         have qb5 : x46_2 < (tb2.length : Int) := zd
         obtain ⟨adb5, Ab5_1, cb5_1, eb5, hxb5_0, hxb5_1, hlb5_1, hib5_1⟩ := at_T113 (Kd.N_reads' HO_44.out).2.2 x46_2 pb5 qb5
         (try rw [← Nbq34.out] at hxb5_0)
         cases eb5
         obtain ⟨ceb5, hceb5, hMeb5, hccb5⟩ := Kd.N_get HO_44.out z113 x46_2 pb5 (by first | exact qb5 | exact zd | (have e_ := (Kd.N_reads' HO_44.out).1; omega))
         obtain ⟨uab5_1, ucb5_1, rfl, ulb5_1, geb5_1⟩ := k113_openF hMeb5
         have hvb5_1 := hccb5 1 _ rfl
         rw [add_field _ _ 1 (by omega)] at hvb5_1
         replace hvb5_1 := Option.some.inj (hvb5_1.symm.trans hxb5_1)
         injection hvb5_1 with hva_ hvn_ hvc_
         rw [hva_] at geb5_1
         rw [hvc_] at ulb5_1
         have HLb5_1 := zk (show Kd.V (Kd.int .u32) 97 _ w.heap.size _ _ ((rd_T113 tb2 x46_2).f1) from Kd.V_mk ulb5_1 geb5_1)
         clear hva_ hvn_ hvc_ geb5_1 ulb5_1
         clear hccb5 hceb5
         have HRb5_1 := zk hib5_1
         have HCb5_1 := zk hlb5_1
         clear hib5_1 hlb5_1
         replace pb5 := eq_true pb5
         replace qb5 := eq_true qb5
         go_wp2_with (first | ((with_reducible refine gate_dst (N := 13) rfl ?_); (try (refine gate_guard (by rfl) ?_; dsimp only)); refine box_event ?hg (N := 13) ?hd (cs := #[.bool false, .slice none 0 0]) (t := 113) ?hr ?_; (case hd => rfl); (case hg => rfl); (case hr => first | (go_simp; done) | (go_simp; rfl)); intro gbb6 hg w37 hbox hb; replace HO_7 := yRb HO_7 hb; replace HO_11 := zk (Kd.N_below (Kd.N_elderB (zN HO_11.out) gbb6 (Nat.le_of_eq hg.symm)) hb); replace HO_44 := zk (Kd.N_below (Kd.N_elderB (zN HO_44.out) gbb6 (Nat.le_of_eq hg.symm)) hb); replace HLb5_1 := yVB HLb5_1 hg hb; (try replace HRb5_1 := yCb HRb5_1 hb); have BKb6 := zk (hbox); have GWb6 := yg hg HB; have GEb6 := yg hg HB; replace HB := yS HB hb; clear hb hbox hg; obtain ⟨hcz38_0, hcz38_1, hfz38_0, hfz38_1⟩ := zz2 BKb6) | ((with_reducible refine gate_store (t := 113) (p := 13) rfl ?_); refine store_event (t := 113) (p := 13) (v := ?vo_w39) (w1 := ((w37.setCell ⟨gbb6, 0, none⟩ (.bool true)).setCell ⟨gbb6, 1, none⟩ (.slice Ab5_1 ((rd_T113 tb2 x46_2).f1).length cb5_1))) ?hg ?ho ?hn ?hr ?_; (case ho => rfl); (case hg => rfl); (case hn => rfl); (case hr => first | (go_simp; done) | (go_simp; rfl)); intro w39 hw; have n0_ : Aside0 (Kd.R (Kd.int .u32) 97 w39 w.heap.size (fun k_ => (w.heap.size ≤ k_)) (.slice Ao10 ta2.length co10) ta2) := ⟨(by rw [hw]; exact (by (with_reducible repeat (first | apply Kd.R_alloc | apply Kd.R_drewN | apply Kd.R_drew)); exact Kd.R_mono (Kd.R_far (p := ⟨gbb6, 1, none⟩) (Kd.R_far (p := ⟨gbb6, 0, none⟩) (Kd.R_types HO_7.out BKb6.out (by decide)) (fun _ hk => hk.2) (.bool true)) (fun _ hk => hk.2) (.slice Ab5_1 ((rd_T113 tb2 x46_2).f1).length cb5_1)) (fun _ hk => hk.1)))⟩; have n1_ : Aside0 (Kd.N (Kd.slice 97 (Kd.int .u32)) 29 w39 w.heap.size (fun k_ => (w.heap.size ≤ k_) ∧ some k_ ≠ (.slice (some adb5) tb2.length co22 : Value).ownBlock ∧ k_ ≠ gbb6) u11 x11_2) := ⟨(by rw [hw]; exact (by (with_reducible repeat (first | apply Kd.N_alloc | apply Kd.N_drewN | apply Kd.N_drew)); exact Kd.N_mono (Kd.N_far (p := ⟨gbb6, 1, none⟩) (Kd.N_far (p := ⟨gbb6, 0, none⟩) (Kd.N_mono HO_11.out (fun k_ hk => (⟨hk, hk.2⟩ : _ ∧ k_ ≠ gbb6))) (fun _ hk => hk.2) (.bool true)) (fun _ hk => hk.2) (.slice Ab5_1 ((rd_T113 tb2 x46_2).f1).length cb5_1)) (fun _ hk => ⟨hk.1.1.1, ⟨hk.1.1.2, hk.1.2⟩⟩)))⟩; have n2_ : Aside0 (Kd.N k113 113 w39 w.heap.size (fun k_ => (w.heap.size ≤ k_) ∧ some k_ ≠ (.slice Ao10 ta2.length co10 : Value).ownBlock ∧ some k_ ≠ (u11 : Value).ownBlock ∧ k_ ≠ gbb6) (.slice (some adb5) tb2.length co22) tb2) := ⟨(by rw [hw]; exact (by (with_reducible repeat (first | apply Kd.N_alloc | apply Kd.N_drewN | apply Kd.N_drew)); exact Kd.N_mono (Kd.N_far (p := ⟨gbb6, 1, none⟩) (Kd.N_far (p := ⟨gbb6, 0, none⟩) (Kd.N_mono HO_44.out (fun k_ hk => (⟨hk, hk.2⟩ : _ ∧ k_ ≠ gbb6))) (fun _ hk => hk.2) (.bool true)) (fun _ hk => hk.2) (.slice Ab5_1 ((rd_T113 tb2 x46_2).f1).length cb5_1)) (fun _ hk => ⟨hk.1.1.1, ⟨hk.1.1.2.1, ⟨hk.1.1.2.2, hk.1.2⟩⟩⟩)))⟩; have n3_ : Aside0 (Kd.V (Kd.int .u32) 97 w39 w.heap.size (fun k_ => (w.heap.size ≤ k_) ∧ some k_ ≠ (.slice Ao10 ta2.length co10 : Value).ownBlock ∧ some k_ ≠ (u11 : Value).ownBlock ∧ some k_ ≠ (.slice (some adb5) tb2.length co22 : Value).ownBlock ∧ k_ ≠ gbb6) (.slice Ab5_1 ((rd_T113 tb2 x46_2).f1).length cb5_1) ((rd_T113 tb2 x46_2).f1)) := ⟨(by rw [hw]; exact (by (with_reducible repeat (first | apply Kd.V_alloc | apply Kd.V_drewN | apply Kd.V_drew)); exact Kd.V_mono (Kd.V_far (p := ⟨gbb6, 1, none⟩) (Kd.V_far (p := ⟨gbb6, 0, none⟩) (Kd.V_mono HLb5_1.out (fun k_ hk => (⟨hk, hk.2⟩ : _ ∧ k_ ≠ gbb6))) (fun _ hk => hk.2) (.bool true)) (fun _ hk => hk.2) (.slice Ab5_1 ((rd_T113 tb2 x46_2).f1).length cb5_1)) (fun _ hk => ⟨hk.1.1.1.1, ⟨hk.1.1.1.2.1, ⟨hk.1.1.1.2.2, ⟨hk.1.1.2, hk.1.2⟩⟩⟩⟩)))⟩; have n4_ : Aside0 (w39.heap[gbb6]? = some (.cells #[.bool true, .slice Ab5_1 ((rd_T113 tb2 x46_2).f1).length cb5_1] 113 (0, 0))) := ⟨(by rw [hw]; exact (zP2 BKb6.out))⟩; have n5_ : Aside0 (Below w.heap.size w w39) := ⟨(by rw [hw]; exact (zB1 HB.out GEb6.out))⟩; clear hw; clear HO_7; clear HO_11; clear HO_44; clear HLb5_1; clear BKb6; clear HB; have HO_7 := n0_; have HO_11 := n1_; have HO_44 := n2_; have HLb5_1 := n3_; have BKb6 := n4_; have HB := n5_; clear n0_ n1_ n2_ n3_ n4_ n5_; obtain ⟨hcz40_0, hcz40_1, hfz40_0, hfz40_1⟩ := zz2 BKb6) | ((with_reducible refine gC 105 ?_); refine zG (some 54) Try.func105 #[.slice Ab5_1 ((rd_T113 tb2 x46_2).f1).length cb5_1, .slice Ao10 ta2.length co10] ?_; (with_reducible refine (nat_DivMod.calls k2 (fun k_ => ((w.heap.size ≤ k_) ∧ (some k_ ≠ (.slice Ao10 ta2.length co10 : Value).ownBlock ∧ (some k_ ≠ (u11 : Value).ownBlock ∧ (some k_ ≠ (.slice (some adb5) tb2.length co22 : Value).ownBlock ∧ k_ ≠ gbb6))))) _ _ ((rd_T113 tb2 x46_2).f1) (fun k_ => some k_ = (.slice Ao10 ta2.length co10 : Value).ownBlock) _ _ ta2 tb7 tc0 tc3 _ ?side1 ?side2 A26.out).mono ?_); (case side1 => exact HLb5_1.out); (case side2 => exact Kd.R_V (Kd.R_tight rfl (Kd.R_types (Kd.R_apart' (Kd.R_apart' (HO_7.out) (Kd.N_typed HO_11.out) (by decide)) (Kd.N_typed HO_44.out) (by decide)) BKb6.out (by decide)))); rintro e w41 ⟨vb8, vc1, rfl, ho0, ho1, hb⟩; refine ⟨_, rfl, ?_⟩; replace HLb5_1 := yVe HLb5_1 ho1 hb; have HOb9 := zk (Kd.V_lower (Kd.V_mono (ok' := fun k_ => (w.heap.size ≤ k_) ∧ some k_ ≠ (vc1 : Value).ownBlock ∧ some k_ ≠ (u11 : Value).ownBlock ∧ some k_ ≠ (.slice (some adb5) tb2.length co22 : Value).ownBlock ∧ k_ ≠ gbb6) ho0 (fun k_ hk_ => ⟨Or.elim hk_.1 (fun hs_ => Or.elim hs_ (fun hs_ => hs_.1) (fun hs_ => ((Kd.R_types (Kd.R_apart' (Kd.R_apart' (HO_7.out) (Kd.N_typed HO_11.out) (by decide)) (Kd.N_typed HO_44.out) (by decide)) BKb6.out (by decide)).1 k_ hs_.symm).1.1.1)) (fun hn_ => (Nat.le_trans (below_size (zB1 HB.out GEb6.out)) hn_)), hk_.2, Or.elim hk_.1 (fun hs_ => Or.elim hs_ (fun hs_ => hs_.2.2.1) (fun hs_ => ((Kd.R_types (Kd.R_apart' (Kd.R_apart' (HO_7.out) (Kd.N_typed HO_11.out) (by decide)) (Kd.N_typed HO_44.out) (by decide)) BKb6.out (by decide)).1 k_ hs_.symm).1.1.2)) (fun hn_ => (Kd.fresh' (Kd.N_lt (zN HO_11.out)) k_ hn_)), Or.elim hk_.1 (fun hs_ => Or.elim hs_ (fun hs_ => hs_.2.2.2.1) (fun hs_ => ((Kd.R_types (Kd.R_apart' (Kd.R_apart' (HO_7.out) (Kd.N_typed HO_11.out) (by decide)) (Kd.N_typed HO_44.out) (by decide)) BKb6.out (by decide)).1 k_ hs_.symm).1.2)) (fun hn_ => (Kd.fresh' (Kd.N_lt (zN HO_44.out)) k_ hn_)), Or.elim hk_.1 (fun hs_ => Or.elim hs_ (fun hs_ => hs_.2.2.2.2) (fun hs_ => ((Kd.R_types (Kd.R_apart' (Kd.R_apart' (HO_7.out) (Kd.N_typed HO_11.out) (by decide)) (Kd.N_typed HO_44.out) (by decide)) BKb6.out (by decide)).1 k_ hs_.symm).2)) (fun hn_ => (Kd.freshB (g := gbb6) (o := .cells #[.bool true, .slice Ab5_1 ((rd_T113 tb2 x46_2).f1).length cb5_1] 113 (0, 0)) (zK BKb6.out) k_ hn_))⟩)) (below_size (zB1 HB.out GEb6.out))); replace HO_11 := yNe HO_11 ho1 hb; replace HO_44 := yNe HO_44 ho1 hb; replace ho1 := Kd.R_newM (M := fun k_ => (w.heap.size ≤ k_)) (yt ho1) (below_size (zB1 HB.out GEb6.out)) (fun k_ h_ => h_); replace ho1 := yn ho1 HO_7; have HOc2 := yRl1 ho1 HB GEb6; replace HO_7 := yRe HO_7 ho1 hb; (try replace HRb5_1 := yCb HRb5_1 hb); replace BKb6 := yK BKb6 hb; replace HB := yS1 HB GEb6 hb; (try clear hb ho0); (try clear ho1); obtain ⟨Ao42, co42, rfl⟩ := Kd.R_slice HOc2.out; obtain ⟨hcz43_0, hcz43_1, hfz43_0, hfz43_1⟩ := zz2 BKb6))
         go_ret2
         exact ⟨_, zE, by first | exact Kd.S_nil _ _ _ _ _ | exact Kd.N_nil _ _ _ _ _ | exact Kd.V_nil _ _ _ _ _ | exact Kd.Q_nil _ _ _ _ _ | exact Kd.R_nil _ _ _ _ _, zB1 HB.out GEb6.out⟩
       have c36b0 : decide (0 < (((rd_T113 tb2 x46_2).f1).length : Int)) = false := decide_eq_false c36
       have c36b1 : decide (0 < ((rd_T113 tb2 x46_2).f1).length) = false := decide_eq_false (by omega)
       clear c36
       replace H := zg H
       obtain ⟨c44, H⟩ := H
       have LMc44 := zk c44
       clear c44
       obtain ⟨yc4, hyc4⟩ : ∃ y_ : List (List Int), y_ = (x11_2 ++ [tb7]) := ⟨_, rfl⟩
       replace H : (mw_Dual.l1 k2 ta2 yc4 tb2 (tb2.length : Int) (wrap64 (x46_2 + 1))) = some (r1, r2) := zY hyc4 H
       have Nyc4 := zk hyc4
       clear hyc4
       have H' := zk H
       clear H
       have pb5 : 0 ≤ (x46_2 : Int) := zd
       have qb5 : x46_2 < (tb2.length : Int) := zd
       obtain ⟨adb5, Ab5_1, cb5_1, eb5, hxb5_0, hxb5_1, hlb5_1, hib5_1⟩ := at_T113 (Kd.N_reads' HO_44.out).2.2 x46_2 pb5 qb5
       (try rw [← Nbq34.out] at hxb5_0)
       cases eb5
       obtain ⟨ceb5, hceb5, hMeb5, hccb5⟩ := Kd.N_get HO_44.out z113 x46_2 pb5 (by first | exact qb5 | exact zd | (have e_ := (Kd.N_reads' HO_44.out).1; omega))
       obtain ⟨uab5_1, ucb5_1, rfl, ulb5_1, geb5_1⟩ := k113_openF hMeb5
       have hvb5_1 := hccb5 1 _ rfl
       rw [add_field _ _ 1 (by omega)] at hvb5_1
       replace hvb5_1 := Option.some.inj (hvb5_1.symm.trans hxb5_1)
       injection hvb5_1 with hva_ hvn_ hvc_
       rw [hva_] at geb5_1
       rw [hvc_] at ulb5_1
       have HLb5_1 := zk (show Kd.V (Kd.int .u32) 97 _ w.heap.size _ _ ((rd_T113 tb2 x46_2).f1) from Kd.V_mk ulb5_1 geb5_1)
       clear hva_ hvn_ hvc_ geb5_1 ulb5_1
       clear hccb5 hceb5
       have HRb5_1 := zk hib5_1
       have HCb5_1 := zk hlb5_1
       clear hib5_1 hlb5_1
       replace pb5 := eq_true pb5
       replace qb5 := eq_true qb5
       go_wp2_with (first | ((with_reducible refine gate_dst (N := 13) rfl ?_); (try (refine gate_guard (by rfl) ?_; dsimp only)); refine box_event ?hg (N := 13) ?hd (cs := #[.bool false, .slice none 0 0]) (t := 113) ?hr ?_; (case hd => rfl); (case hg => rfl); (case hr => first | (go_simp; done) | (go_simp; rfl)); intro gbb6 hg w45 hbox hb; replace HO_7 := yRb HO_7 hb; replace HO_11 := zk (Kd.N_below (Kd.N_elderB (zN HO_11.out) gbb6 (Nat.le_of_eq hg.symm)) hb); replace HO_44 := zk (Kd.N_below (Kd.N_elderB (zN HO_44.out) gbb6 (Nat.le_of_eq hg.symm)) hb); replace HLb5_1 := yVB HLb5_1 hg hb; (try replace HRb5_1 := yCb HRb5_1 hb); have BKb6 := zk (hbox); have GWb6 := yg hg HB; have GEb6 := yg hg HB; replace HB := yS HB hb; clear hb hbox hg; obtain ⟨hcz46_0, hcz46_1, hfz46_0, hfz46_1⟩ := zz2 BKb6) | ((with_reducible refine gate_store (t := 113) (p := 13) rfl ?_); refine store_event (t := 113) (p := 13) (v := ?vo_w47) (w1 := ((w45.setCell ⟨gbb6, 0, none⟩ (.bool true)).setCell ⟨gbb6, 1, none⟩ (.slice Ab5_1 ((rd_T113 tb2 x46_2).f1).length cb5_1))) ?hg ?ho ?hn ?hr ?_; (case ho => rfl); (case hg => rfl); (case hn => rfl); (case hr => first | (go_simp; done) | (go_simp; rfl)); intro w47 hw; have n0_ : Aside0 (Kd.R (Kd.int .u32) 97 w47 w.heap.size (fun k_ => (w.heap.size ≤ k_)) (.slice Ao10 ta2.length co10) ta2) := ⟨(by rw [hw]; exact (by (with_reducible repeat (first | apply Kd.R_alloc | apply Kd.R_drewN | apply Kd.R_drew)); exact Kd.R_mono (Kd.R_far (p := ⟨gbb6, 1, none⟩) (Kd.R_far (p := ⟨gbb6, 0, none⟩) (Kd.R_types HO_7.out BKb6.out (by decide)) (fun _ hk => hk.2) (.bool true)) (fun _ hk => hk.2) (.slice Ab5_1 ((rd_T113 tb2 x46_2).f1).length cb5_1)) (fun _ hk => hk.1)))⟩; have n1_ : Aside0 (Kd.N (Kd.slice 97 (Kd.int .u32)) 29 w47 w.heap.size (fun k_ => (w.heap.size ≤ k_) ∧ some k_ ≠ (.slice (some adb5) tb2.length co22 : Value).ownBlock ∧ k_ ≠ gbb6) u11 x11_2) := ⟨(by rw [hw]; exact (by (with_reducible repeat (first | apply Kd.N_alloc | apply Kd.N_drewN | apply Kd.N_drew)); exact Kd.N_mono (Kd.N_far (p := ⟨gbb6, 1, none⟩) (Kd.N_far (p := ⟨gbb6, 0, none⟩) (Kd.N_mono HO_11.out (fun k_ hk => (⟨hk, hk.2⟩ : _ ∧ k_ ≠ gbb6))) (fun _ hk => hk.2) (.bool true)) (fun _ hk => hk.2) (.slice Ab5_1 ((rd_T113 tb2 x46_2).f1).length cb5_1)) (fun _ hk => ⟨hk.1.1.1, ⟨hk.1.1.2, hk.1.2⟩⟩)))⟩; have n2_ : Aside0 (Kd.N k113 113 w47 w.heap.size (fun k_ => (w.heap.size ≤ k_) ∧ some k_ ≠ (.slice Ao10 ta2.length co10 : Value).ownBlock ∧ some k_ ≠ (u11 : Value).ownBlock ∧ k_ ≠ gbb6) (.slice (some adb5) tb2.length co22) tb2) := ⟨(by rw [hw]; exact (by (with_reducible repeat (first | apply Kd.N_alloc | apply Kd.N_drewN | apply Kd.N_drew)); exact Kd.N_mono (Kd.N_far (p := ⟨gbb6, 1, none⟩) (Kd.N_far (p := ⟨gbb6, 0, none⟩) (Kd.N_mono HO_44.out (fun k_ hk => (⟨hk, hk.2⟩ : _ ∧ k_ ≠ gbb6))) (fun _ hk => hk.2) (.bool true)) (fun _ hk => hk.2) (.slice Ab5_1 ((rd_T113 tb2 x46_2).f1).length cb5_1)) (fun _ hk => ⟨hk.1.1.1, ⟨hk.1.1.2.1, ⟨hk.1.1.2.2, hk.1.2⟩⟩⟩)))⟩; have n3_ : Aside0 (Kd.V (Kd.int .u32) 97 w47 w.heap.size (fun k_ => (w.heap.size ≤ k_) ∧ some k_ ≠ (.slice Ao10 ta2.length co10 : Value).ownBlock ∧ some k_ ≠ (u11 : Value).ownBlock ∧ some k_ ≠ (.slice (some adb5) tb2.length co22 : Value).ownBlock ∧ k_ ≠ gbb6) (.slice Ab5_1 ((rd_T113 tb2 x46_2).f1).length cb5_1) ((rd_T113 tb2 x46_2).f1)) := ⟨(by rw [hw]; exact (by (with_reducible repeat (first | apply Kd.V_alloc | apply Kd.V_drewN | apply Kd.V_drew)); exact Kd.V_mono (Kd.V_far (p := ⟨gbb6, 1, none⟩) (Kd.V_far (p := ⟨gbb6, 0, none⟩) (Kd.V_mono HLb5_1.out (fun k_ hk => (⟨hk, hk.2⟩ : _ ∧ k_ ≠ gbb6))) (fun _ hk => hk.2) (.bool true)) (fun _ hk => hk.2) (.slice Ab5_1 ((rd_T113 tb2 x46_2).f1).length cb5_1)) (fun _ hk => ⟨hk.1.1.1.1, ⟨hk.1.1.1.2.1, ⟨hk.1.1.1.2.2, ⟨hk.1.1.2, hk.1.2⟩⟩⟩⟩)))⟩; have n4_ : Aside0 (w47.heap[gbb6]? = some (.cells #[.bool true, .slice Ab5_1 ((rd_T113 tb2 x46_2).f1).length cb5_1] 113 (0, 0))) := ⟨(by rw [hw]; exact (zP2 BKb6.out))⟩; have n5_ : Aside0 (Below w.heap.size w w47) := ⟨(by rw [hw]; exact (zB1 HB.out GEb6.out))⟩; clear hw; clear HO_7; clear HO_11; clear HO_44; clear HLb5_1; clear BKb6; clear HB; have HO_7 := n0_; have HO_11 := n1_; have HO_44 := n2_; have HLb5_1 := n3_; have BKb6 := n4_; have HB := n5_; clear n0_ n1_ n2_ n3_ n4_ n5_; obtain ⟨hcz48_0, hcz48_1, hfz48_0, hfz48_1⟩ := zz2 BKb6) | ((with_reducible refine gC 105 ?_); refine zG (some 54) Try.func105 #[.slice Ab5_1 ((rd_T113 tb2 x46_2).f1).length cb5_1, .slice Ao10 ta2.length co10] ?_; (with_reducible refine (nat_DivMod.calls k2 (fun k_ => ((w.heap.size ≤ k_) ∧ (some k_ ≠ (.slice Ao10 ta2.length co10 : Value).ownBlock ∧ (some k_ ≠ (u11 : Value).ownBlock ∧ (some k_ ≠ (.slice (some adb5) tb2.length co22 : Value).ownBlock ∧ k_ ≠ gbb6))))) _ _ ((rd_T113 tb2 x46_2).f1) (fun k_ => some k_ = (.slice Ao10 ta2.length co10 : Value).ownBlock) _ _ ta2 tb7 tc0 tc3 _ ?side1 ?side2 A26.out).mono ?_); (case side1 => exact HLb5_1.out); (case side2 => exact Kd.R_V (Kd.R_tight rfl (Kd.R_types (Kd.R_apart' (Kd.R_apart' (HO_7.out) (Kd.N_typed HO_11.out) (by decide)) (Kd.N_typed HO_44.out) (by decide)) BKb6.out (by decide)))); rintro e w49 ⟨vb8, vc1, rfl, ho0, ho1, hb⟩; refine ⟨_, rfl, ?_⟩; replace HLb5_1 := yVe HLb5_1 ho1 hb; have HOb9 := zk (Kd.V_lower (Kd.V_mono (ok' := fun k_ => (w.heap.size ≤ k_) ∧ some k_ ≠ (vc1 : Value).ownBlock ∧ some k_ ≠ (u11 : Value).ownBlock ∧ some k_ ≠ (.slice (some adb5) tb2.length co22 : Value).ownBlock ∧ k_ ≠ gbb6) ho0 (fun k_ hk_ => ⟨Or.elim hk_.1 (fun hs_ => Or.elim hs_ (fun hs_ => hs_.1) (fun hs_ => ((Kd.R_types (Kd.R_apart' (Kd.R_apart' (HO_7.out) (Kd.N_typed HO_11.out) (by decide)) (Kd.N_typed HO_44.out) (by decide)) BKb6.out (by decide)).1 k_ hs_.symm).1.1.1)) (fun hn_ => (Nat.le_trans (below_size (zB1 HB.out GEb6.out)) hn_)), hk_.2, Or.elim hk_.1 (fun hs_ => Or.elim hs_ (fun hs_ => hs_.2.2.1) (fun hs_ => ((Kd.R_types (Kd.R_apart' (Kd.R_apart' (HO_7.out) (Kd.N_typed HO_11.out) (by decide)) (Kd.N_typed HO_44.out) (by decide)) BKb6.out (by decide)).1 k_ hs_.symm).1.1.2)) (fun hn_ => (Kd.fresh' (Kd.N_lt (zN HO_11.out)) k_ hn_)), Or.elim hk_.1 (fun hs_ => Or.elim hs_ (fun hs_ => hs_.2.2.2.1) (fun hs_ => ((Kd.R_types (Kd.R_apart' (Kd.R_apart' (HO_7.out) (Kd.N_typed HO_11.out) (by decide)) (Kd.N_typed HO_44.out) (by decide)) BKb6.out (by decide)).1 k_ hs_.symm).1.2)) (fun hn_ => (Kd.fresh' (Kd.N_lt (zN HO_44.out)) k_ hn_)), Or.elim hk_.1 (fun hs_ => Or.elim hs_ (fun hs_ => hs_.2.2.2.2) (fun hs_ => ((Kd.R_types (Kd.R_apart' (Kd.R_apart' (HO_7.out) (Kd.N_typed HO_11.out) (by decide)) (Kd.N_typed HO_44.out) (by decide)) BKb6.out (by decide)).1 k_ hs_.symm).2)) (fun hn_ => (Kd.freshB (g := gbb6) (o := .cells #[.bool true, .slice Ab5_1 ((rd_T113 tb2 x46_2).f1).length cb5_1] 113 (0, 0)) (zK BKb6.out) k_ hn_))⟩)) (below_size (zB1 HB.out GEb6.out))); replace HO_11 := yNe HO_11 ho1 hb; replace HO_44 := yNe HO_44 ho1 hb; replace ho1 := Kd.R_newM (M := fun k_ => (w.heap.size ≤ k_)) (yt ho1) (below_size (zB1 HB.out GEb6.out)) (fun k_ h_ => h_); replace ho1 := yn ho1 HO_7; have HOc2 := yRl1 ho1 HB GEb6; replace HO_7 := yRe HO_7 ho1 hb; (try replace HRb5_1 := yCb HRb5_1 hb); replace BKb6 := yK BKb6 hb; replace HB := yS1 HB GEb6 hb; (try clear hb ho0); (try clear ho1); obtain ⟨Ao50, co50, rfl⟩ := Kd.R_slice HOc2.out; obtain ⟨hcz51_0, hcz51_1, hfz51_0, hfz51_1⟩ := zz2 BKb6; obtain ⟨Ao53, co53, rfl⟩ := Kd.V_slice HOb9.out) | ((with_reducible refine gate_builtin (b := .append) (xs := #[.tmp 71, .tmp 73]) rfl ?_); (try (refine gate_guard (by rfl) ?_; dsimp only)); at_builtin; refine Kd.N_append (Kd.slice 97 (Kd.int .u32)) (w0 := w) w.heap.size rfl (.tmp 71) (.tmp 73) 33 29 (.slice none 0 0) 24 rfl Try.underlying33 info29 rfl (by decide) (by omega) u11 x11_2 tb7 [.slice Ao53 tb7.length co53] (fun k_ => (w.heap.size ≤ k_) ∧ some k_ ≠ (.slice (some adb5) tb2.length co22 : Value).ownBlock ∧ some k_ ≠ (.slice Ao50 tc0.length co50 : Value).ownBlock ∧ k_ ≠ gbb6) (fun k_ => ((fun k_ => (w.heap.size ≤ k_) ∧ some k_ ≠ (.slice (some adb5) tb2.length co22 : Value).ownBlock ∧ some k_ ≠ (.slice Ao50 tc0.length co50 : Value).ownBlock ∧ k_ ≠ gbb6)) k_ ∧ some k_ ≠ (u11 : Value).ownBlock) rfl rfl ?aP (fun _ hk => hk) ?aF ?aO ?aB ?aS ?aL ?_; (case aP => exact (Kd.FK_slice_mk (Kd.V_reads' (Kd.V_mono (ok' := (fun k_ => ((fun k_ => (w.heap.size ≤ k_) ∧ some k_ ≠ (.slice (some adb5) tb2.length co22 : Value).ownBlock ∧ some k_ ≠ (.slice Ao50 tc0.length co50 : Value).ownBlock ∧ k_ ≠ gbb6)) k_ ∧ some k_ ≠ (u11 : Value).ownBlock)) (HOb9.out) (fun k_ hk => by exact ⟨⟨hk.1, ⟨hk.2.2.2.1, ⟨hk.2.1, hk.2.2.2.2⟩⟩⟩, hk.2.2.1⟩))).2.1 (Kd.V_F (Kd.V_mono (ok' := (fun k_ => ((fun k_ => (w.heap.size ≤ k_) ∧ some k_ ≠ (.slice (some adb5) tb2.length co22 : Value).ownBlock ∧ some k_ ≠ (.slice Ao50 tc0.length co50 : Value).ownBlock ∧ k_ ≠ gbb6)) k_ ∧ some k_ ≠ (u11 : Value).ownBlock)) (HOb9.out) (fun k_ hk => by exact ⟨⟨hk.1, ⟨hk.2.2.2.1, ⟨hk.2.1, hk.2.2.2.2⟩⟩⟩, hk.2.2.1⟩))))); (case aB => exact (zB1 HB.out GEb6.out)); (case aF => exact (fun k_ hk => ⟨(Nat.le_trans (below_size (zB1 HB.out GEb6.out)) hk), Kd.fresh' (Kd.N_lt (zN HO_44.out)) k_ hk, Kd.fresh' (Kd.R_lt (zR HOc2.out)) k_ hk, Kd.freshB (g := gbb6) (o := .cells #[.bool true, .slice Ab5_1 ((rd_T113 tb2 x46_2).f1).length cb5_1] 113 (0, 0)) (zK BKb6.out) k_ hk⟩)); (case aO => exact (by (with_reducible repeat (first | apply Kd.N_alloc | apply Kd.N_drewN | apply Kd.N_drew)); exact Kd.N_mono HO_11.out (fun _ hk => ⟨hk.1.1, ⟨hk.1.2.1, ⟨hk.2, hk.1.2.2⟩⟩⟩))); (case aS => exact (below_size (zB1 HB.out GEb6.out))); (case aL => have := LMc44.out; omega); intro vc5 w52 ho hb hg hat; rw [← Nyc4.out] at ho; replace HO_7 := zk (Kd.R_over' (zR HO_7.out) (Kd.N_typed (zN HO_11.out)) (by decide) hg); replace HO_44 := zk (Kd.N_afterv (ok := (fun k_ => (w.heap.size ≤ k_) ∧ some k_ ≠ (.slice Ao10 ta2.length co10 : Value).ownBlock ∧ some k_ ≠ (.slice Ao50 tc0.length co50 : Value).ownBlock ∧ k_ ≠ gbb6)) (by (with_reducible repeat (first | apply Kd.N_alloc | apply Kd.N_drewN | apply Kd.N_drew)); exact Kd.N_mono HO_44.out (fun _ hk => ⟨⟨hk.1.1, ⟨hk.1.2.1, ⟨hk.2, hk.1.2.2.2⟩⟩⟩, hk.1.2.2.1⟩)) hg hat); replace HLb5_1 := zk (Kd.V_afterv (ok := (fun k_ => (w.heap.size ≤ k_) ∧ some k_ ≠ (.slice Ao10 ta2.length co10 : Value).ownBlock ∧ some k_ ≠ (.slice (some adb5) tb2.length co22 : Value).ownBlock ∧ some k_ ≠ (.slice Ao50 tc0.length co50 : Value).ownBlock ∧ k_ ≠ gbb6)) (by (with_reducible repeat (first | apply Kd.V_alloc | apply Kd.V_drewN | apply Kd.V_drew)); exact Kd.V_mono HLb5_1.out (fun _ hk => ⟨⟨hk.1.1, ⟨hk.1.2.1, ⟨hk.1.2.2.2.1, ⟨hk.2, hk.1.2.2.2.2⟩⟩⟩⟩, hk.1.2.2.1⟩)) hg hat); replace BKb6 := zk (blk_grown (g := gbb6) (o := .cells #[.bool true, .slice Ab5_1 ((rd_T113 tb2 x46_2).f1).length cb5_1] 113 (0, 0)) (zK BKb6.out) hg (Kd.N_ne HO_11.out BKb6.out (by decide))); replace HOb9 := zk (Kd.V_afterv (ok := (fun k_ => (w.heap.size ≤ k_) ∧ some k_ ≠ (.slice (some adb5) tb2.length co22 : Value).ownBlock ∧ some k_ ≠ (.slice Ao50 tc0.length co50 : Value).ownBlock ∧ k_ ≠ gbb6)) (by (with_reducible repeat (first | apply Kd.V_alloc | apply Kd.V_drewN | apply Kd.V_drew)); exact Kd.V_mono HOb9.out (fun _ hk => ⟨⟨hk.1, ⟨hk.2.2.2.1, ⟨hk.2.1, hk.2.2.2.2⟩⟩⟩, hk.2.2.1⟩)) hg hat); replace HOc2 := zk (Kd.R_over' (zR HOc2.out) (Kd.N_typed (zN HO_11.out)) (by decide) hg); replace HB := zk (hb); have HOc6 := zk (ho); clear HO_11; clear ho hb hg hat))
       go_roundg k2
       case measure => have := HK1.out; have := HK2.out; omega
       case rel => exact ⟨(yc4), (wrap64 (x46_2 + 1)), zF, H', ⟨zo2 HK1 HK2⟩, ⟨by (with_reducible repeat (first | apply Kd.R_alloc | apply Kd.R_drewN | apply Kd.R_drew)); exact Kd.R_mono HO_7.out (fun _ hk => hk.1)⟩, ⟨by (with_reducible repeat (first | apply Kd.N_alloc | apply Kd.N_drewN | apply Kd.N_drew)); exact Kd.N_mono HOc6.out (fun _ hk => ⟨hk.1, hk.2.1⟩)⟩, ⟨by (with_reducible repeat (first | apply Kd.N_alloc | apply Kd.N_drewN | apply Kd.N_drew)); exact Kd.N_mono HO_44.out (fun _ hk => ⟨hk.1.1, ⟨hk.1.2.1, hk.2⟩⟩)⟩, ⟨zB1 HB.out GEb6.out⟩⟩
     replace c35 := Bool.eq_false_iff.mpr c35
     subst c35
     rw [if_neg Bool.false_ne_true] at H
     replace H := zg H
     obtain ⟨c54, H⟩ := H
     have LMc54 := zk c54
     clear c54
     obtain ⟨yc7, hyc7⟩ : ∃ y_ : List (List Int), y_ = (x11_2 ++ [tb7]) := ⟨_, rfl⟩
     replace H : (mw_Dual.l1 k2 ta2 yc7 tb2 (tb2.length : Int) (wrap64 (x46_2 + 1))) = some (r1, r2) := zY hyc7 H
     have Nyc7 := zk hyc7
     clear hyc7
     have H' := zk H
     clear H
     have pb5 : 0 ≤ (x46_2 : Int) := zd
     have qb5 : x46_2 < (tb2.length : Int) := zd
     obtain ⟨adb5, Ab5_1, cb5_1, eb5, hxb5_0, hxb5_1, hlb5_1, hib5_1⟩ := at_T113 (Kd.N_reads' HO_44.out).2.2 x46_2 pb5 qb5
     (try rw [← Nbq34.out] at hxb5_0)
     cases eb5
     obtain ⟨ceb5, hceb5, hMeb5, hccb5⟩ := Kd.N_get HO_44.out z113 x46_2 pb5 (by first | exact qb5 | exact zd | (have e_ := (Kd.N_reads' HO_44.out).1; omega))
     obtain ⟨uab5_1, ucb5_1, rfl, ulb5_1, geb5_1⟩ := k113_openF hMeb5
     have hvb5_1 := hccb5 1 _ rfl
     rw [add_field _ _ 1 (by omega)] at hvb5_1
     replace hvb5_1 := Option.some.inj (hvb5_1.symm.trans hxb5_1)
     injection hvb5_1 with hva_ hvn_ hvc_
     rw [hva_] at geb5_1
     rw [hvc_] at ulb5_1
     have HLb5_1 := zk (show Kd.V (Kd.int .u32) 97 _ w.heap.size _ _ ((rd_T113 tb2 x46_2).f1) from Kd.V_mk ulb5_1 geb5_1)
     clear hva_ hvn_ hvc_ geb5_1 ulb5_1
     clear hccb5 hceb5
     have HRb5_1 := zk hib5_1
     have HCb5_1 := zk hlb5_1
     clear hib5_1 hlb5_1
     replace pb5 := eq_true pb5
     replace qb5 := eq_true qb5
     go_wp2_with (first | ((with_reducible refine gate_dst (N := 13) rfl ?_); (try (refine gate_guard (by rfl) ?_; dsimp only)); refine box_event ?hg (N := 13) ?hd (cs := #[.bool false, .slice none 0 0]) (t := 113) ?hr ?_; (case hd => rfl); (case hg => rfl); (case hr => first | (go_simp; done) | (go_simp; rfl)); intro gbb6 hg w55 hbox hb; replace HO_7 := yRb HO_7 hb; replace HO_11 := zk (Kd.N_below (Kd.N_elderB (zN HO_11.out) gbb6 (Nat.le_of_eq hg.symm)) hb); replace HO_44 := zk (Kd.N_below (Kd.N_elderB (zN HO_44.out) gbb6 (Nat.le_of_eq hg.symm)) hb); replace HLb5_1 := yVB HLb5_1 hg hb; (try replace HRb5_1 := yCb HRb5_1 hb); have BKb6 := zk (hbox); have GWb6 := yg hg HB; have GEb6 := yg hg HB; replace HB := yS HB hb; clear hb hbox hg; obtain ⟨hcz56_0, hcz56_1, hfz56_0, hfz56_1⟩ := zz2 BKb6) | ((with_reducible refine gate_store (t := 113) (p := 13) rfl ?_); refine store_event (t := 113) (p := 13) (v := ?vo_w57) (w1 := ((w55.setCell ⟨gbb6, 0, none⟩ (.bool false)).setCell ⟨gbb6, 1, none⟩ (.slice Ab5_1 ((rd_T113 tb2 x46_2).f1).length cb5_1))) ?hg ?ho ?hn ?hr ?_; (case ho => rfl); (case hg => rfl); (case hn => rfl); (case hr => first | (go_simp; done) | (go_simp; rfl)); intro w57 hw; have n0_ : Aside0 (Kd.R (Kd.int .u32) 97 w57 w.heap.size (fun k_ => (w.heap.size ≤ k_)) (.slice Ao10 ta2.length co10) ta2) := ⟨(by rw [hw]; exact (by (with_reducible repeat (first | apply Kd.R_alloc | apply Kd.R_drewN | apply Kd.R_drew)); exact Kd.R_mono (Kd.R_far (p := ⟨gbb6, 1, none⟩) (Kd.R_far (p := ⟨gbb6, 0, none⟩) (Kd.R_types HO_7.out BKb6.out (by decide)) (fun _ hk => hk.2) (.bool false)) (fun _ hk => hk.2) (.slice Ab5_1 ((rd_T113 tb2 x46_2).f1).length cb5_1)) (fun _ hk => hk.1)))⟩; have n1_ : Aside0 (Kd.N (Kd.slice 97 (Kd.int .u32)) 29 w57 w.heap.size (fun k_ => (w.heap.size ≤ k_) ∧ some k_ ≠ (.slice (some adb5) tb2.length co22 : Value).ownBlock ∧ k_ ≠ gbb6) u11 x11_2) := ⟨(by rw [hw]; exact (by (with_reducible repeat (first | apply Kd.N_alloc | apply Kd.N_drewN | apply Kd.N_drew)); exact Kd.N_mono (Kd.N_far (p := ⟨gbb6, 1, none⟩) (Kd.N_far (p := ⟨gbb6, 0, none⟩) (Kd.N_mono HO_11.out (fun k_ hk => (⟨hk, hk.2⟩ : _ ∧ k_ ≠ gbb6))) (fun _ hk => hk.2) (.bool false)) (fun _ hk => hk.2) (.slice Ab5_1 ((rd_T113 tb2 x46_2).f1).length cb5_1)) (fun _ hk => ⟨hk.1.1.1, ⟨hk.1.1.2, hk.1.2⟩⟩)))⟩; have n2_ : Aside0 (Kd.N k113 113 w57 w.heap.size (fun k_ => (w.heap.size ≤ k_) ∧ some k_ ≠ (.slice Ao10 ta2.length co10 : Value).ownBlock ∧ some k_ ≠ (u11 : Value).ownBlock ∧ k_ ≠ gbb6) (.slice (some adb5) tb2.length co22) tb2) := ⟨(by rw [hw]; exact (by (with_reducible repeat (first | apply Kd.N_alloc | apply Kd.N_drewN | apply Kd.N_drew)); exact Kd.N_mono (Kd.N_far (p := ⟨gbb6, 1, none⟩) (Kd.N_far (p := ⟨gbb6, 0, none⟩) (Kd.N_mono HO_44.out (fun k_ hk => (⟨hk, hk.2⟩ : _ ∧ k_ ≠ gbb6))) (fun _ hk => hk.2) (.bool false)) (fun _ hk => hk.2) (.slice Ab5_1 ((rd_T113 tb2 x46_2).f1).length cb5_1)) (fun _ hk => ⟨hk.1.1.1, ⟨hk.1.1.2.1, ⟨hk.1.1.2.2, hk.1.2⟩⟩⟩)))⟩; have n3_ : Aside0 (Kd.V (Kd.int .u32) 97 w57 w.heap.size (fun k_ => (w.heap.size ≤ k_) ∧ some k_ ≠ (.slice Ao10 ta2.length co10 : Value).ownBlock ∧ some k_ ≠ (u11 : Value).ownBlock ∧ some k_ ≠ (.slice (some adb5) tb2.length co22 : Value).ownBlock ∧ k_ ≠ gbb6) (.slice Ab5_1 ((rd_T113 tb2 x46_2).f1).length cb5_1) ((rd_T113 tb2 x46_2).f1)) := ⟨(by rw [hw]; exact (by (with_reducible repeat (first | apply Kd.V_alloc | apply Kd.V_drewN | apply Kd.V_drew)); exact Kd.V_mono (Kd.V_far (p := ⟨gbb6, 1, none⟩) (Kd.V_far (p := ⟨gbb6, 0, none⟩) (Kd.V_mono HLb5_1.out (fun k_ hk => (⟨hk, hk.2⟩ : _ ∧ k_ ≠ gbb6))) (fun _ hk => hk.2) (.bool false)) (fun _ hk => hk.2) (.slice Ab5_1 ((rd_T113 tb2 x46_2).f1).length cb5_1)) (fun _ hk => ⟨hk.1.1.1.1, ⟨hk.1.1.1.2.1, ⟨hk.1.1.1.2.2, ⟨hk.1.1.2, hk.1.2⟩⟩⟩⟩)))⟩; have n4_ : Aside0 (w57.heap[gbb6]? = some (.cells #[.bool false, .slice Ab5_1 ((rd_T113 tb2 x46_2).f1).length cb5_1] 113 (0, 0))) := ⟨(by rw [hw]; exact (zP2 BKb6.out))⟩; have n5_ : Aside0 (Below w.heap.size w w57) := ⟨(by rw [hw]; exact (zB1 HB.out GEb6.out))⟩; clear hw; clear HO_7; clear HO_11; clear HO_44; clear HLb5_1; clear BKb6; clear HB; have HO_7 := n0_; have HO_11 := n1_; have HO_44 := n2_; have HLb5_1 := n3_; have BKb6 := n4_; have HB := n5_; clear n0_ n1_ n2_ n3_ n4_ n5_; obtain ⟨hcz58_0, hcz58_1, hfz58_0, hfz58_1⟩ := zz2 BKb6) | ((with_reducible refine gC 105 ?_); refine zG (some 54) Try.func105 #[.slice Ab5_1 ((rd_T113 tb2 x46_2).f1).length cb5_1, .slice Ao10 ta2.length co10] ?_; (with_reducible refine (nat_DivMod.calls k2 (fun k_ => ((w.heap.size ≤ k_) ∧ (some k_ ≠ (.slice Ao10 ta2.length co10 : Value).ownBlock ∧ (some k_ ≠ (u11 : Value).ownBlock ∧ (some k_ ≠ (.slice (some adb5) tb2.length co22 : Value).ownBlock ∧ k_ ≠ gbb6))))) _ _ ((rd_T113 tb2 x46_2).f1) (fun k_ => some k_ = (.slice Ao10 ta2.length co10 : Value).ownBlock) _ _ ta2 tb7 tc0 tc3 _ ?side1 ?side2 A26.out).mono ?_); (case side1 => exact HLb5_1.out); (case side2 => exact Kd.R_V (Kd.R_tight rfl (Kd.R_types (Kd.R_apart' (Kd.R_apart' (HO_7.out) (Kd.N_typed HO_11.out) (by decide)) (Kd.N_typed HO_44.out) (by decide)) BKb6.out (by decide)))); rintro e w59 ⟨vb8, vc1, rfl, ho0, ho1, hb⟩; refine ⟨_, rfl, ?_⟩; replace HLb5_1 := yVe HLb5_1 ho1 hb; have HOb9 := zk (Kd.V_lower (Kd.V_mono (ok' := fun k_ => (w.heap.size ≤ k_) ∧ some k_ ≠ (vc1 : Value).ownBlock ∧ some k_ ≠ (u11 : Value).ownBlock ∧ some k_ ≠ (.slice (some adb5) tb2.length co22 : Value).ownBlock ∧ k_ ≠ gbb6) ho0 (fun k_ hk_ => ⟨Or.elim hk_.1 (fun hs_ => Or.elim hs_ (fun hs_ => hs_.1) (fun hs_ => ((Kd.R_types (Kd.R_apart' (Kd.R_apart' (HO_7.out) (Kd.N_typed HO_11.out) (by decide)) (Kd.N_typed HO_44.out) (by decide)) BKb6.out (by decide)).1 k_ hs_.symm).1.1.1)) (fun hn_ => (Nat.le_trans (below_size (zB1 HB.out GEb6.out)) hn_)), hk_.2, Or.elim hk_.1 (fun hs_ => Or.elim hs_ (fun hs_ => hs_.2.2.1) (fun hs_ => ((Kd.R_types (Kd.R_apart' (Kd.R_apart' (HO_7.out) (Kd.N_typed HO_11.out) (by decide)) (Kd.N_typed HO_44.out) (by decide)) BKb6.out (by decide)).1 k_ hs_.symm).1.1.2)) (fun hn_ => (Kd.fresh' (Kd.N_lt (zN HO_11.out)) k_ hn_)), Or.elim hk_.1 (fun hs_ => Or.elim hs_ (fun hs_ => hs_.2.2.2.1) (fun hs_ => ((Kd.R_types (Kd.R_apart' (Kd.R_apart' (HO_7.out) (Kd.N_typed HO_11.out) (by decide)) (Kd.N_typed HO_44.out) (by decide)) BKb6.out (by decide)).1 k_ hs_.symm).1.2)) (fun hn_ => (Kd.fresh' (Kd.N_lt (zN HO_44.out)) k_ hn_)), Or.elim hk_.1 (fun hs_ => Or.elim hs_ (fun hs_ => hs_.2.2.2.2) (fun hs_ => ((Kd.R_types (Kd.R_apart' (Kd.R_apart' (HO_7.out) (Kd.N_typed HO_11.out) (by decide)) (Kd.N_typed HO_44.out) (by decide)) BKb6.out (by decide)).1 k_ hs_.symm).2)) (fun hn_ => (Kd.freshB (g := gbb6) (o := .cells #[.bool false, .slice Ab5_1 ((rd_T113 tb2 x46_2).f1).length cb5_1] 113 (0, 0)) (zK BKb6.out) k_ hn_))⟩)) (below_size (zB1 HB.out GEb6.out))); replace HO_11 := yNe HO_11 ho1 hb; replace HO_44 := yNe HO_44 ho1 hb; replace ho1 := Kd.R_newM (M := fun k_ => (w.heap.size ≤ k_)) (yt ho1) (below_size (zB1 HB.out GEb6.out)) (fun k_ h_ => h_); replace ho1 := yn ho1 HO_7; have HOc2 := yRl1 ho1 HB GEb6; replace HO_7 := yRe HO_7 ho1 hb; (try replace HRb5_1 := yCb HRb5_1 hb); replace BKb6 := yK BKb6 hb; replace HB := yS1 HB GEb6 hb; (try clear hb ho0); (try clear ho1); obtain ⟨Ao60, co60, rfl⟩ := Kd.R_slice HOc2.out; obtain ⟨hcz61_0, hcz61_1, hfz61_0, hfz61_1⟩ := zz2 BKb6; obtain ⟨Ao63, co63, rfl⟩ := Kd.V_slice HOb9.out) | ((with_reducible refine gate_builtin (b := .append) (xs := #[.tmp 71, .tmp 73]) rfl ?_); (try (refine gate_guard (by rfl) ?_; dsimp only)); at_builtin; refine Kd.N_append (Kd.slice 97 (Kd.int .u32)) (w0 := w) w.heap.size rfl (.tmp 71) (.tmp 73) 33 29 (.slice none 0 0) 24 rfl Try.underlying33 info29 rfl (by decide) (by omega) u11 x11_2 tb7 [.slice Ao63 tb7.length co63] (fun k_ => (w.heap.size ≤ k_) ∧ some k_ ≠ (.slice (some adb5) tb2.length co22 : Value).ownBlock ∧ some k_ ≠ (.slice Ao60 tc0.length co60 : Value).ownBlock ∧ k_ ≠ gbb6) (fun k_ => ((fun k_ => (w.heap.size ≤ k_) ∧ some k_ ≠ (.slice (some adb5) tb2.length co22 : Value).ownBlock ∧ some k_ ≠ (.slice Ao60 tc0.length co60 : Value).ownBlock ∧ k_ ≠ gbb6)) k_ ∧ some k_ ≠ (u11 : Value).ownBlock) rfl rfl ?aP (fun _ hk => hk) ?aF ?aO ?aB ?aS ?aL ?_; (case aP => exact (Kd.FK_slice_mk (Kd.V_reads' (Kd.V_mono (ok' := (fun k_ => ((fun k_ => (w.heap.size ≤ k_) ∧ some k_ ≠ (.slice (some adb5) tb2.length co22 : Value).ownBlock ∧ some k_ ≠ (.slice Ao60 tc0.length co60 : Value).ownBlock ∧ k_ ≠ gbb6)) k_ ∧ some k_ ≠ (u11 : Value).ownBlock)) (HOb9.out) (fun k_ hk => by exact ⟨⟨hk.1, ⟨hk.2.2.2.1, ⟨hk.2.1, hk.2.2.2.2⟩⟩⟩, hk.2.2.1⟩))).2.1 (Kd.V_F (Kd.V_mono (ok' := (fun k_ => ((fun k_ => (w.heap.size ≤ k_) ∧ some k_ ≠ (.slice (some adb5) tb2.length co22 : Value).ownBlock ∧ some k_ ≠ (.slice Ao60 tc0.length co60 : Value).ownBlock ∧ k_ ≠ gbb6)) k_ ∧ some k_ ≠ (u11 : Value).ownBlock)) (HOb9.out) (fun k_ hk => by exact ⟨⟨hk.1, ⟨hk.2.2.2.1, ⟨hk.2.1, hk.2.2.2.2⟩⟩⟩, hk.2.2.1⟩))))); (case aB => exact (zB1 HB.out GEb6.out)); (case aF => exact (fun k_ hk => ⟨(Nat.le_trans (below_size (zB1 HB.out GEb6.out)) hk), Kd.fresh' (Kd.N_lt (zN HO_44.out)) k_ hk, Kd.fresh' (Kd.R_lt (zR HOc2.out)) k_ hk, Kd.freshB (g := gbb6) (o := .cells #[.bool false, .slice Ab5_1 ((rd_T113 tb2 x46_2).f1).length cb5_1] 113 (0, 0)) (zK BKb6.out) k_ hk⟩)); (case aO => exact (by (with_reducible repeat (first | apply Kd.N_alloc | apply Kd.N_drewN | apply Kd.N_drew)); exact Kd.N_mono HO_11.out (fun _ hk => ⟨hk.1.1, ⟨hk.1.2.1, ⟨hk.2, hk.1.2.2⟩⟩⟩))); (case aS => exact (below_size (zB1 HB.out GEb6.out))); (case aL => have := LMc54.out; omega); intro vc8 w62 ho hb hg hat; rw [← Nyc7.out] at ho; replace HO_7 := zk (Kd.R_over' (zR HO_7.out) (Kd.N_typed (zN HO_11.out)) (by decide) hg); replace HO_44 := zk (Kd.N_afterv (ok := (fun k_ => (w.heap.size ≤ k_) ∧ some k_ ≠ (.slice Ao10 ta2.length co10 : Value).ownBlock ∧ some k_ ≠ (.slice Ao60 tc0.length co60 : Value).ownBlock ∧ k_ ≠ gbb6)) (by (with_reducible repeat (first | apply Kd.N_alloc | apply Kd.N_drewN | apply Kd.N_drew)); exact Kd.N_mono HO_44.out (fun _ hk => ⟨⟨hk.1.1, ⟨hk.1.2.1, ⟨hk.2, hk.1.2.2.2⟩⟩⟩, hk.1.2.2.1⟩)) hg hat); replace HLb5_1 := zk (Kd.V_afterv (ok := (fun k_ => (w.heap.size ≤ k_) ∧ some k_ ≠ (.slice Ao10 ta2.length co10 : Value).ownBlock ∧ some k_ ≠ (.slice (some adb5) tb2.length co22 : Value).ownBlock ∧ some k_ ≠ (.slice Ao60 tc0.length co60 : Value).ownBlock ∧ k_ ≠ gbb6)) (by (with_reducible repeat (first | apply Kd.V_alloc | apply Kd.V_drewN | apply Kd.V_drew)); exact Kd.V_mono HLb5_1.out (fun _ hk => ⟨⟨hk.1.1, ⟨hk.1.2.1, ⟨hk.1.2.2.2.1, ⟨hk.2, hk.1.2.2.2.2⟩⟩⟩⟩, hk.1.2.2.1⟩)) hg hat); replace BKb6 := zk (blk_grown (g := gbb6) (o := .cells #[.bool false, .slice Ab5_1 ((rd_T113 tb2 x46_2).f1).length cb5_1] 113 (0, 0)) (zK BKb6.out) hg (Kd.N_ne HO_11.out BKb6.out (by decide))); replace HOb9 := zk (Kd.V_afterv (ok := (fun k_ => (w.heap.size ≤ k_) ∧ some k_ ≠ (.slice (some adb5) tb2.length co22 : Value).ownBlock ∧ some k_ ≠ (.slice Ao60 tc0.length co60 : Value).ownBlock ∧ k_ ≠ gbb6)) (by (with_reducible repeat (first | apply Kd.V_alloc | apply Kd.V_drewN | apply Kd.V_drew)); exact Kd.V_mono HOb9.out (fun _ hk => ⟨⟨hk.1, ⟨hk.2.2.2.1, ⟨hk.2.1, hk.2.2.2.2⟩⟩⟩, hk.2.2.1⟩)) hg hat); replace HOc2 := zk (Kd.R_over' (zR HOc2.out) (Kd.N_typed (zN HO_11.out)) (by decide) hg); replace HB := zk (hb); have HOc9 := zk (ho); clear HO_11; clear ho hb hg hat))
     go_roundg k2
     case measure => have := HK1.out; have := HK2.out; omega
     case rel => exact ⟨(yc7), (wrap64 (x46_2 + 1)), zF, H', ⟨zo2 HK1 HK2⟩, ⟨by (with_reducible repeat (first | apply Kd.R_alloc | apply Kd.R_drewN | apply Kd.R_drew)); exact Kd.R_mono HO_7.out (fun _ hk => hk.1)⟩, ⟨by (with_reducible repeat (first | apply Kd.N_alloc | apply Kd.N_drewN | apply Kd.N_drew)); exact Kd.N_mono HOc9.out (fun _ hk => ⟨hk.1, hk.2.1⟩)⟩, ⟨by (with_reducible repeat (first | apply Kd.N_alloc | apply Kd.N_drewN | apply Kd.N_drew)); exact Kd.N_mono HO_44.out (fun _ hk => ⟨hk.1.1, ⟨hk.1.2.1, hk.2⟩⟩)⟩, ⟨zB1 HB.out GEb6.out⟩⟩
   simp only [Option.some.injEq, Prod.mk.injEq] at H
   obtain ⟨rfl, rfl⟩ := H
   go_wp2
   go_ret2
   exact ⟨_, zE, by (with_reducible repeat (first | apply Kd.N_alloc | apply Kd.N_drewN | apply Kd.N_drew)); exact Kd.N_mono HO_11.out (fun _ hk => hk.1), zB HB.out⟩
 have c4b0 := beq_eq_false_iff_ne.mpr c4
 have c4b1 := bne_iff_ne.mpr c4
 simp only [Option.some.injEq, Prod.mk.injEq] at H
 obtain ⟨rfl, rfl⟩ := H
 go_enter Try.func57, Try.ntmps57
 go_wp2_with (first | ((with_reducible refine gC 102 ?_); refine zG (some 20) Try.func102 #[.int .i64 a0, .int .i64 (l1.length : Int)] ?_; (with_reducible refine (mw_wrong.calls a0 (l1.length : Int) ta1 _ A3.out).mono ?_); rintro e w' ⟨rfl, ⟨nd, rfl⟩⟩; refine ⟨_, rfl, ?_⟩))
 go_ret2
 exact ⟨_, zE, by first | exact Kd.S_nil _ _ _ _ _ | exact Kd.N_nil _ _ _ _ _ | exact Kd.V_nil _ _ _ _ _ | exact Kd.Q_nil _ _ _ _ _ | exact Kd.R_nil _ _ _ _ _, zB HB.out⟩
set_option maxHeartbeats 8000000 in
set_option maxRecDepth 100000 in
theorem r1_Same.calls (k : Nat) (A0 : Option Addr) (c0 : Nat) (l0 : List Int) (A1 : Option Addr) (c1 : Nat) (l1 : List Int) (r : Bool) (w : World) (hr0 : Kd.C (Kd.int .u32) w A0 l0.length l0) (hc0 : l0.length ≤ c0) (hr1 : Kd.C (Kd.int .u32) w A1 l1.length l1) (hc1 : l1.length ≤ c1) (h : r1_Same.f k l0 l1 = some r) :
    Calls Try.prog 25 #[.slice A0 l0.length c0, .slice A1 l1.length c1] w fun e w' => e = .returned (.bool r) ∧ Drawn0 w w' := by
 have HR0 := zk hr0
 have HC0 := zk hc0
 clear hr0 hc0
 have HR1 := zk hr1
 have HC1 := zk hc1
 clear hr1 hc1
 have H := h
 clear h
 unfold r1_Same.f at H
 replace H := zi H
 rcases H with ⟨c3, H⟩ | ⟨c3, H⟩
 · have c3b0 := beq_iff_eq.mpr c3
   have c3b1 := bne_eq_false_iff_eq.mpr c3
   have c3b2 : (l0.length == l1.length) = true := by first | simpa using c3 | (simp at c3 ⊢; omega)
   clear c3
   have H' := zk H
   clear H
   go_enter Try.func25, Try.ntmps25
   go_wp2
   repeat (go_quiet (fail); try go_wp2)
   go_loopg [5] k (fun kq v5 w' => ∃ (x5_1 : Int), v5 = .int .i64 x5_1 ∧ Aside0 (r1_Same.l0 kq l0 l1 x5_1 = some r) ∧ Aside0 (kq ≤ k) ∧ Drawn0 w w')
   case atStart => exact ⟨(0), zF, H', ⟨Nat.le_refl _⟩, by repeat (first | exact Drawn0.refl _ | apply Drawn0.step)⟩
   clear H'
   (try clear c3);(try clear c3b0);(try clear c3b1);(try clear c3b2)
   obtain ⟨x5_1, rfl, HA, HK1, ⟨m1, rfl⟩⟩ := hrel
   cases gk with | zero => exact absurd HA.out (by simp [r1_Same.l0]) | succ k1 => ?_
   have H := HA.out
   clear HA
   simp only [r1_Same.l0] at H
   replace H := zid H
   rcases H with ⟨c4b0, H⟩ | ⟨c4b0, H⟩
   · replace H := zgd H
     obtain ⟨c5b0, H⟩ := H
     replace H := zgd H
     obtain ⟨c6b0, H⟩ := H
     replace H := zi H
     rcases H with ⟨c7, H⟩ | ⟨c7, H⟩
     · have c7b0 := beq_iff_eq.mpr c7
       have c7b1 := bne_eq_false_iff_eq.mpr c7
       clear c7
       have H' := zk H
       clear H
       have pa1 : 0 ≤ (x5_1 : Int) := zd
       have qa1 : x5_1 < (l0.length : Int) := zd
       obtain ⟨ada1, ea1, hxa1_0⟩ := Kd.at_int HR0.out x5_1 pa1 qa1
       cases ea1
       replace pa1 := eq_true pa1
       replace qa1 := eq_true qa1
       have pa2 : 0 ≤ (x5_1 : Int) := zd
       have qa2 : x5_1 < (l1.length : Int) := zd
       obtain ⟨ada2, ea2, hxa2_0⟩ := Kd.at_int HR1.out x5_1 pa2 qa2
       cases ea2
       replace pa2 := eq_true pa2
       replace qa2 := eq_true qa2
       go_wp2
       repeat (go_quiet (fail); try go_wp2)
       go_roundg k1
       case measure => have := HK1.out; omega
       case rel => exact ⟨(wrap64 (x5_1 + 1)), zF, H', ⟨zo1 HK1⟩, by repeat (first | exact Drawn0.refl _ | apply Drawn0.step)⟩
     have c7b0 := beq_eq_false_iff_ne.mpr c7
     have c7b1 := bne_iff_ne.mpr c7
     obtain rfl := Option.some.inj H
     have pa1 : 0 ≤ (x5_1 : Int) := zd
     have qa1 : x5_1 < (l0.length : Int) := zd
     obtain ⟨ada1, ea1, hxa1_0⟩ := Kd.at_int HR0.out x5_1 pa1 qa1
     cases ea1
     replace pa1 := eq_true pa1
     replace qa1 := eq_true qa1
     have pa2 : 0 ≤ (x5_1 : Int) := zd
     have qa2 : x5_1 < (l1.length : Int) := zd
     obtain ⟨ada2, ea2, hxa2_0⟩ := Kd.at_int HR1.out x5_1 pa2 qa2
     cases ea2
     replace pa2 := eq_true pa2
     replace qa2 := eq_true qa2
     go_wp2
     repeat (go_quiet (fail); try go_wp2)
     go_ret
     exact ⟨zF, by repeat (first | exact Drawn0.refl _ | apply Drawn0.step)⟩
   obtain rfl := Option.some.inj H
   go_wp2
   repeat (go_quiet (fail); try go_wp2)
   go_ret
   exact ⟨zF, by repeat (first | exact Drawn0.refl _ | apply Drawn0.step)⟩
 have c3b0 := beq_eq_false_iff_ne.mpr c3
 have c3b1 := bne_iff_ne.mpr c3
 have c3b2 : (l0.length == l1.length) = false := by first | simpa using c3 | (simp at c3 ⊢; omega)
 obtain rfl := Option.some.inj H
 go_enter Try.func25, Try.ntmps25
 go_wp2
 repeat (go_quiet (fail); try go_wp2)
 go_ret
 exact ⟨zF, by repeat (first | exact Drawn0.refl _ | apply Drawn0.step)⟩
set_option maxHeartbeats 8000000 in
set_option maxRecDepth 100000 in
theorem r24_SameList.calls (k : Nat) (A0 : Option Addr) (c0 : Nat) (l0 : List (List Int)) (A1 : Option Addr) (c1 : Nat) (l1 : List (List Int)) (r : Bool) (w : World) (hr0 : Kd.C (Kd.slice 97 (Kd.int .u32)) w A0 l0.length l0) (hc0 : l0.length ≤ c0) (hr1 : Kd.C (Kd.slice 97 (Kd.int .u32)) w A1 l1.length l1) (hc1 : l1.length ≤ c1) (h : r24_SameList.f k l0 l1 = some r) :
    Calls Try.prog 58 #[.slice A0 l0.length c0, .slice A1 l1.length c1] w fun e w' => e = .returned (.bool r) ∧ Drawn0 w w' := by
 have HR0 := zk hr0
 have HC0 := zk hc0
 clear hr0 hc0
 have HR1 := zk hr1
 have HC1 := zk hc1
 clear hr1 hc1
 have H := h
 clear h
 unfold r24_SameList.f at H
 replace H := zi H
 rcases H with ⟨c3, H⟩ | ⟨c3, H⟩
 · have c3b0 := beq_iff_eq.mpr c3
   have c3b1 := bne_eq_false_iff_eq.mpr c3
   have c3b2 : (l0.length == l1.length) = true := by first | simpa using c3 | (simp at c3 ⊢; omega)
   clear c3
   have H' := zk H
   clear H
   go_enter Try.func58, Try.ntmps58
   go_wp2
   repeat (go_quiet (fail); try go_wp2)
   go_loopg [5] k (fun kq v5 w' => ∃ (x5_1 : Int), v5 = .int .i64 x5_1 ∧ Aside0 (r24_SameList.l0 kq l0 l1 x5_1 = some r) ∧ Aside0 (kq ≤ k) ∧ Drawn0 w w')
   case atStart => exact ⟨(0), zF, H', ⟨Nat.le_refl _⟩, by repeat (first | exact Drawn0.refl _ | apply Drawn0.step)⟩
   clear H'
   (try clear c3);(try clear c3b0);(try clear c3b1);(try clear c3b2)
   obtain ⟨x5_1, rfl, HA, HK1, ⟨m1, rfl⟩⟩ := hrel
   cases gk with | zero => exact absurd HA.out (by simp [r24_SameList.l0]) | succ k1 => ?_
   have H := HA.out
   clear HA
   simp only [r24_SameList.l0] at H
   replace H := zid H
   rcases H with ⟨c4b0, H⟩ | ⟨c4b0, H⟩
   · replace H := zgd H
     obtain ⟨c5b0, H⟩ := H
     replace H := zgd H
     obtain ⟨c6b0, H⟩ := H
     replace H := zb H
     obtain ⟨ta3, A7, H⟩ := H
     by_cases c8 : ta3 = true
     · subst c8
       rw [if_pos rfl] at H
       have H' := zk H
       clear H
       have pa1 : 0 ≤ (x5_1 : Int) := zd
       have qa1 : x5_1 < (l0.length : Int) := zd
       obtain ⟨ada1, Aa1_0, ca1_0, ea1, hxa1_0, hla1_0, hia1_0⟩ := at_L3 HR0.out x5_1 pa1 qa1
       cases ea1
       have HRa1_0 := zk hia1_0
       have HCa1_0 := zk hla1_0
       clear hia1_0 hla1_0
       replace pa1 := eq_true pa1
       replace qa1 := eq_true qa1
       have pa2 : 0 ≤ (x5_1 : Int) := zd
       have qa2 : x5_1 < (l1.length : Int) := zd
       obtain ⟨ada2, Aa2_0, ca2_0, ea2, hxa2_0, hla2_0, hia2_0⟩ := at_L3 HR1.out x5_1 pa2 qa2
       cases ea2
       have HRa2_0 := zk hia2_0
       have HCa2_0 := zk hla2_0
       clear hia2_0 hla2_0
       replace pa2 := eq_true pa2
       replace qa2 := eq_true qa2
       go_wp2_with (first | (go_at_call 25; (with_reducible refine (r1_Same.calls k1 _ _ (rd_L3 l0 x5_1) _ _ (rd_L3 l1 x5_1) true _ ?side1 ?side2 ?side3 ?side4 A7.out).mono ?_); (case side1 => exact zC HRa1_0.out); (case side2 => exact HCa1_0.out); (case side3 => exact zC HRa2_0.out); (case side4 => exact HCa2_0.out); rintro e w' ⟨rfl, ⟨nd, rfl⟩⟩; (try first | exact ⟨rfl, _, World.drewN_drewN _ _ _⟩ | exact ⟨rfl, _, Eq.trans (World.drewN_drewN _ _ _) (congrArg (World.drewN _) (Nat.add_assoc _ _ _))⟩)))
       repeat (go_quiet (first | (go_at_call 25; (with_reducible refine (r1_Same.calls k1 _ _ (rd_L3 l0 x5_1) _ _ (rd_L3 l1 x5_1) true _ ?side1 ?side2 ?side3 ?side4 A7.out).mono ?_); (case side1 => exact zC HRa1_0.out); (case side2 => exact HCa1_0.out); (case side3 => exact zC HRa2_0.out); (case side4 => exact HCa2_0.out); rintro e w' ⟨rfl, ⟨nd, rfl⟩⟩; (try first | exact ⟨rfl, _, World.drewN_drewN _ _ _⟩ | exact ⟨rfl, _, Eq.trans (World.drewN_drewN _ _ _) (congrArg (World.drewN _) (Nat.add_assoc _ _ _))⟩))); try go_wp2_with (first | (go_at_call 25; (with_reducible refine (r1_Same.calls k1 _ _ (rd_L3 l0 x5_1) _ _ (rd_L3 l1 x5_1) true _ ?side1 ?side2 ?side3 ?side4 A7.out).mono ?_); (case side1 => exact zC HRa1_0.out); (case side2 => exact HCa1_0.out); (case side3 => exact zC HRa2_0.out); (case side4 => exact HCa2_0.out); rintro e w' ⟨rfl, ⟨nd, rfl⟩⟩; (try first | exact ⟨rfl, _, World.drewN_drewN _ _ _⟩ | exact ⟨rfl, _, Eq.trans (World.drewN_drewN _ _ _) (congrArg (World.drewN _) (Nat.add_assoc _ _ _))⟩))))
       go_roundg k1
       case measure => have := HK1.out; omega
       case rel => exact ⟨(wrap64 (x5_1 + 1)), zF, H', ⟨zo1 HK1⟩, by repeat (first | exact Drawn0.refl _ | apply Drawn0.step)⟩
     replace c8 := Bool.eq_false_iff.mpr c8
     subst c8
     rw [if_neg Bool.false_ne_true] at H
     obtain rfl := Option.some.inj H
     have pa1 : 0 ≤ (x5_1 : Int) := zd
     have qa1 : x5_1 < (l0.length : Int) := zd
     obtain ⟨ada1, Aa1_0, ca1_0, ea1, hxa1_0, hla1_0, hia1_0⟩ := at_L3 HR0.out x5_1 pa1 qa1
     cases ea1
     have HRa1_0 := zk hia1_0
     have HCa1_0 := zk hla1_0
     clear hia1_0 hla1_0
     replace pa1 := eq_true pa1
     replace qa1 := eq_true qa1
     have pa2 : 0 ≤ (x5_1 : Int) := zd
     have qa2 : x5_1 < (l1.length : Int) := zd
     obtain ⟨ada2, Aa2_0, ca2_0, ea2, hxa2_0, hla2_0, hia2_0⟩ := at_L3 HR1.out x5_1 pa2 qa2
     cases ea2
     have HRa2_0 := zk hia2_0
     have HCa2_0 := zk hla2_0
     clear hia2_0 hla2_0
     replace pa2 := eq_true pa2
     replace qa2 := eq_true qa2
     go_wp2_with (first | (go_at_call 25; (with_reducible refine (r1_Same.calls k1 _ _ (rd_L3 l0 x5_1) _ _ (rd_L3 l1 x5_1) false _ ?side1 ?side2 ?side3 ?side4 A7.out).mono ?_); (case side1 => exact zC HRa1_0.out); (case side2 => exact HCa1_0.out); (case side3 => exact zC HRa2_0.out); (case side4 => exact HCa2_0.out); rintro e w' ⟨rfl, ⟨nd, rfl⟩⟩; (try first | exact ⟨rfl, _, World.drewN_drewN _ _ _⟩ | exact ⟨rfl, _, Eq.trans (World.drewN_drewN _ _ _) (congrArg (World.drewN _) (Nat.add_assoc _ _ _))⟩)))
     repeat (go_quiet (first | (go_at_call 25; (with_reducible refine (r1_Same.calls k1 _ _ (rd_L3 l0 x5_1) _ _ (rd_L3 l1 x5_1) false _ ?side1 ?side2 ?side3 ?side4 A7.out).mono ?_); (case side1 => exact zC HRa1_0.out); (case side2 => exact HCa1_0.out); (case side3 => exact zC HRa2_0.out); (case side4 => exact HCa2_0.out); rintro e w' ⟨rfl, ⟨nd, rfl⟩⟩; (try first | exact ⟨rfl, _, World.drewN_drewN _ _ _⟩ | exact ⟨rfl, _, Eq.trans (World.drewN_drewN _ _ _) (congrArg (World.drewN _) (Nat.add_assoc _ _ _))⟩))); try go_wp2_with (first | (go_at_call 25; (with_reducible refine (r1_Same.calls k1 _ _ (rd_L3 l0 x5_1) _ _ (rd_L3 l1 x5_1) false _ ?side1 ?side2 ?side3 ?side4 A7.out).mono ?_); (case side1 => exact zC HRa1_0.out); (case side2 => exact HCa1_0.out); (case side3 => exact zC HRa2_0.out); (case side4 => exact HCa2_0.out); rintro e w' ⟨rfl, ⟨nd, rfl⟩⟩; (try first | exact ⟨rfl, _, World.drewN_drewN _ _ _⟩ | exact ⟨rfl, _, Eq.trans (World.drewN_drewN _ _ _) (congrArg (World.drewN _) (Nat.add_assoc _ _ _))⟩))))
     go_ret
     exact ⟨zF, by repeat (first | exact Drawn0.refl _ | apply Drawn0.step)⟩
   obtain rfl := Option.some.inj H
   go_wp2
   repeat (go_quiet (fail); try go_wp2)
   go_ret
   exact ⟨zF, by repeat (first | exact Drawn0.refl _ | apply Drawn0.step)⟩
 have c3b0 := beq_eq_false_iff_ne.mpr c3
 have c3b1 := bne_iff_ne.mpr c3
 have c3b2 : (l0.length == l1.length) = false := by first | simpa using c3 | (simp at c3 ⊢; omega)
 obtain rfl := Option.some.inj H
 go_enter Try.func58, Try.ntmps58
 go_wp2
 repeat (go_quiet (fail); try go_wp2)
 go_ret
 exact ⟨zF, by repeat (first | exact Drawn0.refl _ | apply Drawn0.step)⟩
set_option maxHeartbeats 8000000 in
set_option maxRecDepth 100000 in
theorem w24_MacwilliamsIdentity.calls (k : Nat) (a0_0 : Int) (a0_1 : Int) (A0_2 : Option Addr) (c0_2 : Nat) (l0_2 : List Int) (a1 : Int) (A2 : Option Addr) (c2 : Nat) (l2 : List (List Int)) (r : Bool) (w : World) (hr0_2 : Kd.C (Kd.int .i64) w A0_2 l0_2.length l0_2) (hc0_2 : l0_2.length ≤ c0_2) (hr2 : Kd.C (Kd.slice 3 (Kd.int .i64)) w A2 l2.length l2) (hc2 : l2.length ≤ c2) (h : w24_MacwilliamsIdentity.f k a0_0 a0_1 l0_2 a1 l2 = some r) :
    Calls Try.prog 14 #[.agg #[.int .i64 a0_0, .int .i64 a0_1, .slice A0_2 l0_2.length c0_2], .int .u8 a1, .slice A2 l2.length c2] w fun e w' => e = .returned (.bool r) ∧ Below w.heap.size w w' := by
 have hu24 := Try.underlying24
 have HR0_2 := zk hr0_2
 have HC0_2 := zk hc0_2
 clear hr0_2 hc0_2
 have HR2 := zk hr2
 have HC2 := zk hc2
 clear hr2 hc2
 have HB := zk (Below.refl w.heap.size w)
 have H := h
 clear h
 unfold w24_MacwilliamsIdentity.f at H
 replace H := zb H
 obtain ⟨⟨ta2, ta3, ta6, ta9, tb2⟩, A4, H⟩ := H
 dsimp only at H
 by_cases c5 : tb2 = true
 · subst c5
   rw [if_pos rfl] at H
   replace H := zb H
   obtain ⟨tb3, A6, H⟩ := H
   replace H := zb H
   obtain ⟨tb4, A7, H⟩ := H
   replace H := zb H
   obtain ⟨⟨tb7, tc0⟩, A8, H⟩ := H
   dsimp only at H
   replace H := zi H
   rcases H with ⟨c9, H⟩ | ⟨c9, H⟩
   · have c9b0 := beq_iff_eq.mpr c9
     have c9b1 := bne_eq_false_iff_eq.mpr c9
     clear c9
     replace H := zb H
     obtain ⟨tc1, A10, H⟩ := H
     replace H := zb H
     obtain ⟨tc4, A11, H⟩ := H
     obtain rfl := Option.some.inj H
     go_enter Try.func14, Try.ntmps14
     go_wp2_with (first | ((with_reducible refine gate_dst (N := 3) rfl ?_); refine box_event ?hg (N := 3) ?hd (cs := #[.int .i64 a0_0, .int .i64 a0_1, .slice A0_2 l0_2.length c0_2]) (t := 24) ?hr ?_; (case hd => rfl); (case hg => rfl); (case hr => first | (go_simp; done) | (go_simp; rfl)); intro gba1 hg w12 hbox hb; have BKa1 := zk (hbox); have GWa1 := yg hg HB; have GEa1 := yg hg HB; replace HB := yS HB hb; clear hb hbox hg; obtain ⟨hcz13_0, hcz13_1, hcz13_2, hfz13_0, hfz13_1, hfz13_2⟩ := zz3 BKa1) | ((with_reducible refine gC 19 ?_); refine zG (some 18) Try.func19 #[.agg #[.int .i64 a0_0, .int .i64 a0_1, .slice A0_2 l0_2.length c0_2], .int .u8 a1, .slice A2 l2.length c2] ?_; (with_reducible refine (w24_codes.calls k a0_0 a0_1 _ _ l0_2 a1 _ _ l2 ta2 ta3 ta6 ta9 true _ ?side1 ?side2 ?side3 ?side4 A4.out).mono ?_); (case side1 => exact zC (Kd.C_below HR0_2.out HB.out)); (case side2 => exact HC0_2.out); (case side3 => exact zC (Kd.C_below HR2.out HB.out)); (case side4 => exact HC2.out); rintro e w14 ⟨va4, va7, vb0, rfl, ho0, ho1, ho2, hb⟩; refine ⟨_, rfl, ?_⟩; have HOa5 := zk (Kd.N_lower (Kd.N_mono (ok' := fun k_ => some k_ ≠ (va7 : Value).ownBlock ∧ k_ ≠ gba1) ho0 (fun k_ hk_ => ⟨hk_.2, (Kd.freshB (g := gba1) (o := .cells #[.int .i64 a0_0, .int .i64 a0_1, .slice A0_2 l0_2.length c0_2] 24 (0, 0)) (zK BKa1.out) k_ hk_.1)⟩)) (below_size (zB1 HB.out GEa1.out))); have HOa8 := zk (Kd.N_lower (Kd.N_mono (ok' := fun k_ => some k_ ≠ (va4 : Value).ownBlock ∧ k_ ≠ gba1) ho1 (fun k_ hk_ => ⟨hk_.2, (Kd.freshB (g := gba1) (o := .cells #[.int .i64 a0_0, .int .i64 a0_1, .slice A0_2 l0_2.length c0_2] 24 (0, 0)) (zK BKa1.out) k_ hk_.1)⟩)) (below_size (zB1 HB.out GEa1.out))); have HOb1 := zk (Kd.V_lower (Kd.V_mono (ok' := fun k_ => some k_ ≠ (va4 : Value).ownBlock ∧ some k_ ≠ (va7 : Value).ownBlock ∧ k_ ≠ gba1) ho2 (fun k_ hk_ => ⟨hk_.2.1, hk_.2.2, (Kd.freshB (g := gba1) (o := .cells #[.int .i64 a0_0, .int .i64 a0_1, .slice A0_2 l0_2.length c0_2] 24 (0, 0)) (zK BKa1.out) k_ hk_.1)⟩)) (below_size (zB1 HB.out GEa1.out))); replace BKa1 := yK BKa1 hb; replace HB := yS1 HB GEa1 hb; (try clear hb ho0); (try clear ho1); (try clear ho2); obtain ⟨hcz15_0, hcz15_1, hcz15_2, hfz15_0, hfz15_1, hfz15_2⟩ := zz3 BKa1) | ((with_reducible refine gC 24 ?_); refine zG (some 28) Try.func24 #[.agg #[.int .i64 a0_0, .int .i64 a0_1, .slice A0_2 l0_2.length c0_2]] ?_; (with_reducible refine (r4_Order.calls k a0_0 a0_1 _ _ l0_2 tb3 _ ?side1 ?side2 A6.out).mono ?_); (case side1 => exact zC (Kd.C_below HR0_2.out HB.out)); (case side2 => exact HC0_2.out); rintro e w16 ⟨rfl, hb⟩; refine ⟨_, rfl, ?_⟩; replace HOa5 := yNb HOa5 hb; replace HOa8 := yNb HOa8 hb; replace HOb1 := yVb HOb1 hb; replace BKa1 := yK BKa1 hb; replace HB := yS1 HB GEa1 hb; (try clear hb); (try clear hb2); (try clear hk); (try clear hi); obtain ⟨Ao17, co17, rfl⟩ := Kd.N_slice HOa5.out) | ((with_reducible refine gC 21 ?_); refine zG (some 31) Try.func21 #[.int .i64 ta2, .slice Ao17 ta3.length co17] ?_; (with_reducible refine (r24_Weights.calls k ta2 _ _ ta3 tb4 _ ?side1 ?side2 A7.out).mono ?_); (case side1 => exact zC (Kd.N_reads' HOa5.out).2.2); (case side2 => exact (Kd.N_reads' HOa5.out).2.1); rintro e w18 ⟨vb5, rfl, ho0, hb⟩; refine ⟨_, rfl, ?_⟩; replace HOb1 := zk (Kd.V_elder' (zV HOb1.out) (Kd.S_base ho0) hb); have HOb6 := zk (Kd.N_lower (Kd.N_mono (ok' := fun k_ => some k_ ≠ (.slice Ao17 ta3.length co17 : Value).ownBlock ∧ some k_ ≠ (va7 : Value).ownBlock ∧ k_ ≠ gba1) (Kd.S_N (Kd.S_bound ho0)) (fun k_ hk_ => ⟨(Kd.fresh' (Kd.N_lt (zN HOa5.out)) k_ hk_.2.1), (Kd.fresh' (Kd.N_lt (zN HOa8.out)) k_ hk_.2.1), (Kd.freshB (g := gba1) (o := .cells #[.int .i64 a0_0, .int .i64 a0_1, .slice A0_2 l0_2.length c0_2] 24 (0, 0)) (zK BKa1.out) k_ hk_.2.1)⟩)) (below_size (zB1 HB.out GEa1.out))); replace HOa5 := zk (Kd.N_elder' (zN HOa5.out) (Kd.S_base ho0) hb); replace HOa8 := zk (Kd.N_elder' (zN HOa8.out) (Kd.S_base ho0) hb); replace BKa1 := yK BKa1 hb; replace HB := yS1 HB GEa1 hb; (try clear hb ho0); obtain ⟨Ao19, co19, rfl⟩ := Kd.N_slice HOb6.out) | ((with_reducible refine gC 57 ?_); refine zG (some 32) Try.func57 #[.int .i64 tb3, .slice Ao19 tb4.length co19] ?_; (with_reducible refine (mw_Dual.calls k tb3 _ _ tb4 tb7 tc0 _ ?side1 ?side2 A8.out).mono ?_); (case side1 => exact zC (Kd.N_reads' HOb6.out).2.2); (case side2 => exact (Kd.N_reads' HOb6.out).2.1); rintro e w20 ⟨vb8, rfl, ho0, hb⟩; refine ⟨_, rfl, ?_⟩; replace HOb1 := zk (Kd.V_elder' (zV HOb1.out) (Kd.N_base ho0) hb); have HOb9 := zk (Kd.N_lower (Kd.N_mono (ok' := fun k_ => some k_ ≠ (.slice Ao17 ta3.length co17 : Value).ownBlock ∧ some k_ ≠ (va7 : Value).ownBlock ∧ some k_ ≠ (.slice Ao19 tb4.length co19 : Value).ownBlock ∧ k_ ≠ gba1) ho0 (fun k_ hk_ => ⟨(Kd.fresh' (Kd.N_lt (zN HOa5.out)) k_ hk_), (Kd.fresh' (Kd.N_lt (zN HOa8.out)) k_ hk_), (Kd.fresh' (Kd.N_lt (zN HOb6.out)) k_ hk_), (Kd.freshB (g := gba1) (o := .cells #[.int .i64 a0_0, .int .i64 a0_1, .slice A0_2 l0_2.length c0_2] 24 (0, 0)) (zK BKa1.out) k_ hk_)⟩)) (below_size (zB1 HB.out GEa1.out))); replace HOa5 := zk (Kd.N_elder' (zN HOa5.out) (Kd.N_base ho0) hb); replace HOa8 := zk (Kd.N_elder' (zN HOa8.out) (Kd.N_base ho0) hb); replace HOb6 := zk (Kd.N_elder' (zN HOb6.out) (Kd.N_base ho0) hb); replace BKa1 := yK BKa1 hb; replace HB := yS1 HB GEa1 hb; (try clear hb ho0); obtain ⟨Ao21, co21, rfl⟩ := Kd.N_slice HOa8.out) | (go_at_call 21; (with_reducible refine (r24_Weights.calls k ta2 _ _ ta6 tc1 _ ?side1 ?side2 A10.out).mono ?_); (case side1 => exact zC (Kd.N_reads' HOa8.out).2.2); (case side2 => exact (Kd.N_reads' HOa8.out).2.1); rintro e w22 ⟨vc2, rfl, ho0, hb⟩; replace HOb1 := zk (Kd.V_elder' (zV HOb1.out) (Kd.S_base ho0) hb); have HOc3 := zk (Kd.N_lower (Kd.N_mono (ok' := fun k_ => some k_ ≠ (.slice Ao17 ta3.length co17 : Value).ownBlock ∧ some k_ ≠ (.slice Ao21 ta6.length co21 : Value).ownBlock ∧ some k_ ≠ (.slice Ao19 tb4.length co19 : Value).ownBlock ∧ some k_ ≠ (vb8 : Value).ownBlock ∧ k_ ≠ gba1) (Kd.S_N (Kd.S_bound ho0)) (fun k_ hk_ => ⟨(Kd.fresh' (Kd.N_lt (zN HOa5.out)) k_ hk_.2.1), (Kd.fresh' (Kd.N_lt (zN HOa8.out)) k_ hk_.2.1), (Kd.fresh' (Kd.N_lt (zN HOb6.out)) k_ hk_.2.1), (Kd.fresh' (Kd.N_lt (zN HOb9.out)) k_ hk_.2.1), (Kd.freshB (g := gba1) (o := .cells #[.int .i64 a0_0, .int .i64 a0_1, .slice A0_2 l0_2.length c0_2] 24 (0, 0)) (zK BKa1.out) k_ hk_.2.1)⟩)) (below_size (zB1 HB.out GEa1.out))); replace HOa5 := zk (Kd.N_elder' (zN HOa5.out) (Kd.S_base ho0) hb); replace HOa8 := zk (Kd.N_elder' (zN HOa8.out) (Kd.S_base ho0) hb); replace HOb6 := zk (Kd.N_elder' (zN HOb6.out) (Kd.S_base ho0) hb); replace HOb9 := zk (Kd.N_elder' (zN HOb9.out) (Kd.S_base ho0) hb); replace BKa1 := yK BKa1 hb; replace HB := yS1 HB GEa1 hb; (try clear hb ho0); obtain ⟨Ao23, co23, rfl⟩ := Kd.N_slice HOb9.out; obtain ⟨Ao24, co24, rfl⟩ := Kd.N_slice HOc3.out) | (go_at_call 58; (with_reducible refine (r24_SameList.calls k _ _ tb7 _ _ tc1 tc4 _ ?side1 ?side2 ?side3 ?side4 A11.out).mono ?_); (case side1 => exact zC (Kd.N_reads' HOb9.out).2.2); (case side2 => exact (Kd.N_reads' HOb9.out).2.1); (case side3 => exact zC (Kd.N_reads' HOc3.out).2.2); (case side4 => exact (Kd.N_reads' HOc3.out).2.1); rintro e w' ⟨rfl, ⟨nd, rfl⟩⟩))
     go_ret
     exact ⟨zE, zB1 HB.out GEa1.out⟩
   have c9b0 := beq_eq_false_iff_ne.mpr c9
   have c9b1 := bne_iff_ne.mpr c9
   obtain rfl := Option.some.inj H
   go_enter Try.func14, Try.ntmps14
   go_wp2_with (first | ((with_reducible refine gate_dst (N := 3) rfl ?_); refine box_event ?hg (N := 3) ?hd (cs := #[.int .i64 a0_0, .int .i64 a0_1, .slice A0_2 l0_2.length c0_2]) (t := 24) ?hr ?_; (case hd => rfl); (case hg => rfl); (case hr => first | (go_simp; done) | (go_simp; rfl)); intro gba1 hg w25 hbox hb; have BKa1 := zk (hbox); have GWa1 := yg hg HB; have GEa1 := yg hg HB; replace HB := yS HB hb; clear hb hbox hg; obtain ⟨hcz26_0, hcz26_1, hcz26_2, hfz26_0, hfz26_1, hfz26_2⟩ := zz3 BKa1) | ((with_reducible refine gC 19 ?_); refine zG (some 18) Try.func19 #[.agg #[.int .i64 a0_0, .int .i64 a0_1, .slice A0_2 l0_2.length c0_2], .int .u8 a1, .slice A2 l2.length c2] ?_; (with_reducible refine (w24_codes.calls k a0_0 a0_1 _ _ l0_2 a1 _ _ l2 ta2 ta3 ta6 ta9 true _ ?side1 ?side2 ?side3 ?side4 A4.out).mono ?_); (case side1 => exact zC (Kd.C_below HR0_2.out HB.out)); (case side2 => exact HC0_2.out); (case side3 => exact zC (Kd.C_below HR2.out HB.out)); (case side4 => exact HC2.out); rintro e w27 ⟨va4, va7, vb0, rfl, ho0, ho1, ho2, hb⟩; refine ⟨_, rfl, ?_⟩; have HOa5 := zk (Kd.N_lower (Kd.N_mono (ok' := fun k_ => some k_ ≠ (va7 : Value).ownBlock ∧ k_ ≠ gba1) ho0 (fun k_ hk_ => ⟨hk_.2, (Kd.freshB (g := gba1) (o := .cells #[.int .i64 a0_0, .int .i64 a0_1, .slice A0_2 l0_2.length c0_2] 24 (0, 0)) (zK BKa1.out) k_ hk_.1)⟩)) (below_size (zB1 HB.out GEa1.out))); have HOa8 := zk (Kd.N_lower (Kd.N_mono (ok' := fun k_ => some k_ ≠ (va4 : Value).ownBlock ∧ k_ ≠ gba1) ho1 (fun k_ hk_ => ⟨hk_.2, (Kd.freshB (g := gba1) (o := .cells #[.int .i64 a0_0, .int .i64 a0_1, .slice A0_2 l0_2.length c0_2] 24 (0, 0)) (zK BKa1.out) k_ hk_.1)⟩)) (below_size (zB1 HB.out GEa1.out))); have HOb1 := zk (Kd.V_lower (Kd.V_mono (ok' := fun k_ => some k_ ≠ (va4 : Value).ownBlock ∧ some k_ ≠ (va7 : Value).ownBlock ∧ k_ ≠ gba1) ho2 (fun k_ hk_ => ⟨hk_.2.1, hk_.2.2, (Kd.freshB (g := gba1) (o := .cells #[.int .i64 a0_0, .int .i64 a0_1, .slice A0_2 l0_2.length c0_2] 24 (0, 0)) (zK BKa1.out) k_ hk_.1)⟩)) (below_size (zB1 HB.out GEa1.out))); replace BKa1 := yK BKa1 hb; replace HB := yS1 HB GEa1 hb; (try clear hb ho0); (try clear ho1); (try clear ho2); obtain ⟨hcz28_0, hcz28_1, hcz28_2, hfz28_0, hfz28_1, hfz28_2⟩ := zz3 BKa1) | ((with_reducible refine gC 24 ?_); refine zG (some 28) Try.func24 #[.agg #[.int .i64 a0_0, .int .i64 a0_1, .slice A0_2 l0_2.length c0_2]] ?_; (with_reducible refine (r4_Order.calls k a0_0 a0_1 _ _ l0_2 tb3 _ ?side1 ?side2 A6.out).mono ?_); (case side1 => exact zC (Kd.C_below HR0_2.out HB.out)); (case side2 => exact HC0_2.out); rintro e w29 ⟨rfl, hb⟩; refine ⟨_, rfl, ?_⟩; replace HOa5 := yNb HOa5 hb; replace HOa8 := yNb HOa8 hb; replace HOb1 := yVb HOb1 hb; replace BKa1 := yK BKa1 hb; replace HB := yS1 HB GEa1 hb; (try clear hb); (try clear hb2); (try clear hk); (try clear hi); obtain ⟨Ao30, co30, rfl⟩ := Kd.N_slice HOa5.out) | ((with_reducible refine gC 21 ?_); refine zG (some 31) Try.func21 #[.int .i64 ta2, .slice Ao30 ta3.length co30] ?_; (with_reducible refine (r24_Weights.calls k ta2 _ _ ta3 tb4 _ ?side1 ?side2 A7.out).mono ?_); (case side1 => exact zC (Kd.N_reads' HOa5.out).2.2); (case side2 => exact (Kd.N_reads' HOa5.out).2.1); rintro e w31 ⟨vb5, rfl, ho0, hb⟩; refine ⟨_, rfl, ?_⟩; replace HOb1 := zk (Kd.V_elder' (zV HOb1.out) (Kd.S_base ho0) hb); have HOb6 := zk (Kd.N_lower (Kd.N_mono (ok' := fun k_ => some k_ ≠ (.slice Ao30 ta3.length co30 : Value).ownBlock ∧ some k_ ≠ (va7 : Value).ownBlock ∧ k_ ≠ gba1) (Kd.S_N (Kd.S_bound ho0)) (fun k_ hk_ => ⟨(Kd.fresh' (Kd.N_lt (zN HOa5.out)) k_ hk_.2.1), (Kd.fresh' (Kd.N_lt (zN HOa8.out)) k_ hk_.2.1), (Kd.freshB (g := gba1) (o := .cells #[.int .i64 a0_0, .int .i64 a0_1, .slice A0_2 l0_2.length c0_2] 24 (0, 0)) (zK BKa1.out) k_ hk_.2.1)⟩)) (below_size (zB1 HB.out GEa1.out))); replace HOa5 := zk (Kd.N_elder' (zN HOa5.out) (Kd.S_base ho0) hb); replace HOa8 := zk (Kd.N_elder' (zN HOa8.out) (Kd.S_base ho0) hb); replace BKa1 := yK BKa1 hb; replace HB := yS1 HB GEa1 hb; (try clear hb ho0); obtain ⟨Ao32, co32, rfl⟩ := Kd.N_slice HOb6.out) | ((with_reducible refine gC 57 ?_); refine zG (some 32) Try.func57 #[.int .i64 tb3, .slice Ao32 tb4.length co32] ?_; (with_reducible refine (mw_Dual.calls k tb3 _ _ tb4 tb7 tc0 _ ?side1 ?side2 A8.out).mono ?_); (case side1 => exact zC (Kd.N_reads' HOb6.out).2.2); (case side2 => exact (Kd.N_reads' HOb6.out).2.1); rintro e w33 ⟨vb8, rfl, ho0, hb⟩; refine ⟨_, rfl, ?_⟩; replace HOb1 := zk (Kd.V_elder' (zV HOb1.out) (Kd.N_base ho0) hb); have HOb9 := zk (Kd.N_lower (Kd.N_mono (ok' := fun k_ => some k_ ≠ (.slice Ao30 ta3.length co30 : Value).ownBlock ∧ some k_ ≠ (va7 : Value).ownBlock ∧ some k_ ≠ (.slice Ao32 tb4.length co32 : Value).ownBlock ∧ k_ ≠ gba1) ho0 (fun k_ hk_ => ⟨(Kd.fresh' (Kd.N_lt (zN HOa5.out)) k_ hk_), (Kd.fresh' (Kd.N_lt (zN HOa8.out)) k_ hk_), (Kd.fresh' (Kd.N_lt (zN HOb6.out)) k_ hk_), (Kd.freshB (g := gba1) (o := .cells #[.int .i64 a0_0, .int .i64 a0_1, .slice A0_2 l0_2.length c0_2] 24 (0, 0)) (zK BKa1.out) k_ hk_)⟩)) (below_size (zB1 HB.out GEa1.out))); replace HOa5 := zk (Kd.N_elder' (zN HOa5.out) (Kd.N_base ho0) hb); replace HOa8 := zk (Kd.N_elder' (zN HOa8.out) (Kd.N_base ho0) hb); replace HOb6 := zk (Kd.N_elder' (zN HOb6.out) (Kd.N_base ho0) hb); replace BKa1 := yK BKa1 hb; replace HB := yS1 HB GEa1 hb; (try clear hb ho0)))
   go_ret
   exact ⟨zE, zB1 HB.out GEa1.out⟩
 replace c5 := Bool.eq_false_iff.mpr c5
 subst c5
 rw [if_neg Bool.false_ne_true] at H
 obtain rfl := Option.some.inj H
 go_enter Try.func14, Try.ntmps14
 go_wp2_with (first | ((with_reducible refine gate_dst (N := 3) rfl ?_); refine box_event ?hg (N := 3) ?hd (cs := #[.int .i64 a0_0, .int .i64 a0_1, .slice A0_2 l0_2.length c0_2]) (t := 24) ?hr ?_; (case hd => rfl); (case hg => rfl); (case hr => first | (go_simp; done) | (go_simp; rfl)); intro gba1 hg w34 hbox hb; have BKa1 := zk (hbox); have GWa1 := yg hg HB; have GEa1 := yg hg HB; replace HB := yS HB hb; clear hb hbox hg; obtain ⟨hcz35_0, hcz35_1, hcz35_2, hfz35_0, hfz35_1, hfz35_2⟩ := zz3 BKa1) | ((with_reducible refine gC 19 ?_); refine zG (some 18) Try.func19 #[.agg #[.int .i64 a0_0, .int .i64 a0_1, .slice A0_2 l0_2.length c0_2], .int .u8 a1, .slice A2 l2.length c2] ?_; (with_reducible refine (w24_codes.calls k a0_0 a0_1 _ _ l0_2 a1 _ _ l2 ta2 ta3 ta6 ta9 false _ ?side1 ?side2 ?side3 ?side4 A4.out).mono ?_); (case side1 => exact zC (Kd.C_below HR0_2.out HB.out)); (case side2 => exact HC0_2.out); (case side3 => exact zC (Kd.C_below HR2.out HB.out)); (case side4 => exact HC2.out); rintro e w36 ⟨va4, va7, vb0, rfl, ho0, ho1, ho2, hb⟩; refine ⟨_, rfl, ?_⟩; have HOa5 := zk (Kd.N_lower (Kd.N_mono (ok' := fun k_ => some k_ ≠ (va7 : Value).ownBlock ∧ k_ ≠ gba1) ho0 (fun k_ hk_ => ⟨hk_.2, (Kd.freshB (g := gba1) (o := .cells #[.int .i64 a0_0, .int .i64 a0_1, .slice A0_2 l0_2.length c0_2] 24 (0, 0)) (zK BKa1.out) k_ hk_.1)⟩)) (below_size (zB1 HB.out GEa1.out))); have HOa8 := zk (Kd.N_lower (Kd.N_mono (ok' := fun k_ => some k_ ≠ (va4 : Value).ownBlock ∧ k_ ≠ gba1) ho1 (fun k_ hk_ => ⟨hk_.2, (Kd.freshB (g := gba1) (o := .cells #[.int .i64 a0_0, .int .i64 a0_1, .slice A0_2 l0_2.length c0_2] 24 (0, 0)) (zK BKa1.out) k_ hk_.1)⟩)) (below_size (zB1 HB.out GEa1.out))); have HOb1 := zk (Kd.V_lower (Kd.V_mono (ok' := fun k_ => some k_ ≠ (va4 : Value).ownBlock ∧ some k_ ≠ (va7 : Value).ownBlock ∧ k_ ≠ gba1) ho2 (fun k_ hk_ => ⟨hk_.2.1, hk_.2.2, (Kd.freshB (g := gba1) (o := .cells #[.int .i64 a0_0, .int .i64 a0_1, .slice A0_2 l0_2.length c0_2] 24 (0, 0)) (zK BKa1.out) k_ hk_.1)⟩)) (below_size (zB1 HB.out GEa1.out))); replace BKa1 := yK BKa1 hb; replace HB := yS1 HB GEa1 hb; (try clear hb ho0); (try clear ho1); (try clear ho2)))
 go_ret
 exact ⟨zE, zB1 HB.out GEa1.out⟩
end Go.Proofs.Ytifkbghnmhineaa.PAll
section
namespace Mw
def sm : Nat → (Nat → Int) → Int
  | 0, _ => 0
  | n + 1, f => sm n f + f n
theorem sm_congr {n : Nat} {f g : Nat → Int} (h : ∀ i, i < n → f i = g i) : sm n f = sm n g := by
  induction n with
  | zero => rfl
  | succ n ih => simp only [sm]; rw [ih (fun i hi => h i (by omega)), h n (by omega)]
theorem sm_zero {n : Nat} {f : Nat → Int} (h : ∀ i, i < n → f i = 0) : sm n f = 0 := by
  induction n with
  | zero => rfl
  | succ n ih => simp only [sm]; rw [ih (fun i hi => h i (by omega)), h n (by omega)]; rfl
theorem sm_add (n : Nat) (f g : Nat → Int) : sm n (fun i => f i + g i) = sm n f + sm n g := by
  induction n with
  | zero => rfl
  | succ n ih => simp only [sm]; rw [ih]; omega
theorem sm_sub (n : Nat) (f g : Nat → Int) : sm n (fun i => f i - g i) = sm n f - sm n g := by
  induction n with
  | zero => rfl
  | succ n ih => simp only [sm]; rw [ih]; omega
theorem sm_mul (n : Nat) (c : Int) (f : Nat → Int) : sm n (fun i => c * f i) = c * sm n f := by
  induction n with
  | zero => simp [sm]
  | succ n ih => simp only [sm]; rw [ih, Int.mul_add]
theorem sm_mul_right (n : Nat) (c : Int) (f : Nat → Int) : sm n (fun i => f i * c) = sm n f * c := by
  induction n with
  | zero => simp [sm]
  | succ n ih => simp only [sm]; rw [ih, Int.add_mul]
theorem sm_head (n : Nat) (f : Nat → Int) : sm (n + 1) f = f 0 + sm n (fun i => f (i + 1)) := by
  induction n with
  | zero => simp [sm]
  | succ n ih => rw [sm, ih]; simp only [sm]; omega
theorem sm_swap (m n : Nat) (f : Nat → Nat → Int) : sm m (fun i => sm n (fun j => f i j)) = sm n (fun j => sm m (fun i => f i j)) := by
  induction m with
  | zero => simp only [sm]; exact (sm_zero (fun _ _ => rfl)).symm
  | succ m ih => simp only [sm]; rw [ih, sm_add]
theorem sm_single {n a : Nat} {f : Nat → Int} (ha : a < n) (h : ∀ i, i < n → i ≠ a → f i = 0) : sm n f = f a := by
  induction n with
  | zero => omega
  | succ n ih =>
    simp only [sm]
    by_cases e : a = n
    · subst e; rw [sm_zero (fun i hi => h i (by omega) (by omega))]; omega
    · rw [ih (by omega) (fun i hi hne => h i (by omega) hne), h n (by omega) (by omega)]; omega
theorem sm_more {m n : Nat} (h : m ≤ n) {f : Nat → Int} (hf : ∀ i, m ≤ i → f i = 0) : sm n f = sm m f := by
  induction n with
  | zero => have : m = 0 := by omega
            subst this; rfl
  | succ n ih =>
    by_cases e : m = n + 1
    · subst e; rfl
    · simp only [sm]; rw [ih (by omega), hf n (by omega)]; omega
theorem sm_more' {m n : Nat} (h : m ≤ n) {f : Nat → Int} (hf : ∀ i, m ≤ i → i < n → f i = 0) : sm n f = sm m f := by
  induction n with
  | zero => have : m = 0 := by omega
            subst this; rfl
  | succ n ih =>
    by_cases e : m = n + 1
    · subst e; rfl
    · simp only [sm]; rw [ih (by omega) (fun i h1 h2 => hf i h1 (by omega)), hf n (by omega) (by omega)]; omega
theorem sm_rev (n : Nat) (f : Nat → Int) : sm (n + 1) f = sm (n + 1) (fun i => f (n - i)) := by
  induction n generalizing f with
  | zero => rfl
  | succ n ih =>
    rw [sm_head (n + 1) (fun i => f (n + 1 - i))]
    rw [sm]
    rw [ih f]
    have : sm (n + 1) (fun i => f (n + 1 - (i + 1))) = sm (n + 1) (fun i => f (n - i)) := sm_congr (fun i _ => by rw [Nat.add_sub_add_right])
    rw [this]
    simp only [Nat.sub_zero]
    omega
theorem poly_zero : ∀ (n : Nat) (c : Nat → Int), (∀ z : Int, z ≠ 0 → sm n (fun i => c i * z ^ i) = 0) → ∀ i, i < n → c i = 0 := by
  intro n
  induction n with
  | zero => intro c _ i hi; omega
  | succ n ih =>
    intro c h
    have step : ∀ z : Int, c 0 + z * sm n (fun i => c (i + 1) * z ^ i) = sm (n + 1) (fun i => c i * z ^ i) := by
      intro z
      rw [sm_head, ← sm_mul]
      have : sm n (fun i => z * (c (i + 1) * z ^ i)) = sm n (fun i => c (i + 1) * z ^ (i + 1)) := sm_congr (fun i _ => by rw [Int.pow_succ]; grind)
      rw [this]; simp
    have h0 : c 0 = 0 := by
      have hsq : 0 ≤ c 0 * c 0 := by
        rcases Int.le_total 0 (c 0) with g | g
        · exact Int.mul_nonneg g g
        · exact Int.mul_nonneg_of_nonpos_of_nonpos g g
      have hz := h (c 0 * c 0 + 1) (by omega)
      rw [← step] at hz
      have hd : (c 0 * c 0 + 1) ∣ c 0 := ⟨-(sm n (fun i => c (i + 1) * (c 0 * c 0 + 1) ^ i)), by grind⟩
      refine Decidable.byContradiction fun hne => ?_
      have hle := Int.natAbs_dvd_natAbs.mpr hd
      have hpos : 0 < (c 0).natAbs := by omega
      have hle2 := Nat.le_of_dvd hpos hle
      have h1 : (c 0 * c 0 + 1).natAbs = (c 0).natAbs * (c 0).natAbs + 1 := by
        have e : c 0 * c 0 = (((c 0).natAbs * (c 0).natAbs : Nat) : Int) := by
          rw [Int.natCast_mul, ← Int.natAbs_mul_self' (c 0)]
        rw [e]; omega
      rw [h1] at hle2
      have : (c 0).natAbs * 1 ≤ (c 0).natAbs * (c 0).natAbs := Nat.mul_le_mul_left _ hpos
      omega
    have hrest := ih (fun i => c (i + 1)) (by
      intro z hz
      have := h z hz
      rw [← step, h0, Int.zero_add] at this
      rcases Int.mul_eq_zero.mp this with e | e
      · exact absurd e hz
      · exact e)
    intro i hi
    cases i with
    | zero => exact h0
    | succ i => exact hrest i (by omega)
theorem poly_eq {n : Nat} {c d : Nat → Int} (h : ∀ z : Int, sm n (fun i => c i * z ^ i) = sm n (fun i => d i * z ^ i)) : ∀ i, i < n → c i = d i := by
  intro i hi
  have := poly_zero n (fun i => c i - d i) (by
    intro z _
    have e : sm n (fun i => (c i - d i) * z ^ i) = sm n (fun i => c i * z ^ i - d i * z ^ i) := sm_congr (fun i _ => by rw [Int.sub_mul])
    rw [e, sm_sub, h z]; omega) i hi
  have this : c i - d i = 0 := this
  omega
def bin : Nat → Nat → Nat
  | _, 0 => 1
  | 0, _ + 1 => 0
  | n + 1, k + 1 => bin n k + bin n (k + 1)
theorem bin_zero (n : Nat) : bin n 0 = 1 := by cases n <;> rfl
theorem bin_succ (n k : Nat) : bin (n + 1) (k + 1) = bin n k + bin n (k + 1) := rfl
theorem bin_above : ∀ {n k : Nat}, n < k → bin n k = 0
  | 0, 0, h => by omega
  | 0, _ + 1, _ => rfl
  | n + 1, 0, h => by omega
  | n + 1, k + 1, h => by rw [bin_succ, bin_above (n := n) (k := k) (by omega), bin_above (n := n) (k := k + 1) (by omega)]
theorem bin_self (n : Nat) : bin n n = 1 := by
  induction n with
  | zero => rfl
  | succ n ih => rw [bin_succ, ih, bin_above (by omega)]
theorem bin_one (n : Nat) : bin n 1 = n := by
  induction n with
  | zero => rfl
  | succ n ih => rw [bin_succ, ih, bin_zero]; omega
theorem bin_step : ∀ (n k : Nat), (k + 1) * bin n (k + 1) = (n - k) * bin n k
  | 0, k => by rw [bin_above (by omega)]; simp
  | n + 1, 0 => by rw [bin_one, bin_zero]; omega
  | n + 1, k + 1 => by
    rw [bin_succ, bin_succ]
    have h1 := bin_step n k
    have h2 := bin_step n (k + 1)
    by_cases hk : k + 1 ≤ n
    · obtain ⟨m, rfl⟩ : ∃ m, n = m + (k + 1) := ⟨n - (k + 1), by omega⟩
      rw [show m + (k + 1) - k = m + 1 by omega] at h1
      rw [show m + (k + 1) - (k + 1) = m by omega] at h2
      rw [show m + (k + 1) + 1 - (k + 1) = m + 1 by omega]
      grind
    · by_cases hk2 : k = n
      · subst hk2
        rw [bin_above (n := k) (k := k + 1 + 1) (by omega), bin_above (n := k) (k := k + 1) (by omega)]; simp
      · rw [bin_above (n := n) (k := k + 1 + 1) (by omega), bin_above (n := n) (k := k + 1) (by omega), bin_above (n := n) (k := k) (by omega)]; simp
theorem bin_symm : ∀ {n k : Nat}, k ≤ n → bin n (n - k) = bin n k
  | 0, k, h => by have : k = 0 := by omega
                  subst this; rfl
  | n + 1, 0, _ => by rw [Nat.sub_zero, bin_self, bin_zero]
  | n + 1, k + 1, h => by
    rw [Nat.add_sub_add_right]
    by_cases e : k = n
    · subst e; rw [Nat.sub_self, bin_zero, bin_self]
    · obtain ⟨m, hm⟩ : ∃ m, n - k = m + 1 := ⟨n - k - 1, by omega⟩
      rw [hm, bin_succ, bin_succ]
      have h1 := bin_symm (n := n) (k := k) (by omega)
      have h2 := bin_symm (n := n) (k := k + 1) (by omega)
      rw [hm] at h1
      rw [show n - (k + 1) = m by omega] at h2
      omega
theorem binomial (n : Nat) (u w : Int) : (u + w) ^ n = sm (n + 1) (fun i => (bin n i : Int) * u ^ (n - i) * w ^ i) := by
  induction n with
  | zero => simp [sm, bin]
  | succ n ih =>
    have e1 : u * sm (n + 1) (fun i => (bin n i : Int) * u ^ (n - i) * w ^ i) = sm (n + 2) (fun i => (bin n i : Int) * u ^ (n + 1 - i) * w ^ i) := by
      rw [← sm_mul, sm.eq_def (n + 2)]
      simp only []
      rw [bin_above (n := n) (k := n + 1) (by omega)]
      simp only [Int.natCast_zero, Int.zero_mul, Int.add_zero]
      refine sm_congr fun i hi => ?_
      rw [show n + 1 - i = (n - i) + 1 by omega, Int.pow_succ]; grind
    have e2 : w * sm (n + 1) (fun i => (bin n i : Int) * u ^ (n - i) * w ^ i) = sm (n + 1) (fun i => (bin n i : Int) * u ^ (n + 1 - (i + 1)) * w ^ (i + 1)) := by
      rw [← sm_mul]
      refine sm_congr fun i hi => ?_
      rw [Nat.add_sub_add_right, Int.pow_succ]; grind
    rw [Int.pow_succ, Int.mul_comm, Int.add_mul, ih, e1, e2, sm_head (n + 1), sm_head (n + 1)]
    have e3 : sm (n + 1) (fun i => (bin (n + 1) (i + 1) : Int) * u ^ (n + 1 - (i + 1)) * w ^ (i + 1)) =
        sm (n + 1) (fun i => (bin n (i + 1) : Int) * u ^ (n + 1 - (i + 1)) * w ^ (i + 1)) + sm (n + 1) (fun i => (bin n i : Int) * u ^ (n + 1 - (i + 1)) * w ^ (i + 1)) := by
      rw [← sm_add]
      refine sm_congr fun i _ => ?_
      rw [bin_succ, Int.natCast_add]; grind
    rw [e3]
    simp only [bin_zero]
    omega
def kr (g : Int) : Nat → Nat → Nat → Int
  | 0, 0, 0 => 1
  | 0, 0, _ + 1 => 0
  | a + 1, 0, 0 => kr g a 0 0
  | a + 1, 0, k + 1 => kr g a 0 (k + 1) + g * kr g a 0 k
  | a, b + 1, 0 => kr g a b 0
  | a, b + 1, k + 1 => kr g a b (k + 1) - kr g a b k
theorem kr_b0 (g : Int) (a b : Nat) : kr g a (b + 1) 0 = kr g a b 0 := by cases a <;> simp [kr]
theorem kr_b (g : Int) (a b k : Nat) : kr g a (b + 1) (k + 1) = kr g a b (k + 1) - kr g a b k := by cases a <;> simp [kr]
theorem kr_zero (g : Int) (a b : Nat) : kr g a b 0 = 1 := by
  induction b with
  | zero => induction a with
    | zero => simp [kr]
    | succ a ih => simp [kr, ih]
  | succ b ih => rw [kr_b0, ih]
theorem kr_a (g : Int) (a b k : Nat) : kr g (a + 1) b (k + 1) = kr g a b (k + 1) + g * kr g a b k := by
  induction b generalizing k with
  | zero => simp [kr]
  | succ b ih =>
    rw [kr_b, kr_b, ih]
    cases k with
    | zero => rw [kr_zero, kr_zero, kr_zero]; omega
    | succ k => rw [ih, kr_b]; grind
theorem kr_above (g : Int) : ∀ (a b k : Nat), a + b < k → kr g a b k = 0 := by
  intro a
  induction a with
  | zero =>
    intro b
    induction b with
    | zero => intro k h; cases k with
      | zero => omega
      | succ k => simp [kr]
    | succ b ih => intro k h; cases k with
      | zero => omega
      | succ k => rw [kr_b, ih _ (by omega), ih _ (by omega)]; rfl
  | succ a ih => intro b k h; cases k with
    | zero => omega
    | succ k => rw [kr_a, ih _ _ (by omega), ih _ _ (by omega)]; simp
theorem kr_first (g : Int) (a k : Nat) : kr g a 0 k = (bin a k : Int) * g ^ k := by
  induction a generalizing k with
  | zero => cases k with
    | zero => simp [kr, bin]
    | succ k => simp [kr, bin]
  | succ a ih => cases k with
    | zero => simp [kr_zero, bin_zero]
    | succ k => rw [kr_a, ih, ih, bin_succ, Int.pow_succ, Int.natCast_add]; grind
theorem kr_row (g : Int) (a b k : Nat) : kr g a (b + 1) (k + 1) = kr g (a + 1) b (k + 1) - kr g (a + 1) b k - g * kr g a (b + 1) k := by
  have h := kr_a g a (b + 1) k
  rw [kr_b] at h
  omega
def krF (g : Int) (a b k : Nat) : Int := sm (k + 1) (fun j => (-1) ^ j * (g ^ (k - j) * ((bin b j : Int) * (bin a (k - j) : Int))))
theorem kr_formula (g : Int) (a b k : Nat) : kr g a b k = krF g a b k := by
  induction b generalizing k with
  | zero =>
    rw [kr_first, krF]
    rw [sm_single (a := 0) (by omega)]
    · simp [bin_zero]; grind
    · intro i _ hne
      obtain ⟨m, rfl⟩ : ∃ m, i = m + 1 := ⟨i - 1, by omega⟩
      simp [bin]
  | succ b ih =>
    cases k with
    | zero => rw [kr_zero]; simp [krF, sm, bin_zero]
    | succ k =>
      rw [kr_b, ih, ih, krF, krF, krF]
      rw [sm_head (k + 1) (fun j => (-1) ^ j * (g ^ (k + 1 - j) * ((bin (b + 1) j : Int) * (bin a (k + 1 - j) : Int))))]
      rw [sm_head (k + 1) (fun j => (-1) ^ j * (g ^ (k + 1 - j) * ((bin b j : Int) * (bin a (k + 1 - j) : Int))))]
      simp only [bin_zero, Nat.add_sub_add_right]
      rw [Int.add_sub_assoc]
      congr 1
      rw [← sm_sub]
      refine sm_congr fun i hi => ?_
      rw [bin_succ, Int.natCast_add, Int.pow_succ]
      grind
theorem kr_gen (g : Int) (a b : Nat) (u w : Int) : sm (a + b + 1) (fun i => kr g a b i * u ^ (a + b - i) * w ^ i) = (u + g * w) ^ a * (u - w) ^ b := by
  have shift : ∀ (m : Nat) (c : Nat → Int) (s : Int) (d : Nat → Int), d 0 = c 0 → (∀ k, d (k + 1) = c (k + 1) + s * c k) → (∀ k, m < k → c k = 0) →
      sm (m + 2) (fun i => d i * u ^ (m + 1 - i) * w ^ i) = (u + s * w) * sm (m + 1) (fun i => c i * u ^ (m - i) * w ^ i) := by
    intro m c s d h0 h1 h2
    have e1 : u * sm (m + 1) (fun i => c i * u ^ (m - i) * w ^ i) = sm (m + 2) (fun i => c i * u ^ (m + 1 - i) * w ^ i) := by
      rw [← sm_mul, sm.eq_def (m + 2)]
      simp only []
      rw [h2 (m + 1) (by omega)]
      simp only [Int.zero_mul, Int.add_zero]
      refine sm_congr fun i hi => ?_
      rw [show m + 1 - i = (m - i) + 1 by omega, Int.pow_succ]; grind
    have e2 : s * w * sm (m + 1) (fun i => c i * u ^ (m - i) * w ^ i) = sm (m + 1) (fun i => s * c i * u ^ (m + 1 - (i + 1)) * w ^ (i + 1)) := by
      rw [← sm_mul]
      refine sm_congr fun i hi => ?_
      rw [Nat.add_sub_add_right, Int.pow_succ]; grind
    rw [Int.add_mul, e1, e2, sm_head (m + 1), sm_head (m + 1), Int.add_assoc, ← sm_add, h0]
    congr 1
    refine sm_congr fun i _ => ?_
    rw [h1]; grind
  induction b with
  | zero =>
    induction a with
    | zero => simp [sm, kr]
    | succ a ih =>
      have := shift (a + 0) (kr g a 0) g (kr g (a + 1) 0) (by rw [kr_zero, kr_zero]) (fun k => kr_a g a 0 k) (fun k hk => kr_above g a 0 k hk)
      rw [show a + 1 + 0 + 1 = a + 0 + 2 by omega, show a + 1 + 0 = a + 0 + 1 by omega, this, ih]
      grind
  | succ b ih =>
    have := shift (a + b) (kr g a b) (-1) (kr g a (b + 1)) (by rw [kr_zero, kr_zero]) (fun k => by rw [kr_b]; omega) (fun k hk => kr_above g a b k hk)
    rw [show a + (b + 1) + 1 = a + b + 2 by omega, show a + (b + 1) = a + b + 1 by omega, this, ih]
    grind
end Mw
end
section
set_option linter.unusedVariables false
set_option linter.unusedSimpArgs false
namespace Mw
def El (q : Nat) (x : Int) : Prop := 0 ≤ x ∧ x < (q : Int)
structure Fld (q : Nat) (add mul : Int → Int → Int) : Prop where
 two : 2 ≤ q
 add_el : ∀ x y, El q x → El q y → El q (add x y)
 mul_el : ∀ x y, El q x → El q y → El q (mul x y)
 add_zero : ∀ x, El q x → add x 0 = x
 add_comm : ∀ x y, El q x → El q y → add x y = add y x
 add_assoc : ∀ x y z, El q x → El q y → El q z → add (add x y) z = add x (add y z)
 neg : ∀ x, El q x → ∃ y, El q y ∧ add x y = 0
 mul_one : ∀ x, El q x → mul x 1 = x
 mul_comm : ∀ x y, El q x → El q y → mul x y = mul y x
 mul_assoc : ∀ x y z, El q x → El q y → El q z → mul (mul x y) z = mul x (mul y z)
 distrib : ∀ x y z, El q x → El q y → El q z → mul x (add y z) = add (mul x y) (mul x z)
 nzd : ∀ x y, El q x → El q y → mul x y = 0 → x = 0 ∨ y = 0
noncomputable def ind (p : Prop) : Int := open Classical in if p then 1 else 0
theorem ind_true {p : Prop} (h : p) : ind p = 1 := by unfold ind; exact if_pos h
theorem ind_false {p : Prop} (h : ¬ p) : ind p = 0 := by unfold ind; exact if_neg h
theorem ind_congr {p r : Prop} (h : p ↔ r) : ind p = ind r := by rw [propext h]
theorem ind_and (p r : Prop) : ind (p ∧ r) = ind p * ind r := by
 by_cases h : p
 ·by_cases g : r
  ·rw [ind_true h, ind_true g, ind_true ⟨h, g⟩]; rfl
  ·rw [ind_true h, ind_false g, ind_false (fun e => g e.2)]; rfl
 ·rw [ind_false h, ind_false (fun e : p ∧ r => h e.1)]; simp
theorem ind_le_one (p : Prop) : ind p ≤ 1 := by
 by_cases h : p
 ·rw [ind_true h]; omega
 ·rw [ind_false h]; omega
theorem onto_of_inj {q : Nat} {σ : Nat → Nat} (hm : ∀ a, a < q → σ a < q) (hi : ∀ a b, a < q → b < q → σ a = σ b → a = b) :
  ∀ b, b < q → sm q (fun a => ind (σ a = b)) = 1 := by
 have le1 : ∀ b, b < q → sm q (fun a => ind (σ a = b)) ≤ 1 := by
  intro b _
  by_cases h : ∃ a, a < q ∧ σ a = b
  ·obtain ⟨a, ha, e⟩ := h
   rw [sm_single ha (fun i hi2 hne => ind_false (fun e2 => hne (hi i a hi2 ha (by rw [e2, e]))))]
   exact ind_le_one _
  ·rw [sm_zero (fun i hi2 => ind_false (fun e => h ⟨i, hi2, e⟩))]; omega
 have tot : sm q (fun b => sm q (fun a => ind (σ a = b))) = q := by
  rw [sm_swap]
  have : ∀ a, a < q → sm q (fun b => ind (σ a = b)) = 1 := by
   intro a ha
   rw [sm_single (hm a ha) (fun i _ hne => ind_false (fun e => hne e.symm))]
   exact ind_true rfl
  rw [sm_congr this]
  have : ∀ n : Nat, sm n (fun _ => 1) = n := by
   intro n
   induction n with
   | zero => rfl
   | succ n ih => simp only [sm]; rw [ih]; omega
  exact this q
 intro b hb
 refine Decidable.byContradiction fun hne => ?_
 have hlt : sm q (fun a => ind (σ a = b)) ≤ 0 := by have := le1 b hb; omega
 have : ∀ n : Nat, n ≤ q → sm n (fun b => sm q (fun a => ind (σ a = b))) ≤ (n : Int) - (if b < n then 1 else 0) := by
  intro n
  induction n with
  | zero => intro _; simp [sm]
  | succ n ih =>
   intro hn
   simp only [sm]
   have h1 := ih (by omega)
   have h2 := le1 n (by omega)
   by_cases e : b = n
   ·subst e
    rw [if_neg (by omega)] at h1
    rw [if_pos (by omega)]; omega
   ·by_cases g : b < n
    ·rw [if_pos g] at h1; rw [if_pos (by omega)]; omega
    ·rw [if_neg g] at h1; rw [if_neg (by omega)]; omega
 have := this q (Nat.le_refl q)
 rw [tot, if_pos hb] at this
 omega
theorem sm_perm {q : Nat} {σ : Nat → Nat} (hm : ∀ a, a < q → σ a < q) (hi : ∀ a b, a < q → b < q → σ a = σ b → a = b) (f : Nat → Int) :
  sm q (fun a => f (σ a)) = sm q f := by
 have e1 : ∀ a, a < q → f (σ a) = sm q (fun b => ind (σ a = b) * f b) := by
  intro a ha
  rw [sm_single (hm a ha) (fun i _ hne => by rw [ind_false (fun e => hne e.symm)]; simp)]
  rw [ind_true rfl]; simp
 rw [sm_congr e1, sm_swap]
 refine sm_congr fun b hb => ?_
 rw [sm_mul_right, onto_of_inj hm hi b hb]; simp
def se (q : Nat) (f : Int → Int) : Int := sm q (fun a => f (a : Int))
theorem se_congr {q : Nat} {f g : Int → Int} (h : ∀ a, El q a → f a = g a) : se q f = se q g :=
 sm_congr fun i hi => h _ ⟨by omega, by omega⟩
theorem se_zero {q : Nat} {f : Int → Int} (h : ∀ a, El q a → f a = 0) : se q f = 0 :=
 sm_zero fun i hi => h _ ⟨by omega, by omega⟩
theorem se_single {q : Nat} {a : Int} {f : Int → Int} (ha : El q a) (h : ∀ i, El q i → i ≠ a → f i = 0) : se q f = f a := by
 obtain ⟨h0, h1⟩ := ha
 unfold se
 rw [sm_single (a := a.toNat) (by omega) (fun i hi hne => h _ ⟨by omega, by omega⟩ (by omega))]
 rw [Int.toNat_of_nonneg h0]
theorem se_const (q : Nat) (c : Int) : se q (fun _ => c) = q * c := by
 unfold se
 induction q with
 | zero => simp [sm]
 | succ n ih => simp only [sm]; rw [ih, Int.natCast_add]; grind
theorem se_add (q : Nat) (f g : Int → Int) : se q (fun i => f i + g i) = se q f + se q g := sm_add _ _ _
theorem se_mul (q : Nat) (c : Int) (f : Int → Int) : se q (fun i => c * f i) = c * se q f := sm_mul _ _ _
theorem se_mul_right (q : Nat) (c : Int) (f : Int → Int) : se q (fun i => f i * c) = se q f * c := sm_mul_right _ _ _
theorem se_perm {q : Nat} {σ : Int → Int} (hm : ∀ a, El q a → El q (σ a)) (hi : ∀ a b, El q a → El q b → σ a = σ b → a = b) (f : Int → Int) :
  se q (fun a => f (σ a)) = se q f := by
 unfold se
 have := sm_perm (q := q) (σ := fun a => (σ (a : Int)).toNat)
  (fun a ha => by have := hm (a : Int) ⟨by omega, by omega⟩; unfold El at this; omega)
  (fun a b ha hb e => by
   have h1 := hm (a : Int) ⟨by omega, by omega⟩
   have h2 := hm (b : Int) ⟨by omega, by omega⟩
   unfold El at h1 h2
   have e : (σ (a : Int)).toNat = (σ (b : Int)).toNat := e
   have := hi a b ⟨by omega, by omega⟩ ⟨by omega, by omega⟩ (by omega)
   omega)
  (fun a => f (a : Int))
 rw [← this]
 refine sm_congr fun a ha => ?_
 have h1 := hm (a : Int) ⟨by omega, by omega⟩
 unfold El at h1
 rw [Int.toNat_of_nonneg h1.1]
theorem se_swap (q : Nat) (f : Int → Int → Int) : se q (fun i => se q (fun j => f i j)) = se q (fun j => se q (fun i => f i j)) := sm_swap _ _ _
def ws (q : Nat) : Nat → (List Int → Int) → Int
 | 0, f => f []
 | n + 1, f => se q (fun a => ws q n (fun w => f (a :: w)))
def Wd (q n : Nat) (w : List Int) : Prop := w.length = n ∧ ∀ x ∈ w, El q x
theorem wd_nil (q : Nat) : Wd q 0 [] := ⟨rfl, by simp⟩
theorem wd_cons {q n : Nat} {a : Int} {w : List Int} (ha : El q a) (hw : Wd q n w) : Wd q (n + 1) (a :: w) :=
 ⟨by simp [hw.1], by intro x hx; exact (List.mem_cons.mp hx).elim (fun e => e ▸ ha) (fun e => hw.2 x e)⟩
theorem wd_head {q n : Nat} {a : Int} {w : List Int} (h : Wd q (n + 1) (a :: w)) : El q a ∧ Wd q n w :=
 ⟨h.2 a (by simp), by have := h.1; simp at this; exact this, fun x hx => h.2 x (by simp [hx])⟩
theorem wd_zero {q : Nat} {w : List Int} (h : Wd q 0 w) : w = [] := List.length_eq_zero_iff.mp h.1
theorem ws_congr {q : Nat} : ∀ {n : Nat} {f g : List Int → Int}, (∀ w, Wd q n w → f w = g w) → ws q n f = ws q n g
 | 0, f, g, h => h [] (wd_nil q)
 | n + 1, f, g, h => se_congr fun a ha => ws_congr fun w hw => h (a :: w) (wd_cons ha hw)
theorem ws_zero {q : Nat} : ∀ {n : Nat} {f : List Int → Int}, (∀ w, Wd q n w → f w = 0) → ws q n f = 0
 | 0, f, h => h [] (wd_nil q)
 | n + 1, f, h => se_zero fun a ha => ws_zero fun w hw => h (a :: w) (wd_cons ha hw)
theorem ws_add {q : Nat} : ∀ (n : Nat) (f g : List Int → Int), ws q n (fun w => f w + g w) = ws q n f + ws q n g
 | 0, f, g => rfl
 | n + 1, f, g => by simp only [ws]; rw [se_congr (fun a _ => ws_add n _ _), se_add]
theorem ws_mul {q : Nat} : ∀ (n : Nat) (c : Int) (f : List Int → Int), ws q n (fun w => c * f w) = c * ws q n f
 | 0, c, f => rfl
 | n + 1, c, f => by simp only [ws]; rw [se_congr (fun a _ => ws_mul n c _), se_mul]
theorem ws_mul_right {q : Nat} (n : Nat) (c : Int) (f : List Int → Int) : ws q n (fun w => f w * c) = ws q n f * c := by
 rw [Int.mul_comm, ← ws_mul]; exact ws_congr fun w _ => Int.mul_comm _ _
theorem ws_se {q : Nat} : ∀ (n : Nat) (f : Int → List Int → Int), ws q n (fun w => se q (fun a => f a w)) = se q (fun a => ws q n (fun w => f a w))
 | 0, f => rfl
 | n + 1, f => by
  simp only [ws]
  rw [se_congr (fun a _ => ws_se n (fun b w => f b (a :: w))), se_swap]
theorem ws_sm {q : Nat} (m : Nat) : ∀ (n : Nat) (f : Nat → List Int → Int), ws q n (fun w => sm m (fun i => f i w)) = sm m (fun i => ws q n (fun w => f i w))
 | 0, f => rfl
 | n + 1, f => by
  simp only [ws]
  rw [se_congr (fun a _ => ws_sm m n (fun i w => f i (a :: w)))]
  unfold se
  rw [sm_swap]
theorem ws_single {q : Nat} : ∀ {n : Nat} {v : List Int} {f : List Int → Int}, Wd q n v → (∀ w, Wd q n w → w ≠ v → f w = 0) → ws q n f = f v
 | 0, v, f, hv, _ => by rw [wd_zero hv]; rfl
 | n + 1, [], f, hv, _ => by have := hv.1; simp at this
 | n + 1, b :: v, f, hv, h => by
  simp only [ws]
  have hb := wd_head hv
  rw [se_single hb.1 (fun a ha hne => ws_zero fun w hw => h _ (wd_cons ha hw) (fun e => hne (by injection e))),
   ws_single hb.2 (fun w hw hne => h _ (wd_cons hb.1 hw) (fun e => hne (by injection e)))]
section field
variable {q : Nat} {add mul : Int → Int → Int}
theorem Fld.el0 (F : Fld q add mul) : El q 0 := ⟨by omega, by have := F.two; omega⟩
theorem Fld.el1 (F : Fld q add mul) : El q 1 := ⟨by omega, by have := F.two; omega⟩
theorem Fld.zero_add (F : Fld q add mul) (x : Int) (hx : El q x) : add 0 x = x := by
 rw [F.add_comm 0 x F.el0 hx, F.add_zero x hx]
theorem Fld.cancel (F : Fld q add mul) (x y z : Int) (hx : El q x) (hy : El q y) (hz : El q z) (h : add x y = add x z) : y = z := by
 obtain ⟨n, hn, e⟩ := F.neg x hx
 have : add n (add x y) = add n (add x z) := by rw [h]
 rw [← F.add_assoc n x y hn hx hy, ← F.add_assoc n x z hn hx hz, F.add_comm n x hn hx, e, F.zero_add y hy, F.zero_add z hz] at this
 exact this
theorem Fld.mul_zero (F : Fld q add mul) (x : Int) (hx : El q x) : mul x 0 = 0 := by
 have h := F.distrib x 0 0 hx F.el0 F.el0
 rw [F.add_zero 0 F.el0] at h
 have hm := F.mul_el x 0 hx F.el0
 exact F.cancel (mul x 0) (mul x 0) 0 hm hm F.el0 (by rw [← h, F.add_zero _ hm])
theorem Fld.zero_mul (F : Fld q add mul) (x : Int) (hx : El q x) : mul 0 x = 0 := by
 rw [F.mul_comm 0 x F.el0 hx, F.mul_zero x hx]
theorem Fld.one_mul (F : Fld q add mul) (x : Int) (hx : El q x) : mul 1 x = x := by
 rw [F.mul_comm 1 x F.el1 hx, F.mul_one x hx]
theorem Fld.rdistrib (F : Fld q add mul) (x y z : Int) (hx : El q x) (hy : El q y) (hz : El q z) : mul (add y z) x = add (mul y x) (mul z x) := by
 rw [F.mul_comm _ x (F.add_el _ _ hy hz) hx, F.distrib x y z hx hy hz, F.mul_comm x y hx hy, F.mul_comm x z hx hz]
theorem Fld.inv (F : Fld q add mul) (x : Int) (hx : El q x) (h : x ≠ 0) : ∃ y, El q y ∧ mul x y = 1 := by
 have inj : ∀ a b, El q a → El q b → mul x a = mul x b → a = b := by
  intro a b ha hb e
  obtain ⟨n, hn, en⟩ := F.neg b hb
  have h0 : mul x (add a n) = 0 := by
   rw [F.distrib x a n hx ha hn, e, ← F.distrib x b n hx hb hn, en, F.mul_zero x hx]
  rcases F.nzd x (add a n) hx (F.add_el a n ha hn) h0 with g | g
  ·exact absurd g h
  ·have : add n a = add n b := by rw [F.add_comm n a hn ha, g, F.add_comm n b hn hb, en]
   exact F.cancel n a b hn ha hb this
 have := se_perm (q := q) (σ := mul x) (fun a ha => F.mul_el x a hx ha) inj (fun y => ind (y = 1))
 rw [se_single (f := fun y => ind (y = 1)) F.el1 (fun i _ hne => ind_false hne), ind_true rfl] at this
 refine Classical.byContradiction fun hno => ?_
 rw [se_zero (fun a ha => ind_false (fun e => hno ⟨a, ha, e⟩))] at this
 omega
def wadd (add : Int → Int → Int) (u v : List Int) : List Int := List.zipWith add u v
def wscl (mul : Int → Int → Int) (a : Int) (u : List Int) : List Int := u.map (mul a)
def dot (add mul : Int → Int → Int) : List Int → List Int → Int
 | a :: u, b :: v => add (mul a b) (dot add mul u v)
 | _, _ => 0
theorem wd_wadd (F : Fld q add mul) : ∀ {n : Nat} {u v : List Int}, Wd q n u → Wd q n v → Wd q n (wadd add u v)
 | 0, u, v, hu, hv => by rw [wd_zero hu]; exact wd_nil q
 | n + 1, [], _, hu, _ => by have := hu.1; simp at this
 | n + 1, _ :: _, [], _, hv => by have := hv.1; simp at this
 | n + 1, a :: u, b :: v, hu, hv => by
  have h1 := wd_head hu
  have h2 := wd_head hv
  exact wd_cons (F.add_el a b h1.1 h2.1) (wd_wadd F h1.2 h2.2)
theorem wd_wscl (F : Fld q add mul) {n : Nat} {a : Int} {u : List Int} (ha : El q a) (hu : Wd q n u) : Wd q n (wscl mul a u) :=
 ⟨by unfold wscl; rw [List.length_map]; exact hu.1, by
  intro x hx
  unfold wscl at hx
  obtain ⟨y, hy, rfl⟩ := List.mem_map.mp hx
  exact F.mul_el a y ha (hu.2 y hy)⟩
theorem wd_rep {n : Nat} (h : El q 0) : Wd q n (List.replicate n 0) :=
 ⟨by simp, fun x hx => by rw [(List.mem_replicate.mp hx).2]; exact h⟩
theorem dot_el (F : Fld q add mul) : ∀ {n : Nat} {u v : List Int}, Wd q n u → Wd q n v → El q (dot add mul u v)
 | 0, u, v, hu, hv => by rw [wd_zero hu]; exact F.el0
 | n + 1, [], _, hu, _ => by have := hu.1; simp at this
 | n + 1, _ :: _, [], _, hv => by have := hv.1; simp at this
 | n + 1, a :: u, b :: v, hu, hv => by
  have h1 := wd_head hu
  have h2 := wd_head hv
  exact F.add_el _ _ (F.mul_el a b h1.1 h2.1) (dot_el F h1.2 h2.2)
theorem dot_add (F : Fld q add mul) : ∀ {n : Nat} {u v y : List Int}, Wd q n u → Wd q n v → Wd q n y → dot add mul (wadd add u v) y = add (dot add mul u y) (dot add mul v y)
 | 0, u, v, y, hu, hv, hy => by rw [wd_zero hu, wd_zero hv, wd_zero hy]; exact (F.add_zero 0 F.el0).symm
 | n + 1, [], _, _, hu, _, _ => by have := hu.1; simp at this
 | n + 1, _ :: _, [], _, _, hv, _ => by have := hv.1; simp at this
 | n + 1, _ :: _, _ :: _, [], _, _, hy => by have := hy.1; simp at this
 | n + 1, a :: u, b :: v, c :: y, hu, hv, hy => by
  have h1 := wd_head hu
  have h2 := wd_head hv
  have h3 := wd_head hy
  have ih := dot_add F h1.2 h2.2 h3.2
  show add (mul (add a b) c) (dot add mul (wadd add u v) y) = add (add (mul a c) (dot add mul u y)) (add (mul b c) (dot add mul v y))
  rw [ih, F.rdistrib c a b h3.1 h1.1 h2.1]
  have e1 := F.mul_el a c h1.1 h3.1
  have e2 := F.mul_el b c h2.1 h3.1
  have e3 := dot_el F h1.2 h3.2
  have e4 := dot_el F h2.2 h3.2
  rw [F.add_assoc _ _ _ e1 e2 (F.add_el _ _ e3 e4), F.add_assoc _ _ _ e1 e3 (F.add_el _ _ e2 e4), ← F.add_assoc _ _ _ e2 e3 e4, F.add_comm _ _ e2 e3, F.add_assoc _ _ _ e3 e2 e4]
theorem dot_scl (F : Fld q add mul) : ∀ {n : Nat} {a : Int} {u y : List Int}, El q a → Wd q n u → Wd q n y → dot add mul (wscl mul a u) y = mul a (dot add mul u y)
 | 0, a, u, y, ha, hu, hy => by rw [wd_zero hu, wd_zero hy]; exact (F.mul_zero a ha).symm
 | n + 1, _, [], _, _, hu, _ => by have := hu.1; simp at this
 | n + 1, _, _ :: _, [], _, _, hy => by have := hy.1; simp at this
 | n + 1, a, b :: u, c :: y, ha, hu, hy => by
  have h1 := wd_head hu
  have h3 := wd_head hy
  have ih := dot_scl F ha h1.2 h3.2
  show add (mul (mul a b) c) (dot add mul (wscl mul a u) y) = mul a (add (mul b c) (dot add mul u y))
  rw [ih, F.distrib _ _ _ ha (F.mul_el _ _ h1.1 h3.1) (dot_el F h1.2 h3.2), F.mul_assoc a b c ha h1.1 h3.1]
theorem dot_comm (F : Fld q add mul) : ∀ {n : Nat} {u v : List Int}, Wd q n u → Wd q n v → dot add mul u v = dot add mul v u
 | 0, u, v, hu, hv => by rw [wd_zero hu, wd_zero hv]
 | n + 1, [], _, hu, _ => by have := hu.1; simp at this
 | n + 1, _ :: _, [], _, hv => by have := hv.1; simp at this
 | n + 1, a :: u, b :: v, hu, hv => by
  have h1 := wd_head hu
  have h2 := wd_head hv
  show add (mul a b) (dot add mul u v) = add (mul b a) (dot add mul v u)
  rw [F.mul_comm a b h1.1 h2.1, dot_comm F h1.2 h2.2]
theorem dot_rep (F : Fld q add mul) : ∀ {n : Nat} {y : List Int}, Wd q n y → dot add mul (List.replicate n 0) y = 0
 | 0, y, hy => by rw [wd_zero hy]; rfl
 | n + 1, [], hy => by have := hy.1; simp at this
 | n + 1, c :: y, hy => by
  have h := wd_head hy
  show add (mul 0 c) (dot add mul (List.replicate n 0) y) = 0
  rw [dot_rep F h.2, F.zero_mul c h.1, F.add_zero 0 F.el0]
theorem wadd_rep (F : Fld q add mul) : ∀ {n : Nat} {u : List Int}, Wd q n u → wadd add u (List.replicate n 0) = u
 | 0, u, hu => by rw [wd_zero hu]; rfl
 | n + 1, [], hu => by have := hu.1; simp at this
 | n + 1, a :: u, hu => by
  have h := wd_head hu
  show add a 0 :: wadd add u (List.replicate n 0) = a :: u
  rw [F.add_zero a h.1, wadd_rep F h.2]
theorem wadd_comm (F : Fld q add mul) : ∀ {n : Nat} {u v : List Int}, Wd q n u → Wd q n v → wadd add u v = wadd add v u
 | 0, u, v, hu, hv => by rw [wd_zero hu, wd_zero hv]
 | n + 1, [], _, hu, _ => by have := hu.1; simp at this
 | n + 1, _ :: _, [], _, hv => by have := hv.1; simp at this
 | n + 1, a :: u, b :: v, hu, hv => by
  have h1 := wd_head hu
  have h2 := wd_head hv
  show add a b :: wadd add u v = add b a :: wadd add v u
  rw [F.add_comm a b h1.1 h2.1, wadd_comm F h1.2 h2.2]
theorem wadd_assoc (F : Fld q add mul) : ∀ {n : Nat} {u v y : List Int}, Wd q n u → Wd q n v → Wd q n y → wadd add (wadd add u v) y = wadd add u (wadd add v y)
 | 0, u, v, y, hu, hv, hy => by rw [wd_zero hu, wd_zero hv, wd_zero hy]; rfl
 | n + 1, [], _, _, hu, _, _ => by have := hu.1; simp at this
 | n + 1, _ :: _, [], _, _, hv, _ => by have := hv.1; simp at this
 | n + 1, _ :: _, _ :: _, [], _, _, hy => by have := hy.1; simp at this
 | n + 1, a :: u, b :: v, c :: y, hu, hv, hy => by
  have h1 := wd_head hu
  have h2 := wd_head hv
  have h3 := wd_head hy
  show add (add a b) c :: wadd add (wadd add u v) y = add a (add b c) :: wadd add u (wadd add v y)
  rw [F.add_assoc a b c h1.1 h2.1 h3.1, wadd_assoc F h1.2 h2.2 h3.2]
theorem wscl_zero (F : Fld q add mul) : ∀ {n : Nat} {u : List Int}, Wd q n u → wscl mul 0 u = List.replicate n 0
 | 0, u, hu => by rw [wd_zero hu]; rfl
 | n + 1, [], hu => by have := hu.1; simp at this
 | n + 1, a :: u, hu => by
  have h := wd_head hu
  show mul 0 a :: wscl mul 0 u = 0 :: List.replicate n 0
  rw [F.zero_mul a h.1, wscl_zero F h.2]
theorem wscl_one (F : Fld q add mul) : ∀ {n : Nat} {u : List Int}, Wd q n u → wscl mul 1 u = u
 | 0, u, hu => by rw [wd_zero hu]; rfl
 | n + 1, [], hu => by have := hu.1; simp at this
 | n + 1, a :: u, hu => by
  have h := wd_head hu
  show mul 1 a :: wscl mul 1 u = a :: u
  rw [F.one_mul a h.1, wscl_one F h.2]
theorem wscl_rep (F : Fld q add mul) {a : Int} (ha : El q a) (n : Nat) : wscl mul a (List.replicate n 0) = List.replicate n 0 := by
 unfold wscl; rw [List.map_replicate, F.mul_zero a ha]
theorem wscl_wscl (F : Fld q add mul) {a b : Int} (ha : El q a) (hb : El q b) : ∀ {n : Nat} {u : List Int}, Wd q n u → wscl mul a (wscl mul b u) = wscl mul (mul a b) u
 | 0, u, hu => by rw [wd_zero hu]; rfl
 | n + 1, [], hu => by have := hu.1; simp at this
 | n + 1, c :: u, hu => by
  have h := wd_head hu
  show mul a (mul b c) :: wscl mul a (wscl mul b u) = mul (mul a b) c :: wscl mul (mul a b) u
  rw [F.mul_assoc a b c ha hb h.1, wscl_wscl F ha hb h.2]
theorem wscl_wadd (F : Fld q add mul) {a : Int} (ha : El q a) : ∀ {n : Nat} {u v : List Int}, Wd q n u → Wd q n v → wscl mul a (wadd add u v) = wadd add (wscl mul a u) (wscl mul a v)
 | 0, u, v, hu, hv => by rw [wd_zero hu, wd_zero hv]; rfl
 | n + 1, [], _, hu, _ => by have := hu.1; simp at this
 | n + 1, _ :: _, [], _, hv => by have := hv.1; simp at this
 | n + 1, b :: u, c :: v, hu, hv => by
  have h1 := wd_head hu
  have h2 := wd_head hv
  show mul a (add b c) :: wscl mul a (wadd add u v) = add (mul a b) (mul a c) :: wadd add (wscl mul a u) (wscl mul a v)
  rw [F.distrib a b c ha h1.1 h2.1, wscl_wadd F ha h1.2 h2.2]
theorem wscl_add (F : Fld q add mul) {a b : Int} (ha : El q a) (hb : El q b) : ∀ {n : Nat} {u : List Int}, Wd q n u → wscl mul (add a b) u = wadd add (wscl mul a u) (wscl mul b u)
 | 0, u, hu => by rw [wd_zero hu]; rfl
 | n + 1, [], hu => by have := hu.1; simp at this
 | n + 1, c :: u, hu => by
  have h1 := wd_head hu
  show mul (add a b) c :: wscl mul (add a b) u = add (mul a c) (mul b c) :: wadd add (wscl mul a u) (wscl mul b u)
  rw [F.rdistrib c a b h1.1 ha hb, wscl_add F ha hb h1.2]
theorem wneg (F : Fld q add mul) : ∃ m, El q m ∧ add 1 m = 0 ∧ ∀ {n : Nat} {u : List Int}, Wd q n u → wadd add u (wscl mul m u) = List.replicate n 0 := by
 obtain ⟨m, hm, e⟩ := F.neg 1 F.el1
 refine ⟨m, hm, e, fun {n u} hu => ?_⟩
 have := wscl_add F F.el1 hm hu
 rw [e, wscl_one F hu, wscl_zero F hu] at this
 exact this.symm
theorem ws_shift (F : Fld q add mul) : ∀ {n : Nat} {t : List Int}, Wd q n t → ∀ f, ws q n (fun w => f (wadd add t w)) = ws q n f
 | 0, t, ht, f => by rw [wd_zero ht]; rfl
 | n + 1, [], ht, _ => by have := ht.1; simp at this
 | n + 1, b :: t, ht, f => by
  have h := wd_head ht
  show se q (fun a => ws q n (fun w => f (add b a :: wadd add t w))) = se q (fun a => ws q n (fun w => f (a :: w)))
  rw [se_congr (fun a _ => ws_shift F h.2 (fun w => f (add b a :: w)))]
  exact se_perm (σ := add b) (fun a ha => F.add_el b a h.1 ha) (fun a c ha hc e => F.cancel b a c h.1 ha hc e) (fun a => ws q n (fun w => f (a :: w)))
structure Lin (q : Nat) (add mul : Int → Int → Int) (n : Nat) (C : List Int → Prop) : Prop where
 zero : C (List.replicate n 0)
 add : ∀ u v, Wd q n u → Wd q n v → C u → C v → C (wadd add u v)
 scl : ∀ a u, El q a → Wd q n u → C u → C (wscl mul a u)
def Dl (q : Nat) (add mul : Int → Int → Int) (n : Nat) (C : List Int → Prop) (d : List Int) : Prop := ∀ c, Wd q n c → C c → dot add mul c d = 0
def Van : List Bool → List Int → Prop
 | s :: S, a :: w => (s = true → a = 0) ∧ Van S w
 | _, _ => True
def cnt : List Bool → Nat
 | [] => 0
 | true :: S => cnt S + 1
 | false :: S => cnt S
theorem cnt_not : ∀ S : List Bool, cnt (S.map not) + cnt S = S.length
 | [] => rfl
 | true :: S => by have := cnt_not S; simp only [List.map_cons, Bool.not_true, cnt, List.length_cons]; omega
 | false :: S => by have := cnt_not S; simp only [List.map_cons, Bool.not_false, cnt, List.length_cons]; omega
theorem not_not_list : ∀ S : List Bool, (S.map not).map not = S
 | [] => rfl
 | s :: S => by have := not_not_list S; simp only [List.map_cons, Bool.not_not, this]
theorem ind_cons_true (C : List Int → Prop) (S : List Bool) (a : Int) (w : List Int) : ind (C (a :: w) ∧ Van (true :: S) (a :: w)) = ind (a = 0) * ind (C (a :: w) ∧ Van S w) := by
 rw [← ind_and]; refine ind_congr ⟨fun h => ⟨h.2.1 rfl, h.1, h.2.2⟩, fun h => ⟨h.2.1, fun _ => h.1, h.2.2⟩⟩
theorem ind_cons_false (C : List Int → Prop) (S : List Bool) (a : Int) (w : List Int) : ind (C (a :: w) ∧ Van (false :: S) (a :: w)) = ind (C (a :: w) ∧ Van S w) :=
 ind_congr ⟨fun h => ⟨h.1, h.2.2⟩, fun h => ⟨h.1, fun e => by simp at e, h.2⟩⟩
theorem ws_at0 (h0 : El q 0) (n : Nat) (C : List Int → Prop) (S : List Bool) :
  ws q (n + 1) (fun c => ind (C c ∧ Van (true :: S) c)) = ws q n (fun w => ind (C (0 :: w) ∧ Van S w)) := by
 simp only [ws]
 rw [se_congr (fun a _ => ws_congr (fun w _ => ind_cons_true C S a w))]
 rw [se_congr (fun a _ => ws_mul n (ind (a = 0)) _)]
 rw [se_single h0 (fun i _ hne => by rw [ind_false hne]; simp)]
 rw [ind_true rfl]; simp
theorem ws_any (n : Nat) (C : List Int → Prop) (S : List Bool) :
  ws q (n + 1) (fun c => ind (C c ∧ Van (false :: S) c)) = ws q n (fun w => ind (Van S w) * se q (fun a => ind (C (a :: w)))) := by
 simp only [ws]
 rw [se_congr (fun a _ => ws_congr (fun w _ => ind_cons_false C S a w))]
 rw [← ws_se]
 refine ws_congr fun w _ => ?_
 rw [← se_mul]
 refine se_congr fun a _ => ?_
 rw [← ind_and]
 exact ind_congr ⟨fun h => ⟨h.2, h.1⟩, fun h => ⟨h.2, h.1⟩⟩
theorem ws_all (n : Nat) (C : List Int → Prop) : ws q (n + 1) (fun c => ind (C c)) = ws q n (fun w => se q (fun a => ind (C (a :: w)))) := by
 simp only [ws]; rw [ws_se]
theorem ind_van_mul (C : List Int → Prop) (S : List Bool) (w : List Int) : ind (Van S w) * ind (C w) = ind (C w ∧ Van S w) := by
 rw [← ind_and]; exact ind_congr ⟨fun h => ⟨h.2, h.1⟩, fun h => ⟨h.2, h.1⟩⟩
theorem key (F : Fld q add mul) : ∀ (n : Nat) (C : List Int → Prop), Lin q add mul n C → ∀ S : List Bool, S.length = n →
  ws q n (fun c => ind (C c ∧ Van S c)) * (q : Int) ^ cnt S = ws q n (fun c => ind (C c)) * ws q n (fun d => ind (Dl q add mul n C d ∧ Van (S.map not) d)) := by
 intro n
 induction n with
 | zero =>
  intro C hC S hS
  have hS : S = [] := List.length_eq_zero_iff.mp hS
  subst hS
  have h0 : C [] := hC.zero
  show ind (C [] ∧ True) * (q : Int) ^ 0 = ind (C []) * ind (Dl q add mul 0 C [] ∧ True)
  rw [ind_true ⟨h0, trivial⟩, ind_true h0, ind_true ⟨fun c hc _ => by rw [wd_zero hc]; rfl, trivial⟩]
  rfl
 | succ n ih =>
  intro C hC S hS
  obtain ⟨s, S, rfl⟩ : ∃ s S', S = s :: S' := by
   cases S with
   | nil => simp at hS
   | cons s S => exact ⟨s, S, rfl⟩
  have hS' : S.length = n := by simp at hS; exact hS
  have two := F.two
  cases s with
  | true =>
   have hC0 : Lin q add mul n (fun w => C (0 :: w)) := ⟨hC.zero,
    fun u v hu hv h1 h2 => by
     have := hC.add (0 :: u) (0 :: v) (wd_cons F.el0 hu) (wd_cons F.el0 hv) h1 h2
     rw [show wadd add (0 :: u) (0 :: v) = add 0 0 :: wadd add u v from rfl, F.add_zero 0 F.el0] at this
     exact this,
    fun a u ha hu h1 => by
     have := hC.scl a (0 :: u) ha (wd_cons F.el0 hu) h1
     rw [show wscl mul a (0 :: u) = mul a 0 :: wscl mul a u from rfl, F.mul_zero a ha] at this
     exact this⟩
   have IH := ih _ hC0 S hS'
   rw [ws_at0 F.el0]
   show _ * (q : Int) ^ (cnt S + 1) = _ * ws q (n + 1) (fun d => ind (Dl q add mul (n + 1) C d ∧ Van (false :: S.map not) d))
   rw [ws_any, ws_all]
   by_cases hA : ∀ a w, El q a → Wd q n w → C (a :: w) → a = 0
   ·
    have e1 : ws q n (fun w => se q (fun a => ind (C (a :: w)))) = ws q n (fun w => ind (C (0 :: w))) := by
     refine ws_congr fun w hw => ?_
     exact se_single (f := fun a => ind (C (a :: w))) F.el0 (fun a ha hne => ind_false (fun h => hne (hA a w ha hw h)))
    have e2 : ws q n (fun w => ind (Van (S.map not) w) * se q (fun a => ind (Dl q add mul (n + 1) C (a :: w)))) =
      (q : Int) * ws q n (fun w => ind (Dl q add mul n (fun w => C (0 :: w)) w ∧ Van (S.map not) w)) := by
     rw [← ws_mul]
     refine ws_congr fun y hy => ?_
     have : ∀ b, El q b → ind (Dl q add mul (n + 1) C (b :: y)) = ind (Dl q add mul n (fun w => C (0 :: w)) y) := by
      intro b hb
      refine ind_congr ⟨fun h c hc h1 => ?_, fun h c hc h1 => ?_⟩
      ·have := h (0 :: c) (wd_cons F.el0 hc) h1
       rw [show dot add mul (0 :: c) (b :: y) = add (mul 0 b) (dot add mul c y) from rfl, F.zero_mul b hb, F.zero_add _ (dot_el F hc hy)] at this
       exact this
      ·cases c with
       | nil => have := hc.1; simp at this
       | cons a c =>
        have hh := wd_head hc
        have := hA a c hh.1 hh.2 h1
        subst this
        rw [show dot add mul (0 :: c) (b :: y) = add (mul 0 b) (dot add mul c y) from rfl, F.zero_mul b hb, F.zero_add _ (dot_el F hh.2 hy)]
        exact h c hh.2 h1
     rw [se_congr this, se_const, ← ind_van_mul]
     grind
    rw [e1, e2, Int.pow_succ, ← Int.mul_assoc, IH]
    grind
   ·
    have hB : ∃ w1, Wd q n w1 ∧ C (1 :: w1) := by
     refine Classical.byContradiction fun hno => hA fun a w ha hw h => Classical.byContradiction fun hne => hno ?_
     obtain ⟨i, hi, e⟩ := F.inv a ha hne
     refine ⟨wscl mul i w, wd_wscl F hi hw, ?_⟩
     have := hC.scl i (a :: w) hi (wd_cons ha hw) h
     rw [show wscl mul i (a :: w) = mul i a :: wscl mul i w from rfl, F.mul_comm i a hi ha, e] at this
     exact this
    obtain ⟨w1, hw1, h1⟩ := hB
    obtain ⟨m, hm, em, hneg⟩ := wneg F
    have move : ∀ a w, El q a → Wd q n w → (C (a :: wadd add (wscl mul a w1) w) ↔ C (0 :: w)) := by
     intro a w ha hw
     have hs : C (a :: wscl mul a w1) := by
      have := hC.scl a (1 :: w1) ha (wd_cons F.el1 hw1) h1
      rw [show wscl mul a (1 :: w1) = mul a 1 :: wscl mul a w1 from rfl, F.mul_one a ha] at this
      exact this
     have hsw := wd_wscl F ha hw1
     constructor
     ·intro h
      have hn := hC.scl m _ hm (wd_cons ha hsw) hs
      have hadd := hC.add _ _ (wd_wscl F hm (wd_cons ha hsw)) (wd_cons ha (wd_wadd F hsw hw)) hn h
      have e : wadd add (wscl mul m (a :: wscl mul a w1)) (a :: wadd add (wscl mul a w1) w) = 0 :: w := by
       rw [show (a :: wadd add (wscl mul a w1) w) = wadd add (a :: wscl mul a w1) (0 :: w) from by
        show _ = add a 0 :: _; rw [F.add_zero a ha]; rfl]
       rw [← wadd_assoc F (wd_wscl F hm (wd_cons ha hsw)) (wd_cons ha hsw) (wd_cons F.el0 hw), wadd_comm F (wd_wscl F hm (wd_cons ha hsw)) (wd_cons ha hsw), hneg (wd_cons ha hsw),
        wadd_comm F (wd_rep F.el0) (wd_cons F.el0 hw), wadd_rep F (wd_cons F.el0 hw)]
      rw [e] at hadd
      exact hadd
     ·intro h
      have hadd := hC.add _ _ (wd_cons ha hsw) (wd_cons F.el0 hw) hs h
      rw [show wadd add (a :: wscl mul a w1) (0 :: w) = add a 0 :: wadd add (wscl mul a w1) w from rfl, F.add_zero a ha] at hadd
      exact hadd
    have e1 : ws q n (fun w => se q (fun a => ind (C (a :: w)))) = (q : Int) * ws q n (fun w => ind (C (0 :: w))) := by
     rw [ws_se, ← se_const]
     refine se_congr fun a ha => ?_
     rw [← ws_shift F (wd_wscl F ha hw1) (fun w => ind (C (a :: w)))]
     exact ws_congr fun w hw => ind_congr (move a w ha hw)
    have e2 : ws q n (fun w => ind (Van (S.map not) w) * se q (fun a => ind (Dl q add mul (n + 1) C (a :: w)))) =
      ws q n (fun w => ind (Dl q add mul n (fun w => C (0 :: w)) w ∧ Van (S.map not) w)) := by
     refine ws_congr fun y hy => ?_
     have hd := dot_el F hw1 hy
     obtain ⟨b0, hb0, eb0⟩ := F.neg _ hd
     have : ∀ b, El q b → ind (Dl q add mul (n + 1) C (b :: y)) = ind (b = b0) * ind (Dl q add mul n (fun w => C (0 :: w)) y) := by
      intro b hb
      rw [← ind_and]
      refine ind_congr ⟨fun h => ⟨?_, fun c hc hcc => ?_⟩, fun h c hc hcc => ?_⟩
      ·have := h (1 :: w1) (wd_cons F.el1 hw1) h1
       rw [show dot add mul (1 :: w1) (b :: y) = add (mul 1 b) (dot add mul w1 y) from rfl, F.one_mul b hb, F.add_comm _ _ hb hd] at this
       exact F.cancel _ _ _ hd hb hb0 (by rw [this, eb0])
      ·have := h (0 :: c) (wd_cons F.el0 hc) hcc
       rw [show dot add mul (0 :: c) (b :: y) = add (mul 0 b) (dot add mul c y) from rfl, F.zero_mul b hb, F.zero_add _ (dot_el F hc hy)] at this
       exact this
      ·cases c with
       | nil => have := hc.1; simp at this
       | cons a c =>
        have hh := wd_head hc
        obtain ⟨rfl, hdual⟩ := h
        have hmw := wd_wscl F hm (wd_wscl F hh.1 hw1)
        have hc' : c = wadd add (wscl mul a w1) (wadd add (wscl mul m (wscl mul a w1)) c) := by
         rw [← wadd_assoc F (wd_wscl F hh.1 hw1) hmw hh.2, hneg (wd_wscl F hh.1 hw1), wadd_comm F (wd_rep F.el0) hh.2, wadd_rep F hh.2]
        have hin : C (0 :: wadd add (wscl mul m (wscl mul a w1)) c) := by
         rw [← move a _ hh.1 (wd_wadd F hmw hh.2), ← hc']; exact hcc
        have hz := hdual _ (wd_wadd F hmw hh.2) hin
        have hdc : dot add mul c y = mul a (dot add mul w1 y) := by
         rw [hc', dot_add F (wd_wscl F hh.1 hw1) (wd_wadd F hmw hh.2) hy, hz, F.add_zero _ (dot_el F (wd_wscl F hh.1 hw1) hy), dot_scl F hh.1 hw1 hy]
        show add (mul a b) (dot add mul c y) = 0
        rw [hdc, ← F.distrib a b _ hh.1 hb hd, F.add_comm b _ hb hd, eb0, F.mul_zero a hh.1]
     rw [se_congr this, se_mul_right, se_single (f := fun b => ind (b = b0)) hb0 (fun i _ hne => ind_false hne), ind_true rfl, ← ind_van_mul]
     simp
    rw [e1, e2, Int.pow_succ, ← Int.mul_assoc, IH]
    grind
  | false =>
   have hC1 : Lin q add mul n (fun w => ∃ a, El q a ∧ C (a :: w)) := ⟨⟨0, F.el0, hC.zero⟩,
    fun u v hu hv ⟨a, ha, h1⟩ ⟨b, hb, h2⟩ => ⟨add a b, F.add_el a b ha hb, hC.add _ _ (wd_cons ha hu) (wd_cons hb hv) h1 h2⟩,
    fun a u ha hu ⟨b, hb, h1⟩ => ⟨mul a b, F.mul_el a b ha hb, hC.scl a _ ha (wd_cons hb hu) h1⟩⟩
   have IH := ih _ hC1 S hS'
   rw [ws_any]
   show _ * (q : Int) ^ (cnt S) = _ * ws q (n + 1) (fun d => ind (Dl q add mul (n + 1) C d ∧ Van (true :: S.map not) d))
   rw [ws_at0 F.el0, ws_all]
   have e3 : ws q n (fun y => ind (Dl q add mul (n + 1) C (0 :: y) ∧ Van (S.map not) y)) = ws q n (fun y => ind (Dl q add mul n (fun w => ∃ a, El q a ∧ C (a :: w)) y ∧ Van (S.map not) y)) := by
    refine ws_congr fun y hy => ?_
    have : Dl q add mul (n + 1) C (0 :: y) ↔ Dl q add mul n (fun w => ∃ a, El q a ∧ C (a :: w)) y := by
     constructor
     ·intro h c hc ⟨a, ha, hcc⟩
      have := h (a :: c) (wd_cons ha hc) hcc
      rw [show dot add mul (a :: c) (0 :: y) = add (mul a 0) (dot add mul c y) from rfl, F.mul_zero a ha, F.zero_add _ (dot_el F hc hy)] at this
      exact this
     ·intro h c hc hcc
      cases c with
      | nil => have := hc.1; simp at this
      | cons a c =>
       have hh := wd_head hc
       show add (mul a 0) (dot add mul c y) = 0
       rw [F.mul_zero a hh.1, F.zero_add _ (dot_el F hh.2 hy)]
       exact h c hh.2 ⟨a, hh.1, hcc⟩
    exact ind_congr ⟨fun h => ⟨this.mp h.1, h.2⟩, fun h => ⟨this.mpr h.1, h.2⟩⟩
   rw [e3]
   obtain ⟨m, hm, em, hneg⟩ := wneg F
   by_cases hA : C (1 :: List.replicate n 0)
   ·
    have free : ∀ a b w, El q a → El q b → Wd q n w → C (a :: w) → C (b :: w) := by
     intro a b w ha hb hw h
     obtain ⟨na, hna, ena⟩ := F.neg a ha
     have hs := hC.scl (add na b) _ (F.add_el na b hna hb) (wd_cons F.el1 (wd_rep F.el0)) hA
     rw [show wscl mul (add na b) (1 :: List.replicate n 0) = mul (add na b) 1 :: wscl mul (add na b) (List.replicate n 0) from rfl, F.mul_one _ (F.add_el na b hna hb), wscl_rep F (F.add_el na b hna hb)] at hs
     have := hC.add _ _ (wd_cons ha hw) (wd_cons (F.add_el na b hna hb) (wd_rep F.el0)) h hs
     rw [show wadd add (a :: w) (add na b :: List.replicate n 0) = add a (add na b) :: wadd add w (List.replicate n 0) from rfl, ← F.add_assoc a na b ha hna hb, ena, F.zero_add b hb, wadd_rep F hw] at this
     exact this
    have e1 : ∀ w, Wd q n w → se q (fun a => ind (C (a :: w))) = (q : Int) * ind (∃ a, El q a ∧ C (a :: w)) := by
     intro w hw
     rw [← se_const]
     exact se_congr fun a ha => ind_congr ⟨fun h => ⟨a, ha, h⟩, fun ⟨b, hb, h⟩ => free b a w hb ha hw h⟩
    rw [ws_congr (fun w hw => by rw [e1 w hw]), ws_congr (f := fun w => se q (fun a => ind (C (a :: w)))) (fun w hw => e1 w hw), ws_mul]
    have e2 : ws q n (fun w => ind (Van S w) * ((q : Int) * ind (∃ a, El q a ∧ C (a :: w)))) = (q : Int) * ws q n (fun c => ind ((∃ a, El q a ∧ C (a :: c)) ∧ Van S c)) := by
     rw [← ws_mul]
     refine ws_congr fun w _ => ?_
     rw [← ind_van_mul (fun w => ∃ a, El q a ∧ C (a :: w))]; grind
    rw [e2, Int.mul_assoc, IH]
    grind
   ·
    have e1 : ∀ w, Wd q n w → se q (fun a => ind (C (a :: w))) = ind (∃ a, El q a ∧ C (a :: w)) := by
     intro w hw
     by_cases h : ∃ a, El q a ∧ C (a :: w)
     ·obtain ⟨a, ha, hc⟩ := h
      rw [ind_true ⟨a, ha, hc⟩]
      rw [se_single (f := fun a => ind (C (a :: w))) ha, ind_true hc]
      intro b hb hne
      refine ind_false fun hcb => hA ?_
      have hn := hC.scl m _ hm (wd_cons ha hw) hc
      have hd := hC.add _ _ (wd_cons hb hw) (wd_wscl F hm (wd_cons ha hw)) hcb hn
      rw [show wadd add (b :: w) (wscl mul m (a :: w)) = add b (mul m a) :: wadd add w (wscl mul m w) from rfl, hneg hw] at hd
      have hma := F.mul_el m a hm ha
      have hne2 : add b (mul m a) ≠ 0 := by
       intro e
       have ea : add (mul m a) a = 0 := by
        have := F.rdistrib a m 1 ha hm F.el1
        rw [F.one_mul a ha, F.add_comm m 1 hm F.el1, em, F.zero_mul a ha] at this
        exact this.symm
       exact hne (F.cancel (mul m a) b a hma hb ha (by rw [F.add_comm _ b hma hb, e, ea]))
      have hel := F.add_el b _ hb hma
      obtain ⟨i, hi, ei⟩ := F.inv _ hel hne2
      have := hC.scl i _ hi (wd_cons hel (wd_rep F.el0)) hd
      rw [show wscl mul i (add b (mul m a) :: List.replicate n 0) = mul i (add b (mul m a)) :: wscl mul i (List.replicate n 0) from rfl, F.mul_comm i _ hi hel, ei, wscl_rep F hi] at this
      exact this
     ·rw [ind_false h]
      exact se_zero fun a ha => ind_false fun hc => h ⟨a, ha, hc⟩
    rw [ws_congr (fun w hw => by rw [e1 w hw, ind_van_mul (fun w => ∃ a, El q a ∧ C (a :: w))]), ws_congr (f := fun w => se q (fun a => ind (C (a :: w)))) (fun w hw => e1 w hw)]
    exact IH
end field
end Mw
end
section
set_option linter.unusedVariables false
namespace Mw
def Dg (n : Nat) (f : Int → Int) : Prop := ∃ c : Nat → Int, ∀ z, f z = sm n (fun i => c i * z ^ i)
def Pol (f : Int → Int) : Prop := ∃ n, Dg n f
theorem dg_zero' (n : Nat) : Dg n (fun _ => 0) := ⟨fun _ => 0, fun z => (sm_zero (fun i _ => by simp)).symm⟩
theorem dg_mono {n k : Nat} {f : Int → Int} (h : Dg n f) (hk : n ≤ k) : Dg k f := by
 obtain ⟨c, hc⟩ := h
 refine ⟨fun i => if i < n then c i else 0, fun z => ?_⟩
 try dsimp only
 rw [hc z, sm_more (m := n) (n := k) hk (fun i hi => by rw [if_neg (by omega)]; simp)]
 exact sm_congr (fun i hi => by rw [if_pos hi])
theorem dg_add {n : Nat} {f g : Int → Int} (h : Dg n f) (k : Dg n g) : Dg n (fun z => f z + g z) := by
 obtain ⟨c, hc⟩ := h
 obtain ⟨d, hd⟩ := k
 refine ⟨fun i => c i + d i, fun z => ?_⟩
 try dsimp only
 rw [hc z, hd z, ← sm_add]
 exact sm_congr (fun i _ => by rw [Int.add_mul])
theorem dg_smul {n : Nat} {f : Int → Int} (a : Int) (h : Dg n f) : Dg n (fun z => a * f z) := by
 obtain ⟨c, hc⟩ := h
 refine ⟨fun i => a * c i, fun z => ?_⟩
 try dsimp only
 rw [hc z, ← sm_mul]
 exact sm_congr (fun i _ => by rw [Int.mul_assoc])
theorem dg_congr {n : Nat} {f g : Int → Int} (h : Dg n f) (e : ∀ z, g z = f z) : Dg n g := by
 obtain ⟨c, hc⟩ := h
 exact ⟨c, fun z => by rw [e z, hc z]⟩
theorem dg_sub {n : Nat} {f g : Int → Int} (h : Dg n f) (k : Dg n g) : Dg n (fun z => f z - g z) :=
 dg_congr (dg_add h (dg_smul (-1) k)) (fun z => by grind)
theorem dg_pow (k : Nat) : Dg (k + 1) (fun z => z ^ k) := by
 refine ⟨fun i => if i = k then 1 else 0, fun z => ?_⟩
 try dsimp only
 rw [sm_single (a := k) (by omega) (fun i _ hne => by rw [if_neg hne]; simp), if_pos rfl, Int.one_mul]
theorem dg_shift {n : Nat} {f : Int → Int} (k : Nat) (h : Dg n f) : Dg (n + k) (fun z => z ^ k * f z) := by
 induction k with
 | zero => exact dg_congr h (fun z => by simp)
 | succ k ih =>
  obtain ⟨c, hc⟩ := ih
  refine ⟨fun i => if i = 0 then 0 else c (i - 1), fun z => ?_⟩
  try dsimp only
  rw [show n + (k + 1) = (n + k) + 1 by omega, sm_head]
  have : z ^ (k + 1) * f z = z * (z ^ k * f z) := by rw [Int.pow_succ]; grind
  have hz : z ^ k * f z = sm (n + k) (fun i => c i * z ^ i) := hc z
  rw [this, hz, ← sm_mul]
  rw [if_pos rfl]
  have : sm (n + k) (fun i => z * (c i * z ^ i)) = sm (n + k) (fun i => (if i + 1 = 0 then 0 else c (i + 1 - 1)) * z ^ (i + 1)) := by
   refine sm_congr fun i _ => ?_
   rw [if_neg (by omega), Nat.add_sub_cancel, Int.pow_succ]
   grind
  rw [this]
  simp
theorem dg_sm {N : Nat} : ∀ (n : Nat) (h : Nat → Int → Int), (∀ i, i < n → Dg N (h i)) → Dg N (fun z => sm n (fun i => h i z)) := by
 intro n h
 induction n with
 | zero => intro _; exact dg_zero' N
 | succ n ih => intro hh; exact dg_add (ih (fun i hi => hh i (by omega))) (hh n (by omega))
theorem dg_mul {n k : Nat} {f g : Int → Int} (h : Dg n f) (hg : Dg k g) : Dg (n + k) (fun z => f z * g z) := by
 obtain ⟨c, hc⟩ := h
 refine dg_congr (dg_sm (N := n + k) n (fun i z => c i * (z ^ i * g z)) (fun i hi => dg_smul (c i) (dg_mono (dg_shift i hg) (by omega)))) (fun z => ?_)
 try dsimp only
 rw [hc z, ← sm_mul_right]
 exact sm_congr (fun i _ => by rw [Int.mul_assoc])
theorem dg_const (a : Int) : Dg 1 (fun _ => a) := ⟨fun _ => a, fun z => by simp [sm]⟩
theorem dg_sum {n : Nat} (c : Nat → Int) : Dg n (fun z => sm n (fun i => c i * z ^ i)) := ⟨c, fun _ => rfl⟩
theorem pol_zero : Pol (fun _ => 0) := ⟨0, dg_zero' 0⟩
theorem pol_const (a : Int) : Pol (fun _ => a) := ⟨1, dg_const a⟩
theorem pol_add {f g : Int → Int} (h : Pol f) (k : Pol g) : Pol (fun z => f z + g z) := by
 obtain ⟨n, hn⟩ := h
 obtain ⟨m, hm⟩ := k
 exact ⟨n + m, dg_add (dg_mono hn (by omega)) (dg_mono hm (by omega))⟩
theorem pol_mul {f g : Int → Int} (h : Pol f) (k : Pol g) : Pol (fun z => f z * g z) := by
 obtain ⟨n, hn⟩ := h
 obtain ⟨m, hm⟩ := k
 exact ⟨n + m, dg_mul hn hm⟩
theorem pol_smul {f : Int → Int} (a : Int) (h : Pol f) : Pol (fun z => a * f z) := by
 obtain ⟨n, hn⟩ := h
 exact ⟨n, dg_smul a hn⟩
theorem pol_pow (k : Nat) : Pol (fun z => z ^ k) := ⟨_, dg_pow k⟩
theorem pol_congr {f g : Int → Int} (h : Pol f) (e : ∀ z, g z = f z) : Pol g := by
 obtain ⟨n, hn⟩ := h
 exact ⟨n, dg_congr hn e⟩
def Cg (p : Int) (F f g : Int → Int) : Prop := ∃ A B, Pol A ∧ Pol B ∧ ∀ z, f z = g z + p * A z + F z * B z
section
variable {p : Int} {F f g h f' g' : Int → Int}
theorem cg_of (e : ∀ z, f z = g z) : Cg p F f g := ⟨_, _, pol_zero, pol_zero, fun z => by rw [e z]; simp⟩
theorem cg_symm (k : Cg p F f g) : Cg p F g f := by
 obtain ⟨A, B, hA, hB, e⟩ := k
 exact ⟨_, _, pol_smul (-1) hA, pol_smul (-1) hB, fun z => by rw [e z]; grind⟩
theorem cg_trans (k : Cg p F f g) (l : Cg p F g h) : Cg p F f h := by
 obtain ⟨A, B, hA, hB, e⟩ := k
 obtain ⟨A', B', hA', hB', e'⟩ := l
 exact ⟨_, _, pol_add hA hA', pol_add hB hB', fun z => by rw [e z, e' z]; grind⟩
theorem cg_add (k : Cg p F f g) (l : Cg p F f' g') : Cg p F (fun z => f z + f' z) (fun z => g z + g' z) := by
 obtain ⟨A, B, hA, hB, e⟩ := k
 obtain ⟨A', B', hA', hB', e'⟩ := l
 exact ⟨_, _, pol_add hA hA', pol_add hB hB', fun z => by show f z + f' z = (g z + g' z) + p * (A z + A' z) + F z * (B z + B' z); rw [e z, e' z]; grind⟩
theorem cg_mul (pf : Pol f') (pg : Pol g) (k : Cg p F f g) (l : Cg p F f' g') : Cg p F (fun z => f z * f' z) (fun z => g z * g' z) := by
 obtain ⟨A, B, hA, hB, e⟩ := k
 obtain ⟨A', B', hA', hB', e'⟩ := l
 refine ⟨_, _, pol_add (pol_mul hA pf) (pol_mul pg hA'), pol_add (pol_mul hB pf) (pol_mul pg hB'), fun z => ?_⟩
 show f z * f' z = g z * g' z + p * (A z * f' z + g z * A' z) + F z * (B z * f' z + g z * B' z)
 have e1 := e z
 have e2 := e' z
 have : f z * f' z = g z * g' z + (f z - g z) * f' z + g z * (f' z - g' z) := by grind
 rw [this, show f z - g z = p * A z + F z * B z by omega, show f' z - g' z = p * A' z + F z * B' z by omega]
 grind
theorem cg_p {A : Int → Int} (hA : Pol A) (e : ∀ z, f z = g z + p * A z) : Cg p F f g := ⟨_, _, hA, pol_zero, fun z => by rw [e z]; simp⟩
theorem cg_F {B : Int → Int} (hB : Pol B) (e : ∀ z, f z = g z + F z * B z) : Cg p F f g := ⟨_, _, pol_zero, hB, fun z => by rw [e z]; simp⟩
end
def Mon (m : Nat) (F : Int → Int) : Prop := ∃ G, Dg m G ∧ ∀ z, F z = z ^ m + G z
theorem coef_top {j : Nat} {b p : Int} {A E : Int → Int} (hA : Pol A) (hE : Dg j E) (h : ∀ z, b * z ^ j + p * A z = E z) : ∃ a, b = p * a := by
 obtain ⟨n, hn⟩ := hA
 obtain ⟨a, ha⟩ := dg_mono hn (show n ≤ n + j + 1 by omega)
 obtain ⟨c, hc⟩ := hE
 refine ⟨-a j, ?_⟩
 have key := poly_eq (n := n + j + 1) (c := fun i => (if i = j then b else 0) + p * a i) (d := fun i => if i < j then c i else 0) (fun z => ?_) j (by omega)
 ·simp only [if_true, Nat.lt_irrefl, if_false] at key
  rw [Int.mul_neg]; omega
 ·have e1 : sm (n + j + 1) (fun i => ((if i = j then b else 0) + p * a i) * z ^ i) = sm (n + j + 1) (fun i => (if i = j then b else 0) * z ^ i) + sm (n + j + 1) (fun i => p * (a i * z ^ i)) := by
   rw [← sm_add]
   exact sm_congr (fun i _ => by grind)
  rw [e1, sm_mul, ← ha z, sm_single (a := j) (by omega) (fun i _ hne => by rw [if_neg hne]; simp), if_pos rfl, h z, hc z]
  rw [sm_more (m := j) (n := n + j + 1) (by omega) (fun i hi => by rw [if_neg (by omega)]; simp)]
  exact sm_congr (fun i hi => by rw [if_pos hi])
theorem uniq {m : Nat} {p : Int} {F D : Int → Int} (hF : Mon m F) (hD : Dg m D) (h : Cg p F D (fun _ => 0)) : ∃ a : Nat → Int, ∀ z, D z = p * sm m (fun i => a i * z ^ i) := by
 obtain ⟨A, B, hA, ⟨k, hB⟩, e⟩ := h
 obtain ⟨G, hG, eF⟩ := hF
 have go : ∀ (k : Nat) (A B : Int → Int), Pol A → Dg k B → (∀ z, D z = p * A z + F z * B z) → ∃ a : Nat → Int, ∀ z, D z = p * sm m (fun i => a i * z ^ i) := by
  intro k
  induction k with
  | zero =>
   intro A B hA hB e
   obtain ⟨b, hb⟩ := hB
   obtain ⟨n, hn⟩ := hA
   obtain ⟨a, ha⟩ := dg_mono hn (show n ≤ n + m by omega)
   obtain ⟨d, hd⟩ := hD
   have key := poly_eq (n := n + m) (c := fun i => if i < m then d i else 0) (d := fun i => p * a i) (fun z => ?_)
   ·refine ⟨a, fun z => ?_⟩
    rw [hd z, ← sm_mul]
    refine sm_congr fun i hi => ?_
    have := key i (by omega)
    simp only [if_pos hi] at this
    rw [this, Int.mul_assoc]
   ·rw [sm_more (m := m) (n := n + m) (by omega) (fun i hi => by rw [if_neg (by omega)]; simp)]
    have e1 : sm m (fun i => (if i < m then d i else 0) * z ^ i) = D z := by
     rw [hd z]; exact sm_congr (fun i hi => by rw [if_pos hi])
    rw [e1, e z, hb z, ha z, ← sm_mul]
    simp only [sm, Int.mul_zero, Int.add_zero]
    exact sm_congr (fun i _ => by rw [Int.mul_assoc])
  | succ k ih =>
   intro A B hA hB e
   obtain ⟨b, hb⟩ := hB
   have hB' : Dg k (fun z => sm k (fun i => b i * z ^ i)) := dg_sum b
   have hE : Dg (m + k) (fun z => D z - (z ^ m * sm k (fun i => b i * z ^ i)) - G z * sm k (fun i => b i * z ^ i) - b k * (z ^ k * G z)) :=
    dg_sub (dg_sub (dg_sub (dg_mono hD (by omega)) (dg_mono (dg_shift m hB') (by omega))) (dg_mul hG hB')) (dg_smul (b k) (dg_shift k hG))
   obtain ⟨a, ha⟩ := coef_top (j := m + k) (b := b k) (p := p) hA hE (fun z => by
    rw [e z, eF z, hb z]
    simp only [sm, Int.pow_add]
    grind)
   refine ih (fun z => A z + a * (z ^ k * F z)) (fun z => sm k (fun i => b i * z ^ i)) (pol_add hA (pol_smul a (pol_mul (pol_pow k) (pol_congr (pol_add (pol_pow m) ⟨_, hG⟩) eF)))) hB' (fun z => ?_)
   try dsimp only
   rw [e z, hb z]
   simp only [sm]
   rw [ha]
   grind
 exact go k A B hA hB (fun z => by rw [e z]; simp)
theorem divide {d : Nat} {G : Int → Int} (hG : Dg d G) : ∀ (k : Nat) (f : Int → Int), Dg (d + k) f → ∃ h r, Dg k h ∧ Dg d r ∧ ∀ z, f z = (z ^ d + G z) * h z + r z := by
 intro k
 induction k with
 | zero => intro f hf; exact ⟨_, _, dg_zero' 0, hf, fun z => by simp⟩
 | succ k ih =>
  intro f hf
  obtain ⟨c, hc⟩ := hf
  have hf' : Dg (d + k) (fun z => sm (d + k) (fun i => c i * z ^ i) - c (d + k) * (z ^ k * G z)) := dg_sub (dg_sum c) (dg_smul _ (dg_shift k hG))
  obtain ⟨h, r, hh, hr, e⟩ := ih _ hf'
  refine ⟨fun z => h z + c (d + k) * z ^ k, r, dg_add (dg_mono hh (by omega)) (dg_smul _ (dg_pow k)), hr, fun z => ?_⟩
  try dsimp only
  have e1 := e z
  rw [hc z, show d + (k + 1) = (d + k) + 1 by omega]
  simp only [sm, Int.pow_add]
  grind
section
variable {p : Int} {m : Nat} {F : Int → Int}
theorem monic_of (unit : ∀ c : Int, ¬ p ∣ c → ∃ u t, c * u = 1 + p * t) {b : Int → Int} (hb : Pol b) : ∀ (n : Nat) (f : Int → Int), Dg n f → Cg p F (fun z => f z * b z) (fun _ => 0) → (¬ ∃ A, Pol A ∧ ∀ z, f z = p * A z) →
  ∃ d G, d < n ∧ Dg d G ∧ Cg p F (fun z => (z ^ d + G z) * b z) (fun _ => 0) := by
 intro n
 induction n with
 | zero =>
  intro f hf _ hn
  obtain ⟨c, hc⟩ := hf
  exact absurd ⟨_, pol_zero, fun z => by rw [hc z]; simp [sm]⟩ hn
 | succ n ih =>
  intro f hf hz hn
  obtain ⟨c, hc⟩ := hf
  have hf' : Dg n (fun z => sm n (fun i => c i * z ^ i)) := dg_sum c
  by_cases hp : p ∣ c n
  ·obtain ⟨t, ht⟩ := hp
   obtain ⟨d, G, hd, hG, h⟩ := ih _ hf' (by
    refine cg_trans (cg_symm ?_) hz
    refine cg_p (pol_smul t (pol_mul (pol_pow n) hb)) (fun z => ?_)
    try dsimp only
    rw [hc z]
    simp only [sm]
    rw [ht]
    grind) (fun ⟨A, hA, e⟩ => hn ⟨_, pol_add hA (pol_smul t (pol_pow n)), fun z => by
     rw [hc z]
     simp only [sm]
     rw [e z, ht]
     grind⟩)
   exact ⟨d, G, by omega, hG, h⟩
  ·obtain ⟨u, t, hu⟩ := unit _ hp
   refine ⟨n, fun z => u * sm n (fun i => c i * z ^ i), by omega, dg_smul u hf', ?_⟩
   have h1 : Cg p F (fun z => u * (f z * b z)) (fun _ => 0) := by
    have := cg_mul (f := fun _ => u) (g := fun _ => u) (f' := fun z => f z * b z) (g' := fun _ => 0) (pol_mul ⟨_, dg_sum (n := n + 1) c⟩ hb |> fun h => pol_congr h (fun z => by rw [hc z])) (pol_const u) (cg_of (fun _ => rfl)) hz
    exact cg_trans this (cg_of (fun z => by simp))
   refine cg_trans (cg_symm ?_) h1
   refine cg_p (pol_smul t (pol_mul (pol_pow n) hb)) (fun z => ?_)
   try dsimp only
   rw [hc z]
   simp only [sm]
   have : u * ((sm n (fun i => c i * z ^ i) + c n * z ^ n) * b z) = (c n * u) * (z ^ n * b z) + u * (sm n (fun i => c i * z ^ i)) * b z := by grind
   rw [this, hu]
   grind
theorem nzd_poly (hF : Mon m F) (unit : ∀ c : Int, ¬ p ∣ c → ∃ u t, c * u = 1 + p * t)
  (irr : ∀ e l, 1 ≤ e → 2 * e ≤ m → Mon e l → ∀ h A, Pol h → Pol A → ¬ ∀ z, F z = l z * h z + p * A z)
  {a b : Int → Int} (ha : Dg m a) (hb : Dg m b) (h : Cg p F (fun z => a z * b z) (fun _ => 0)) :
  (∃ A, Pol A ∧ ∀ z, a z = p * A z) ∨ (∃ A, Pol A ∧ ∀ z, b z = p * A z) := by
 refine Classical.byContradiction fun hn => ?_
 have hna : ¬ ∃ A, Pol A ∧ ∀ z, a z = p * A z := fun e => hn (.inl e)
 have hnb : ¬ ∃ A, Pol A ∧ ∀ z, b z = p * A z := fun e => hn (.inr e)
 have none : ∀ d, d < m → ¬ ∃ G, Dg d G ∧ Cg p F (fun z => (z ^ d + G z) * b z) (fun _ => 0) := by
  intro d
  induction d using Nat.strongRecOn with
  | _ d ih =>
   intro hd ⟨G, hG, hz⟩
   by_cases h0 : d = 0
   ·subst h0
    obtain ⟨c, hc⟩ := hG
    have h1 : Cg p F b (fun _ => 0) := cg_trans (cg_of (fun z => by rw [hc z]; simp [sm])) hz
    obtain ⟨x, hx⟩ := uniq hF hb h1
    exact hnb ⟨_, ⟨m, dg_sum x⟩, hx⟩
   ·obtain ⟨GF, hGF, eF⟩ := hF
    have hrest : Dg (d + (m - d)) (fun z => GF z - z ^ (m - d) * G z) := by
     rw [show d + (m - d) = m by omega]
     exact dg_sub hGF (dg_mono (dg_shift (m - d) hG) (by omega))
    obtain ⟨hh, r, hhd, hr, e⟩ := divide hG (m - d) _ hrest
    have hdiv : ∀ z, F z = (z ^ d + G z) * (z ^ (m - d) + hh z) + r z := by
     intro z
     have e1 := e z
     have e2 : z ^ m = z ^ (m - d) * z ^ d := by rw [← Int.pow_add]; congr 1; omega
     rw [eF z, e2]
     grind
    have hFp : Pol F := pol_congr (pol_add (pol_pow m) ⟨_, hGF⟩) eF
    have hbp : Pol b := ⟨_, hb⟩
    have hhp : Pol (fun z => z ^ (m - d) + hh z) := pol_add (pol_pow _) ⟨_, hhd⟩
    have hrz : Cg p F (fun z => r z * b z) (fun _ => 0) := by
     have h1 := cg_mul (f := fun z => z ^ (m - d) + hh z) (g := fun z => z ^ (m - d) + hh z) (f' := fun z => (z ^ d + G z) * b z) (g' := fun _ => 0) (pol_mul (pol_add (pol_pow d) ⟨_, hG⟩) hbp) hhp (cg_of (fun _ => rfl)) hz
     have h2 : Cg p F (fun z => r z * b z) (fun z => -1 * ((z ^ (m - d) + hh z) * ((z ^ d + G z) * b z))) := cg_F hbp (fun z => by rw [hdiv z]; grind)
     have h3 := cg_mul (f := fun _ => -1) (g := fun _ => -1) (f' := fun z => (z ^ (m - d) + hh z) * ((z ^ d + G z) * b z)) (g' := fun z => (z ^ (m - d) + hh z) * 0) (pol_mul hhp (pol_mul (pol_add (pol_pow d) ⟨_, hG⟩) hbp)) (pol_const (-1)) (cg_of (fun _ => rfl)) h1
     exact cg_trans h2 (cg_trans h3 (cg_of (fun z => by simp)))
    by_cases hr0 : ∃ A, Pol A ∧ ∀ z, r z = p * A z
    ·obtain ⟨A, hA, eA⟩ := hr0
     by_cases h2 : 2 * d ≤ m
     ·refine irr d (fun z => z ^ d + G z) (by omega) h2 ⟨G, hG, fun _ => rfl⟩ _ A hhp hA (fun z => ?_)
      rw [hdiv z, eA z]
     ·refine irr (m - d) (fun z => z ^ (m - d) + hh z) (by omega) (by omega) ⟨hh, hhd, fun _ => rfl⟩ (fun z => z ^ d + G z) A (pol_add (pol_pow d) ⟨_, hG⟩) hA (fun z => ?_)
      rw [hdiv z, eA z]
      grind
    ·obtain ⟨d', G', hd', hG', hz'⟩ := monic_of (F := F) unit hbp d r hr hrz hr0
     exact ih d' hd' (by omega) ⟨G', hG', hz'⟩
 obtain ⟨d, G, hd, hG, hz⟩ := monic_of (F := F) unit ⟨_, hb⟩ m a ha h hna
 exact none d hd ⟨G, hG, hz⟩
end
def dgt (p : Nat) (x : Int) (i : Nat) : Int := ((x.toNat / p ^ i % p : Nat) : Int)
def nv (p : Nat) (c : Nat → Nat) : Nat → Nat
 | 0 => 0
 | m + 1 => nv p c m + c m * p ^ m
def Px (p m : Nat) (x : Int) (z : Int) : Int := sm m (fun i => dgt p x i * z ^ i)
theorem px_dg (p m : Nat) (x : Int) : Dg m (Px p m x) := ⟨_, fun _ => rfl⟩
theorem px_pol (p m : Nat) (x : Int) : Pol (Px p m x) := ⟨_, px_dg p m x⟩
theorem dgt_lt {p : Nat} (hp : 2 ≤ p) (x : Int) (i : Nat) : 0 ≤ dgt p x i ∧ dgt p x i < (p : Int) := by
 unfold dgt
 have := Nat.mod_lt (x.toNat / p ^ i) (show p > 0 by omega)
 omega
theorem nv_lt {p : Nat} {c : Nat → Nat} : ∀ (m : Nat), (∀ i, i < m → c i < p) → nv p c m < p ^ m := by
 intro m
 induction m with
 | zero => intro _; exact Nat.one_pos
 | succ m ih =>
  intro h
  have h1 := ih (fun i hi => h i (by omega))
  have h2 : (c m + 1) * p ^ m ≤ p * p ^ m := Nat.mul_le_mul_right _ (h m (by omega))
  rw [nv, Nat.pow_succ, Nat.mul_comm (p ^ m) p]
  rw [Nat.add_mul, Nat.one_mul] at h2
  omega
theorem nv_digit {p : Nat} {c : Nat → Nat} (hp : 2 ≤ p) : ∀ (m : Nat), (∀ i, i < m → c i < p) → ∀ i, i < m → nv p c m / p ^ i % p = c i := by
 intro m
 induction m with
 | zero => intro _ i hi; omega
 | succ m ih =>
  intro h i hi
  have h1 := nv_lt m (fun i hi => h i (by omega))
  have hpp : 0 < p ^ i := Nat.pow_pos (by omega)
  rw [nv]
  by_cases e : i = m
  ·subst e
   rw [Nat.add_mul_div_right _ _ hpp, Nat.div_eq_of_lt h1, Nat.zero_add, Nat.mod_eq_of_lt (h i (by omega))]
  ·have e2 : c m * p ^ m = (c m * p ^ (m - i - 1) * p) * p ^ i := by
    rw [Nat.mul_assoc, Nat.mul_assoc, ← Nat.pow_succ', ← Nat.pow_add]
    congr 2
    omega
   rw [e2, Nat.add_mul_div_right _ _ hpp, Nat.add_mul_mod_self_right]
   exact ih (fun i hi => h i (by omega)) i (by omega)
theorem nv_congr {p : Nat} {c d : Nat → Nat} : ∀ (m : Nat), (∀ i, i < m → c i = d i) → nv p c m = nv p d m := by
 intro m
 induction m with
 | zero => intro _; rfl
 | succ m ih => intro h; rw [nv, nv, ih (fun i hi => h i (by omega)), h m (by omega)]
theorem nv_self {p : Nat} (x : Nat) : ∀ m, nv p (fun i => x / p ^ i % p) m = x % p ^ m := by
 intro m
 induction m with
 | zero => rw [nv, Nat.pow_zero, Nat.mod_one]
 | succ m ih => rw [nv, ih, Nat.pow_succ, Nat.mod_mul, Nat.mul_comm]
theorem el_digits {p m : Nat} {x y : Int} (hx : El (p ^ m) x) (hy : El (p ^ m) y) (h : ∀ i, i < m → dgt p x i = dgt p y i) : x = y := by
 have h1 := nv_self (p := p) x.toNat m
 have h2 := nv_self (p := p) y.toNat m
 rw [Nat.mod_eq_of_lt (by have := hx.2; have := hx.1; omega)] at h1
 rw [Nat.mod_eq_of_lt (by have := hy.2; have := hy.1; omega)] at h2
 have h3 := nv_congr (p := p) (c := fun i => x.toNat / p ^ i % p) (d := fun i => y.toNat / p ^ i % p) m (fun i hi => by
  have := h i hi
  unfold dgt at this
  omega)
 have := hx.1
 have := hy.1
 omega
theorem el_of {p m : Nat} (hp : 2 ≤ p) (c : Nat → Int) (h : ∀ i, i < m → 0 ≤ c i ∧ c i < (p : Int)) : ∃ x, El (p ^ m) x ∧ ∀ i, i < m → dgt p x i = c i := by
 have hc : ∀ i, i < m → (c i).toNat < p := fun i hi => by have := h i hi; omega
 refine ⟨((nv p (fun i => (c i).toNat) m : Nat) : Int), ⟨Int.natCast_nonneg _, by have := nv_lt m hc; omega⟩, fun i hi => ?_⟩
 unfold dgt
 rw [Int.toNat_natCast, nv_digit hp m hc i hi]
 have := h i hi
 omega
theorem el_eq {p m : Nat} {F : Int → Int} (hp : 2 ≤ p) (hF : Mon m F) {x y : Int} (hx : El (p ^ m) x) (hy : El (p ^ m) y) (h : Cg (p : Int) F (Px p m x) (Px p m y)) : x = y := by
 refine el_digits hx hy (fun i hi => ?_)
 have hD : Dg m (fun z => Px p m x z - Px p m y z) := dg_sub (px_dg _ _ _) (px_dg _ _ _)
 obtain ⟨a, ha⟩ := uniq (p := (p : Int)) hF hD (by
  obtain ⟨A, B, hA, hB, e⟩ := h
  exact ⟨A, B, hA, hB, fun z => by show Px p m x z - Px p m y z = 0 + (p : Int) * A z + F z * B z; rw [e z]; grind⟩)
 have key := poly_eq (n := m) (c := fun i => dgt p x i - dgt p y i) (d := fun i => (p : Int) * a i) (fun z => by
  have e := ha z
  unfold Px at e
  rw [← sm_sub, ← sm_mul] at e
  have e1 : sm m (fun i => (dgt p x i - dgt p y i) * z ^ i) = sm m (fun i => dgt p x i * z ^ i - dgt p y i * z ^ i) := sm_congr (fun i _ => by rw [Int.sub_mul])
  have e2 : sm m (fun i => (p : Int) * a i * z ^ i) = sm m (fun i => (p : Int) * (a i * z ^ i)) := sm_congr (fun i _ => by rw [Int.mul_assoc])
  rw [e1, e2]
  exact e) i hi
 have key : dgt p x i - dgt p y i = (p : Int) * a i := key
 have h1 := dgt_lt hp x i
 have h2 := dgt_lt hp y i
 have h0 : a i = 0 := by
  refine Decidable.byContradiction fun hne => ?_
  rcases Int.lt_or_gt_of_ne hne with g | g
  ·have := Int.mul_le_mul_of_nonneg_left (show a i ≤ -1 by omega) (show (0 : Int) ≤ (p : Int) by omega)
   omega
  ·have := Int.mul_le_mul_of_nonneg_left (show 1 ≤ a i by omega) (show (0 : Int) ≤ (p : Int) by omega)
   omega
 rw [h0, Int.mul_zero] at key
 omega
theorem px_zero (p m : Nat) (z : Int) : Px p m 0 z = 0 := by
 unfold Px dgt
 exact sm_zero (fun i _ => by simp)
theorem px_one {p m : Nat} (hp : 2 ≤ p) (hm : 1 ≤ m) (z : Int) : Px p m 1 z = 1 := by
 unfold Px
 rw [sm_single (a := 0) (by omega)]
 ·unfold dgt
  have : (1 : Int).toNat / p ^ 0 % p = 1 := by
   rw [Nat.pow_zero, Nat.div_one]
   exact Nat.mod_eq_of_lt (by show 1 < p; omega)
  rw [this]; simp
 ·intro i _ hne
  have : (1 : Int).toNat / p ^ i % p = 0 := by
   rw [Nat.div_eq_of_lt]
   ·exact Nat.zero_mod _
   ·show 1 < p ^ i
    exact Nat.one_lt_pow hne (by omega)
  unfold dgt
  rw [this]; simp
theorem one_el {p m : Nat} (hp : 2 ≤ p) (hm : 1 ≤ m) : 2 ≤ p ^ m := by
 have : p ^ 1 ≤ p ^ m := Nat.pow_le_pow_right (by omega) hm
 rw [Nat.pow_one] at this
 omega
def Prm (p : Nat) : Prop := 2 ≤ p ∧ ∀ d, 2 ≤ d → d < p → p % d ≠ 0
theorem prm_unit {p : Nat} (h : Prm p) (c : Int) (hc : ¬ (p : Int) ∣ c) : ∃ u t, c * u = 1 + (p : Int) * t := by
 obtain ⟨hp, hd⟩ := h
 obtain ⟨a, ha⟩ : ∃ a : Nat, c % (p : Int) = (a : Int) := ⟨(c % (p : Int)).toNat, by have := Int.emod_nonneg c (show (p : Int) ≠ 0 by omega); omega⟩
 have hap : a < p := by have := Int.emod_lt_of_pos c (show (0 : Int) < (p : Int) by omega); omega
 have ha0 : a ≠ 0 := fun e => hc (Int.dvd_of_emod_eq_zero (by rw [ha, e]; rfl))
 have hg : Nat.gcd p a = 1 := by
  have h1 : Nat.gcd p a ∣ p := Nat.gcd_dvd_left _ _
  have h2 : Nat.gcd p a ≤ a := Nat.gcd_le_right _ (by omega)
  have h3 : Nat.gcd p a ≠ 0 := fun e => ha0 (Nat.gcd_eq_zero_iff.mp e).2
  refine Decidable.byContradiction fun hne => ?_
  exact hd (Nat.gcd p a) (by omega) (by omega) (Nat.mod_eq_zero_of_dvd h1)
 have inj : ∀ x y, x < p → y < p → a * x % p = a * y % p → x = y := by
  have one : ∀ x y, x < p → y < p → x ≤ y → a * x % p = a * y % p → x = y := by
   intro x y hx hy hxy e
   have hdv : p ∣ a * (y - x) := by
    rw [Nat.mul_sub]
    exact Nat.dvd_of_mod_eq_zero (Nat.sub_mod_eq_zero_of_mod_eq e.symm)
   have hdv2 : p ∣ y - x := Nat.Coprime.dvd_of_dvd_mul_left (k := p) (m := a) hg hdv
   have := Nat.eq_zero_of_dvd_of_lt hdv2 (by omega)
   omega
  intro x y hx hy e
  rcases Nat.le_total x y with g | g
  ·exact one x y hx hy g e
  ·exact (one y x hy hx g e.symm).symm
 have hs := onto_of_inj (q := p) (σ := fun x => a * x % p) (fun x _ => Nat.mod_lt _ (by omega)) inj 1 (by omega)
 have hex : ∃ u, a * u % p = 1 := by
  refine Classical.byContradiction fun hn => ?_
  rw [sm_zero (fun i _ => ind_false (fun e => hn ⟨i, e⟩))] at hs
  omega
 obtain ⟨u, hu⟩ := hex
 refine ⟨(u : Int), (c / (p : Int)) * (u : Int) + ((a * u / p : Nat) : Int), ?_⟩
 have e1 := Int.emod_add_mul_ediv c (p : Int)
 rw [ha] at e1
 have e2 := Nat.mod_add_div (a * u) p
 rw [hu] at e2
 have e3 : ((1 + p * (a * u / p) : Nat) : Int) = ((a * u : Nat) : Int) := by rw [e2]
 rw [Int.natCast_add, Int.natCast_mul, Int.natCast_mul] at e3
 conv => lhs; rw [← e1]
 rw [Int.add_mul, ← e3]
 rw [show ((1 : Nat) : Int) = 1 from rfl]
 grind
theorem gf {p m : Nat} {F : Int → Int} (hp : Prm p) (hm : 1 ≤ m) (hF : Mon m F)
  (irr : ∀ (e : Nat) (c : Nat → Int), 1 ≤ e → 2 * e ≤ m → (∀ i, i < e → 0 ≤ c i ∧ c i < (p : Int)) → ∀ h A, Pol h → Pol A → ¬ ∀ z, F z = (z ^ e + sm e (fun i => c i * z ^ i)) * h z + (p : Int) * A z)
  {add mul : Int → Int → Int}
  (ha : ∀ x y, El (p ^ m) x → El (p ^ m) y → El (p ^ m) (add x y) ∧ Cg (p : Int) F (Px p m (add x y)) (fun z => Px p m x z + Px p m y z))
  (hmu : ∀ x y, El (p ^ m) x → El (p ^ m) y → El (p ^ m) (mul x y) ∧ Cg (p : Int) F (Px p m (mul x y)) (fun z => Px p m x z * Px p m y z)) : Fld (p ^ m) add mul := by
 have hp2 := hp.1
 have q2 := one_el hp2 hm
 have e0 : El (p ^ m) 0 := ⟨by omega, by omega⟩
 have e1 : El (p ^ m) 1 := ⟨by omega, by omega⟩
 have eq : ∀ {x y : Int}, El (p ^ m) x → El (p ^ m) y → Cg (p : Int) F (Px p m x) (Px p m y) → x = y := fun hx hy h => el_eq hp2 hF hx hy h
 refine ⟨q2, fun x y hx hy => (ha x y hx hy).1, fun x y hx hy => (hmu x y hx hy).1, ?_, ?_, ?_, ?_, ?_, ?_, ?_, ?_, ?_⟩
 ·intro x hx
  have h := ha x 0 hx e0
  exact eq h.1 hx (cg_trans h.2 (cg_of (fun z => by rw [px_zero]; simp)))
 ·intro x y hx hy
  have h := ha x y hx hy
  have k := ha y x hy hx
  exact eq h.1 k.1 (cg_trans h.2 (cg_trans (cg_of (fun z => Int.add_comm _ _)) (cg_symm k.2)))
 ·intro x y w hx hy hw
  have h := ha x y hx hy
  have k := ha y w hy hw
  have h2 := ha _ w h.1 hw
  have k2 := ha x _ hx k.1
  refine eq h2.1 k2.1 (cg_trans h2.2 (cg_trans (cg_add h.2 (cg_of (fun _ => rfl))) (cg_trans (cg_of (fun z => Int.add_assoc _ _ _)) (cg_symm (cg_trans k2.2 (cg_add (cg_of (fun _ => rfl)) k.2))))))
 ·intro x hx
  obtain ⟨y, hy, hd⟩ := el_of (m := m) hp2 (fun i => (-dgt p x i) % (p : Int)) (fun i _ => ⟨Int.emod_nonneg _ (by omega), Int.emod_lt_of_pos _ (by omega)⟩)
  refine ⟨y, hy, ?_⟩
  have h := ha x y hx hy
  refine eq h.1 e0 (cg_trans h.2 ?_)
  refine cg_p (A := fun z => sm m (fun i => (-((-dgt p x i) / (p : Int))) * z ^ i)) ⟨m, dg_sum _⟩ (fun z => ?_)
  rw [px_zero]
  unfold Px
  rw [← sm_add, Int.zero_add, ← sm_mul]
  refine sm_congr fun i hi => ?_
  rw [hd i hi]
  have := Int.emod_add_mul_ediv (-dgt p x i) (p : Int)
  have e : (-dgt p x i) % (p : Int) = -dgt p x i - (p : Int) * ((-dgt p x i) / (p : Int)) := by omega
  rw [e]
  grind
 ·intro x hx
  have h := hmu x 1 hx e1
  exact eq h.1 hx (cg_trans h.2 (cg_of (fun z => by rw [px_one hp2 hm]; simp)))
 ·intro x y hx hy
  have h := hmu x y hx hy
  have k := hmu y x hy hx
  exact eq h.1 k.1 (cg_trans h.2 (cg_trans (cg_of (fun z => Int.mul_comm _ _)) (cg_symm k.2)))
 ·intro x y w hx hy hw
  have h := hmu x y hx hy
  have k := hmu y w hy hw
  have h2 := hmu _ w h.1 hw
  have k2 := hmu x _ hx k.1
  refine eq h2.1 k2.1 (cg_trans h2.2 (cg_trans (cg_mul (px_pol _ _ _) (pol_mul (px_pol _ _ _) (px_pol _ _ _)) h.2 (cg_of (fun _ => rfl))) (cg_trans (cg_of (fun z => Int.mul_assoc _ _ _)) (cg_symm (cg_trans k2.2 (cg_mul (px_pol _ _ _) (px_pol _ _ _) (cg_of (fun _ => rfl)) k.2))))))
 ·intro x y w hx hy hw
  have h := ha y w hy hw
  have k := hmu x _ hx h.1
  have h1 := hmu x y hx hy
  have h2 := hmu x w hx hw
  have h3 := ha _ _ h1.1 h2.1
  refine eq k.1 h3.1 (cg_trans k.2 (cg_trans (cg_mul (px_pol _ _ _) (px_pol _ _ _) (cg_of (fun _ => rfl)) h.2) (cg_trans (cg_of (fun z => Int.mul_add _ _ _)) (cg_symm (cg_trans h3.2 (cg_add h1.2 h2.2))))))
 ·intro x y hx hy h0
  have h := hmu x y hx hy
  rw [h0] at h
  have hz : Cg (p : Int) F (fun z => Px p m x z * Px p m y z) (fun _ => 0) := cg_trans (cg_symm h.2) (cg_of (fun z => px_zero _ _ _))
  have irr' : ∀ e l, 1 ≤ e → 2 * e ≤ m → Mon e l → ∀ h A, Pol h → Pol A → ¬ ∀ z, F z = l z * h z + (p : Int) * A z := by
   intro e l he1 he2 ⟨G, ⟨g, hg⟩, el⟩ h A hh hA hc
   refine irr e (fun i => g i % (p : Int)) he1 he2 (fun i _ => ⟨Int.emod_nonneg _ (by omega), Int.emod_lt_of_pos _ (by omega)⟩) h _ hh (pol_add (pol_mul (⟨e, dg_sum (fun i => g i / (p : Int))⟩ : Pol _) hh) hA) (fun z => ?_)
   rw [hc z, el z, hg z]
   have : sm e (fun i => g i * z ^ i) = sm e (fun i => g i % (p : Int) * z ^ i) + (p : Int) * sm e (fun i => g i / (p : Int) * z ^ i) := by
    rw [← sm_mul, ← sm_add]
    refine sm_congr fun i _ => ?_
    have := Int.emod_add_mul_ediv (g i) (p : Int)
    conv => lhs; rw [← this]
    grind
   rw [this]
   grind
  have van : ∀ w, El (p ^ m) w → (∃ A, Pol A ∧ ∀ z, Px p m w z = (p : Int) * A z) → w = 0 := by
   intro w hw ⟨A, hA, e⟩
   exact eq hw e0 (cg_p hA (fun z => by rw [px_zero, e z]; simp))
  rcases nzd_poly hF (prm_unit hp) irr' (px_dg p m x) (px_dg p m y) hz with g | g
  ·exact .inl (van x hx g)
  ·exact .inr (van y hy g)
end Mw
end
section
set_option linter.unusedVariables false
set_option linter.unusedSimpArgs false
namespace Mw
open Go Go.RowKit Go.Proofs.YtifkbghnmhineaaW.PrintWords
def Ev {α : Type} (g : Nat → Option α) (r : α) : Prop := ∃ K, ∀ k, K ≤ k → g k = some r
theorem Ev.of {α : Type} {g : Nat → Option α} {r : α} (h : ∀ k, g k = some r) : Ev g r := ⟨0, fun k _ => h k⟩
theorem Ev.some {α : Type} (r : α) : Ev (fun _ => some r) r := ⟨0, fun _ _ => rfl⟩
theorem Ev.succ {α : Type} {g : Nat → Option α} {r : α} (h : Ev (fun k => g (k + 1)) r) : Ev g r := by
  obtain ⟨K, h⟩ := h
  refine ⟨K + 1, fun k hk => ?_⟩
  obtain ⟨m, rfl⟩ : ∃ m, k = m + 1 := ⟨k - 1, by omega⟩
  exact h m (by omega)
theorem Ev.bind {α β : Type} {g : Nat → Option α} {f : Nat → α → Option β} {a : α} {r : β} (hg : Ev g a) (hf : Ev (fun k => f k a) r) : Ev (fun k => (g k).bind (f k)) r := by
  obtain ⟨K, hg⟩ := hg
  obtain ⟨L, hf⟩ := hf
  refine ⟨K + L, fun k hk => ?_⟩
  show (g k).bind (f k) = _
  rw [hg k (by omega)]
  exact hf k (by omega)
theorem Ev.cast {α : Type} {g : Nat → Option α} {r s : α} (h : Ev g r) (e : r = s) : Ev g s := e ▸ h
theorem Ev.get {α : Type} {g : Nat → Option α} {r : α} (h : Ev g r) : ∃ k, g k = Option.some r := by
  obtain ⟨K, h⟩ := h
  exact ⟨K, h K (Nat.le_refl K)⟩
theorem w64 {x : Int} (h0 : -9223372036854775808 ≤ x) (h1 : x ≤ 9223372036854775807) : wrap64 x = x := by unfold wrap64; omega
theorem wn {x : Int} {n : Nat} (h : x = (n : Int)) (hn : n < 9223372036854775808) : wrap64 x = (n : Int) := by subst h; exact w64 (by omega) (by omega)
theorem u64w {x : Int} (h0 : 0 ≤ x) (h1 : x < 18446744073709551616) : IntKind.u64.wrap x = x := by
  simp [IntKind.wrap, IntKind.bits, IntKind.signed]; omega
theorem u64m (x : Int) : IntKind.u64.wrap x = x % 18446744073709551616 := by
  simp [IntKind.wrap, IntKind.bits, IntKind.signed]
def bp : Nat → Nat
  | 0 => 1
  | n + 1 => 4294967296 * bp n
theorem bp_pos : ∀ n, 0 < bp n
  | 0 => by decide
  | n + 1 => by have := bp_pos n; simp only [bp]; omega
theorem bp_mono : ∀ {m n : Nat}, m ≤ n → bp m ≤ bp n := by
  intro m n h
  induction n with
  | zero => have : m = 0 := by omega
            subst this; exact Nat.le_refl _
  | succ n ih =>
    by_cases e : m = n + 1
    · subst e; exact Nat.le_refl _
    · have := ih (by omega); simp only [bp]; omega
theorem bp_add : ∀ (m n : Nat), bp (m + n) = bp m * bp n
  | m, 0 => by simp [bp]
  | m, n + 1 => by rw [← Nat.add_assoc, bp, bp, bp_add m n, Nat.mul_left_comm]
def lv : List Int → Int
  | [] => 0
  | a :: l => a + 4294967296 * lv l
def Lm (l : List Int) : Prop := ∀ x ∈ l, 0 ≤ x ∧ x < 4294967296
def dg (n : Nat) : List Int := if n = 0 then [] else ((n % 4294967296 : Nat) : Int) :: dg (n / 4294967296)
termination_by n
decreasing_by omega
theorem dg_zero : dg 0 = [] := by rw [dg]; rfl
theorem dg_pos {n : Nat} (h : n ≠ 0) : dg n = ((n % 4294967296 : Nat) : Int) :: dg (n / 4294967296) := by rw [dg, if_neg h]
theorem lv_dg : ∀ n : Nat, lv (dg n) = n := by
  intro n
  induction n using Nat.strongRecOn with
  | _ n ih =>
    by_cases h : n = 0
    · subst h; rw [dg_zero]; rfl
    · rw [dg_pos h, lv, ih _ (by omega)]; omega
theorem lm_nil : Lm [] := by intro x hx; simp at hx
theorem lm_cons {a : Int} {l : List Int} : Lm (a :: l) ↔ (0 ≤ a ∧ a < 4294967296) ∧ Lm l := by
  constructor
  · intro h; exact ⟨h a (by simp), fun x hx => h x (by simp [hx])⟩
  · intro h x hx
    exact (List.mem_cons.mp hx).elim (fun e => e ▸ h.1) (fun e => h.2 x e)
theorem lm_dg : ∀ n : Nat, Lm (dg n) := by
  intro n
  induction n using Nat.strongRecOn with
  | _ n ih =>
    by_cases h : n = 0
    · subst h; rw [dg_zero]; exact lm_nil
    · rw [dg_pos h, lm_cons]; exact ⟨by omega, ih _ (by omega)⟩
theorem lv_nonneg : ∀ {l : List Int}, Lm l → 0 ≤ lv l
  | [], _ => Int.le_refl 0
  | a :: l, h => by have := lv_nonneg (lm_cons.mp h).2; have := (lm_cons.mp h).1; simp only [lv]; omega
theorem lv_lt : ∀ {l : List Int}, Lm l → lv l < bp l.length
  | [], _ => by simp [lv, bp]
  | a :: l, h => by
    have h1 := lv_lt (lm_cons.mp h).2
    have h2 := (lm_cons.mp h).1
    simp only [lv, List.length_cons, bp]
    omega
theorem lv_append : ∀ (l m : List Int), lv (l ++ m) = lv l + (bp l.length : Int) * lv m
  | [], m => by simp [lv, bp]
  | a :: l, m => by
    simp only [List.cons_append, lv, List.length_cons, bp, Int.natCast_mul]
    rw [lv_append l m, Int.mul_add, Int.mul_assoc]
    omega
theorem lv_rep : ∀ n : Nat, lv (List.replicate n 0) = 0
  | 0 => rfl
  | n + 1 => by rw [List.replicate_succ, lv, lv_rep n]; rfl
theorem lm_rep (n : Nat) : Lm (List.replicate n 0) := by
  intro x hx; rw [(List.mem_replicate.mp hx).2]; omega
theorem dg_lv : ∀ {l : List Int}, Lm l → (∀ h : l ≠ [], l.getLast h ≠ 0) → dg (lv l).toNat = l
  | [], _, _ => by simp only [lv]; exact dg_zero
  | a :: l, h, hl => by
    have h1 := lm_cons.mp h
    have h0 := lv_nonneg h1.2
    have ih : l ≠ [] → dg (lv l).toNat = l := fun hne => dg_lv h1.2 (fun hh => by
      have := hl (by simp)
      rwa [List.getLast_cons hh] at this)
    by_cases hne : l = []
    · subst hne
      have ha := hl (by simp)
      simp only [List.getLast_singleton] at ha
      simp only [lv]
      rw [dg_pos (by omega), show (a + 4294967296 * 0).toNat / 4294967296 = 0 by omega, dg_zero]
      congr 1
      omega
    · have ih := ih hne
      have hpos : lv l ≠ 0 := by
        intro e
        rw [e] at ih
        rw [show (0 : Int).toNat = 0 from rfl, dg_zero] at ih
        exact hne ih.symm
      simp only [lv]
      rw [dg_pos (by omega), show (a + 4294967296 * lv l).toNat / 4294967296 = (lv l).toNat by omega, ih]
      congr 1
      omega
theorem dg_last : ∀ (n : Nat) (h : dg n ≠ []), (dg n).getLast h ≠ 0 := by
  intro n
  induction n using Nat.strongRecOn with
  | _ n ih =>
    intro h
    by_cases h0 : n = 0
    · subst h0; exact absurd dg_zero h
    · have e := dg_pos h0
      by_cases hd : n / 4294967296 = 0
      · rw [hd, dg_zero] at e
        simp only [e, List.getLast_singleton]
        omega
      · have hne : dg (n / 4294967296) ≠ [] := by rw [dg_pos hd]; simp
        have := ih (n / 4294967296) (by omega) hne
        simp only [e]
        rw [List.getLast_cons hne]
        exact this
theorem dg_len_le {n m : Nat} (h : n < bp m) : (dg n).length ≤ m := by
  induction m generalizing n with
  | zero => have : n = 0 := by simp only [bp] at h; omega
            subst this; rw [dg_zero]; simp
  | succ m ih =>
    by_cases h0 : n = 0
    · subst h0; rw [dg_zero]; simp
    · rw [dg_pos h0, List.length_cons]
      have := ih (n := n / 4294967296) (by simp only [bp] at h; omega)
      omega
theorem dg_lt_len (n : Nat) : n < bp (dg n).length := by
  have h := lv_lt (lm_dg n)
  rw [lv_dg] at h
  omega
theorem dg_len_zero {n : Nat} : (dg n).length = 0 ↔ n = 0 := by
  constructor
  · intro h
    by_cases h0 : n = 0
    · exact h0
    · rw [dg_pos h0] at h; simp at h
  · intro h; subst h; rw [dg_zero]; rfl
theorem dg_len_mono {m n : Nat} (h : m ≤ n) : (dg m).length ≤ (dg n).length := dg_len_le (Nat.lt_of_le_of_lt h (dg_lt_len n))
theorem dg_small {n : Nat} (h0 : n ≠ 0) (h : n < 4294967296) : dg n = [(n : Int)] := by
  rw [dg_pos h0, show n / 4294967296 = 0 by omega, dg_zero, show n % 4294967296 = n by omega]
theorem dg_one : dg 1 = [1] := dg_small (by decide) (by decide)
theorem lv_le_of_len {l : List Int} (h : Lm l) {m : Nat} (hm : l.length ≤ m) : (lv l).toNat < bp m := by
  have h1 := lv_lt h
  have h2 := bp_mono hm
  have h3 := lv_nonneg h
  omega
theorem rd_lt {l : List Int} {i : Nat} (h : i < l.length) : rd l (i : Int) = l[i] := by
  unfold rd
  simp [List.getD_eq_getElem?_getD, h]
theorem rd_ge {l : List Int} {i : Nat} (h : l.length ≤ i) : rd l (i : Int) = 0 := by
  unfold rd
  simp [List.getD_eq_getElem?_getD, h]
theorem rd_lm {l : List Int} (hl : Lm l) (i : Int) : 0 ≤ rd l i ∧ rd l i < 4294967296 := by
  unfold rd
  rw [List.getD_eq_getElem?_getD]
  by_cases h : i.toNat < l.length
  · rw [List.getElem?_eq_getElem h]
    exact hl _ (List.getElem_mem h)
  · rw [List.getElem?_eq_none (by omega)]; simp
theorem take_succ_rd {l : List Int} {i : Nat} (h : i < l.length) : l.take (i + 1) = l.take i ++ [rd l (i : Int)] := by
  rw [List.take_succ_eq_append_getElem h, rd_lt h]
theorem lv_take_succ {l : List Int} {i : Nat} (h : i < l.length) : lv (l.take (i + 1)) = lv (l.take i) + (bp i : Int) * rd l (i : Int) := by
  rw [take_succ_rd h, lv_append, List.length_take, Nat.min_eq_left (by omega)]
  simp [lv]
theorem lv_set : ∀ {l : List Int} {i : Nat} (v : Int), i < l.length → lv (l.set i v) = lv l + (bp i : Int) * (v - rd l (i : Int))
  | [], i, v, h => by simp at h
  | a :: l, 0, v, _ => by
    rw [show ((0 : Nat) : Int) = ((0 : Nat) : Int) from rfl, rd_lt (by simp)]
    simp only [List.set_cons_zero, lv, List.getElem_cons_zero, bp]; omega
  | a :: l, i + 1, v, h => by
    have h' : i < l.length := by simpa using h
    have ih := lv_set v h'
    rw [rd_lt h'] at ih
    rw [rd_lt h]
    simp only [List.set_cons_succ, lv, List.getElem_cons_succ, bp, Int.natCast_mul]
    rw [ih, Int.mul_add, Int.mul_assoc]
    omega
theorem lm_set {l : List Int} {i : Nat} {v : Int} (h : Lm l) (h0 : 0 ≤ v) (h1 : v < 4294967296) : Lm (l.set i v) := by
  intro x hx
  rcases List.mem_or_eq_of_mem_set hx with e | e
  · exact h x e
  · subst e; exact ⟨h0, h1⟩
theorem rd_set_eq {l : List Int} {i : Nat} (v : Int) (h : i < l.length) : rd (l.set i v) (i : Int) = v := by
  rw [rd_lt (by simpa using h)]; simp
theorem rd_set_ne {l : List Int} {i j : Nat} (v : Int) (h : i ≠ j) : rd (l.set i v) (j : Int) = rd l (j : Int) := by
  unfold rd
  simp [List.getD_eq_getElem?_getD, h]
theorem lm_take {l : List Int} (h : Lm l) (n : Nat) : Lm (l.take n) := fun x hx => h x (List.mem_of_mem_take hx)
theorem lm_append {l m : List Int} (h1 : Lm l) (h2 : Lm m) : Lm (l ++ m) := by
  intro x hx
  rcases List.mem_append.mp hx with e | e
  · exact h1 x e
  · exact h2 x e
theorem dg_take {l : List Int} (h : Lm l) {n : Nat} (hn : n ≤ l.length) (hz : ∀ i : Nat, n ≤ i → i < l.length → rd l (i : Int) = 0) (hl : n = 0 ∨ rd l ((n - 1 : Nat) : Int) ≠ 0) :
    l.take n = dg (lv l).toNat := by
  have hv : lv l = lv (l.take n) := by
    have : ∀ m : Nat, n + m ≤ l.length → lv (l.take (n + m)) = lv (l.take n) := by
      intro m
      induction m with
      | zero => intro _; rfl
      | succ m ih =>
        intro hm
        rw [← Nat.add_assoc, lv_take_succ (by omega), hz (n + m) (by omega) (by omega), ih (by omega)]; simp
    have := this (l.length - n) (by omega)
    rw [show n + (l.length - n) = l.length by omega, List.take_of_length_le (Nat.le_refl _)] at this
    exact this
  rw [hv]
  symm
  refine dg_lv (lm_take h n) (fun hne => ?_)
  rcases hl with e | e
  · subst e; simp at hne
  · rw [List.getLast_eq_getElem]
    simp only [List.length_take, Nat.min_eq_left hn]
    have hp : n ≠ 0 := by intro e0; subst e0; simp at hne
    rw [List.getElem_take]
    rw [rd_lt (by omega)] at e
    exact e
theorem lv_nil : lv [] = 0 := rfl
theorem lv_cons (a : Int) (l : List Int) : lv (a :: l) = a + 4294967296 * lv l := rfl
theorem bp_zero : bp 0 = 1 := rfl
theorem bp_succ (n : Nat) : bp (n + 1) = 4294967296 * bp n := rfl
attribute [irreducible] lv bp
end Mw
end
section
set_option linter.unusedVariables false
set_option linter.unusedSimpArgs false
namespace Mw
open Go Go.RowKit Go.Proofs.YtifkbghnmhineaaW.PrintWords Go.Proofs.YtifkbghnmhineaaW.PrintLast Go.Proofs.YtifkbghnmhineaaW.PrintMore Go.Proofs.Ytifkbghnmhineaa.PAll
theorem short_loop {l : List Int} (hl : Lm l) (hlen : l.length < 1099511627776) : ∀ n : Nat, n ≤ l.length → (∀ i : Nat, n ≤ i → i < l.length → rd l (i : Int) = 0) →
  Ev (fun k => nat_short.l0 k l (n : Int)) (dg (lv l).toNat) := by
 intro n
 induction n with
 | zero =>
  intro hn hz
  refine Ev.succ ?_
  simp only [nat_short.l0, if_neg (show ¬ ((0 : Nat) : Int) > 0 by omega), if_pos (show (0 : Int) ≤ ((0 : Nat) : Int) by omega), if_pos (show ((0 : Nat) : Int) ≤ (l.length : Int) by omega)]
  refine Ev.cast (Ev.some _) ?_
  rw [show (((0 : Nat) : Int)).toNat = 0 from rfl]
  exact dg_take hl hn hz (.inl rfl)
 | succ n ih =>
  intro hn hz
  refine Ev.succ ?_
  have e : wrap64 (((n + 1 : Nat) : Int) - 1) = (n : Int) := by rw [w64 (by omega) (by omega)]; omega
  by_cases h : rd l (n : Int) = 0
  ·simp only [nat_short.l0, e, if_pos (show ((n + 1 : Nat) : Int) > 0 by omega), if_pos (show (0 : Int) ≤ (n : Int) by omega), if_pos (show (n : Int) < (l.length : Int) by omega), if_pos h]
   exact ih (by omega) (fun i h1 h2 => by
    by_cases e2 : i = n
    ·subst e2; exact h
    ·exact hz i (by omega) h2)
  ·simp only [nat_short.l0, e, if_pos (show ((n + 1 : Nat) : Int) > 0 by omega), if_pos (show (0 : Int) ≤ (n : Int) by omega), if_pos (show (n : Int) < (l.length : Int) by omega), if_neg h, if_pos (show (0 : Int) ≤ ((n + 1 : Nat) : Int) by omega), if_pos (show ((n + 1 : Nat) : Int) ≤ (l.length : Int) by omega)]
   refine Ev.cast (Ev.some _) ?_
   rw [show (((n + 1 : Nat) : Int)).toNat = n + 1 by omega]
   exact dg_take hl hn hz (.inr h)
theorem short_ev {l : List Int} (hl : Lm l) (hlen : l.length < 1099511627776) : Ev (fun k => nat_short.f k l) (dg (lv l).toNat) := by
 simp only [nat_short.f]
 exact short_loop hl hlen l.length (Nat.le_refl _) (fun i h1 h2 => by omega)
theorem dg_len_of {l : List Int} (hl : Lm l) : (dg (lv l).toNat).length ≤ l.length := dg_len_le (lv_le_of_len hl (Nat.le_refl _))
theorem trim_ev {l : List Int} (hl : Lm l) (hlen : l.length < 1099511627776) : Ev (fun k => nat_Trim.f k l) (dg (lv l).toNat) := by
 simp only [nat_Trim.f]
 refine Ev.bind (short_ev hl hlen) ?_
 have := dg_len_of hl
 simp only [List.length_nil, List.nil_append, if_pos (show 0 + (dg (lv l).toNat).length < 35184372088832 by omega)]
 exact Ev.some _
theorem of_ev {n : Nat} (hn : n < 18446744073709551616) : Ev (fun k => nat_Of.f k (n : Int)) (dg n) := by
 simp only [nat_Of.f]
 have hl : Lm [(n : Int) % 4294967296, ((n : Int) / 4294967296) % 4294967296] := by
  rw [lm_cons, lm_cons]
  exact ⟨by omega, by omega, lm_nil⟩
 refine Ev.bind (trim_ev hl (by simp)) ?_
 refine Ev.cast (Ev.some _) ?_
 congr 1
 simp only [lv_cons, lv_nil]
 omega
theorem plus_loop {a b : List Int} (ha : Lm a) (hb : Lm b) (hab : b.length ≤ a.length) (hlen : a.length < 549755813888) : ∀ (d : Nat) (i : Nat) (o : List Int) (c : Int), i + d = a.length → o.length = a.length + 1 → Lm o →
  0 ≤ c → c ≤ 1 → (∀ j : Nat, i ≤ j → rd o (j : Int) = 0) → Aside0 (lv o + (bp i : Int) * c = lv (a.take i) + lv (b.take i)) →
  Ev (fun k => nat_plus.l0 k a b o c (a.length : Int) (i : Int)) (dg (lv a + lv b).toNat) := by
 intro d
 induction d with
 | zero =>
  intro i o c hi ho hol hc0 hc1 hz hv
  have hi : i = a.length := by omega
  subst hi
  refine Ev.succ ?_
  simp only [nat_plus.l0, if_neg (show ¬ ((a.length : Nat) : Int) < (a.length : Int) by omega), if_pos (show (0 : Int) ≤ (a.length : Int) by omega), if_pos (show (a.length : Int) < (o.length : Int) by omega)]
  have hs : Lm (o.set ((a.length : Int) : Int).toNat (c % 4294967296)) := lm_set hol (by omega) (by omega)
  refine Ev.bind (short_ev hs (by rw [List.length_set]; omega)) ?_
  refine Ev.cast (Ev.some _) ?_
  congr 2
  rw [Int.toNat_natCast, lv_set _ (by omega), hz _ (Nat.le_refl _), show c % 4294967296 = c by omega, Int.sub_zero, hv.out, List.take_of_length_le (Nat.le_refl _), List.take_of_length_le hab]
 | succ d ih =>
  intro i o c hi ho hol hc0 hc1 hz hv
  have hia : i < a.length := by omega
  refine Ev.succ ?_
  have ra := rd_lm ha (i : Int)
  have rb := rd_lm hb (i : Int)
  have e1 : wrap64 ((i : Int) + 1) = ((i + 1 : Nat) : Int) := by rw [w64 (by omega) (by omega)]; omega
  have step : ∀ s : Int, 0 ≤ s → s ≤ 8589934591 → s = rd a (i : Int) + c + rd b (i : Int) →
    Ev (fun k => nat_plus.l0 k a b (o.set ((i : Int)).toNat (s % 4294967296)) (s / 4294967296) (a.length : Int) ((i + 1 : Nat) : Int)) (dg (lv a + lv b).toNat) := by
   intro s hs0 hs1 hs
   refine ih (i + 1) _ _ (by omega) (by rw [List.length_set]; exact ho) (lm_set hol (by omega) (by omega)) (by omega) (by omega) (fun j hj => ?_) ?_
   ·rw [Int.toNat_natCast, rd_set_ne _ (by omega)]; exact hz j (by omega)
   ·refine ⟨?_⟩
    rw [Int.toNat_natCast, lv_set _ (by omega), hz i (Nat.le_refl _), lv_take_succ hia]
    have hbt : lv (b.take (i + 1)) = lv (b.take i) + (bp i : Int) * rd b (i : Int) := by
     by_cases hib : i < b.length
     ·exact lv_take_succ hib
     ·rw [rd_ge (by omega), List.take_of_length_le (by omega), List.take_of_length_le (by omega)]; simp
    rw [hbt]
    have hdiv : s % 4294967296 + 4294967296 * (s / 4294967296) = rd a (i : Int) + c + rd b (i : Int) := by omega
    have hm := congrArg (fun z => (bp i : Int) * z) hdiv
    simp only [Int.mul_add] at hm
    rw [Int.mul_left_comm] at hm
    rw [Int.sub_zero, bp_succ, Int.natCast_mul, Int.mul_assoc]
    have hv := hv.out
    clear ih hz hdiv hs hs0 hs1 ra rb e1 hc0 hc1
    omega
  by_cases hib : i < b.length
  ·have e2 : IntKind.u64.wrap (IntKind.u64.wrap (IntKind.u64.wrap (rd a (i : Int)) + c) + IntKind.u64.wrap (rd b (i : Int))) = rd a (i : Int) + c + rd b (i : Int) := by
    rw [u64w ra.1 (by omega), u64w rb.1 (by omega), u64w (x := rd a (i : Int) + c) (by omega) (by omega), u64w (x := rd a (i : Int) + c + rd b (i : Int)) (by omega) (by omega)]
   simp only [nat_plus.l0, e1, e2, if_pos (show (i : Int) < (a.length : Int) by omega), if_pos (show (0 : Int) ≤ (i : Int) by omega), if_pos (show (i : Int) < (b.length : Int) by omega), if_pos (show (i : Int) < (o.length : Int) by omega)]
   exact step (rd a (i : Int) + c + rd b (i : Int)) (by omega) (by omega) rfl
  ·have e2 : IntKind.u64.wrap (IntKind.u64.wrap (rd a (i : Int)) + c) = rd a (i : Int) + c := by
    rw [u64w ra.1 (by omega), u64w (x := rd a (i : Int) + c) (by omega) (by omega)]
   simp only [nat_plus.l0, e1, e2, if_pos (show (i : Int) < (a.length : Int) by omega), if_pos (show (0 : Int) ≤ (i : Int) by omega), if_neg (show ¬ (i : Int) < (b.length : Int) by omega), if_pos (show (i : Int) < (o.length : Int) by omega)]
   exact step (rd a (i : Int) + c) (by omega) (by omega) (by rw [rd_ge (l := b) (by omega)]; omega)
theorem plus_long {a b : List Int} (ha : Lm a) (hb : Lm b) (hab : b.length ≤ a.length) (hlen : a.length < 549755813888) : Ev (fun k => nat_plus.j0 k a b) (dg (lv a + lv b).toNat) := by
 refine Ev.succ ?_
 have e1 : wrap64 ((a.length : Int) + 1) = ((a.length + 1 : Nat) : Int) := by rw [w64 (by omega) (by omega)]; omega
 simp only [nat_plus.j0, e1, Int.toNat_natCast, if_pos (show (0 : Int) ≤ ((a.length + 1 : Nat) : Int) by omega), if_pos (show a.length + 1 ≤ 70368744177664 by omega)]
 exact plus_loop ha hb hab hlen a.length 0 _ 0 (by omega) (by simp) (lm_rep _) (by omega) (by omega) (fun j _ => by
  by_cases h : j < a.length + 1
  ·rw [rd_lt (by simpa using h)]; simp
  ·exact rd_ge (by simp; omega)) ⟨by rw [lv_rep]; simp [lv_nil]⟩
theorem plus_ev {a b : List Int} (ha : Lm a) (hb : Lm b) (h1 : a.length < 549755813888) (h2 : b.length < 549755813888) : Ev (fun k => nat_plus.f k a b) (dg (lv a + lv b).toNat) := by
 simp only [nat_plus.f]
 by_cases h : (a.length : Int) < (b.length : Int)
 ·simp only [if_pos h]
  rw [Int.add_comm]
  exact plus_long hb ha (by omega) h2
 ·simp only [if_neg h]
  exact plus_long ha hb (by omega) h1
def lsum : List (List Int) → Int
 | [] => 0
 | a :: l => lv a + lsum l
def Lms (l : List (List Int)) : Prop := ∀ x ∈ l, Lm x ∧ x.length < 1073741824
theorem rd3_lt {l : List (List Int)} {i : Nat} (h : i < l.length) : rd_L3 l (i : Int) = l[i] := by
 unfold rd_L3
 simp [List.getD_eq_getElem?_getD, h]
theorem lsum_take {l : List (List Int)} {i : Nat} (h : i < l.length) : lsum (l.take (i + 1)) = lsum (l.take i) + lv l[i] := by
 have app : ∀ (a b : List (List Int)), lsum (a ++ b) = lsum a + lsum b := by
  intro a
  induction a with
  | nil => intro b; simp [lsum]
  | cons x a ih => intro b; simp only [List.cons_append, lsum]; rw [ih]; omega
 rw [List.take_succ_eq_append_getElem h, app]
 simp [lsum]
theorem lv_dg_toNat {x : Int} (h : 0 ≤ x) : lv (dg x.toNat) = x := by rw [lv_dg]; omega
theorem add_loop {l : List (List Int)} (hl : Lms l) (hlen : l.length < 1073741824) : ∀ (d i : Nat) (s : List Int), i + d = l.length → Lm s → s.length ≤ 1073741824 + i → lv s = lsum (l.take i) →
  Ev (fun k => nat_Add.l0 k s l (l.length : Int) (i : Int)) (dg (lsum l).toNat) := by
 intro d
 induction d with
 | zero =>
  intro i s hi hs hsl hv
  have hi : i = l.length := by omega
  subst hi
  refine Ev.succ ?_
  simp only [nat_Add.l0, if_neg (show ¬ ((l.length : Nat) : Int) < (l.length : Int) by omega)]
  refine Ev.bind (trim_ev hs (by omega)) ?_
  refine Ev.cast (Ev.some _) ?_
  rw [hv, List.take_of_length_le (Nat.le_refl _)]
 | succ d ih =>
  intro i s hi hs hsl hv
  have hil : i < l.length := by omega
  have hx := hl l[i] (List.getElem_mem hil)
  refine Ev.succ ?_
  have e1 : wrap64 ((i : Int) + 1) = ((i + 1 : Nat) : Int) := by rw [w64 (by omega) (by omega)]; omega
  simp only [nat_Add.l0, e1, rd3_lt hil, if_pos (show (i : Int) < (l.length : Int) by omega), if_pos (show (0 : Int) ≤ (i : Int) by omega)]
  refine Ev.bind (short_ev hx.1 (by omega)) ?_
  have h2 := dg_len_of hx.1
  refine Ev.bind (plus_ev hs (lm_dg _) (by omega) (by omega)) ?_
  have h3 : 0 ≤ lv s := lv_nonneg hs
  have h4 : 0 ≤ lv l[i] := lv_nonneg hx.1
  refine ih (i + 1) _ (by omega) (lm_dg _) ?_ ?_
  ·rw [lv_dg_toNat h4]
   have h5 := lv_le_of_len hs hsl
   have h6 := lv_le_of_len hx.1 (m := 1073741824 + i) (by omega)
   refine dg_len_le ?_
   rw [show 1073741824 + (i + 1) = (1073741824 + i) + 1 by omega, bp_succ]
   generalize bp (1073741824 + i) = p at *
   omega
  ·rw [lv_dg_toNat h4, lv_dg_toNat (by omega), hv, lsum_take hil]
theorem add_ev {l : List (List Int)} (hl : Lms l) (hlen : l.length < 1073741824) : Ev (fun k => nat_Add.f k l) (dg (lsum l).toNat) := by
 simp only [nat_Add.f]
 exact add_loop hl hlen l.length 0 [] (by omega) lm_nil (by simp) (by simp [lv_nil, lsum])
theorem add2_ev {a b : Nat} (ha : (dg a).length < 1073741824) (hb : (dg b).length < 1073741824) : Ev (fun k => nat_Add.f k [dg a, dg b]) (dg (a + b)) := by
 refine Ev.cast (add_ev (l := [dg a, dg b]) (fun x hx => ?_) (by simp)) ?_
 ·rcases List.mem_cons.mp hx with e | e
  ·exact e ▸ ⟨lm_dg a, ha⟩
  ·rw [List.mem_singleton.mp e]; exact ⟨lm_dg b, hb⟩
 ·congr 1
  simp only [lsum, lv_dg]
  omega
theorem rd_rep (n : Nat) (j : Nat) : rd (List.replicate n 0) (j : Int) = 0 := by
 by_cases h : j < n
 ·rw [rd_lt (by simpa using h)]; simp
 ·exact rd_ge (by simp; omega)
theorem mac_bound {x y z c : Int} (hx0 : 0 ≤ x) (hx1 : x < 4294967296) (hy0 : 0 ≤ y) (hy1 : y < 4294967296) (hz0 : 0 ≤ z) (hz1 : z < 4294967296) (hc0 : 0 ≤ c) (hc1 : c < 4294967296) :
  0 ≤ x * y ∧ x * y + z + c < 18446744073709551616 := by
 have hp0 : 0 ≤ x * y := Int.mul_nonneg hx0 hy0
 have hp1 : x * y ≤ 4294967295 * 4294967295 := Int.mul_le_mul (by omega) (by omega) hy0 (by decide)
 generalize x * y = p at *
 omega
theorem mac_wrap {x y z c : Int} (hx0 : 0 ≤ x) (hx1 : x < 4294967296) (hy0 : 0 ≤ y) (hy1 : y < 4294967296) (hz0 : 0 ≤ z) (hz1 : z < 4294967296) (hc0 : 0 ≤ c) (hc1 : c < 4294967296) :
  IntKind.u64.wrap (IntKind.u64.wrap (IntKind.u64.wrap (IntKind.u64.wrap x * IntKind.u64.wrap y) + IntKind.u64.wrap z) + c) = x * y + z + c := by
 have hb := mac_bound hx0 hx1 hy0 hy1 hz0 hz1 hc0 hc1
 rw [u64w (x := x) (by omega) (by omega), u64w (x := y) (by omega) (by omega), u64w (x := z) (by omega) (by omega)]
 generalize x * y = p at *
 rw [u64w (x := p) (by omega) (by omega), u64w (x := p + z) (by omega) (by omega), u64w (x := p + z + c) (by omega) (by omega)]
theorem split_div (s : Int) : s % 4294967296 + 4294967296 * (s / 4294967296) = s := by omega
theorem div_bound {s : Int} (h0 : 0 ≤ s) (h1 : s < 18446744073709551616) : 0 ≤ s % 4294967296 ∧ s % 4294967296 < 4294967296 ∧ 0 ≤ s / 4294967296 ∧ s / 4294967296 < 4294967296 := by omega
theorem times_inner {x : Int} {b l18 : List Int} (hx0 : 0 ≤ x) (hx1 : x < 4294967296) (hb : Lm b) (hbl : b.length < 536870912) (x19 : Int) (i L : Nat) (hL : i + b.length + 1 ≤ L) (hL2 : L < 1073741824) (V : Int) (R : List Int)
  (next : ∀ o : List Int, o.length = L → Lm o → (∀ j : Nat, i + 1 + b.length ≤ j → rd o (j : Int) = 0) → Aside0 (lv o = V + (bp i : Int) * (x * lv b)) → Ev (fun k => nat_times.l0 k b o l18 x19 ((i + 1 : Nat) : Int)) R) :
  ∀ (d j : Nat) (o : List Int) (c : Int), j + d = b.length → o.length = L → Lm o → 0 ≤ c → c < 4294967296 → (∀ m : Nat, i + b.length ≤ m → rd o (m : Int) = 0) →
   Aside0 (lv o + (bp (i + j) : Int) * c = V + (bp i : Int) * (x * lv (b.take j))) →
   Ev (fun k => nat_times.l1 k b o (i : Int) x c l18 x19 (i : Int) b (b.length : Int) (j : Int)) R := by
 intro d
 induction d with
 | zero =>
  intro j o c hj ho hol hc0 hc1 hz hv
  have hj : j = b.length := by omega
  subst hj
  refine Ev.succ ?_
  simp only [nat_times.l1, wn (show (i : Int) + (b.length : Int) = ((i + b.length : Nat) : Int) by omega) (by omega), wn (show (i : Int) + 1 = ((i + 1 : Nat) : Int) by omega) (by omega), if_neg (show ¬ ((b.length : Nat) : Int) < (b.length : Int) by omega), if_pos (show (0 : Int) ≤ ((i + b.length : Nat) : Int) by omega), if_pos (show ((i + b.length : Nat) : Int) < (o.length : Int) by omega)]
  rw [Int.toNat_natCast, show c % 4294967296 = c by omega]
  refine next _ (by rw [List.length_set]; omega) (lm_set hol hc0 hc1) (fun m hm => ?_) ⟨?_⟩
  ·rw [rd_set_ne _ (by omega)]; exact hz m (by omega)
  ·rw [lv_set _ (by omega), hz _ (Nat.le_refl _), Int.sub_zero, hv.out, List.take_of_length_le (Nat.le_refl _)]
 | succ d ih =>
  intro j o c hj ho hol hc0 hc1 hz hv
  have hjb : j < b.length := by omega
  refine Ev.succ ?_
  have rb := rd_lm hb (j : Int)
  have ro := rd_lm hol ((i + j : Nat) : Int)
  simp only [nat_times.l1, wn (show (i : Int) + (j : Int) = ((i + j : Nat) : Int) by omega) (by omega), wn (show (j : Int) + 1 = ((j + 1 : Nat) : Int) by omega) (by omega), if_pos (show (j : Int) < (b.length : Int) by omega), if_pos (show (0 : Int) ≤ (j : Int) by omega), if_pos (show (0 : Int) ≤ ((i + j : Nat) : Int) by omega), if_pos (show ((i + j : Nat) : Int) < (o.length : Int) by omega), mac_wrap hx0 hx1 rb.1 rb.2 ro.1 ro.2 hc0 hc1]
  have hb2 := mac_bound hx0 hx1 rb.1 rb.2 ro.1 ro.2 hc0 hc1
  have hdef : ∃ s, s = x * rd b (j : Int) + rd o ((i + j : Nat) : Int) + c := ⟨_, rfl⟩
  obtain ⟨s, hs⟩ := hdef
  have hs0 : 0 ≤ s := by rw [hs]; exact Int.add_nonneg (Int.add_nonneg hb2.1 ro.1) hc0
  have hs1 : s < 18446744073709551616 := by rw [hs]; exact hb2.2
  have hd := div_bound hs0 hs1
  clear hb2
  rw [← hs]
  rw [Int.toNat_natCast]
  have hs := Aside0.mk hs
  refine ih (j + 1) _ _ (by omega) (by rw [List.length_set]; omega) (lm_set hol hd.1 hd.2.1) hd.2.2.1 hd.2.2.2 (fun m hm => ?_) ⟨?_⟩
  ·rw [rd_set_ne _ (by omega)]; exact hz m hm
  ·rw [lv_set _ (by omega), lv_take_succ hjb, ← Nat.add_assoc, bp_succ, Int.natCast_mul]
   have hdiv : s % 4294967296 + 4294967296 * (s / 4294967296) = x * rd b (j : Int) + rd o ((i + j : Nat) : Int) + c := by rw [split_div]; exact hs.out
   have hv := hv.out
   have hbp : ((bp (i + j) : Nat) : Int) = (bp i : Int) * (bp j : Int) := by rw [bp_add, Int.natCast_mul]
   clear ih hz next hs hs0 hs1 hd rb ro hc0 hc1
   generalize s % 4294967296 = y at *
   generalize s / 4294967296 = u at *
   generalize (bp (i + j) : Int) = p at *
   generalize (bp i : Int) = pi at *
   generalize (bp j : Int) = pj at *
   generalize rd b (j : Int) = rb at *
   generalize rd o ((i + j : Nat) : Int) = ro at *
   generalize lv o = lo at *
   generalize lv (b.take j) = lt at *
   subst hbp
   have h1 : lo + pi * pj * c = V + pi * (x * lt) := hv
   have h2 : y + 4294967296 * u = x * rb + ro + c := hdiv
   show lo + pi * pj * (y - ro) + 4294967296 * (pi * pj) * u = V + pi * (x * (lt + pj * rb))
   have h3 : pi * pj * (y + 4294967296 * u) = pi * pj * (x * rb + ro + c) := by rw [h2]
   grind
theorem times_outer {b l : List Int} (hb : Lm b) (hl : Lm l) (hbl : b.length < 268435456) (hll : l.length < 268435456) : ∀ (d i : Nat) (o : List Int), i + d = l.length → o.length = l.length + b.length → Lm o → (∀ m : Nat, i + b.length ≤ m → rd o (m : Int) = 0) →
  Aside0 (lv o = lv (l.take i) * lv b) → Ev (fun k => nat_times.l0 k b o l (l.length : Int) (i : Int)) (dg (lv l * lv b).toNat) := by
 intro d
 induction d with
 | zero =>
  intro i o hi ho hol hz hv
  have hi : i = l.length := by omega
  subst hi
  refine Ev.succ ?_
  simp only [nat_times.l0, if_neg (show ¬ ((l.length : Nat) : Int) < (l.length : Int) by omega)]
  refine Ev.bind (short_ev hol (by omega)) ?_
  refine Ev.cast (Ev.some _) ?_
  rw [hv.out, List.take_of_length_le (Nat.le_refl _)]
 | succ d ih =>
  intro i o hi ho hol hz hv
  have hil : i < l.length := by omega
  refine Ev.succ ?_
  have rl := rd_lm hl (i : Int)
  simp only [nat_times.l0, if_pos (show (i : Int) < (l.length : Int) by omega), if_pos (show (0 : Int) ≤ (i : Int) by omega)]
  refine times_inner (l18 := l) rl.1 rl.2 hb (by omega) (l.length : Int) i (l.length + b.length) (by omega) (by omega) (lv (l.take i) * lv b) _ (fun o2 h1 h2 h3 h4 => ?_) b.length 0 o 0 (by omega) ho hol (by omega) (by omega) hz ⟨?_⟩
  ·refine ih (i + 1) o2 (by omega) h1 h2 (fun m hm => h3 m hm) ⟨?_⟩
   rw [h4.out, lv_take_succ hil, Int.add_mul, Int.mul_assoc]
  ·rw [hv.out]; simp [lv_nil]
theorem times_ev {a b : List Int} (ha : Lm a) (hb : Lm b) (h1 : a.length < 268435456) (h2 : b.length < 268435456) : Ev (fun k => nat_times.f k a b) (dg (lv a * lv b).toNat) := by
 simp only [nat_times.f]
 simp only [wn (show (a.length : Int) + (b.length : Int) = ((a.length + b.length : Nat) : Int) by omega) (by omega), Int.toNat_natCast, if_pos (show (0 : Int) ≤ ((a.length + b.length : Nat) : Int) by omega), if_pos (show a.length + b.length ≤ 70368744177664 by omega)]
 exact times_outer hb ha h2 h1 a.length 0 _ (by omega) (by simp) (lm_rep _) (fun m _ => rd_rep _ m) ⟨by rw [lv_rep]; simp [lv_nil]⟩
theorem mul2_ev {a b : Nat} (ha : (dg a).length < 134217728) (hb : (dg b).length < 134217728) : Ev (fun k => nat_Mul.f k [dg a, dg b]) (dg (a * b)) := by
 simp only [nat_Mul.f]
 have mul_len : ∀ x y : Nat, (dg (x * y)).length ≤ (dg x).length + (dg y).length := by
  intro x y
  refine dg_len_le ?_
  rw [bp_add]
  exact Nat.mul_lt_mul'' (dg_lt_len x) (dg_lt_len y)
 have one : lv [1] = 1 := by rw [lv_cons, lv_nil]; rfl
 have l1 : Lm [1] := by rw [lm_cons]; exact ⟨by omega, lm_nil⟩
 refine Ev.succ ?_
 simp only [nat_Mul.l0, List.length_cons, List.length_nil, w64 (x := (0 : Int) + 1) (by omega) (by omega)]
 rw [show ((0 + 1 + 1 : Nat) : Int) = 2 from rfl]
 simp only [if_pos (show (0 : Int) < 2 by omega), if_pos (show (0 : Int) ≤ 0 by omega)]
 rw [show rd_L3 [dg a, dg b] 0 = dg a from rfl]
 refine Ev.bind (short_ev (lm_dg a) (by omega)) ?_
 rw [lv_dg, Int.toNat_natCast]
 refine Ev.bind (times_ev l1 (lm_dg a) (by simp) (by omega)) ?_
 rw [one, lv_dg, Int.one_mul, Int.toNat_natCast]
 refine Ev.succ ?_
 rw [show (0 : Int) + 1 = 1 from rfl]
 simp only [nat_Mul.l0, List.length_cons, List.length_nil, w64 (x := (1 : Int) + 1) (by omega) (by omega)]
 rw [show ((0 + 1 + 1 : Nat) : Int) = 2 from rfl]
 simp only [if_pos (show (1 : Int) < 2 by omega), if_pos (show (0 : Int) ≤ 1 by omega)]
 rw [show rd_L3 [dg a, dg b] 1 = dg b from rfl]
 refine Ev.bind (short_ev (lm_dg b) (by omega)) ?_
 rw [lv_dg, Int.toNat_natCast]
 refine Ev.bind (times_ev (lm_dg a) (lm_dg b) (by omega) (by omega)) ?_
 rw [lv_dg, lv_dg, ← Int.natCast_mul, Int.toNat_natCast]
 rw [show (1 : Int) + 1 = 2 from rfl]
 refine Ev.succ ?_
 simp only [nat_Mul.l0, if_neg (show ¬ (2 : Int) < 2 by omega)]
 have := mul_len a b
 refine Ev.bind (trim_ev (lm_dg (a * b)) (by omega)) ?_
 rw [lv_dg, Int.toNat_natCast]
 exact Ev.some _
theorem wraps_u64 (n : Int) (h0 : 0 ≤ n) (h1 : n < 2 ^ 64) : IntKind.u64.wrap n = n := u64w h0 (by omega)
theorem join32 {x y : Int} (hx0 : 0 ≤ x) (hx1 : x < 4294967296) (hy0 : 0 ≤ y) (hy1 : y < 4294967296) : Go.bits .or .u64 (IntKind.u64.wrap (x * 4294967296)) (IntKind.u64.wrap y) = x * 4294967296 + y := by
  rw [u64w (x := x * 4294967296) (by omega) (by omega), u64w (x := y) (by omega) (by omega)]
  exact bits_join .u64 64 (by decide) wraps_u64 32 _ _ (by omega) (by omega) (by omega) hy0 (by omega) (by omega)
theorem digit_bounds {r b y : Int} (hr0 : 0 ≤ r) (hrb : r < b) (hb : b < 4294967296) (hy0 : 0 ≤ y) (hy1 : y < 4294967296) :
    0 ≤ (r * 4294967296 + y) / b ∧ (r * 4294967296 + y) / b < 4294967296 ∧ 0 ≤ (r * 4294967296 + y) % b ∧ (r * 4294967296 + y) % b < b := by
  have hbp : 0 < b := by omega
  refine ⟨Int.ediv_nonneg (by omega) (by omega), ?_, Int.emod_nonneg _ (by omega), Int.emod_lt_of_pos _ hbp⟩
  refine Int.ediv_lt_of_lt_mul hbp ?_
  have : (r + 1) * 4294967296 ≤ b * 4294967296 := by omega
  omega
theorem digit_loop {a : List Int} {b : Int} (ha : Lm a) (hb0 : 0 < b) (hb1 : b < 4294967296) (hlen : a.length < 1073741824) : ∀ (n : Nat) (o : List Int) (r : Int), n ≤ a.length → o.length = a.length → Lm o → (∀ j : Nat, j < n → rd o (j : Int) = 0) → 0 ≤ r → r < b →
    Aside0 (lv o * b + (bp n : Int) * r = lv a - lv (a.take n)) → Ev (fun k => nat_digit.l0 k a b o r ((n : Int) - 1)) (dg (lv a / b).toNat, lv a % b) := by
  intro n
  induction n with
  | zero =>
    intro o r hn ho hol hz hr0 hr1 hv
    refine Ev.succ ?_
    simp only [nat_digit.l0, if_neg (show ¬ ((0 : Nat) : Int) - 1 ≥ 0 by omega)]
    refine Ev.bind (short_ev hol (by omega)) ?_
    refine Ev.cast (Ev.some _) ?_
    have hv := hv.out
    rw [List.take_zero, lv_nil, bp_zero] at hv
    have e : lv a = b * lv o + r := by rw [Int.mul_comm]; omega
    have h1 : lv a / b = lv o := by
      rw [e, Int.add_comm, Int.add_mul_ediv_left _ _ (by omega), Int.ediv_eq_zero_of_lt hr0 hr1]; omega
    have h2 : lv a % b = r := by
      rw [e, Int.add_comm, Int.add_mul_emod_self_left, Int.emod_eq_of_lt hr0 hr1]
    rw [h1, h2]
    clear hv e h1 h2
    congr 1
    omega
  | succ n ih =>
    intro o r hn ho hol hz hr0 hr1 hv
    refine Ev.succ ?_
    have ra := rd_lm ha (n : Int)
    have hd := digit_bounds hr0 hr1 hb1 ra.1 ra.2
    have hdiv : b * ((r * 4294967296 + rd a (n : Int)) / b) + (r * 4294967296 + rd a (n : Int)) % b = r * 4294967296 + rd a (n : Int) := Int.mul_ediv_add_emod _ _
    have t0 : 0 ≤ r * 4294967296 + rd a (n : Int) := by omega
    simp only [nat_digit.l0, show ((n + 1 : Nat) : Int) - 1 = (n : Int) from by omega, if_pos (show (n : Int) ≥ 0 by omega), if_pos (show (0 : Int) ≤ (n : Int) by omega), if_pos (show (n : Int) < (a.length : Int) by omega), if_pos (show (n : Int) < (o.length : Int) by omega), if_neg (show ¬ b = 0 by omega),
      join32 hr0 (by omega) ra.1 ra.2, w64 (x := (n : Int) - 1) (by omega) (by omega), u64w (x := b) (by omega) (by omega)]
    rw [Int.tdiv_eq_ediv_of_nonneg t0, Int.tmod_eq_emod_of_nonneg t0]
    generalize (r * 4294967296 + rd a (n : Int)) / b = q at *
    generalize (r * 4294967296 + rd a (n : Int)) % b = s at *
    rw [u64w (x := q) hd.1 (by omega), show q % 4294967296 = q by omega, Int.toNat_natCast]
    refine ih _ _ (by omega) (by rw [List.length_set]; exact ho) (lm_set hol hd.1 hd.2.1) (fun j hj => ?_) hd.2.2.1 hd.2.2.2 ⟨?_⟩
    · rw [rd_set_ne _ (by omega)]; exact hz j (by omega)
    · have hv := hv.out
      rw [lv_take_succ (l := a) (i := n) (by omega), bp_succ, Int.natCast_mul] at hv
      rw [lv_set (l := o) (i := n) _ (by omega), hz n (by omega)]
      clear ih hz hd ra t0
      generalize lv o = x at *
      generalize (bp n : Int) = p at *
      generalize rd a (n : Int) = y at *
      generalize lv a = A at *
      generalize lv (a.take n) = T at *
      have hv : x * b + 4294967296 * p * r = A - (T + p * y) := hv
      have h3 : p * (b * q + s) = p * (r * 4294967296 + y) := by rw [hdiv]
      grind
theorem digit_ev {a : List Int} {b : Int} (ha : Lm a) (hb0 : 0 < b) (hb1 : b < 4294967296) (hlen : a.length < 1073741824) : Ev (fun k => nat_digit.f k a b) (dg (lv a / b).toNat, lv a % b) := by
  simp only [nat_digit.f, Int.toNat_natCast, if_pos (show (0 : Int) ≤ (a.length : Int) by omega), if_pos (show a.length ≤ 70368744177664 by omega), w64 (x := (a.length : Int) - 1) (by omega) (by omega)]
  exact digit_loop ha hb0 hb1 hlen a.length _ 0 (Nat.le_refl _) (by simp) (lm_rep _) (fun j _ => rd_rep _ j) (by omega) (by omega) ⟨by rw [lv_rep, List.take_of_length_le (Nat.le_refl _)]; simp⟩
theorem bin_mul (n i : Nat) : bin n i * (n - i) = (i + 1) * bin n (i + 1) := by rw [bin_step, Nat.mul_comm]
theorem bin_lt (n k : Nat) : bin n k ≤ 2 ^ n := by
  induction n generalizing k with
  | zero => cases k <;> simp [bin]
  | succ n ih => cases k with
    | zero => rw [bin_zero]; exact Nat.one_le_two_pow
    | succ k => rw [bin_succ, Nat.pow_succ]; have h1 := ih k; have h2 := ih (k + 1); omega
theorem pow2_bp (m : Nat) : 2 ^ (32 * m) = bp m := by
  induction m with
  | zero => rw [bp_zero]
  | succ m ih => rw [Nat.mul_succ, Nat.pow_add, ih, bp_succ, Nat.mul_comm]
theorem bin_len {n : Nat} (hn : n ≤ 4096) (k : Nat) : (dg (bin n k)).length ≤ 129 := by
  refine dg_len_le ?_
  have h1 := bin_lt n k
  have h2 : ∀ m, n ≤ 32 * m → 2 ^ n ≤ bp m := fun m h => by rw [← pow2_bp]; exact Nat.pow_le_pow_right (by decide) h
  have h2 := h2 128 (by omega)
  have h3 := bp_pos 128
  rw [show 129 = 128 + 1 from rfl, bp_succ]
  generalize 2 ^ n = p at *
  generalize bp 128 = u at *
  omega
theorem binomial_loop {n : Nat} (hn : n ≤ 4096) : ∀ (d i m : Nat), i + d = m → m ≤ n → Ev (fun k => nat_Binomial.l0 k (n : Int) (dg (bin n i)) (m : Int) (i : Int)) (dg (bin n m), 0) := by
  intro d
  induction d with
  | zero =>
    intro i m hi hm
    have hi : i = m := by omega
    subst hi
    refine Ev.succ ?_
    simp only [nat_Binomial.l0, if_neg (show ¬ (i : Int) < (i : Int) by omega)]
    have := bin_len hn i
    refine Ev.bind (trim_ev (lm_dg _) (by omega)) ?_
    rw [lv_dg, Int.toNat_natCast]
    exact Ev.some _
  | succ d ih =>
    intro i m hi hm
    refine Ev.succ ?_
    have hl := bin_len hn i
    have e0 : ((n : Int) - (i : Int)) % 4294967296 = ((n - i : Nat) : Int) := by omega
    have e1 : ((i + 1 : Nat) : Int) % 4294967296 = ((i + 1 : Nat) : Int) := by omega
    simp only [nat_Binomial.l0, w64 (x := (n : Int) - (i : Int)) (by omega) (by omega), wn (show (i : Int) + 1 = ((i + 1 : Nat) : Int) by omega) (by omega), if_pos (show (i : Int) < (m : Int) by omega), e0, e1]
    have l1 : Lm [((n - i : Nat) : Int)] := by rw [lm_cons]; exact ⟨by omega, lm_nil⟩
    refine Ev.bind (times_ev (lm_dg _) l1 (by omega) (by simp)) ?_
    have v1 : lv (dg (bin n i)) * lv [((n - i : Nat) : Int)] = ((bin n i * (n - i) : Nat) : Int) := by rw [lv_dg, lv_cons, lv_nil, Int.natCast_mul]; simp
    rw [v1, Int.toNat_natCast, bin_mul]
    have hl2 : (dg ((i + 1) * bin n (i + 1))).length ≤ 130 := by
      refine dg_len_le ?_
      rw [← bin_mul]
      have h1 := dg_lt_len (bin n i)
      have h2 := bp_mono hl
      have h3 : bin n i < bp 129 := by omega
      rw [show 130 = 129 + 1 from rfl, bp_succ, Nat.mul_comm]
      have h4 : n - i ≤ 4294967296 := by omega
      exact Nat.lt_of_le_of_lt (Nat.mul_le_mul_right _ h4) (Nat.mul_lt_mul_of_pos_left h3 (by decide))
    refine Ev.bind (digit_ev (lm_dg _) (by omega) (by omega) (by omega)) ?_
    rw [lv_dg]
    have v2 : (((i + 1) * bin n (i + 1) : Nat) : Int) / ((i + 1 : Nat) : Int) = ((bin n (i + 1) : Nat) : Int) := by
      rw [Int.natCast_mul, Int.mul_ediv_cancel_left _ (by omega)]
    rw [v2, Int.toNat_natCast]
    exact ih (i + 1) m (by omega) hm
theorem binomial_ev {n m : Nat} (hn : n ≤ 4096) (hm : m ≤ n) : Ev (fun k => nat_Binomial.f k (n : Int) (m : Int)) (dg (bin n m), 0) := by
  simp only [nat_Binomial.f, if_neg (show ¬ (n : Int) < 0 by omega), decide_eq_false (show ¬ (n : Int) > 4096 by omega)]
  refine Ev.succ ?_
  simp only [nat_Binomial.j0, Bool.false_eq_true, if_false, if_neg (show ¬ (m : Int) < 0 by omega), decide_eq_false (show ¬ (m : Int) > (n : Int) by omega)]
  refine Ev.succ ?_
  simp only [nat_Binomial.j1, Bool.false_eq_true, if_false, wn (show (n : Int) - (m : Int) = ((n - m : Nat) : Int) by omega) (by omega)]
  have hone : ([1] : List Int) = dg (bin n 0) := by rw [bin_zero, dg_one]
  rw [hone]
  have hz : (0 : Int) = ((0 : Nat) : Int) := rfl
  by_cases h : m ≤ n - m
  · rw [show mn (m : Int) ((n - m : Nat) : Int) = (m : Int) from by unfold mn; split <;> omega]
    exact binomial_loop hn m 0 m (by omega) hm
  · rw [show mn (m : Int) ((n - m : Nat) : Int) = ((n - m : Nat) : Int) from by unfold mn; split <;> omega, ← bin_symm hm]
    exact binomial_loop hn (n - m) 0 (n - m) (by omega) (by omega)
theorem bits_half (x : Nat) (h : x < 4294967296) : Lib.bitLen x ≤ 32 := Lib.bitLen_le x 32 (by decide) (by omega)
theorem bitLen_zero : Lib.bitLen 0 = 0 := by decide
theorem bitLen_pos {x : Nat} (h0 : x ≠ 0) (h : x < 4294967296) : 1 ≤ Lib.bitLen x := by
  rw [Lib.bitLen_half x h0 (by omega)]; omega
theorem bitLen_lt : ∀ (b x : Nat), x < 4294967296 → Lib.bitLen x ≤ b → x < 2 ^ b := by
  intro b
  induction b with
  | zero =>
    intro x hx hb
    by_cases h : x = 0
    · subst h; decide
    · have := bitLen_pos h hx; omega
  | succ b ih =>
    intro x hx hb
    by_cases h : x = 0
    · subst h; exact Nat.two_pow_pos _
    · rw [Lib.bitLen_half x h (by omega)] at hb
      have := ih (x / 2) (by omega) (by omega)
      rw [Nat.pow_succ]
      omega
theorem dg_head {n : Nat} {i : Nat} (hi : i + 1 = (dg n).length) : rd (dg n) (i : Int) ≠ 0 := by
  have hne : dg n ≠ [] := by intro e; rw [e] at hi; simp at hi
  have := dg_last n hne
  rw [List.getLast_eq_getElem] at this
  rw [rd_lt (by omega)]
  have e : (dg n).length - 1 = i := by omega
  simpa [e] using this
def bl (n : Nat) : Nat := if n = 0 then 0 else 32 * ((dg n).length - 1) + Lib.bitLen (rd (dg n) (((dg n).length - 1 : Nat) : Int)).toNat
theorem bits_ev {n : Nat} (hn : (dg n).length < 33554432) : Ev (fun k => nat_Bits.f k (dg n)) ((bl n : Nat) : Int) := by
  simp only [nat_Bits.f]
  refine Ev.bind (short_ev (lm_dg n) (by omega)) ?_
  rw [lv_dg, Int.toNat_natCast]
  by_cases h : n = 0
  · subst h
    rw [dg_zero]
    simp only [List.length_nil, if_pos (show ((0 : Nat) : Int) = 0 from rfl)]
    exact Ev.cast (Ev.some _) (by simp [bl])
  · have hp : (dg n).length ≠ 0 := by rw [Ne, dg_len_zero]; exact h
    obtain ⟨m, hm⟩ : ∃ m, (dg n).length = m + 1 := ⟨(dg n).length - 1, by omega⟩
    have hb : bl n = 32 * m + Lib.bitLen (rd (dg n) (m : Int)).toNat := by unfold bl; rw [if_neg h, hm]; rfl
    have hr := rd_lm (lm_dg n) (m : Int)
    have hbl := bits_half (rd (dg n) (m : Int)).toNat (by omega)
    rw [hb, hm]
    have f1 : bits_Len32.f (rd (dg n) (m : Int)) = some ((Lib.bitLen (rd (dg n) (m : Int)).toNat : Nat) : Int) := by
      unfold bits_Len32.f
      rw [if_pos hr.1, if_pos (by omega)]
    simp only [if_neg (show ¬ ((m + 1 : Nat) : Int) = 0 by omega), wn (show ((m + 1 : Nat) : Int) - 1 = (m : Int) by omega) (by omega), if_pos (show (0 : Int) ≤ (m : Int) by omega), if_pos (show (m : Int) < ((m + 1 : Nat) : Int) by omega), f1, Option.bind_some]
    refine Ev.cast (Ev.some _) ?_
    rw [wn (show (32 : Int) * (m : Int) = ((32 * m : Nat) : Int) by omega) (by omega), wn (show ((32 * m : Nat) : Int) + ((Lib.bitLen (rd (dg n) (m : Int)).toNat : Nat) : Int) = ((32 * m + Lib.bitLen (rd (dg n) (m : Int)).toNat : Nat) : Int) by omega) (by omega)]
theorem bl_zero {n : Nat} : bl n = 0 ↔ n = 0 := by
  constructor
  · intro h
    by_cases h0 : n = 0
    · exact h0
    · unfold bl at h
      rw [if_neg h0] at h
      have hp : (dg n).length ≠ 0 := by rw [Ne, dg_len_zero]; exact h0
      obtain ⟨m, hm⟩ : ∃ m, (dg n).length = m + 1 := ⟨(dg n).length - 1, by omega⟩
      have hr := rd_lm (lm_dg n) (m : Int)
      have h1 := dg_head hm.symm
      rw [hm, show m + 1 - 1 = m from rfl] at h
      have := bitLen_pos (x := (rd (dg n) (m : Int)).toNat) (by omega) (by omega)
      omega
  · intro h; subst h; rfl
theorem bl_small {n : Nat} (h0 : n ≠ 0) (h : n < 4294967296) : bl n = Lib.bitLen n := by
  unfold bl
  rw [if_neg h0, dg_small h0 h]
  simp [rd]
theorem bl_one {n : Nat} : bl n = 1 ↔ n = 1 := by
  constructor
  · intro h
    have hn0 : n ≠ 0 := by intro e; subst e; rw [bl_zero.mpr rfl] at h; omega
    unfold bl at h
    rw [if_neg hn0] at h
    have hp : (dg n).length ≠ 0 := by rw [Ne, dg_len_zero]; exact hn0
    obtain ⟨m, hm⟩ : ∃ m, (dg n).length = m + 1 := ⟨(dg n).length - 1, by omega⟩
    have hr := rd_lm (lm_dg n) (m : Int)
    have h1 := dg_head hm.symm
    rw [hm, show m + 1 - 1 = m from rfl] at h
    have h2 := bitLen_pos (x := (rd (dg n) (m : Int)).toNat) (by omega) (by omega)
    have hm0 : m = 0 := by omega
    subst hm0
    have hn : n < 4294967296 := by
      have := dg_lt_len n
      rw [hm, show (0 + 1 : Nat) = 0 + 1 from rfl, bp_succ, bp_zero] at this
      omega
    have h4 : dg n = [(n : Int)] := dg_small hn0 hn
    rw [h4] at h
    have h3 := bitLen_lt 1 n hn (by simp [rd] at h; omega)
    omega
  · intro h; subst h; rw [bl_small (by decide) (by decide)]; decide
theorem pow_len (x n m : Nat) (h : (dg x).length ≤ m) : (dg (x ^ n)).length ≤ m * n + 1 := by
  refine dg_len_le ?_
  have h1 := dg_lt_len x
  have h2 := bp_mono h
  have h3 : ∀ n, x ^ n ≤ bp (m * n) := by
    intro n
    induction n with
    | zero => simp [bp_zero]
    | succ n ih => rw [Nat.pow_succ, Nat.mul_succ, bp_add]; exact Nat.mul_le_mul ih (by omega)
  have h4 := h3 n
  rw [bp_succ]
  have h5 := bp_pos (m * n)
  omega
theorem and1 {n : Nat} (hn : n < 9223372036854775808) : Go.bits .and .i64 (n : Int) 1 = ((n % 2 : Nat) : Int) := by
  have := bits_mask .i64 63 (by decide) (fun n h0 h1 => by
    rw [IntKind.wrap_i64]
    have : n < 9223372036854775808 := by omega
    omega) 1 (by decide) (n : Int) (by omega) (by have : (n : Int) < 9223372036854775808 := by omega
                                                  omega)
  rw [show (2 : Int) ^ 1 - 1 = 1 from rfl, show (2 : Int) ^ 1 = 2 from rfl] at this
  rw [this]
  omega
theorem mul_len (x y : Nat) : (dg (x * y)).length ≤ (dg x).length + (dg y).length := by
  refine dg_len_le ?_
  rw [bp_add]
  exact Nat.mul_lt_mul'' (dg_lt_len x) (dg_lt_len y)
theorem times2_ev {a b : Nat} (h1 : (dg a).length < 268435456) (h2 : (dg b).length < 268435456) : Ev (fun k => nat_times.f k (dg a) (dg b)) (dg (a * b)) := by
  refine Ev.cast (times_ev (lm_dg a) (lm_dg b) h1 h2) ?_
  rw [lv_dg, lv_dg, ← Int.natCast_mul, Int.toNat_natCast]
theorem trim2_ev {a : Nat} (h1 : (dg a).length < 268435456) : Ev (fun k => nat_Trim.f k (dg a)) (dg a) := by
  refine Ev.cast (trim_ev (lm_dg a) (by omega)) ?_
  rw [lv_dg, Int.toNat_natCast]
theorem pow_half (y x n : Nat) : y * x ^ n = (if n % 2 = 1 then y * x else y) * (x * x) ^ (n / 2) := by
  have e : n = 2 * (n / 2) + n % 2 := by omega
  have h : x ^ n = (x * x) ^ (n / 2) * x ^ (n % 2) := by
    conv => lhs; rw [e]
    rw [Nat.pow_add, Nat.pow_mul, Nat.pow_two]
  rw [h]
  by_cases g : n % 2 = 1
  · rw [if_pos g, g, Nat.pow_one]; simp only [Nat.mul_assoc, Nat.mul_comm x]
  · rw [if_neg g, show n % 2 = 0 by omega, Nat.pow_zero, Nat.mul_one]
theorem pow_loop : ∀ (n : Nat), 0 < n → n < 4611686018427387904 → ∀ (y x : Nat), Aside0 ((dg x).length * n + (dg y).length ≤ 4096) → Ev (fun k => nat_Pow.l0 k (n : Int) (dg y) (dg x)) (dg (y * x ^ n), 0) := by
  intro n
  induction n using Nat.strongRecOn with
  | _ n ih =>
    intro h0 h1 y x hl
    have hx : (dg x).length ≤ 4096 := by
      have h2 := hl.out
      have h3 : (dg x).length * 1 ≤ (dg x).length * n := Nat.mul_le_mul_left _ h0
      omega
    have hy : (dg y).length ≤ 4096 := by have := hl.out; omega
    have hyx := mul_len y x
    have hxx := mul_len x x
    refine Ev.succ ?_
    have hd : (n : Int) / 2 = ((n / 2 : Nat) : Int) := by omega
    have hy2 : Aside0 ((dg (x * x)).length * (n / 2) + (dg (if n % 2 = 1 then y * x else y)).length ≤ 4096) := by
      refine ⟨?_⟩
      have h2 := hl.out
      have h3 : (dg (x * x)).length * (n / 2) ≤ ((dg x).length + (dg x).length) * (n / 2) := Nat.mul_le_mul_right _ hxx
      have h4 : ((dg x).length + (dg x).length) * (n / 2) + (dg x).length * (n % 2) = (dg x).length * n := by
        conv => rhs; rw [show n = 2 * (n / 2) + n % 2 by omega]
        rw [Nat.mul_add, ← Nat.two_mul, Nat.mul_assoc, Nat.mul_left_comm]
      by_cases g : n % 2 = 1
      · rw [if_pos g]
        rw [g, Nat.mul_one] at h4
        omega
      · rw [if_neg g]
        rw [show n % 2 = 0 by omega, Nat.mul_zero] at h4
        omega
    have fin : n / 2 = 0 → Ev (fun k => if (((dg (if n % 2 = 1 then y * x else y)).length : Nat) : Int) > 4096 then some (([] : List Int), (8 : Int)) else (nat_Trim.f k (dg (if n % 2 = 1 then y * x else y))).bind fun t => some (t, 0)) (dg (y * x ^ n), 0) := by
      intro hz
      have h2 := hy2.out
      rw [hz, Nat.mul_zero] at h2
      rw [pow_half y x n, hz, Nat.pow_zero, Nat.mul_one]
      simp only [if_neg (show ¬ (((dg (if n % 2 = 1 then y * x else y)).length : Nat) : Int) > 4096 by omega)]
      refine Ev.bind (trim2_ev (by omega)) ?_
      exact Ev.some _
    have go : n / 2 ≠ 0 → Ev (fun k => (nat_times.f k (dg x) (dg x)).bind fun t => nat_Pow.l0 k ((n / 2 : Nat) : Int) (dg (if n % 2 = 1 then y * x else y)) t) (dg (y * x ^ n), 0) := by
      intro hz
      refine Ev.bind (times2_ev (by omega) (by omega)) ?_
      rw [pow_half y x n]
      exact ih (n / 2) (by omega) (by omega) (by omega) _ _ hy2
    simp only [nat_Pow.l0, and1 (show n < 9223372036854775808 by omega), hd]
    clear hy2 hl
    by_cases g : n % 2 = 1
    · rw [if_pos g] at fin go
      simp only [if_pos (show ((n % 2 : Nat) : Int) = 1 by omega)]
      refine Ev.bind (times2_ev (by omega) (by omega)) ?_
      by_cases hz : n / 2 = 0
      · simp only [if_pos (show ((n / 2 : Nat) : Int) = 0 by omega)]
        exact fin hz
      · simp only [if_neg (show ¬ ((n / 2 : Nat) : Int) = 0 by omega)]
        exact go hz
    · rw [if_neg g] at fin go
      simp only [if_neg (show ¬ ((n % 2 : Nat) : Int) = 1 by omega)]
      by_cases hz : n / 2 = 0
      · simp only [if_pos (show ((n / 2 : Nat) : Int) = 0 by omega)]
        exact fin hz
      · simp only [if_neg (show ¬ ((n / 2 : Nat) : Int) = 0 by omega)]
        exact go hz
theorem pow_ev {x n : Nat} (hx : x < 4294967296) (hn : n < 4096) : Ev (fun k => nat_Pow.f k (dg x) (n : Int)) (dg (x ^ n), 0) := by
  have hxl : (dg x).length ≤ 1 := dg_len_le (by rw [show (1 : Nat) = 0 + 1 from rfl, bp_succ, bp_zero]; omega)
  simp only [nat_Pow.f, if_neg (show ¬ (n : Int) < 0 by omega)]
  refine Ev.bind (bits_ev (by omega)) ?_
  have one : ([1] : List Int) = dg 1 := dg_one.symm
  by_cases h0 : n = 0
  · subst h0
    simp only [if_pos (show ((0 : Nat) : Int) = 0 from rfl)]
    refine Ev.succ ?_
    simp only [nat_Pow.j0, if_true, Nat.pow_zero, one]
    exact Ev.some _
  · simp only [if_neg (show ¬ (n : Int) = 0 by omega)]
    by_cases h1 : x = 1
    · subst h1
      rw [bl_one.mpr rfl]
      refine Ev.succ ?_
      simp only [nat_Pow.j0, Nat.one_pow, one]
      exact Ev.some _
    · have hb1 : bl x ≠ 1 := fun e => h1 (bl_one.mp e)
      have hbl : bl x ≤ 32 := by
        by_cases hx0 : x = 0
        · subst hx0; rw [bl_zero.mpr rfl]; omega
        · rw [bl_small hx0 hx]; exact bits_half x hx
      rw [show (((bl x : Nat) : Int) == 1) = false from by simp; omega]
      refine Ev.succ ?_
      simp only [nat_Pow.j0, Bool.false_eq_true, if_false]
      by_cases hx0 : x = 0
      · subst hx0
        simp only [bl_zero.mpr rfl, if_pos (show ((0 : Nat) : Int) = 0 from rfl)]
        rw [Nat.zero_pow (by omega), dg_zero]
        exact Ev.some _
      · have hb0 : bl x ≠ 0 := fun e => hx0 (bl_zero.mp e)
        have hmul : (bl x - 1) * n ≤ 31 * 4095 := Nat.mul_le_mul (by omega) (by omega)
        have e2 : wrap64 (wrap64 ((bl x : Int) - 1) * (n : Int)) = (((bl x - 1) * n : Nat) : Int) := by
          rw [wn (show (bl x : Int) - 1 = ((bl x - 1 : Nat) : Int) by omega) (by omega)]
          exact wn (by rw [Int.natCast_mul]) (by omega)
        have e3 : ¬ wrap64 (wrap64 ((bl x : Int) - 1) * (n : Int)) ≥ 131072 := by rw [e2]; clear e2; omega
        simp only [if_neg (show ¬ ((bl x : Nat) : Int) = 0 by clear e2 e3; omega), if_neg (show ¬ (n : Int) > 131072 by clear e2 e3; omega), if_neg e3]
        clear e2 e3
        refine Ev.bind (short_ev (lm_dg x) (by omega)) ?_
        rw [lv_dg, Int.toNat_natCast, one]
        refine Ev.cast (pow_loop n (by omega) (by omega) 1 x ⟨?_⟩) (by rw [Nat.one_mul])
        have h5 : (dg x).length * n ≤ 1 * 4095 := Nat.mul_le_mul hxl (by omega)
        rw [dg_one]
        simp only [List.length_cons, List.length_nil]
        omega
theorem rtrim_loop {l : List Int} (hl : Lm l) (hlen : l.length < 1099511627776) : ∀ n : Nat, n ≤ l.length → (∀ i : Nat, n ≤ i → i < l.length → rd l (i : Int) = 0) →
  Ev (fun k => r1_Trim.l0 k l (n : Int)) (dg (lv l).toNat) := by
 intro n
 induction n with
 | zero =>
  intro hn hz
  refine Ev.succ ?_
  simp only [r1_Trim.l0, Option.bind_some, if_neg (show ¬ ((0 : Nat) : Int) > 0 by omega), if_pos (show (0 : Int) ≤ ((0 : Nat) : Int) by omega), if_pos (show ((0 : Nat) : Int) ≤ (l.length : Int) by omega), if_pos (show ([] : List Int).length + (l.take ((0 : Nat) : Int).toNat).length < 35184372088832 by simp), List.nil_append]
  refine Ev.cast (Ev.some _) ?_
  rw [show (((0 : Nat) : Int)).toNat = 0 from rfl]
  exact dg_take hl hn hz (.inl rfl)
 | succ n ih =>
  intro hn hz
  refine Ev.succ ?_
  have e : wrap64 (((n + 1 : Nat) : Int) - 1) = (n : Int) := by rw [w64 (by omega) (by omega)]; omega
  by_cases h : rd l (n : Int) = 0
  ·simp only [r1_Trim.l0, e, if_pos (show ((n + 1 : Nat) : Int) > 0 by omega), if_pos (show (0 : Int) ≤ (n : Int) by omega), if_pos (show (n : Int) < (l.length : Int) by omega), if_pos h]
   exact ih (by omega) (fun i h1 h2 => by
    by_cases e2 : i = n
    ·subst e2; exact h
    ·exact hz i (by omega) h2)
  ·have hlt : ([] : List Int).length + (l.take ((n + 1 : Nat) : Int).toNat).length < 35184372088832 := by
    rw [List.length_take, List.length_nil]; clear e; omega
   simp only [r1_Trim.l0, Option.bind_some, e, if_pos (show ((n + 1 : Nat) : Int) > 0 by omega), if_pos (show (0 : Int) ≤ (n : Int) by omega), if_pos (show (n : Int) < (l.length : Int) by omega), if_neg h, if_pos (show (0 : Int) ≤ ((n + 1 : Nat) : Int) by omega), if_pos (show ((n + 1 : Nat) : Int) ≤ (l.length : Int) by omega), if_pos hlt, List.nil_append]
   refine Ev.cast (Ev.some _) ?_
   rw [show (((n + 1 : Nat) : Int)).toNat = n + 1 by omega]
   exact dg_take hl hn hz (.inr h)
theorem rtrim_ev {l : List Int} (hl : Lm l) (hlen : l.length < 1099511627776) : Ev (fun k => r1_Trim.f k l) (dg (lv l).toNat) := by
 simp only [r1_Trim.f]
 exact rtrim_loop hl hlen l.length (Nat.le_refl _) (fun i h1 h2 => by omega)
theorem rof_ev {n : Nat} (hn : n < 18446744073709551616) : Ev (fun k => r1_Of.f k (n : Int)) (dg n) := by
 simp only [r1_Of.f]
 have e1 : Int.tmod (n : Int) 4294967296 = (n : Int) % 4294967296 := Int.tmod_eq_emod_of_nonneg (by omega)
 have e2 : Int.tdiv (n : Int) 4294967296 = (n : Int) / 4294967296 := Int.tdiv_eq_ediv_of_nonneg (by omega)
 rw [e1, e2, u64w (x := (n : Int) / 4294967296) (by clear e1 e2; omega) (by clear e1 e2; omega)]
 have hl : Lm [(n : Int) % 4294967296 % 4294967296, ((n : Int) / 4294967296) % 4294967296] := by
  rw [lm_cons, lm_cons]
  clear e1 e2
  exact ⟨by omega, by omega, lm_nil⟩
 refine Ev.bind (rtrim_ev hl (by simp)) ?_
 refine Ev.cast (Ev.some _) ?_
 congr 1
 simp only [lv_cons, lv_nil]
 clear e1 e2
 omega
theorem lv_take_any (l : List Int) (i : Nat) : lv (l.take (i + 1)) = lv (l.take i) + (bp i : Int) * rd l (i : Int) := by
 by_cases h : i < l.length
 ·exact lv_take_succ h
 ·rw [rd_ge (by omega), List.take_of_length_le (by omega), List.take_of_length_le (by omega)]; simp
theorem same_loop (a b : List Int) (hab : a.length = b.length) (hlen : a.length < 549755813888) : ∀ (d i : Nat), i + d = a.length → a.take i = b.take i → Ev (fun k => r1_Same.l0 k a b (i : Int)) (decide (a = b)) := by
 intro d
 induction d with
 | zero =>
  intro i hi he
  refine Ev.succ ?_
  simp only [r1_Same.l0, if_neg (show ¬ (i : Int) < (a.length : Int) by omega)]
  rw [List.take_of_length_le (by omega), List.take_of_length_le (by omega)] at he
  refine Ev.cast (Ev.some _) (decide_eq_true he).symm
 | succ d ih =>
  intro i hi he
  refine Ev.succ ?_
  simp only [r1_Same.l0, if_pos (show (i : Int) < (a.length : Int) by omega), if_pos (show (0 : Int) ≤ (i : Int) by omega), if_pos (show (i : Int) < (b.length : Int) by omega), wn (show (i : Int) + 1 = ((i + 1 : Nat) : Int) by omega) (by omega)]
  by_cases h : rd a (i : Int) = rd b (i : Int)
  ·simp only [if_pos h]
   exact ih (i + 1) (by omega) (by rw [take_succ_rd (by omega), take_succ_rd (by omega), he, h])
  ·simp only [if_neg h]
   exact Ev.cast (Ev.some _) (decide_eq_false (fun e => h (by rw [e]))).symm
theorem same_ev (a b : List Int) (hlen : a.length < 549755813888) : Ev (fun k => r1_Same.f k a b) (decide (a = b)) := by
 simp only [r1_Same.f]
 by_cases h : a.length = b.length
 ·simp only [if_pos (show (a.length : Int) = (b.length : Int) by omega)]
  exact same_loop a b h hlen a.length 0 (by omega) rfl
 ·simp only [if_neg (show ¬ (a.length : Int) = (b.length : Int) by omega)]
  exact Ev.cast (Ev.some _) (decide_eq_false (fun e => h (by rw [e]))).symm
def cmpZ (x y : Int) : Int := if x < y then -1 else if y < x then 1 else 0
theorem take_bound {a : List Int} (ha : Lm a) (n : Nat) : 0 ≤ lv (a.take n) ∧ lv (a.take n) < bp n := by
 have h1 := lv_nonneg (lm_take ha n)
 have h2 := lv_le_of_len (lm_take ha n) (m := n) (by rw [List.length_take]; omega)
 omega
theorem cmp_lt {a b : List Int} (ha : Lm a) (hb : Lm b) (n : Nat) (h : rd a (n : Int) < rd b (n : Int)) : lv (a.take (n + 1)) < lv (b.take (n + 1)) := by
 have h1 := take_bound ha n
 have h2 := take_bound hb n
 have h3 : (bp n : Int) * (rd a (n : Int) + 1) ≤ (bp n : Int) * rd b (n : Int) := Int.mul_le_mul_of_nonneg_left (by omega) (by omega)
 rw [lv_take_any, lv_take_any]
 rw [Int.mul_add, Int.mul_one] at h3
 generalize (bp n : Int) * rd a (n : Int) = x at *
 generalize (bp n : Int) * rd b (n : Int) = y at *
 omega
theorem cmp_step {a b : List Int} (ha : Lm a) (hb : Lm b) (n : Nat) : cmpZ (lv (a.take (n + 1))) (lv (b.take (n + 1))) = if rd a (n : Int) < rd b (n : Int) then -1 else if rd b (n : Int) < rd a (n : Int) then 1 else cmpZ (lv (a.take n)) (lv (b.take n)) := by
 by_cases h : rd a (n : Int) < rd b (n : Int)
 ·rw [if_pos h]
  unfold cmpZ
  rw [if_pos (cmp_lt ha hb n h)]
 ·rw [if_neg h]
  by_cases g : rd b (n : Int) < rd a (n : Int)
  ·rw [if_pos g]
   have := cmp_lt hb ha n g
   unfold cmpZ
   rw [if_neg (by omega), if_pos this]
  ·rw [if_neg g]
   have e : rd a (n : Int) = rd b (n : Int) := by omega
   rw [lv_take_any, lv_take_any, e]
   unfold cmpZ
   generalize (bp n : Int) * rd b (n : Int) = y at *
   by_cases h1 : lv (a.take n) < lv (b.take n)
   ·rw [if_pos h1, if_pos (by omega)]
   ·rw [if_neg h1, if_neg (by omega)]
    by_cases h2 : lv (b.take n) < lv (a.take n)
    ·rw [if_pos h2, if_pos (by omega)]
    ·rw [if_neg h2, if_neg (by omega)]
theorem ncmp_loop {a b : List Int} (ha : Lm a) (hb : Lm b) (hlen : a.length < 1073741824) (hab : a.length = b.length) : ∀ n : Nat, n ≤ a.length → Ev (fun k => nat_Cmp.l0 k a b ((n : Int) - 1)) (cmpZ (lv (a.take n)) (lv (b.take n))) := by
 intro n
 induction n with
 | zero =>
  intro _
  refine Ev.succ ?_
  simp only [nat_Cmp.l0, if_neg (show ¬ ((0 : Nat) : Int) - 1 ≥ 0 by omega)]
  exact Ev.cast (Ev.some _) (by simp [cmpZ])
 | succ n ih =>
  intro hn
  refine Ev.succ ?_
  rw [cmp_step ha hb n]
  simp only [nat_Cmp.l0, show ((n + 1 : Nat) : Int) - 1 = (n : Int) from by omega, if_pos (show (n : Int) ≥ 0 by omega), if_pos (show (0 : Int) ≤ (n : Int) by omega), if_pos (show (n : Int) < (a.length : Int) by omega), if_pos (show (n : Int) < (b.length : Int) by omega), w64 (x := (n : Int) - 1) (by omega) (by omega)]
  by_cases h : rd a (n : Int) < rd b (n : Int)
  ·simp only [if_pos h]; exact Ev.some _
  ·simp only [if_neg h]
   by_cases g : rd b (n : Int) < rd a (n : Int)
   ·simp only [if_pos g, if_pos (show rd a (n : Int) > rd b (n : Int) from g)]; exact Ev.some _
   ·simp only [if_neg g, if_neg (show ¬ rd a (n : Int) > rd b (n : Int) from g)]; exact ih (by omega)
theorem ncmp_ev {a b : Nat} (h1 : (dg a).length < 268435456) (h2 : (dg b).length < 268435456) : Ev (fun k => nat_Cmp.f k (dg a) (dg b)) (cmpZ (a : Int) (b : Int)) := by
 simp only [nat_Cmp.f]
 refine Ev.bind (short_ev (lm_dg a) (by omega)) ?_
 refine Ev.bind (short_ev (lm_dg b) (by omega)) ?_
 rw [lv_dg, lv_dg, Int.toNat_natCast, Int.toNat_natCast]
 by_cases h : (dg a).length = (dg b).length
 ·simp only [if_pos (show ((dg a).length : Int) = ((dg b).length : Int) by omega), w64 (x := ((dg a).length : Int) - 1) (by omega) (by omega)]
  have := ncmp_loop (lm_dg a) (lm_dg b) (by omega) h _ (Nat.le_refl _)
  rw [List.take_of_length_le (Nat.le_refl _), List.take_of_length_le (by omega), lv_dg, lv_dg] at this
  exact this
 ·simp only [if_neg (show ¬ ((dg a).length : Int) = ((dg b).length : Int) by omega)]
  by_cases g : (dg a).length < (dg b).length
  ·simp only [if_pos (show ((dg a).length : Int) < ((dg b).length : Int) by omega)]
   have hlt : a < b := by
    by_cases e : b ≤ a
    ·have := dg_len_mono e; omega
    ·omega
   exact Ev.cast (Ev.some _) (by unfold cmpZ; rw [if_pos (by omega)])
  ·simp only [if_neg (show ¬ ((dg a).length : Int) < ((dg b).length : Int) by omega)]
   have hlt : b < a := by
    by_cases e : a ≤ b
    ·have := dg_len_mono e; omega
    ·omega
   exact Ev.cast (Ev.some _) (by unfold cmpZ; rw [if_neg (by omega), if_pos (by omega)])
theorem sub_low {a b c : Int} (ha0 : 0 ≤ a) (ha1 : a < 4294967296) (hb0 : 0 ≤ b) (hb1 : b < 4294967296) (hc0 : 0 ≤ c) (hc1 : c ≤ 1) :
  IntKind.u64.wrap (IntKind.u64.wrap (IntKind.u64.wrap a - c) - IntKind.u64.wrap b) % 4294967296 = (a - c - b) % 4294967296 := by
 simp only [u64m]; omega
theorem sub_high {a b c : Int} (ha0 : 0 ≤ a) (ha1 : a < 4294967296) (hb0 : 0 ≤ b) (hb1 : b < 4294967296) (hc0 : 0 ≤ c) (hc1 : c ≤ 1) :
  IntKind.u64.wrap (IntKind.u64.wrap (IntKind.u64.wrap a - c) - IntKind.u64.wrap b) / 9223372036854775808 = -((a - c - b) / 4294967296) := by
 simp only [u64m]; omega
theorem sub_low0 {a c : Int} (ha0 : 0 ≤ a) (ha1 : a < 4294967296) (hc0 : 0 ≤ c) (hc1 : c ≤ 1) : IntKind.u64.wrap (IntKind.u64.wrap a - c) % 4294967296 = (a - c - 0) % 4294967296 := by
 simp only [u64m]; omega
theorem sub_high0 {a c : Int} (ha0 : 0 ≤ a) (ha1 : a < 4294967296) (hc0 : 0 ≤ c) (hc1 : c ≤ 1) : IntKind.u64.wrap (IntKind.u64.wrap a - c) / 9223372036854775808 = -((a - c - 0) / 4294967296) := by
 simp only [u64m]; omega
theorem sub_bounds {a b c : Int} (ha0 : 0 ≤ a) (ha1 : a < 4294967296) (hb0 : 0 ≤ b) (hb1 : b < 4294967296) (hc0 : 0 ≤ c) (hc1 : c ≤ 1) :
  0 ≤ (a - c - b) % 4294967296 ∧ (a - c - b) % 4294967296 < 4294967296 ∧ 0 ≤ -((a - c - b) / 4294967296) ∧ -((a - c - b) / 4294967296) ≤ 1 ∧ (a - c - b) % 4294967296 = a - c - b + 4294967296 * -((a - c - b) / 4294967296) := by omega
theorem nsub_loop {a b : List Int} (ha : Lm a) (hb : Lm b) (hlen : a.length < 1073741824) (hba : b.length ≤ a.length) (hle : lv b ≤ lv a) : ∀ (d i : Nat) (o : List Int) (c : Int), i + d = a.length → o.length = a.length → Lm o → 0 ≤ c → c ≤ 1 → (∀ j : Nat, i ≤ j → rd o (j : Int) = rd a (j : Int)) →
  Aside0 (lv o = lv a - lv (b.take i) + (bp i : Int) * c) → Ev (fun k => nat_Sub.l0 k b o c (a.length : Int) (i : Int)) (dg (lv a - lv b).toNat, 0) := by
 intro d
 induction d with
 | zero =>
  intro i o c hi ho hol hc0 hc1 hr hv
  have hi : i = a.length := by omega
  subst hi
  refine Ev.succ ?_
  simp only [nat_Sub.l0, if_neg (show ¬ ((a.length : Nat) : Int) < (a.length : Int) by omega)]
  refine Ev.bind (short_ev hol (by omega)) ?_
  refine Ev.cast (Ev.some _) ?_
  have hv := hv.out
  rw [List.take_of_length_le hba] at hv
  have h1 := lv_le_of_len hol (m := a.length) (by omega)
  have h2 := lv_nonneg hol
  have hc : c = 0 := by
   by_cases e : c = 1
   ·subst e; rw [Int.mul_one] at hv; omega
   ·omega
  subst hc
  rw [hv, Int.mul_zero, Int.add_zero]
 | succ d ih =>
  intro i o c hi ho hol hc0 hc1 hr hv
  have hia : i < a.length := by omega
  have ra := rd_lm ha (i : Int)
  have rb := rd_lm hb (i : Int)
  have hri := hr i (Nat.le_refl _)
  have step : Ev (fun k => nat_Sub.l0 k b (o.set ((i : Int)).toNat ((rd a (i : Int) - c - rd b (i : Int)) % 4294967296)) (-((rd a (i : Int) - c - rd b (i : Int)) / 4294967296)) (a.length : Int) ((i + 1 : Nat) : Int)) (dg (lv a - lv b).toNat, 0) := by
   have sb := sub_bounds ra.1 ra.2 rb.1 rb.2 hc0 hc1
   rw [Int.toNat_natCast]
   refine ih (i + 1) _ _ (by omega) (by rw [List.length_set]; exact ho) (lm_set hol sb.1 sb.2.1) sb.2.2.1 sb.2.2.2.1 (fun j hj => ?_) ⟨?_⟩
   ·rw [rd_set_ne _ (by omega)]; exact hr j (by omega)
   ·rw [lv_set _ (by omega), lv_take_any, bp_succ, Int.natCast_mul, sb.2.2.2.2, hri, hv.out]
    generalize -((rd a (i : Int) - c - rd b (i : Int)) / 4294967296) = u at *
    generalize (bp i : Int) = p at *
    generalize rd a (i : Int) = x at *
    generalize rd b (i : Int) = y at *
    show lv a - lv (b.take i) + p * c + p * (x - c - y + 4294967296 * u - x) = lv a - (lv (b.take i) + p * y) + 4294967296 * p * u
    grind
  refine Ev.succ ?_
  by_cases hib : i < b.length
  ·simp only [nat_Sub.l0, wn (show (i : Int) + 1 = ((i + 1 : Nat) : Int) by omega) (by omega), if_pos (show (i : Int) < (a.length : Int) by omega), if_pos (show (0 : Int) ≤ (i : Int) by omega), if_pos (show (i : Int) < (o.length : Int) by omega), if_pos (show (i : Int) < (b.length : Int) by omega), hri, sub_low ra.1 ra.2 rb.1 rb.2 hc0 hc1, sub_high ra.1 ra.2 rb.1 rb.2 hc0 hc1]
   exact step
  ·have hb0 : rd b (i : Int) = 0 := rd_ge (by omega)
   rw [hb0] at step
   simp only [nat_Sub.l0, wn (show (i : Int) + 1 = ((i + 1 : Nat) : Int) by omega) (by omega), if_pos (show (i : Int) < (a.length : Int) by omega), if_pos (show (0 : Int) ≤ (i : Int) by omega), if_pos (show (i : Int) < (o.length : Int) by omega), if_neg (show ¬ (i : Int) < (b.length : Int) by omega), hri, sub_low0 ra.1 ra.2 hc0 hc1, sub_high0 ra.1 ra.2 hc0 hc1]
   exact step
theorem nsub_ev {a b : Nat} (h1 : (dg a).length < 268435456) (hab : b ≤ a) : Ev (fun k => nat_Sub.f k (dg a) (dg b)) (dg (a - b), 0) := by
 have hl := dg_len_mono hab
 simp only [nat_Sub.f]
 refine Ev.bind (ncmp_ev (by omega) (by omega)) ?_
 have hc : ¬ cmpZ (a : Int) (b : Int) < 0 := by unfold cmpZ; rw [if_neg (by omega)]; split <;> omega
 simp only [if_neg hc]
 refine Ev.bind (trim2_ev (by omega)) ?_
 refine Ev.cast (nsub_loop (lm_dg a) (lm_dg b) (by omega) hl (by rw [lv_dg, lv_dg]; omega) (dg a).length 0 _ 0 (by omega) rfl (lm_dg a) (by omega) (by omega) (fun j _ => rfl) ⟨by simp [lv_nil]⟩) ?_
 rw [lv_dg, lv_dg]
 congr 2
 omega
theorem bitLen_ge : ∀ (b x : Nat), x < 4294967296 → x ≠ 0 → Lib.bitLen x = b + 1 → 2 ^ b ≤ x := by
 intro b
 induction b with
 | zero => intro x _ h0 _; rw [Nat.pow_zero]; omega
 | succ b ih =>
  intro x hx h0 hb
  rw [Lib.bitLen_half x h0 (by omega)] at hb
  have h2 : x / 2 ≠ 0 := by intro e; rw [e, bitLen_zero] at hb; omega
  have := ih (x / 2) (by omega) h2 (by omega)
  rw [Nat.pow_succ]
  omega
theorem bl_bounds {n : Nat} (h : n ≠ 0) : 2 ^ (bl n - 1) ≤ n ∧ n < 2 ^ bl n ∧ 1 ≤ bl n := by
 have hp : (dg n).length ≠ 0 := by rw [Ne, dg_len_zero]; exact h
 obtain ⟨m, hm⟩ : ∃ m, (dg n).length = m + 1 := ⟨(dg n).length - 1, by omega⟩
 have hb : bl n = 32 * m + Lib.bitLen (rd (dg n) (m : Int)).toNat := by unfold bl; rw [if_neg h, hm]; rfl
 have hr := rd_lm (lm_dg n) (m : Int)
 have ht := dg_head hm.symm
 obtain ⟨x, hx⟩ : ∃ x : Nat, rd (dg n) (m : Int) = (x : Int) := ⟨(rd (dg n) (m : Int)).toNat, by omega⟩
 have hv : lv (dg n) = lv ((dg n).take m) + (bp m : Int) * (x : Int) := by
  have := lv_take_succ (l := dg n) (i := m) (by omega)
  rw [← hm, List.take_of_length_le (Nat.le_refl _), hx] at this
  exact this
 have hlow := take_bound (lm_dg n) m
 rw [lv_dg] at hv
 rw [hx] at hr ht hb
 rw [Int.toNat_natCast] at hb
 have hx0 : x ≠ 0 := by omega
 have hx1 : x < 4294967296 := by omega
 obtain ⟨c, hc⟩ : ∃ c, Lib.bitLen x = c + 1 := ⟨Lib.bitLen x - 1, by have := bitLen_pos hx0 hx1; omega⟩
 have h1 := bitLen_ge c x hx1 hx0 hc
 have h2 := bitLen_lt (c + 1) x hx1 (by omega)
 obtain ⟨y, hy⟩ : ∃ y : Nat, lv ((dg n).take m) = (y : Int) := ⟨(lv ((dg n).take m)).toNat, by omega⟩
 rw [hy] at hlow hv
 have hn : n = y + bp m * x := by
  have : ((n : Nat) : Int) = ((y + bp m * x : Nat) : Int) := by rw [hv, Int.natCast_add, Int.natCast_mul]
  omega
 have hy2 : y < bp m := by omega
 rw [hb, hc]
 refine ⟨?_, ?_, by omega⟩
 ·rw [show 32 * m + (c + 1) - 1 = 32 * m + c by omega, Nat.pow_add, pow2_bp]
  have := Nat.mul_le_mul_left (bp m) h1
  omega
 ·rw [Nat.pow_add, pow2_bp]
  have h3 : bp m * (x + 1) ≤ bp m * 2 ^ (c + 1) := Nat.mul_le_mul_left _ (by omega)
  rw [Nat.mul_add, Nat.mul_one] at h3
  omega
theorem short2_ev {a : Nat} (h1 : (dg a).length < 268435456) : Ev (fun k => nat_short.f k (dg a)) (dg a) := by
 refine Ev.cast (short_ev (lm_dg a) (by omega)) ?_
 rw [lv_dg, Int.toNat_natCast]
theorem ndivmod1_ev {a b : Nat} (hb0 : b ≠ 0) (hb1 : b < 4294967296) (hla : (dg a).length < 268435456) : Ev (fun k => nat_DivMod.f k (dg a) (dg b)) (dg (a / b), dg (a % b), 0) := by
 have hb : dg b = [(b : Int)] := dg_small hb0 hb1
 have hbl : (dg b).length = 1 := by rw [hb]; rfl
 simp only [nat_DivMod.f]
 refine Ev.bind (short2_ev hla) ?_
 refine Ev.bind (short2_ev (by omega)) ?_
 rw [hbl]
 simp only [if_neg (show ¬ ((1 : Nat) : Int) = 0 by omega)]
 refine Ev.bind (ncmp_ev hla (by omega)) ?_
 by_cases h : a < b
 ·have hc : cmpZ (a : Int) (b : Int) < 0 := by unfold cmpZ; rw [if_pos (by omega)]; omega
  simp only [if_pos hc]
  refine Ev.bind (trim2_ev hla) ?_
  rw [Nat.div_eq_of_lt h, Nat.mod_eq_of_lt h, dg_zero]
  exact Ev.some _
 ·have hc : ¬ cmpZ (a : Int) (b : Int) < 0 := by unfold cmpZ; rw [if_neg (by omega)]; split <;> omega
  simp only [if_neg hc, if_pos (show ((1 : Nat) : Int) = 1 by omega), if_pos (show (0 : Int) < ((1 : Nat) : Int) by omega)]
  have hr : rd (dg b) 0 = (b : Int) := by rw [hb]; rfl
  rw [hr]
  refine Ev.bind (digit_ev (lm_dg a) (by omega) (by omega) (by omega)) ?_
  have hm : lv (dg a) % (b : Int) = ((a % b : Nat) : Int) := by rw [lv_dg, Int.natCast_emod]
  have hd : (lv (dg a) / (b : Int)).toNat = a / b := by rw [lv_dg, ← Int.natCast_ediv, Int.toNat_natCast]
  have hmb : a % b < b := Nat.mod_lt _ (by omega)
  rw [hm, hd]
  clear hm hd hr
  simp only [u64w (x := ((a % b : Nat) : Int)) (by omega) (by omega)]
  refine Ev.bind (of_ev (by omega)) ?_
  exact Ev.some _
def sg (neg : Bool) (n : Nat) : Int := if neg = true then -(n : Int) else (n : Int)
theorem sg_abs (neg : Bool) (n : Nat) : (sg neg n).natAbs = n := by unfold sg; cases neg <;> simp
theorem L1 {W V p v1 v2 Vl Wl u2 top q r : Int} (hp : 0 < p) (hV : V = Vl + p * v2 + 4294967296 * (p * v1)) (hW : W = Wl + p * u2 + 4294967296 * (p * top)) (hv2 : 0 ≤ v2) (hVl : 0 ≤ Vl) (hu2 : u2 < 4294967296) (hWl : Wl < p)
  (hq : q * v1 + r = top) (hr : r < v1) (hq0 : 0 ≤ q) : W < (q + 1) * V := by
 have h1 : p * (u2 + 1) ≤ p * 4294967296 := Int.mul_le_mul_of_nonneg_left (by omega) (by omega)
 have h2 : p * (top + 1) ≤ p * ((q + 1) * v1) := Int.mul_le_mul_of_nonneg_left (by grind) (by omega)
 have h3 : 0 ≤ (q + 1) * Vl := Int.mul_nonneg (by omega) hVl
 have h4 : 0 ≤ (q + 1) * (p * v2) := Int.mul_nonneg (by omega) (Int.mul_nonneg (by omega) hv2)
 subst hV hW
 grind
theorem L3 {W V p v1 v2 Vl Wl u2 top q r : Int} (hp : 0 < p) (hV : V = Vl + p * v2 + 4294967296 * (p * v1)) (hW : W = Wl + p * u2 + 4294967296 * (p * top)) (hVl : 0 ≤ Vl) (hWl : Wl < p)
  (hq : q * v1 + r = top) (ht : r * 4294967296 + u2 < q * v2) (hq0 : 0 ≤ q) : W < q * V := by
 have h1 : p * (r * 4294967296 + u2 + 1) ≤ p * (q * v2) := Int.mul_le_mul_of_nonneg_left (by omega) (by omega)
 have h3 : 0 ≤ q * Vl := Int.mul_nonneg (by omega) hVl
 subst hV hW hq
 grind
theorem L4 {W V p v1 v2 Vl Wl u2 top q r : Int} (hp : 0 < p) (hV : V = Vl + p * v2 + 4294967296 * (p * v1)) (hW : W = Wl + p * u2 + 4294967296 * (p * top)) (hVl : 0 ≤ Vl) (hVl1 : Vl < p) (hv2 : 0 ≤ v2) (hv1 : 1 ≤ v1) (hWl : 0 ≤ Wl)
  (hq : q * v1 + r = top) (ht : q * v2 ≤ r * 4294967296 + u2) (hq0 : 0 ≤ q) (hq1 : q < 4294967296) : (q - 1) * V ≤ W := by
 have h1 : p * (q * v2) ≤ p * (r * 4294967296 + u2) := Int.mul_le_mul_of_nonneg_left (by omega) (by omega)
 have h2 : q * Vl ≤ 4294967296 * p := by
  have a : q * Vl ≤ q * p := Int.mul_le_mul_of_nonneg_left (by omega) hq0
  have b : q * p ≤ 4294967296 * p := Int.mul_le_mul_of_nonneg_right (by omega) (by omega)
  omega
 have h3 : p * 1 ≤ p * v1 := Int.mul_le_mul_of_nonneg_left hv1 (by omega)
 have h4 : 0 ≤ p * v2 := Int.mul_nonneg (by omega) hv2
 subst hV hW hq
 grind
theorem L5a {W V p v1 v2 Vl Wl u2 u1 u0 : Int} (hp : 0 < p) (hV : V = Vl + p * v2 + 4294967296 * (p * v1)) (hW : W = Wl + p * u2 + 4294967296 * (p * (u0 * 4294967296 + u1))) (hVl1 : Vl < p) (hv2 : v2 < 4294967296) (hWl : 0 ≤ Wl) (hu2 : 0 ≤ u2) (hu1 : 0 ≤ u1)
  (hWV : W < 4294967296 * V) : u0 ≤ v1 := by
 have h1 : p * (v2 + 1) ≤ p * 4294967296 := Int.mul_le_mul_of_nonneg_left (by omega) (by omega)
 have h2 : 0 ≤ p * u2 := Int.mul_nonneg (by omega) hu2
 have h3 : 0 ≤ p * u1 := Int.mul_nonneg (by omega) hu1
 have h5 : p * u0 < p * (v1 + 1) := by subst hV hW; grind
 have := Int.lt_of_mul_lt_mul_left h5 (by omega)
 omega
theorem L5 {W V p v1 v2 Vl Wl u2 u1 u0 q r : Int} (hp : 0 < p) (hV : V = Vl + p * v2 + 4294967296 * (p * v1)) (hW : W = Wl + p * u2 + 4294967296 * (p * (u0 * 4294967296 + u1))) (hVl1 : Vl < p) (hv2 : v2 < 4294967296) (hWl : 0 ≤ Wl) (hu2 : 0 ≤ u2) (hu1 : 0 ≤ u1) (hu1' : u1 < 4294967296)
  (hWV : W < 4294967296 * V) (hv1 : 1 ≤ v1) (hq : q * v1 + r = u0 * 4294967296 + u1) (hr : 4294967296 ≤ r) (hq0 : 0 ≤ q) : q < 4294967296 ∧ q * V ≤ W := by
 have h0 := L5a hp hV hW hVl1 hv2 hWl hu2 hu1 hWV
 have hqv : q * v1 < 4294967296 * v1 := by omega
 have hq1 : q < 4294967296 := Int.lt_of_mul_lt_mul_right hqv (by omega)
 refine ⟨hq1, ?_⟩
 have h1 : p * (v2 + 1) ≤ p * 4294967296 := Int.mul_le_mul_of_nonneg_left (by omega) (by omega)
 have h2 : 0 ≤ p * u2 := Int.mul_nonneg (by omega) hu2
 have h4 : V ≤ p * (4294967296 * (v1 + 1)) := by subst hV; grind
 have h5 : q * V ≤ q * (p * (4294967296 * (v1 + 1))) := Int.mul_le_mul_of_nonneg_left h4 hq0
 have h6 : p * (q * v1 + q) ≤ p * (u0 * 4294967296 + u1) := Int.mul_le_mul_of_nonneg_left (by omega) (by omega)
 subst hW
 grind
def Rz {α : Type} (P : α → Prop) (g : Nat → Option α) : Prop := ∃ r, Ev g r ∧ P r
theorem Rz.succ {α : Type} {P : α → Prop} {g : Nat → Option α} (h : Rz P (fun k => g (k + 1))) : Rz P g := by
 obtain ⟨r, h1, h2⟩ := h
 exact ⟨r, Ev.succ h1, h2⟩
theorem Rz.bind {α β : Type} {P : β → Prop} {g : Nat → Option α} {f : Nat → α → Option β} {a : α} (hg : Ev g a) (hf : Rz P (fun k => f k a)) : Rz P (fun k => (g k).bind (f k)) := by
 obtain ⟨r, h1, h2⟩ := hf
 exact ⟨r, Ev.bind hg h1, h2⟩
theorem Rz.some {α : Type} {P : α → Prop} {r : α} (h : P r) : Rz P (fun _ => Option.some r) := ⟨r, Ev.some r, h⟩
theorem mulc {q v c : Int} (hq0 : 0 ≤ q) (hq1 : q < 4294967296) (hv0 : 0 ≤ v) (hv1 : v < 4294967296) (hc0 : 0 ≤ c) (hc1 : c < 4294967296) :
  IntKind.u64.wrap (IntKind.u64.wrap (q * IntKind.u64.wrap v) + c) = q * v + c ∧ 0 ≤ q * v + c ∧ q * v + c < 18446744073709551616 := by
 have h1 : q * v ≤ 4294967295 * 4294967295 := Int.mul_le_mul (by omega) (by omega) hv0 (by omega)
 have h0 : 0 ≤ q * v := Int.mul_nonneg hq0 hv0
 rw [u64w (x := v) hv0 (by omega)]
 generalize q * v = s at *
 rw [u64w (x := s) h0 (by omega), u64w (by omega) (by omega)]
 omega
theorem subl {u s b : Int} (hu0 : 0 ≤ u) (hu1 : u < 4294967296) (hb0 : 0 ≤ b) (hb1 : b ≤ 1) :
  ∃ y b' : Int, IntKind.u64.wrap (IntKind.u64.wrap (IntKind.u64.wrap u - s % 4294967296) - b) % 4294967296 = y ∧ IntKind.u64.wrap (IntKind.u64.wrap (IntKind.u64.wrap u - s % 4294967296) - b) / 9223372036854775808 = b' ∧
   0 ≤ y ∧ y < 4294967296 ∧ 0 ≤ b' ∧ b' ≤ 1 ∧ y = u - s % 4294967296 - b + 4294967296 * b' := by
 refine ⟨_, _, rfl, rfl, ?_⟩
 rw [u64m, u64m, u64m]
 omega
theorem topl {u c b : Int} (hu0 : 0 ≤ u) (hu1 : u < 4294967296) (hc0 : 0 ≤ c) (hc1 : c < 4294967296) (hb0 : 0 ≤ b) (hb1 : b ≤ 1) :
  ∃ y b' : Int, IntKind.u64.wrap (IntKind.u64.wrap (IntKind.u64.wrap u - c) - b) % 4294967296 = y ∧ IntKind.u64.wrap (IntKind.u64.wrap (IntKind.u64.wrap u - c) - b) / 9223372036854775808 = b' ∧
   0 ≤ y ∧ y < 4294967296 ∧ (b' = 0 ∨ b' = 1) ∧ y = u - c - b + 4294967296 * b' := by
 refine ⟨_, _, rfl, rfl, ?_⟩
 rw [u64m, u64m, u64m]
 omega
theorem step_sub {P : Int × List Int → Prop} {q u0 W : Int} {v : List Int} (hq0 : 0 ≤ q) (hq1 : q < 4294967296) (hv : Lm v) (hvl : v.length < 536870912)
  (hfin : ∀ (o : List Int) (bo ca : Int), o.length = v.length + 1 → Lm o → 0 ≤ bo → bo ≤ 1 → 0 ≤ ca → ca < 4294967296 → rd o (v.length : Int) = u0 → Aside0 (lv o - (bp v.length : Int) * (ca + bo) = W - q * lv v) → Rz P (fun k => nat_step.l1 k o v (v.length : Int) q bo ca (v.length : Int) (v.length : Int))) :
  ∀ (d i : Nat) (o : List Int) (bo ca : Int), i + d = v.length → o.length = v.length + 1 → Lm o → 0 ≤ bo → bo ≤ 1 → 0 ≤ ca → ca < 4294967296 → rd o (v.length : Int) = u0 → Aside0 (lv o - (bp i : Int) * (ca + bo) = W - q * lv (v.take i)) → Rz P (fun k => nat_step.l1 k o v (v.length : Int) q bo ca (v.length : Int) (i : Int)) := by
 intro d
 induction d with
 | zero =>
  intro i o bo ca hi hol ho hb0 hb1 hc0 hc1 hu he
  have hi : i = v.length := by omega
  subst hi
  refine hfin o bo ca hol ho hb0 hb1 hc0 hc1 hu ⟨?_⟩
  rw [he.out, List.take_of_length_le (Nat.le_refl _)]
 | succ d ih =>
  intro i o bo ca hi hol ho hb0 hb1 hc0 hc1 hu he
  have hiv : i < v.length := by omega
  have rv := rd_lm hv (i : Int)
  have ro := rd_lm ho (i : Int)
  obtain ⟨e1, s0, s1⟩ := mulc hq0 hq1 rv.1 rv.2 hc0 hc1
  obtain ⟨y, b', e2, e3, y0, y1, b0, b1, ey⟩ := subl (s := q * rd v (i : Int) + ca) ro.1 ro.2 hb0 hb1
  have hd := div_bound s0 s1
  have hs := split_div (q * rd v (i : Int) + ca)
  refine Rz.succ ?_
  simp only [nat_step.l1, if_pos (show (i : Int) < (v.length : Int) by omega), if_pos (show (0 : Int) ≤ (i : Int) by omega), if_pos (show (i : Int) < (o.length : Int) by omega), e1, e2, e3, Int.toNat_natCast, wn (show (i : Int) + 1 = ((i + 1 : Nat) : Int) by omega) (by omega)]
  refine ih (i + 1) _ _ _ (by omega) (by rw [List.length_set]; exact hol) (lm_set ho y0 y1) b0 b1 hd.2.2.1 hd.2.2.2 (by rw [rd_set_ne _ (by omega)]; exact hu) ⟨?_⟩
  rw [lv_set _ (by omega), lv_take_succ hiv, bp_succ, Int.natCast_mul]
  have he := he.out
  clear ih hfin e1 e2 e3 hd s0 s1
  generalize (q * rd v (i : Int) + ca) / 4294967296 = c2 at *
  generalize hsm : (q * rd v (i : Int) + ca) % 4294967296 = sm at *
  generalize (bp i : Int) = p at *
  generalize rd v (i : Int) = vi at *
  generalize rd o (i : Int) = ui at *
  generalize lv o = lo at *
  generalize lv (v.take i) = lt at *
  subst ey
  show lo + p * (ui - sm - bo + 4294967296 * b' - ui) - 4294967296 * p * (c2 + b') = W - q * (lt + p * vi)
  have h2 : p * (sm + 4294967296 * c2) = p * (q * vi + ca) := by rw [hs]
  grind
theorem addl {u v c : Int} (hu0 : 0 ≤ u) (hu1 : u < 4294967296) (hv0 : 0 ≤ v) (hv1 : v < 4294967296) (hc0 : 0 ≤ c) (hc1 : c ≤ 1) :
  IntKind.u64.wrap (IntKind.u64.wrap (IntKind.u64.wrap u + IntKind.u64.wrap v) + c) = u + v + c := by
 rw [u64m, u64m, u64m, u64m]
 omega
theorem step_add {P : Int × List Int → Prop} {q u0 W : Int} {v : List Int} (hv : Lm v) (hvl : v.length < 536870912)
  (hfin : ∀ (o : List Int) (ca : Int), o.length = v.length + 1 → Lm o → 0 ≤ ca → ca ≤ 1 → rd o (v.length : Int) = u0 → Aside0 (lv o + (bp v.length : Int) * ca = W + lv v) → Rz P (fun k => nat_step.l2 k o v (v.length : Int) q ca (v.length : Int) (v.length : Int))) :
  ∀ (d i : Nat) (o : List Int) (ca : Int), i + d = v.length → o.length = v.length + 1 → Lm o → 0 ≤ ca → ca ≤ 1 → rd o (v.length : Int) = u0 → Aside0 (lv o + (bp i : Int) * ca = W + lv (v.take i)) → Rz P (fun k => nat_step.l2 k o v (v.length : Int) q ca (v.length : Int) (i : Int)) := by
 intro d
 induction d with
 | zero =>
  intro i o ca hi hol ho hc0 hc1 hu he
  have hi : i = v.length := by omega
  subst hi
  refine hfin o ca hol ho hc0 hc1 hu ⟨?_⟩
  rw [he.out, List.take_of_length_le (Nat.le_refl _)]
 | succ d ih =>
  intro i o ca hi hol ho hc0 hc1 hu he
  have hiv : i < v.length := by omega
  have rv := rd_lm hv (i : Int)
  have ro := rd_lm ho (i : Int)
  have e1 := addl ro.1 ro.2 rv.1 rv.2 hc0 hc1
  have hs := split_div (rd o (i : Int) + rd v (i : Int) + ca)
  have hd : 0 ≤ (rd o (i : Int) + rd v (i : Int) + ca) % 4294967296 ∧ (rd o (i : Int) + rd v (i : Int) + ca) % 4294967296 < 4294967296 ∧ 0 ≤ (rd o (i : Int) + rd v (i : Int) + ca) / 4294967296 ∧ (rd o (i : Int) + rd v (i : Int) + ca) / 4294967296 ≤ 1 := by clear e1; omega
  refine Rz.succ ?_
  simp only [nat_step.l2, if_pos (show (i : Int) < (v.length : Int) by clear e1; omega), if_pos (show (0 : Int) ≤ (i : Int) by clear e1; omega), if_pos (show (i : Int) < (o.length : Int) by clear e1; omega), e1, Int.toNat_natCast, wn (show (i : Int) + 1 = ((i + 1 : Nat) : Int) by clear e1; omega) (by clear e1; omega)]
  clear e1
  refine ih (i + 1) _ _ (by omega) (by rw [List.length_set]; exact hol) (lm_set ho hd.1 hd.2.1) hd.2.2.1 hd.2.2.2 (by rw [rd_set_ne _ (by omega)]; exact hu) ⟨?_⟩
  rw [lv_set _ (by omega), lv_take_succ hiv, bp_succ, Int.natCast_mul]
  have he := he.out
  clear ih hfin hd
  generalize (rd o (i : Int) + rd v (i : Int) + ca) / 4294967296 = c2 at *
  generalize (rd o (i : Int) + rd v (i : Int) + ca) % 4294967296 = sm at *
  generalize (bp i : Int) = p at *
  generalize rd v (i : Int) = vi at *
  generalize rd o (i : Int) = ui at *
  generalize lv o = lo at *
  generalize lv (v.take i) = lt at *
  show lo + p * (sm - ui) + 4294967296 * p * c2 = W + (lt + p * vi)
  have h2 : p * (sm + 4294967296 * c2) = p * (ui + vi + ca) := by rw [hs]
  grind
def Stp (n : Nat) (W V : Int) (a : Int × List Int) : Prop := a.1 = W / V ∧ a.2.length = n + 1 ∧ Lm a.2 ∧ lv a.2 = W % V
theorem quo_of {W V q : Int} (h0 : q * V ≤ W) (h1 : W < (q + 1) * V) : W / V = q ∧ W % V = W - q * V := by
 have hV : 0 < V := by
  have e : (q + 1) * V = q * V + V := by grind
  omega
 have e : (q + 1) * V = q * V + V := by grind
 have := Int.ediv_emod_unique (a := W) (b := V) (r := W - q * V) (q := q) hV
 have h := this.mpr ⟨by grind, by omega, by omega⟩
 exact h
theorem step_j1 {x v : List Int} {q : Int} (hx : Lm x) (hv : Lm v) (hxl : x.length = v.length + 1) (hvl : v.length < 536870912) (hq0 : 0 ≤ q) (hq1 : q < 4294967296) (hW : lv x < 4294967296 * lv v) (hhi : lv x < (q + 1) * lv v) (hlo : (q - 1) * lv v ≤ lv x) :
  Rz (Stp v.length (lv x) (lv v)) (fun k => nat_step.j1 k x v (v.length : Int) q) := by
 have hV0 := lv_nonneg hv
 have hV1 := lv_lt hv
 have hx0 := lv_nonneg hx
 refine Rz.succ ?_
 simp only [nat_step.j1]
 refine step_sub (u0 := rd x (v.length : Int)) (W := lv x) hq0 hq1 hv hvl (fun o bo ca hol ho hb0 hb1 hc0 hc1 hu he => ?_) v.length 0 x 0 0 (by omega) hxl hx (by omega) (by omega) (by omega) (by omega) rfl ⟨by simp [lv_nil]⟩
 have ro := rd_lm ho (v.length : Int)
 obtain ⟨y, s, e2, e3, y0, y1, hs, ey⟩ := topl ro.1 ro.2 hc0 hc1 hb0 hb1
 have hlen : (v.length : Int) < (o.length : Int) := by clear e2 e3; omega
 refine Rz.succ ?_
 simp only [nat_step.l1, if_neg (show ¬ (v.length : Int) < (v.length : Int) from Int.lt_irrefl _), if_pos (show (0 : Int) ≤ (v.length : Int) from Int.natCast_nonneg _), if_pos hlen, e2, e3, Int.toNat_natCast, Option.bind_some]
 clear e2 e3
 have hval : lv (o.set v.length y) = lv x - q * lv v + (4294967296 * bp v.length : Nat) * s := by
  rw [lv_set _ (by omega)]
  have he := he.out
  rw [Int.natCast_mul]
  generalize (bp v.length : Int) = p at *
  generalize lv o = lo at *
  generalize rd o (v.length : Int) = ui at *
  subst ey
  show lo + p * (ui - ca - bo + 4294967296 * s - ui) = lv x - q * lv v + 4294967296 * p * s
  grind
 have hlm : Lm (o.set v.length y) := lm_set ho y0 y1
 have hln : (o.set v.length y).length = v.length + 1 := by rw [List.length_set]; exact hol
 have h0 := lv_nonneg hlm
 have h1 := lv_lt hlm
 rw [hln, bp_succ] at h1
 rcases hs with e | e
 ·subst e
  simp only [if_true]
  refine Rz.some ⟨?_, hln, hlm, ?_⟩
  ·show q % 4294967296 = _
   rw [(quo_of (W := lv x) (V := lv v) (q := q) (by rw [hval] at h0; omega) hhi).1]
   exact Int.emod_eq_of_lt hq0 hq1
  ·show lv (o.set v.length y) = _
   rw [(quo_of (W := lv x) (V := lv v) (q := q) (by rw [hval] at h0; omega) hhi).2, hval]
   omega
 ·subst e
  simp only [if_neg (show ¬ (1 : Int) = 0 by decide)]
  have hlt : lv x < q * lv v := by rw [hval] at h1; omega
  have e1 : (q - 1 + 1) * lv v = q * lv v := by rw [show q - 1 + 1 = q by omega]
  obtain ⟨hq, hr⟩ := quo_of (W := lv x) (V := lv v) (q := q - 1) hlo (by rw [e1]; exact hlt)
  refine step_add (u0 := rd (o.set v.length y) (v.length : Int)) (W := lv (o.set v.length y)) hv hvl (fun o2 ca2 hol2 ho2 hc20 hc21 hu2 he2 => ?_) v.length 0 _ 0 (by omega) hln hlm (by omega) (by omega) rfl ⟨by simp [lv_nil]⟩
  have ro2 := rd_lm ho2 (v.length : Int)
  have hlen2 : (v.length : Int) < (o2.length : Int) := by omega
  have hq1' : 0 ≤ q - 1 := by
   have h2 : 0 < q * lv v := by omega
   by_cases g : 0 < q
   ·omega
   ·have : q = 0 := by omega
    rw [this, Int.zero_mul] at h2
    omega
  refine Rz.succ ?_
  simp only [nat_step.l2, if_neg (show ¬ (v.length : Int) < (v.length : Int) from Int.lt_irrefl _), if_pos (show (0 : Int) ≤ (v.length : Int) from Int.natCast_nonneg _), if_pos hlen2, Int.toNat_natCast, u64w (x := q - 1) hq1' (by omega)]
  have y2 : 0 ≤ (rd o2 (v.length : Int) + ca2 % 4294967296) % 4294967296 ∧ (rd o2 (v.length : Int) + ca2 % 4294967296) % 4294967296 < 4294967296 := by omega
  have hlm2 : Lm (o2.set v.length ((rd o2 (v.length : Int) + ca2 % 4294967296) % 4294967296)) := lm_set ho2 y2.1 y2.2
  obtain ⟨t, ht, ht2⟩ : ∃ t : Int, (t = 0 ∨ t = 1) ∧ (rd o2 (v.length : Int) + ca2 % 4294967296) % 4294967296 = rd o2 (v.length : Int) + ca2 - 4294967296 * t := by
   by_cases g : rd o2 (v.length : Int) + ca2 < 4294967296
   ·exact ⟨0, .inl rfl, by omega⟩
   ·exact ⟨1, .inr rfl, by omega⟩
  have hval2 : lv (o2.set v.length ((rd o2 (v.length : Int) + ca2 % 4294967296) % 4294967296)) = lv x - (q - 1) * lv v + (4294967296 * bp v.length : Nat) * (1 - t) := by
   rw [lv_set _ (by omega), ht2]
   have he2 := he2.out
   rw [hval] at he2
   rw [Int.natCast_mul] at he2 ⊢
   generalize (bp v.length : Int) = p at *
   generalize lv o2 = lo at *
   generalize rd o2 (v.length : Int) = ui at *
   show lo + p * (ui + ca2 - 4294967296 * t - ui) = lv x - (q - 1) * lv v + 4294967296 * p * (1 - t)
   have : lo + p * ca2 = lv x - q * lv v + 4294967296 * p * 1 + lv v := he2
   grind
  have h2 := lv_lt hlm2
  rw [show (o2.set v.length ((rd o2 (v.length : Int) + ca2 % 4294967296) % 4294967296)).length = v.length + 1 by rw [List.length_set]; exact hol2, bp_succ] at h2
  have ht1 : t = 1 := by
   rcases ht with g | g
   ·exfalso
    rw [hval2, g] at h2
    omega
   ·exact g
  rw [ht1] at hval2
  refine Rz.some ⟨?_, by rw [List.length_set]; exact hol2, hlm2, ?_⟩
  ·show (q - 1) % 4294967296 = _
   rw [hq]
   exact Int.emod_eq_of_lt hq1' (by omega)
  ·show lv (o2.set v.length ((rd o2 (v.length : Int) + ca2 % 4294967296) % 4294967296)) = _
   rw [hr, hval2]
   omega
theorem step_est {x v : List Int} {Wl u2 u1 u0 Vl v2 v1 p : Int} {n : Nat} (hx : Lm x) (hv : Lm v) (hxl : x.length = v.length + 1) (hvl : v.length < 536870912) (hn : v.length = n + 2)
  (hp : 0 < p) (hV : lv v = Vl + p * v2 + 4294967296 * (p * v1)) (hWe : lv x = Wl + p * u2 + 4294967296 * (p * (u0 * 4294967296 + u1))) (hVl : 0 ≤ Vl) (hVl1 : Vl < p) (hWl : 0 ≤ Wl) (hWl1 : Wl < p)
  (r1 : rd v ((n + 1 : Nat) : Int) = v1) (r2 : rd v (n : Int) = v2) (ru2 : rd x (n : Int) = u2) (hv1 : 2147483648 ≤ v1) (hv1' : v1 < 4294967296) (hv2 : 0 ≤ v2) (hv2' : v2 < 4294967296) (hu2 : 0 ≤ u2) (hu2' : u2 < 4294967296) (hu1 : 0 ≤ u1) (hu1' : u1 < 4294967296)
  (hW : lv x < 4294967296 * lv v) :
  ∀ (d : Nat) (q r : Int), 4294967296 ≤ r + d * 2147483648 → q * v1 + r = u0 * 4294967296 + u1 → 0 ≤ r → r < 8589934592 → 0 ≤ q → q < 18446744073709551616 → lv x < (q + 1) * lv v →
  Rz (Stp v.length (lv x) (lv v)) (fun k => nat_step.l0 k x v (v.length : Int) q r) := by
 have hV0 : 0 ≤ lv v := lv_nonneg hv
 have done : ∀ (q r : Int), 4294967296 ≤ r → q * v1 + r = u0 * 4294967296 + u1 → 0 ≤ q → lv x < (q + 1) * lv v → Rz (Stp v.length (lv x) (lv v)) (fun k => nat_step.l0 k x v (v.length : Int) q r) := by
  intro q r hr hq hq0 hhi
  obtain ⟨h1, h2⟩ := L5 hp hV hWe hVl1 hv2' hWl hu2 hu1 hu1' hW (by omega) hq hr hq0
  refine Rz.succ ?_
  simp only [nat_step.l0, if_neg (show ¬ r < 4294967296 by omega)]
  refine step_j1 hx hv hxl hvl hq0 h1 hW hhi ?_
  have : (q - 1) * lv v = q * lv v - lv v := by grind
  omega
 intro d
 induction d with
 | zero =>
  intro q r hd hq hr0 hr1 hq0 hqb hhi
  exact done q r (by omega) hq hq0 hhi
 | succ d ih =>
  intro q r hd hq hr0 hr1 hq0 hqb hhi
  by_cases hr : 4294967296 ≤ r
  ·exact done q r hr hq hq0 hhi
  have nxt : ∀ g : lv x < q * lv v, Rz (Stp v.length (lv x) (lv v)) (fun k => nat_step.l0 k x v (v.length : Int) (q - 1) (r + v1)) := by
   intro g
   have hq1 : 0 ≤ q - 1 := by
    by_cases g2 : 0 < q
    ·omega
    ·have e : q = 0 := by omega
     rw [e, Int.zero_mul] at g
     have := lv_nonneg hx
     omega
   refine ih (q - 1) (r + v1) (by omega) ?_ (by omega) (by omega) hq1 (by omega) (by rw [show q - 1 + 1 = q by omega]; exact g)
   have : (q - 1) * v1 = q * v1 - v1 := by grind
   omega
  refine Rz.succ ?_
  have i1 : wrap64 ((v.length : Int) - 1) = ((n + 1 : Nat) : Int) := wn (by omega) (by omega)
  have i2 : wrap64 ((v.length : Int) - 2) = (n : Int) := wn (by omega) (by omega)
  have c1 : (0 : Int) ≤ ((n + 1 : Nat) : Int) := by clear i1 i2; omega
  have c2 : ((n + 1 : Nat) : Int) < (v.length : Int) := by clear i1 i2; omega
  have c3 : (0 : Int) ≤ (n : Int) := by clear i1 i2; omega
  have c4 : (n : Int) < (v.length : Int) := by clear i1 i2; omega
  have c5 : (n : Int) < (x.length : Int) := by clear i1 i2; omega
  have c6 : r < 4294967296 := by clear i1 i2; omega
  by_cases hqB : q ≥ 4294967296
  ·have g : lv x < q * lv v := by
    have := Int.mul_le_mul_of_nonneg_right (a := 4294967296) (b := q) (c := lv v) hqB hV0
    clear i1 i2
    omega
   simp only [nat_step.l0, if_pos c6, if_pos hqB, i1, if_pos c1, if_pos c2, r1, u64w (x := v1) (by clear i1 i2; omega) (by clear i1 i2; omega), u64w (x := q - 1) (by clear i1 i2; omega) (by clear i1 i2; omega), u64w (x := r + v1) (by clear i1 i2; omega) (by clear i1 i2; omega)]
   exact nxt g
  ·have hqs : q < 4294967296 := by clear i1 i2; omega
   have hm0 : 0 ≤ q * v2 := Int.mul_nonneg hq0 hv2
   have hm1 : q * v2 ≤ 4294967295 * 4294967295 := Int.mul_le_mul (by clear i1 i2; omega) (by clear i1 i2; omega) hv2 (by decide)
   have ej := join32 (x := r) (y := u2) hr0 c6 hu2 hu2'
   by_cases ht : q * v2 > r * 4294967296 + u2
   ·have g : lv x < q * lv v := L3 hp hV hWe hVl hWl1 hq (by clear i1 i2 ej; omega) hq0
    have hq1 : 0 ≤ q - 1 := by
     by_cases g2 : 0 < q
     ·clear i1 i2 ej; omega
     ·have e : q = 0 := by clear i1 i2 ej; omega
      rw [e, Int.zero_mul] at g
      have := lv_nonneg hx
      clear i1 i2 ej
      omega
    have z1 := u64w (x := v2) hv2 (by clear i1 i2 ej; omega)
    have z2 := u64w (x := q * v2) hm0 (by clear i1 i2 ej z1; omega)
    simp only [nat_step.l0, if_pos c6, if_neg hqB, i1, i2, if_pos c1, if_pos c2, if_pos c3, if_pos c4, if_pos c5, r1, r2, ru2, z1, z2, ej, if_pos ht, u64w (x := v1) (by clear i1 i2 ej z1 z2; omega) (by clear i1 i2 ej z1 z2; omega), u64w (x := q - 1) hq1 (by clear i1 i2 ej z1 z2; omega), u64w (x := r + v1) (by clear i1 i2 ej z1 z2; omega) (by clear i1 i2 ej z1 z2; omega)]
    exact nxt g
   ·have z1 := u64w (x := v2) hv2 (by clear i1 i2 ej; omega)
    have z2 := u64w (x := q * v2) hm0 (by clear i1 i2 ej z1; omega)
    simp only [nat_step.l0, if_pos c6, if_neg hqB, i2, if_pos c3, if_pos c4, if_pos c5, r2, ru2, z1, z2, ej, if_neg ht]
    clear z1 z2 i1 i2 ej
    exact step_j1 hx hv hxl hvl hq0 hqs hW hhi (L4 hp hV hWe hVl hVl1 hv2 (by omega) hWl hq (by omega) hq0 hqs)
theorem lv_two {l : List Int} {n : Nat} (h : n + 2 ≤ l.length) : lv (l.take (n + 2)) = lv (l.take n) + (bp n : Int) * rd l (n : Int) + 4294967296 * ((bp n : Int) * rd l ((n + 1 : Nat) : Int)) := by
 rw [lv_take_succ (i := n + 1) (by omega), lv_take_succ (i := n) (by omega), bp_succ, Int.natCast_mul]
 show _ + 4294967296 * (bp n : Int) * _ = _
 rw [Int.mul_assoc]
theorem step_ev {x v : List Int} (hx : Lm x) (hv : Lm v) (hxl : x.length = v.length + 1) (hvl : v.length < 536870912) (hk : 2 ≤ v.length) (ht : 2147483648 ≤ rd v ((v.length - 1 : Nat) : Int)) (hW : lv x < 4294967296 * lv v) :
  Rz (Stp v.length (lv x) (lv v)) (fun k => nat_step.f k x v) := by
 obtain ⟨n, hn⟩ : ∃ n, v.length = n + 2 := ⟨v.length - 2, by omega⟩
 have hb := bp_pos n
 have eV := lv_two (l := v) (n := n) (by omega)
 rw [show n + 2 = v.length from hn.symm, List.take_of_length_le (Nat.le_refl _)] at eV
 have eX := lv_take_succ (l := x) (i := n + 2) (by omega)
 rw [show n + 2 + 1 = x.length by omega, List.take_of_length_le (Nat.le_refl _), lv_two (l := x) (n := n) (by omega), bp_succ, bp_succ, Int.natCast_mul, Int.natCast_mul] at eX
 have tv := take_bound hv n
 have tx := take_bound hx n
 have b1 := rd_lm hv ((n + 1 : Nat) : Int)
 have b2 := rd_lm hv (n : Int)
 have bu0 := rd_lm hx ((n + 2 : Nat) : Int)
 have bu1 := rd_lm hx ((n + 1 : Nat) : Int)
 have bu2 := rd_lm hx (n : Int)
 rw [show v.length - 1 = n + 1 by omega] at ht
 have eX' : lv x = lv (x.take n) + (bp n : Int) * rd x (n : Int) + 4294967296 * ((bp n : Int) * (rd x ((n + 2 : Nat) : Int) * 4294967296 + rd x ((n + 1 : Nat) : Int))) := by
  rw [eX]
  generalize (bp n : Int) = p
  show _ + 4294967296 * (4294967296 * p) * _ = _
  grind
 have top0 : 0 ≤ rd x ((n + 2 : Nat) : Int) * 4294967296 + rd x ((n + 1 : Nat) : Int) := by omega
 have top1 : rd x ((n + 2 : Nat) : Int) * 4294967296 + rd x ((n + 1 : Nat) : Int) < 18446744073709551616 := by omega
 have hmod := Int.emod_lt_of_pos (rd x ((n + 2 : Nat) : Int) * 4294967296 + rd x ((n + 1 : Nat) : Int)) (show 0 < rd v ((n + 1 : Nat) : Int) by omega)
 have hmod0 := Int.emod_nonneg (rd x ((n + 2 : Nat) : Int) * 4294967296 + rd x ((n + 1 : Nat) : Int)) (show rd v ((n + 1 : Nat) : Int) ≠ 0 by omega)
 have hdm := Int.mul_ediv_add_emod (rd x ((n + 2 : Nat) : Int) * 4294967296 + rd x ((n + 1 : Nat) : Int)) (rd v ((n + 1 : Nat) : Int))
 have hdiv0 : 0 ≤ (rd x ((n + 2 : Nat) : Int) * 4294967296 + rd x ((n + 1 : Nat) : Int)) / rd v ((n + 1 : Nat) : Int) := Int.ediv_nonneg top0 (by omega)
 have hdiv1 : (rd x ((n + 2 : Nat) : Int) * 4294967296 + rd x ((n + 1 : Nat) : Int)) / rd v ((n + 1 : Nat) : Int) ≤ rd x ((n + 2 : Nat) : Int) * 4294967296 + rd x ((n + 1 : Nat) : Int) := Int.ediv_le_self _ top0
 have ej := join32 bu0.1 bu0.2 bu1.1 bu1.2
 have z0 := u64w (x := rd v ((n + 1 : Nat) : Int)) b1.1 (by clear ej; omega)
 have i1 : wrap64 ((v.length : Int) - 1) = ((n + 1 : Nat) : Int) := wn (by clear ej z0; omega) (by clear ej z0; omega)
 have c1 : (0 : Int) ≤ ((n + 1 : Nat) : Int) := by clear i1 ej z0; omega
 have c2 : ((n + 1 : Nat) : Int) < (v.length : Int) := by clear i1 ej z0; omega
 have c3 : (0 : Int) ≤ (v.length : Int) := by clear i1 ej z0; omega
 have c4 : ((n + 1 : Nat) : Int) < (x.length : Int) := by clear i1 ej z0; omega
 have c5 : (v.length : Int) < (x.length : Int) := by clear i1 ej z0; omega
 have c6 : ¬ rd v ((n + 1 : Nat) : Int) = 0 := by clear i1 ej z0; omega
 have e0 : (v.length : Int) = ((n + 2 : Nat) : Int) := by clear i1 ej z0; omega
 simp only [nat_step.f, if_pos c3, if_pos c5, i1, if_pos c1, if_pos c4, if_pos c2, z0, if_neg c6]
 rw [show rd x (v.length : Int) = rd x ((n + 2 : Nat) : Int) by rw [e0]]
 have z3 := u64w (x := rd x ((n + 2 : Nat) : Int)) bu0.1 (by clear i1 ej z0; omega)
 simp only [z3, ej, Int.tdiv_eq_ediv_of_nonneg top0, Int.tmod_eq_emod_of_nonneg top0, u64w hdiv0 (Int.lt_of_le_of_lt hdiv1 top1)]
 clear i1 ej z0 z3
 refine step_est hx hv hxl hvl hn (by omega) eV eX' tv.1 tv.2 tx.1 tx.2 rfl rfl rfl ht b1.2 b2.1 b2.2 bu2.1 bu2.2 bu1.1 bu1.2 hW 2 _ _ (by omega) ?_ hmod0 (by omega) hdiv0 (Int.lt_of_le_of_lt hdiv1 top1) ?_
 ·rw [Int.mul_comm]; exact hdm
 ·exact L1 (by omega) eV eX' b2.1 tv.1 bu2.2 tx.2 (by rw [Int.mul_comm]; exact hdm) hmod hdiv0
end Mw
end
