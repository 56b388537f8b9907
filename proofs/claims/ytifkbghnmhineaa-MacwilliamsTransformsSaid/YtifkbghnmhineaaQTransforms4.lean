/- What functions of the program do and come to, for the statement MacwilliamsTransforms, part 4. Conditions: as each theorem says. -/
import Derived.Test.YtifkbghnmhineaaQTransforms3

namespace Go.Proofs.Ytifkbghnmhineaa.PAll
open Go.RowKit Go.Proofs.YtifkbghnmhineaaW.PrintWords Go.Proofs.YtifkbghnmhineaaW.PrintLast Go.Proofs.YtifkbghnmhineaaW.PrintMore
attribute [local go_sem] max2_int min2_int max_two min_two max_three min_three max_four min_four
set_option linter.unusedVariables false
set_option linter.unusedSimpArgs false
def mw_Transform.T11 : Bool × List (List Nat × List Nat) := (true, [([], []), ([0], [0]), ([], []), ([2], [2]), ([], []), ([3, 4], [3, 4]), ([1, 5, 5], [1, 5]), ([6], [6]), ([7], [7]), ([7], [7]), ([7], [7]), ([8, 6, 0, 1, 2, 3, 4, 5, 6, 7, 8], [8]), ([9, 11, 0, 1, 2, 3, 4, 5, 6, 7, 8, 9, 11], [9]), ([10, 12, 0, 1, 2, 3, 4, 5, 6, 7, 8, 9, 10, 11, 12], [10])])
def mw_Transform.B11 : List Nat := [0, 1, 0, 4, 0, 28, 63, 127, 255, 255, 255, 511, 3071, 8191]
theorem mw_Transform.tab11 : rtab .any (opsOf Try.f64 11) = mw_Transform.T11 := by kernel_rfl
theorem mw_Transform.bits11 : waitsOk mw_Transform.T11.2 mw_Transform.B11 = true := by kernel_rfl
def mw_Transform.T19 : Bool × List (List Nat × List Nat) := (true, [([], []), ([], []), ([1], [1]), ([], []), ([3], [3]), ([], []), ([4, 5], [4, 5]), ([6], [6]), ([2, 7], [2, 7]), ([8], [8]), ([0, 9, 7], [0, 9]), ([10, 10, 0, 1, 2, 3, 4, 5, 6, 7, 8, 9, 10], [0, 10])])
def mw_Transform.B19 : List Nat := [0, 0, 2, 0, 8, 0, 56, 120, 254, 510, 1023, 2047]
theorem mw_Transform.tab19 : rtab .any (opsOf Try.f64 19) = mw_Transform.T19 := by kernel_rfl
theorem mw_Transform.bits19 : waitsOk mw_Transform.T19.2 mw_Transform.B19 = true := by kernel_rfl
set_option maxHeartbeats 8000000 in
set_option maxRecDepth 100000 in
theorem mw_Transform.calls (k : Nat) (a0 : Int) (P1_ : Nat → Prop) (A1 : Option Addr) (c1 : Nat) (l1 : List (S60)) (r1 : List (S60)) (r2 : Int) (w : World) (hs1 : Kd.V k60 60 w w.heap.size (fun k_ => P1_ k_) (.slice A1 l1.length c1) l1) (h : mw_Transform.f k a0 l1 = some (r1, r2)) :
    Calls Try.prog 64 #[.int .i64 a0, .slice A1 l1.length c1] w fun e w' => ∃ v0_ : Value, e = .returned (.tuple #[v0_, .int .i64 r2]) ∧ Kd.N k60 60 w' w.heap.size (fun k_ => (P1_ k_ ∨ w.heap.size ≤ k_)) v0_ r1 ∧ Below w.heap.size w w' := by
 have hu60 := Try.underlying60
 have hu113 := Try.underlying113
 have HO1 := zk (show Kd.V k60 60 w w.heap.size (fun k_ => (P1_ k_ ∨ w.heap.size ≤ k_)) (.slice A1 l1.length c1) l1 from Kd.V_mono hs1 (fun k_ hk => .inl hk))
 have HB := zk (Below.refl w.heap.size w)
 have H := h
 clear h
 unfold mw_Transform.f at H
 replace H := zb H
 obtain ⟨ta1, A3, H⟩ := H
 replace H := zi H
 rcases H with ⟨c4, H⟩ | ⟨c4, H⟩
 · have c4b0 := beq_iff_eq.mpr c4
   have c4b1 := bne_eq_false_iff_eq.mpr c4
   clear c4
   obtain ⟨ya2, hya2⟩ : ∃ y_ : List Int, y_ = (([1] : List Int)) := ⟨_, rfl⟩
   replace H : (mw_Transform.l0 k a0 ya2 ([] : List (S60)) l1 (l1.length : Int) 0) = some (r1, r2) := zY hya2 H
   have Nya2 := zk hya2
   clear hya2
   have H' := zk H
   clear H
   go_enter Try.func64, Try.ntmps64
   go_wp2_with (first | ((with_reducible refine gC 102 ?_); refine zG (some 26) Try.func102 #[.int .i64 a0, .int .i64 (l1.length : Int)] ?_; (with_reducible refine (mw_wrong.calls a0 (l1.length : Int) ta1 _ A3.out).mono ?_); rintro e w' ⟨rfl, ⟨nd, rfl⟩⟩; refine ⟨_, rfl, ?_⟩) | ((with_reducible refine gate_dst (N := 30) rfl ?_); refine Kd.R_lit (Kd.int .u32) _ 97 ?hg (N := 30) ?hd (xs := ([1] : List Int)) (inner := [.int .u32 1]) (ok := fun _ => True) (okp := fun _ => True) ?hr ?hp (fun _ hk => hk) trivial (Below.refl _ _) (Nat.le_refl _) (by simp) ?_; (case hd => rfl); (case hg => rfl); (case hr => first | (go_simp; done) | (go_simp; rfl)); (case hp => exact (Reps.one (show Kd.M (Kd.int .u32) _ _ _ 1 [.int .u32 1] from rfl) (Reps.none _ _))); intro va3 w5 ho6 hb hg_ hnew_; clear hg_ hnew_; (first | rw [← Nya2.out] at ho6 | (simp only [Int.reduceToNat] at ho6; rw [← Nya2.out] at ho6)); replace HO1 := yVe HO1 ho6 hb; replace ho6 := Kd.R_newM (M := fun k_ => (w.heap.size ≤ k_)) ho6 (below_size (zB HB.out)) (fun k_ h_ => h_); have HOa4 := yRl ho6 HB; replace HB := yS HB hb; clear hb ho6))
   go_loopg [7, 8, 33] k (fun kq v7 v8 v33 w' => ∃ (x7_1 : List Int) (x8_1 : List (S60)) (x33_1 : Int), v33 = .int .i64 x33_1 ∧ Aside0 (mw_Transform.l0 kq a0 x7_1 x8_1 l1 (l1.length : Int) x33_1 = some (r1, r2)) ∧ Aside0 (kq ≤ k) ∧ Aside0 (Kd.R (Kd.int .u32) 97 w' w.heap.size (fun k_ => (w.heap.size ≤ k_)) v7 x7_1) ∧ Aside0 (Kd.N k60 60 w' w.heap.size (fun k_ => (P1_ k_ ∨ w.heap.size ≤ k_) ∧ some k_ ≠ (v7 : Value).ownBlock) v8 x8_1) ∧ Aside0 (Kd.V k60 60 w' w.heap.size (fun k_ => (P1_ k_ ∨ w.heap.size ≤ k_) ∧ some k_ ≠ (v7 : Value).ownBlock ∧ some k_ ≠ (v8 : Value).ownBlock) (.slice A1 l1.length c1) l1) ∧ Aside0 (Below w.heap.size w w'))
   case atStart => exact ⟨(ya2), (([] : List (S60))), (0), zF, H', ⟨Nat.le_refl _⟩, ⟨by (with_reducible repeat (first | apply Kd.R_alloc | apply Kd.R_drewN | apply Kd.R_drew)); exact Kd.R_mono HOa4.out (fun _ hk => hk.1)⟩, ⟨by first | exact Kd.S_nil _ _ _ _ _ | exact Kd.N_nil _ _ _ _ _ | exact Kd.V_nil _ _ _ _ _ | exact Kd.Q_nil _ _ _ _ _ | exact Kd.R_nil _ _ _ _ _⟩, ⟨by (with_reducible repeat (first | apply Kd.V_alloc | apply Kd.V_drewN | apply Kd.V_drew)); exact Kd.V_mono HO1.out (fun _ hk => ⟨hk.1, ⟨hk.2, (by simp [Value.ownBlock])⟩⟩)⟩, ⟨zB HB.out⟩⟩
   clear H'
   (try clear c4);(try clear c4b0);(try clear c4b1)
   obtain ⟨x7_1, x8_1, x33_1, rfl, HA, HK1, HO_7, HO_8, HO_31, HB⟩ := hrel
   cases gk with | zero => exact absurd HA.out (by simp [mw_Transform.l0]) | succ k1 => ?_
   have H := HA.out
   clear HA
   simp only [mw_Transform.l0] at H
   replace H := zid H
   rcases H with ⟨c7b0, H⟩ | ⟨c7b0, H⟩
   · replace H := zgd H
     obtain ⟨c8b0, H⟩ := H
     replace H := zgd H
     obtain ⟨c9b0, H⟩ := H
     replace H := zb H
     obtain ⟨⟨ta7, ta8, tb1⟩, A10, H⟩ := H
     dsimp only at H
     replace H := zg H
     obtain ⟨c11, H⟩ := H
     have LMc11 := zk c11
     clear c11
     obtain ⟨yb4, hyb4⟩ : ∃ y_ : List (S60), y_ = (x8_1 ++ [(⟨ta7, ta8, tb1⟩ : S60)]) := ⟨_, rfl⟩
     replace H : ((nat_Gcd.f k1 tb1 x7_1).bind fun tb7 => ((nat_DivMod.f k1 tb1 tb7).bind fun btc0 => ((nat_Mul.f k1 (([x7_1, btc0.1] : List (List Int)))).bind fun td0 => (mw_Transform.l0 k1 a0 td0 yb4 l1 (l1.length : Int) (wrap64 (x33_1 + 1)))))) = some (r1, r2) := zY hyb4 H
     have Nyb4 := zk hyb4
     clear hyb4
     replace H := zb H
     obtain ⟨tb7, A12, H⟩ := H
     replace H := zb H
     obtain ⟨⟨tc0, tc3, tc6⟩, A13, H⟩ := H
     dsimp only at H
     obtain ⟨yc7, hyc7⟩ : ∃ y_ : List (List Int), y_ = (([x7_1, tc0] : List (List Int))) := ⟨_, rfl⟩
     replace H : ((nat_Mul.f k1 yc7).bind fun td0 => (mw_Transform.l0 k1 a0 td0 yb4 l1 (l1.length : Int) (wrap64 (x33_1 + 1)))) = some (r1, r2) := zY hyc7 H
     have Nyc7 := zk hyc7
     clear hyc7
     replace H := zb H
     obtain ⟨td0, A14, H⟩ := H
     have H' := zk H
     clear H
     have pa5 : 0 ≤ (x33_1 : Int) := zd
     have qa5 : x33_1 < (l1.length : Int) := zd
     obtain ⟨ada5, Aa5_1, ca5_1, Aa5_2, ca5_2, ea5, hxa5_0, hxa5_1, hxa5_2, hla5_1, hia5_1, hla5_2, hia5_2⟩ := at_T60 (Kd.V_reads' HO_31.out).2.2 x33_1 pa5 qa5
     cases ea5
     obtain ⟨cea5, hcea5, hMea5, hcca5⟩ := Kd.V_get HO_31.out z60 x33_1 pa5 (by first | exact qa5 | exact zd | (have e_ := (Kd.V_reads' HO_31.out).1; omega))
     obtain ⟨uaa5_1, uca5_1, uaa5_2, uca5_2, rfl, ula5_1, gea5_1, ula5_2, gea5_2⟩ := k60_openF hMea5
     have hva5_1 := hcca5 1 _ rfl
     rw [add_field _ _ 1 (by omega)] at hva5_1
     replace hva5_1 := Option.some.inj (hva5_1.symm.trans hxa5_1)
     injection hva5_1 with hva_ hvn_ hvc_
     rw [hva_] at gea5_1
     rw [hvc_] at ula5_1
     have HLa5_1 := zk (show Kd.V (Kd.int .u32) 97 _ w.heap.size _ _ ((rd_T60 l1 x33_1).f1) from Kd.V_mk ula5_1 gea5_1)
     clear hva_ hvn_ hvc_ gea5_1 ula5_1
     have hva5_2 := hcca5 2 _ rfl
     rw [add_field _ _ 2 (by omega)] at hva5_2
     replace hva5_2 := Option.some.inj (hva5_2.symm.trans hxa5_2)
     injection hva5_2 with hva_ hvn_ hvc_
     rw [hva_] at gea5_2
     rw [hvc_] at ula5_2
     have HLa5_2 := zk (show Kd.V (Kd.int .u32) 97 _ w.heap.size _ _ ((rd_T60 l1 x33_1).f2) from Kd.V_mk ula5_2 gea5_2)
     clear hva_ hvn_ hvc_ gea5_2 ula5_2
     clear hcca5 hcea5
     have HRa5_1 := zk hia5_1
     have HCa5_1 := zk hla5_1
     clear hia5_1 hla5_1
     have HRa5_2 := zk hia5_2
     have HCa5_2 := zk hla5_2
     clear hia5_2 hla5_2
     replace pa5 := eq_true pa5
     replace qa5 := eq_true qa5
     try go_wp2_with (first | ((with_reducible refine gate_dst (N := 10) rfl ?_); refine box_event ?hg (N := 10) ?hd (cs := #[.bool false, .slice none 0 0, .slice none 0 0]) (t := 60) ?hr ?_; (case hd => rfl); (case hg => rfl); (case hr => first | (go_simp; done) | (go_simp; rfl)); intro gba6 hg w15 hbox hb; replace HO_7 := yRb HO_7 hb; replace HO_8 := zk (Kd.N_below (Kd.N_elderB (zN HO_8.out) gba6 (Nat.le_of_eq hg.symm)) hb); replace HO_31 := yVB HO_31 hg hb; replace HLa5_1 := yVB HLa5_1 hg hb; replace HLa5_2 := yVB HLa5_2 hg hb; (try replace HRa5_1 := yCb HRa5_1 hb); (try replace HRa5_2 := yCb HRa5_2 hb); have BKa6 := zk (hbox); have GWa6 := yg hg HB; have GEa6 := yg hg HB; replace HB := yS HB hb; clear hb hbox hg; obtain ⟨hcz16_0, hcz16_1, hcz16_2, hfz16_0, hfz16_1, hfz16_2⟩ := zz3 BKa6) | ((with_reducible refine gate_store (t := 60) (p := 10) rfl ?_); refine store_event (t := 60) (p := 10) (v := ?vo_w17) (w1 := (((w15.setCell ⟨gba6, 0, none⟩ (.bool ((rd_T60 l1 x33_1).f0))).setCell ⟨gba6, 1, none⟩ (.slice Aa5_1 ((rd_T60 l1 x33_1).f1).length ca5_1)).setCell ⟨gba6, 2, none⟩ (.slice Aa5_2 ((rd_T60 l1 x33_1).f2).length ca5_2))) ?hg ?ho ?hn ?hr ?_; (case ho => rfl); (case hg => rfl); (case hn => rfl); (case hr => first | (go_simp; done) | (go_simp; rfl)); intro w17 hw; have n0_ : Aside0 (Kd.R (Kd.int .u32) 97 w17 w.heap.size (fun k_ => (w.heap.size ≤ k_)) u7 x7_1) := ⟨(by rw [hw]; exact (by (with_reducible repeat (first | apply Kd.R_alloc | apply Kd.R_drewN | apply Kd.R_drew)); exact yf HO_7.out BKa6.out (fun _ hk => hk.1)))⟩; have n1_ : Aside0 (Kd.N k60 60 w17 w.heap.size (fun k_ => (P1_ k_ ∨ w.heap.size ≤ k_) ∧ some k_ ≠ (u7 : Value).ownBlock ∧ k_ ≠ gba6) u8 x8_1) := ⟨(by rw [hw]; exact (by (with_reducible repeat (first | apply Kd.N_alloc | apply Kd.N_drewN | apply Kd.N_drew)); exact Kd.N_mono (Kd.N_far (p := ⟨gba6, 2, none⟩) (Kd.N_far (p := ⟨gba6, 1, none⟩) (Kd.N_far (p := ⟨gba6, 0, none⟩) (Kd.N_mono HO_8.out (fun k_ hk => (⟨hk, hk.2⟩ : _ ∧ k_ ≠ gba6))) (fun _ hk => hk.2) (.bool ((rd_T60 l1 x33_1).f0))) (fun _ hk => hk.2) (.slice Aa5_1 ((rd_T60 l1 x33_1).f1).length ca5_1)) (fun _ hk => hk.2) (.slice Aa5_2 ((rd_T60 l1 x33_1).f2).length ca5_2)) (fun _ hk => ⟨hk.1.1.1, ⟨hk.1.1.2, hk.1.2⟩⟩)))⟩; have n2_ : Aside0 (Kd.V k60 60 w17 w.heap.size (fun k_ => (P1_ k_ ∨ w.heap.size ≤ k_) ∧ some k_ ≠ (u7 : Value).ownBlock ∧ some k_ ≠ (u8 : Value).ownBlock ∧ k_ ≠ gba6) (.slice (some ada5) l1.length c1) l1) := ⟨(by rw [hw]; exact (by (with_reducible repeat (first | apply Kd.V_alloc | apply Kd.V_drewN | apply Kd.V_drew)); exact Kd.V_mono (Kd.V_far (p := ⟨gba6, 2, none⟩) (Kd.V_far (p := ⟨gba6, 1, none⟩) (Kd.V_far (p := ⟨gba6, 0, none⟩) (Kd.V_mono HO_31.out (fun k_ hk => (⟨hk, hk.2⟩ : _ ∧ k_ ≠ gba6))) (fun _ hk => hk.2) (.bool ((rd_T60 l1 x33_1).f0))) (fun _ hk => hk.2) (.slice Aa5_1 ((rd_T60 l1 x33_1).f1).length ca5_1)) (fun _ hk => hk.2) (.slice Aa5_2 ((rd_T60 l1 x33_1).f2).length ca5_2)) (fun _ hk => ⟨hk.1.1.1, ⟨hk.1.1.2.1, ⟨hk.1.1.2.2, hk.1.2⟩⟩⟩)))⟩; have n3_ : Aside0 (Kd.V (Kd.int .u32) 97 w17 w.heap.size (fun k_ => (P1_ k_ ∨ w.heap.size ≤ k_) ∧ some k_ ≠ (u7 : Value).ownBlock ∧ some k_ ≠ (u8 : Value).ownBlock ∧ k_ ≠ gba6) (.slice Aa5_1 ((rd_T60 l1 x33_1).f1).length ca5_1) ((rd_T60 l1 x33_1).f1)) := ⟨(by rw [hw]; exact (by (with_reducible repeat (first | apply Kd.V_alloc | apply Kd.V_drewN | apply Kd.V_drew)); exact Kd.V_mono (Kd.V_far (p := ⟨gba6, 2, none⟩) (Kd.V_far (p := ⟨gba6, 1, none⟩) (Kd.V_far (p := ⟨gba6, 0, none⟩) (Kd.V_mono HLa5_1.out (fun k_ hk => (⟨hk, hk.2⟩ : _ ∧ k_ ≠ gba6))) (fun _ hk => hk.2) (.bool ((rd_T60 l1 x33_1).f0))) (fun _ hk => hk.2) (.slice Aa5_1 ((rd_T60 l1 x33_1).f1).length ca5_1)) (fun _ hk => hk.2) (.slice Aa5_2 ((rd_T60 l1 x33_1).f2).length ca5_2)) (fun _ hk => ⟨hk.1.1.1, ⟨hk.1.1.2.1, ⟨hk.1.1.2.2, hk.1.2⟩⟩⟩)))⟩; have n4_ : Aside0 (Kd.V (Kd.int .u32) 97 w17 w.heap.size (fun k_ => (P1_ k_ ∨ w.heap.size ≤ k_) ∧ some k_ ≠ (u7 : Value).ownBlock ∧ some k_ ≠ (u8 : Value).ownBlock ∧ k_ ≠ gba6) (.slice Aa5_2 ((rd_T60 l1 x33_1).f2).length ca5_2) ((rd_T60 l1 x33_1).f2)) := ⟨(by rw [hw]; exact (by (with_reducible repeat (first | apply Kd.V_alloc | apply Kd.V_drewN | apply Kd.V_drew)); exact Kd.V_mono (Kd.V_far (p := ⟨gba6, 2, none⟩) (Kd.V_far (p := ⟨gba6, 1, none⟩) (Kd.V_far (p := ⟨gba6, 0, none⟩) (Kd.V_mono HLa5_2.out (fun k_ hk => (⟨hk, hk.2⟩ : _ ∧ k_ ≠ gba6))) (fun _ hk => hk.2) (.bool ((rd_T60 l1 x33_1).f0))) (fun _ hk => hk.2) (.slice Aa5_1 ((rd_T60 l1 x33_1).f1).length ca5_1)) (fun _ hk => hk.2) (.slice Aa5_2 ((rd_T60 l1 x33_1).f2).length ca5_2)) (fun _ hk => ⟨hk.1.1.1, ⟨hk.1.1.2.1, ⟨hk.1.1.2.2, hk.1.2⟩⟩⟩)))⟩; have n5_ : Aside0 (w17.heap[gba6]? = some (.cells #[.bool ((rd_T60 l1 x33_1).f0), .slice Aa5_1 ((rd_T60 l1 x33_1).f1).length ca5_1, .slice Aa5_2 ((rd_T60 l1 x33_1).f2).length ca5_2] 60 (0, 0))) := ⟨(by rw [hw]; exact (zP3 BKa6.out))⟩; have n6_ : Aside0 (Below w.heap.size w w17) := ⟨(by rw [hw]; exact (zB1 HB.out GEa6.out))⟩; clear hw; clear HO_7; clear HO_8; clear HO_31; clear HLa5_1; clear HLa5_2; clear BKa6; clear HB; have HO_7 := n0_; have HO_8 := n1_; have HO_31 := n2_; have HLa5_1 := n3_; have HLa5_2 := n4_; have BKa6 := n5_; have HB := n6_; clear n0_ n1_ n2_ n3_ n4_ n5_ n6_; obtain ⟨hcz18_0, hcz18_1, hcz18_2, hfz18_0, hfz18_1, hfz18_2⟩ := zz3 BKa6) | ((with_reducible refine gC 107 ?_); refine zG (some 38) Try.func107 #[.agg #[.bool ((rd_T60 l1 x33_1).f0), .slice Aa5_1 ((rd_T60 l1 x33_1).f1).length ca5_1, .slice Aa5_2 ((rd_T60 l1 x33_1).f2).length ca5_2]] ?_; (with_reducible refine (rational_Trim.calls k1 ((rd_T60 l1 x33_1).f0) (fun k_ => ((P1_ k_ ∨ w.heap.size ≤ k_) ∧ (some k_ ≠ (u7 : Value).ownBlock ∧ (some k_ ≠ (u8 : Value).ownBlock ∧ k_ ≠ gba6)))) _ _ ((rd_T60 l1 x33_1).f1) (fun k_ => ((P1_ k_ ∨ w.heap.size ≤ k_) ∧ (some k_ ≠ (u7 : Value).ownBlock ∧ (some k_ ≠ (u8 : Value).ownBlock ∧ k_ ≠ gba6)))) _ _ ((rd_T60 l1 x33_1).f2) ta7 ta8 tb1 _ ?side1 ?side2 A10.out).mono ?_); (case side1 => exact HLa5_1.out); (case side2 => exact HLa5_2.out); rintro e w19 ⟨va9, vb2, rfl, ho0, ho1, hb⟩; refine ⟨_, rfl, ?_⟩; replace HO_31 := yVb HO_31 hb; replace HLa5_1 := yVb HLa5_1 hb; replace HLa5_2 := yVb HLa5_2 hb; have HOb0 := zk (Kd.V_lower (Kd.V_mono (ok' := fun k_ => (P1_ k_ ∨ w.heap.size ≤ k_) ∧ some k_ ≠ (u7 : Value).ownBlock ∧ some k_ ≠ (u8 : Value).ownBlock ∧ k_ ≠ gba6) ho0 (fun k_ hk_ => ⟨Or.elim hk_ (fun hs_ => Or.elim hs_ (fun hs_ => hs_.1) (fun hs_ => hs_.1)) (fun hn_ => (.inr (Nat.le_trans (below_size (zB1 HB.out GEa6.out)) hn_))), Or.elim hk_ (fun hs_ => Or.elim hs_ (fun hs_ => hs_.2.1) (fun hs_ => hs_.2.1)) (fun hn_ => (Kd.fresh' (Kd.R_lt (zR HO_7.out)) k_ hn_)), Or.elim hk_ (fun hs_ => Or.elim hs_ (fun hs_ => hs_.2.2.1) (fun hs_ => hs_.2.2.1)) (fun hn_ => (Kd.fresh' (Kd.N_lt (zN HO_8.out)) k_ hn_)), Or.elim hk_ (fun hs_ => Or.elim hs_ (fun hs_ => hs_.2.2.2) (fun hs_ => hs_.2.2.2)) (fun hn_ => (Kd.freshB (g := gba6) (o := .cells #[.bool ((rd_T60 l1 x33_1).f0), .slice Aa5_1 ((rd_T60 l1 x33_1).f1).length ca5_1, .slice Aa5_2 ((rd_T60 l1 x33_1).f2).length ca5_2] 60 (0, 0)) (by (with_reducible repeat (first | refine blk_drewN ?_ _ | refine blk_drew ?_ | refine blk_alloc ?_ _)); exact BKa6.out) k_ hn_))⟩)) (below_size (zB1 HB.out GEa6.out))); have HOb3 := zk (Kd.V_lower (Kd.V_mono (ok' := fun k_ => (P1_ k_ ∨ w.heap.size ≤ k_) ∧ some k_ ≠ (u7 : Value).ownBlock ∧ some k_ ≠ (u8 : Value).ownBlock ∧ k_ ≠ gba6) ho1 (fun k_ hk_ => ⟨Or.elim hk_ (fun hs_ => Or.elim hs_ (fun hs_ => hs_.1) (fun hs_ => hs_.1)) (fun hn_ => (.inr (Nat.le_trans (below_size (zB1 HB.out GEa6.out)) hn_))), Or.elim hk_ (fun hs_ => Or.elim hs_ (fun hs_ => hs_.2.1) (fun hs_ => hs_.2.1)) (fun hn_ => (Kd.fresh' (Kd.R_lt (zR HO_7.out)) k_ hn_)), Or.elim hk_ (fun hs_ => Or.elim hs_ (fun hs_ => hs_.2.2.1) (fun hs_ => hs_.2.2.1)) (fun hn_ => (Kd.fresh' (Kd.N_lt (zN HO_8.out)) k_ hn_)), Or.elim hk_ (fun hs_ => Or.elim hs_ (fun hs_ => hs_.2.2.2) (fun hs_ => hs_.2.2.2)) (fun hn_ => (Kd.freshB (g := gba6) (o := .cells #[.bool ((rd_T60 l1 x33_1).f0), .slice Aa5_1 ((rd_T60 l1 x33_1).f1).length ca5_1, .slice Aa5_2 ((rd_T60 l1 x33_1).f2).length ca5_2] 60 (0, 0)) (by (with_reducible repeat (first | refine blk_drewN ?_ _ | refine blk_drew ?_ | refine blk_alloc ?_ _)); exact BKa6.out) k_ hn_))⟩)) (below_size (zB1 HB.out GEa6.out))); replace HO_7 := yRb HO_7 hb; replace HO_8 := yNb HO_8 hb; (try replace HRa5_1 := yCb HRa5_1 hb); (try replace HRa5_2 := yCb HRa5_2 hb); replace BKa6 := yK BKa6 hb; replace HB := yS1 HB GEa6 hb; (try clear hb ho0); (try clear ho1); obtain ⟨hcz20_0, hcz20_1, hcz20_2, hfz20_0, hfz20_1, hfz20_2⟩ := zz3 BKa6; obtain ⟨Ao21, co21, rfl⟩ := Kd.V_slice HOb0.out; obtain ⟨Ao22, co22, rfl⟩ := Kd.V_slice HOb3.out) | ((with_reducible refine gate_store (t := 60) (p := 10) rfl ?_); refine store_event (t := 60) (p := 10) (v := ?vo_w23) (w1 := (((w19.setCell ⟨gba6, 0, none⟩ (.bool ta7)).setCell ⟨gba6, 1, none⟩ (.slice Ao21 ta8.length co21)).setCell ⟨gba6, 2, none⟩ (.slice Ao22 tb1.length co22))) ?hg ?ho ?hn ?hr ?_; (case ho => rfl); (case hg => rfl); (case hn => rfl); (case hr => first | (go_simp; done) | (go_simp; rfl)); intro w23 hw; have n0_ : Aside0 (Kd.R (Kd.int .u32) 97 w23 w.heap.size (fun k_ => (w.heap.size ≤ k_)) u7 x7_1) := ⟨(by rw [hw]; exact (by (with_reducible repeat (first | apply Kd.R_alloc | apply Kd.R_drewN | apply Kd.R_drew)); exact yf HO_7.out BKa6.out (fun _ hk => hk.1)))⟩; have n1_ : Aside0 (Kd.N k60 60 w23 w.heap.size (fun k_ => (P1_ k_ ∨ w.heap.size ≤ k_) ∧ some k_ ≠ (u7 : Value).ownBlock ∧ k_ ≠ gba6) u8 x8_1) := ⟨(by rw [hw]; exact (by (with_reducible repeat (first | apply Kd.N_alloc | apply Kd.N_drewN | apply Kd.N_drew)); exact Kd.N_mono (Kd.N_far (p := ⟨gba6, 2, none⟩) (Kd.N_far (p := ⟨gba6, 1, none⟩) (Kd.N_far (p := ⟨gba6, 0, none⟩) (Kd.N_mono HO_8.out (fun k_ hk => (⟨hk, hk.2.2⟩ : _ ∧ k_ ≠ gba6))) (fun _ hk => hk.2) (.bool ta7)) (fun _ hk => hk.2) (.slice Ao21 ta8.length co21)) (fun _ hk => hk.2) (.slice Ao22 tb1.length co22)) (fun _ hk => ⟨hk.1.1, ⟨hk.1.2.1, hk.1.2.2⟩⟩)))⟩; have n2_ : Aside0 (Kd.V k60 60 w23 w.heap.size (fun k_ => (P1_ k_ ∨ w.heap.size ≤ k_) ∧ some k_ ≠ (u7 : Value).ownBlock ∧ some k_ ≠ (u8 : Value).ownBlock ∧ k_ ≠ gba6) (.slice (some ada5) l1.length c1) l1) := ⟨(by rw [hw]; exact (by (with_reducible repeat (first | apply Kd.V_alloc | apply Kd.V_drewN | apply Kd.V_drew)); exact Kd.V_mono (Kd.V_far (p := ⟨gba6, 2, none⟩) (Kd.V_far (p := ⟨gba6, 1, none⟩) (Kd.V_far (p := ⟨gba6, 0, none⟩) (Kd.V_mono HO_31.out (fun k_ hk => (⟨hk, hk.2.2.2⟩ : _ ∧ k_ ≠ gba6))) (fun _ hk => hk.2) (.bool ta7)) (fun _ hk => hk.2) (.slice Ao21 ta8.length co21)) (fun _ hk => hk.2) (.slice Ao22 tb1.length co22)) (fun _ hk => ⟨hk.1.1, ⟨hk.1.2.1, ⟨hk.1.2.2.1, hk.1.2.2.2⟩⟩⟩)))⟩; have n3_ : Aside0 (Kd.V (Kd.int .u32) 97 w23 w.heap.size (fun k_ => (P1_ k_ ∨ w.heap.size ≤ k_) ∧ some k_ ≠ (u7 : Value).ownBlock ∧ some k_ ≠ (u8 : Value).ownBlock ∧ k_ ≠ gba6) (.slice Aa5_1 ((rd_T60 l1 x33_1).f1).length ca5_1) ((rd_T60 l1 x33_1).f1)) := ⟨(by rw [hw]; exact (by (with_reducible repeat (first | apply Kd.V_alloc | apply Kd.V_drewN | apply Kd.V_drew)); exact Kd.V_mono (Kd.V_far (p := ⟨gba6, 2, none⟩) (Kd.V_far (p := ⟨gba6, 1, none⟩) (Kd.V_far (p := ⟨gba6, 0, none⟩) (Kd.V_mono HLa5_1.out (fun k_ hk => (⟨hk, hk.2.2.2⟩ : _ ∧ k_ ≠ gba6))) (fun _ hk => hk.2) (.bool ta7)) (fun _ hk => hk.2) (.slice Ao21 ta8.length co21)) (fun _ hk => hk.2) (.slice Ao22 tb1.length co22)) (fun _ hk => ⟨hk.1.1, ⟨hk.1.2.1, ⟨hk.1.2.2.1, hk.1.2.2.2⟩⟩⟩)))⟩; have n4_ : Aside0 (Kd.V (Kd.int .u32) 97 w23 w.heap.size (fun k_ => (P1_ k_ ∨ w.heap.size ≤ k_) ∧ some k_ ≠ (u7 : Value).ownBlock ∧ some k_ ≠ (u8 : Value).ownBlock ∧ k_ ≠ gba6) (.slice Aa5_2 ((rd_T60 l1 x33_1).f2).length ca5_2) ((rd_T60 l1 x33_1).f2)) := ⟨(by rw [hw]; exact (by (with_reducible repeat (first | apply Kd.V_alloc | apply Kd.V_drewN | apply Kd.V_drew)); exact Kd.V_mono (Kd.V_far (p := ⟨gba6, 2, none⟩) (Kd.V_far (p := ⟨gba6, 1, none⟩) (Kd.V_far (p := ⟨gba6, 0, none⟩) (Kd.V_mono HLa5_2.out (fun k_ hk => (⟨hk, hk.2.2.2⟩ : _ ∧ k_ ≠ gba6))) (fun _ hk => hk.2) (.bool ta7)) (fun _ hk => hk.2) (.slice Ao21 ta8.length co21)) (fun _ hk => hk.2) (.slice Ao22 tb1.length co22)) (fun _ hk => ⟨hk.1.1, ⟨hk.1.2.1, ⟨hk.1.2.2.1, hk.1.2.2.2⟩⟩⟩)))⟩; have n5_ : Aside0 (Kd.V (Kd.int .u32) 97 w23 w.heap.size (fun k_ => (P1_ k_ ∨ w.heap.size ≤ k_) ∧ some k_ ≠ (u7 : Value).ownBlock ∧ some k_ ≠ (u8 : Value).ownBlock ∧ k_ ≠ gba6) (.slice Ao21 ta8.length co21) ta8) := ⟨(by rw [hw]; exact (by (with_reducible repeat (first | apply Kd.V_alloc | apply Kd.V_drewN | apply Kd.V_drew)); exact Kd.V_mono (Kd.V_far (p := ⟨gba6, 2, none⟩) (Kd.V_far (p := ⟨gba6, 1, none⟩) (Kd.V_far (p := ⟨gba6, 0, none⟩) (Kd.V_mono HOb0.out (fun k_ hk => (⟨hk, hk.2.2.2⟩ : _ ∧ k_ ≠ gba6))) (fun _ hk => hk.2) (.bool ta7)) (fun _ hk => hk.2) (.slice Ao21 ta8.length co21)) (fun _ hk => hk.2) (.slice Ao22 tb1.length co22)) (fun _ hk => ⟨hk.1.1, ⟨hk.1.2.1, ⟨hk.1.2.2.1, hk.1.2.2.2⟩⟩⟩)))⟩; have n6_ : Aside0 (Kd.V (Kd.int .u32) 97 w23 w.heap.size (fun k_ => (P1_ k_ ∨ w.heap.size ≤ k_) ∧ some k_ ≠ (u7 : Value).ownBlock ∧ some k_ ≠ (u8 : Value).ownBlock ∧ k_ ≠ gba6) (.slice Ao22 tb1.length co22) tb1) := ⟨(by rw [hw]; exact (by (with_reducible repeat (first | apply Kd.V_alloc | apply Kd.V_drewN | apply Kd.V_drew)); exact Kd.V_mono (Kd.V_far (p := ⟨gba6, 2, none⟩) (Kd.V_far (p := ⟨gba6, 1, none⟩) (Kd.V_far (p := ⟨gba6, 0, none⟩) (Kd.V_mono HOb3.out (fun k_ hk => (⟨hk, hk.2.2.2⟩ : _ ∧ k_ ≠ gba6))) (fun _ hk => hk.2) (.bool ta7)) (fun _ hk => hk.2) (.slice Ao21 ta8.length co21)) (fun _ hk => hk.2) (.slice Ao22 tb1.length co22)) (fun _ hk => ⟨hk.1.1, ⟨hk.1.2.1, ⟨hk.1.2.2.1, hk.1.2.2.2⟩⟩⟩)))⟩; have n7_ : Aside0 (w23.heap[gba6]? = some (.cells #[.bool ta7, .slice Ao21 ta8.length co21, .slice Ao22 tb1.length co22] 60 (0, 0))) := ⟨(by rw [hw]; exact (zP3 BKa6.out))⟩; have n8_ : Aside0 (Below w.heap.size w w23) := ⟨(by rw [hw]; exact (zB1 HB.out GEa6.out))⟩; clear hw; clear HO_7; clear HO_8; clear HO_31; clear HLa5_1; clear HLa5_2; clear HOb0; clear HOb3; clear BKa6; clear HB; have HO_7 := n0_; have HO_8 := n1_; have HO_31 := n2_; have HLa5_1 := n3_; have HLa5_2 := n4_; have HOb0 := n5_; have HOb3 := n6_; have BKa6 := n7_; have HB := n8_; clear n0_ n1_ n2_ n3_ n4_ n5_ n6_ n7_ n8_; obtain ⟨hcz24_0, hcz24_1, hcz24_2, hfz24_0, hfz24_1, hfz24_2⟩ := zz3 BKa6) | ((with_reducible refine gate_builtin (b := .append) (xs := #[.tmp 39, .tmp 41]) rfl ?_); at_builtin; refine Kd.N_append k60 (w0 := w) w.heap.size rfl (.tmp 39) (.tmp 41) 83 60 (.agg #[(.bool false), (.slice none 0 0), (.slice none 0 0)]) 56 rfl Try.underlying83 info60 rfl (by decide) (by omega) u8 x8_1 (⟨ta7, ta8, tb1⟩ : S60) [.bool ta7, .slice Ao21 ta8.length co21, .slice Ao22 tb1.length co22] (fun k_ => (P1_ k_ ∨ w.heap.size ≤ k_) ∧ some k_ ≠ (u7 : Value).ownBlock ∧ k_ ≠ gba6) (fun k_ => ((fun k_ => (P1_ k_ ∨ w.heap.size ≤ k_) ∧ some k_ ≠ (u7 : Value).ownBlock ∧ k_ ≠ gba6)) k_ ∧ some k_ ≠ (u8 : Value).ownBlock) rfl rfl ?aP (fun _ hk => hk) ?aF ?aO ?aB ?aS ?aL ?_; (case aP => exact (k60_mkF _ _ (⟨ta7, ta8, tb1⟩ : S60) (Kd.V_reads' (Kd.V_mono (ok' := (fun k_ => ((fun k_ => (P1_ k_ ∨ w.heap.size ≤ k_) ∧ some k_ ≠ (u7 : Value).ownBlock ∧ k_ ≠ gba6)) k_ ∧ some k_ ≠ (u8 : Value).ownBlock)) (HOb0.out) (fun k_ hk => by exact ⟨⟨hk.1, ⟨hk.2.1, hk.2.2.2⟩⟩, hk.2.2.1⟩))).2.1 (Kd.V_F (Kd.V_mono (ok' := (fun k_ => ((fun k_ => (P1_ k_ ∨ w.heap.size ≤ k_) ∧ some k_ ≠ (u7 : Value).ownBlock ∧ k_ ≠ gba6)) k_ ∧ some k_ ≠ (u8 : Value).ownBlock)) (HOb0.out) (fun k_ hk => by exact ⟨⟨hk.1, ⟨hk.2.1, hk.2.2.2⟩⟩, hk.2.2.1⟩))) (Kd.V_reads' (Kd.V_mono (ok' := (fun k_ => ((fun k_ => (P1_ k_ ∨ w.heap.size ≤ k_) ∧ some k_ ≠ (u7 : Value).ownBlock ∧ k_ ≠ gba6)) k_ ∧ some k_ ≠ (u8 : Value).ownBlock)) (HOb3.out) (fun k_ hk => by exact ⟨⟨hk.1, ⟨hk.2.1, hk.2.2.2⟩⟩, hk.2.2.1⟩))).2.1 (Kd.V_F (Kd.V_mono (ok' := (fun k_ => ((fun k_ => (P1_ k_ ∨ w.heap.size ≤ k_) ∧ some k_ ≠ (u7 : Value).ownBlock ∧ k_ ≠ gba6)) k_ ∧ some k_ ≠ (u8 : Value).ownBlock)) (HOb3.out) (fun k_ hk => by exact ⟨⟨hk.1, ⟨hk.2.1, hk.2.2.2⟩⟩, hk.2.2.1⟩))))); (case aB => exact (zB1 HB.out GEa6.out)); (case aF => exact (fun k_ hk => ⟨(.inr (Nat.le_trans (below_size (zB1 HB.out GEa6.out)) hk)), Kd.fresh' (Kd.R_lt (zR HO_7.out)) k_ hk, Kd.freshB (g := gba6) (o := .cells #[.bool ta7, .slice Ao21 ta8.length co21, .slice Ao22 tb1.length co22] 60 (0, 0)) (by (with_reducible repeat (first | refine blk_drewN ?_ _ | refine blk_drew ?_ | refine blk_alloc ?_ _)); exact BKa6.out) k_ hk⟩)); (case aO => exact (zN HO_8.out)); (case aS => exact (below_size (zB1 HB.out GEa6.out))); (case aL => have := LMc11.out; omega); intro vb5 w25 ho hb hg hat; rw [← Nyb4.out] at ho; replace HO_7 := zk (Kd.R_over' (zR HO_7.out) (Kd.N_typed (zN HO_8.out)) (by decide) hg); replace HO_31 := zk (Kd.V_afterv (ok := (fun k_ => (P1_ k_ ∨ w.heap.size ≤ k_) ∧ some k_ ≠ (u7 : Value).ownBlock ∧ k_ ≠ gba6)) (by (with_reducible repeat (first | apply Kd.V_alloc | apply Kd.V_drewN | apply Kd.V_drew)); exact Kd.V_mono HO_31.out (fun _ hk => ⟨⟨hk.1, ⟨hk.2.1, hk.2.2.2⟩⟩, hk.2.2.1⟩)) hg hat); replace HLa5_1 := zk (Kd.V_afterv (ok := (fun k_ => (P1_ k_ ∨ w.heap.size ≤ k_) ∧ some k_ ≠ (u7 : Value).ownBlock ∧ k_ ≠ gba6)) (by (with_reducible repeat (first | apply Kd.V_alloc | apply Kd.V_drewN | apply Kd.V_drew)); exact Kd.V_mono HLa5_1.out (fun _ hk => ⟨⟨hk.1, ⟨hk.2.1, hk.2.2.2⟩⟩, hk.2.2.1⟩)) hg hat); replace HLa5_2 := zk (Kd.V_afterv (ok := (fun k_ => (P1_ k_ ∨ w.heap.size ≤ k_) ∧ some k_ ≠ (u7 : Value).ownBlock ∧ k_ ≠ gba6)) (by (with_reducible repeat (first | apply Kd.V_alloc | apply Kd.V_drewN | apply Kd.V_drew)); exact Kd.V_mono HLa5_2.out (fun _ hk => ⟨⟨hk.1, ⟨hk.2.1, hk.2.2.2⟩⟩, hk.2.2.1⟩)) hg hat); replace BKa6 := zk (blk_grown (g := gba6) (o := .cells #[.bool ta7, .slice Ao21 ta8.length co21, .slice Ao22 tb1.length co22] 60 (0, 0)) (by (with_reducible repeat (first | refine blk_drewN ?_ _ | refine blk_drew ?_ | refine blk_alloc ?_ _)); exact BKa6.out) hg (Kd.N_away HO_8.out (fun _ hk => hk.2.2))); replace HOb0 := zk (Kd.V_afterv (ok := (fun k_ => (P1_ k_ ∨ w.heap.size ≤ k_) ∧ some k_ ≠ (u7 : Value).ownBlock ∧ k_ ≠ gba6)) (by (with_reducible repeat (first | apply Kd.V_alloc | apply Kd.V_drewN | apply Kd.V_drew)); exact Kd.V_mono HOb0.out (fun _ hk => ⟨⟨hk.1, ⟨hk.2.1, hk.2.2.2⟩⟩, hk.2.2.1⟩)) hg hat); replace HOb3 := zk (Kd.V_afterv (ok := (fun k_ => (P1_ k_ ∨ w.heap.size ≤ k_) ∧ some k_ ≠ (u7 : Value).ownBlock ∧ k_ ≠ gba6)) (by (with_reducible repeat (first | apply Kd.V_alloc | apply Kd.V_drewN | apply Kd.V_drew)); exact Kd.V_mono HOb3.out (fun _ hk => ⟨⟨hk.1, ⟨hk.2.1, hk.2.2.2⟩⟩, hk.2.2.1⟩)) hg hat); replace HB := zk (hb); have HOb6 := zk (ho); clear HO_8; clear ho hb hg hat))
     replace HO_7 := zk (Kd.R_drew HO_7.out)
     replace HO_31 := zk (Kd.V_drew HO_31.out)
     replace HLa5_1 := zk (Kd.V_drew HLa5_1.out)
     replace HLa5_2 := zk (Kd.V_drew HLa5_2.out)
     replace HOb0 := zk (Kd.V_drew HOb0.out)
     replace HOb3 := zk (Kd.V_drew HOb3.out)
     replace HOb6 := zk (Kd.N_drew HOb6.out)
     replace BKa6 := zk (blk_drew BKa6.out)
     replace HB := zk (below_drew1 HB.out)
     obtain ⟨Ao27, co27, eo27⟩ := Kd.R_slice HO_7.out
     (first | subst eo27 | (injection eo27 with f1_ f2_ f3_; have f4_ := f1_.symm; have f5_ := f3_.symm; clear f1_ f2_ f3_; subst f4_; subst f5_))
     refine start_ (n := 14) (S := fun w' => w'.cell? ⟨gba6, 0, none⟩ = some (.bool ta7) ∧ w'.cell? ⟨gba6, 1, none⟩ = some (.slice Ao21 ta8.length co21) ∧ w'.cell? ⟨gba6, 2, none⟩ = some (.slice Ao22 tb1.length co22)) (ds := []) #[false, false, false, false, false, false, false, false, false, false, false, false, false, false] (by kernel_rfl) rfl rfl ⟨(blk_cell BKa6.out 0).trans rfl, (blk_cell BKa6.out 1).trans rfl, (blk_cell BKa6.out 2).trans rfl⟩ (fun hHeld => ?_); refine with_tabW mw_Transform.tab11 mw_Transform.bits11 (fun HT_ HW_ => ?_)
     generalize w25.drew = w26 at HO_7 HO_31 HLa5_1 HLa5_2 HOb0 HOb3 HOb6 BKa6 HB hHeld ⊢
     refine zp (i := 0) (N := some 44) HT_ ?_
     refine zp (i := 2) (N := some 46) HT_ ?_
     refine zp (i := 4) (N := some 48) HT_ ?_
     refine take_ (i := 1) (N := some 45) (v := ?_) (a' := ?_) #[true, true, true, false, true, false, false, false, false, false, false, false, false, false] rfl rfl (take_ofW HT_.out HW_.out (by kernel_rfl)) (fun _ _ _ h => h) (Or.inl ⟨by rfl, ?_⟩) hHeld ?_ ?_
     rotate_left
     · rintro w' ⟨s0, s1, s2⟩
       go_simp
       with_reducible rfl
     rotate_left
     · simp only [Act.put, List.setIfInBounds_toArray, List.set_cons_zero, List.set_cons_succ, i64_w, i32_w]
       rfl
     refine take_ (i := 3) (N := some 47) (v := ?_) (a' := ?_) #[true, true, true, true, true, false, false, false, false, false, false, false, false, false] rfl rfl (take_ofW HT_.out HW_.out (by kernel_rfl)) (fun _ _ _ h => h) (Or.inl ⟨by rfl, ?_⟩) hHeld ?_ ?_
     rotate_left
     · rintro w' ⟨s0, s1, s2⟩
       go_simp
       with_reducible rfl
     rotate_left
     · simp only [Act.put, List.setIfInBounds_toArray, List.set_cons_zero, List.set_cons_succ, i64_w, i32_w]
       rfl
     refine one_ (i := 5) (N := some 49) #[true, true, true, true, true, true, false, false, false, false, false, false, false, false] rfl rfl (one_of HT_.out (by kernel_rfl)) (by decide) (fun K hK => ?_)
     refine goes_ Try.func108 (by kernel_rfl) rfl #[.slice Ao22 tb1.length co22, .slice Ao27 x7_1.length co27] (by rfl) rfl rfl (by (try simp only [List.map_toArray, List.map_cons, List.map_nil]); first | done | rfl | (simp only [List.length_drop, List.length_take]; rfl)) ?_
     with_reducible refine (nat_Gcd.calls k1 _ _ tb1 _ _ x7_1 tb7 _ ?side1 ?side2 ?side3 ?side4 A12.out).mono ?_
     (case side1 => exact zC (Kd.V_reads' HOb3.out).2.2)
     (case side2 => exact (Kd.V_reads' HOb3.out).2.1)
     (case side3 => exact zC (Kd.R_reads' HO_7.out).2.2)
     (case side4 => exact (Kd.R_reads' HO_7.out).2.1)
     rintro e w28 ⟨vb8, rfl, ho0, hb⟩
     refine ⟨_, rfl, ?_⟩
     replace HO_31 := yVe HO_31 ho0 hb
     replace HLa5_1 := yVe HLa5_1 ho0 hb
     replace HLa5_2 := yVe HLa5_2 ho0 hb
     replace HOb0 := yVe HOb0 ho0 hb
     replace HOb3 := yVe HOb3 ho0 hb
     replace HOb6 := yNe HOb6 ho0 hb
     replace ho0 := Kd.R_newM (M := fun k_ => (w.heap.size ≤ k_)) ho0 (below_size (zB1 HB.out GEa6.out)) (fun k_ h_ => h_)
     replace ho0 := yn ho0 HO_7
     have HOb9 := yRl1 ho0 HB GEa6
     replace HO_7 := yRe HO_7 ho0 hb
     replace BKa6 := yK BKa6 hb
     replace HB := yS1 HB GEa6 hb
     (try clear hb)
     (try clear ho0)
     obtain ⟨Ao29, co29, eo29⟩ := Kd.R_slice HOb9.out
     (first | subst eo29 | (injection eo29 with f1_ f2_ f3_; have f4_ := f1_.symm; have f5_ := f3_.symm; clear f1_ f2_ f3_; subst f4_; subst f5_))
     refine hK.out _ _ ⟨(blk_cell BKa6.out 0).trans rfl, (blk_cell BKa6.out 1).trans rfl, (blk_cell BKa6.out 2).trans rfl⟩ (fun hHeld => ?_)
     clear hK K
     refine norm_ (a' := ?_) ?_ ?_
     rotate_left
     · show Act.put _ (some 49) _ = _
       simp only [Act.put, List.setIfInBounds_toArray, List.set_cons_zero, List.set_cons_succ, i64_w, i32_w]
       rfl
     refine one_ (i := 6) (N := some 50) #[true, true, true, true, true, true, true, false, false, false, false, false, false, false] rfl rfl (one_of HT_.out (by kernel_rfl)) (by decide) (fun K hK => ?_)
     refine goes_ Try.func105 (by kernel_rfl) rfl #[.slice Ao22 tb1.length co22, .slice Ao29 tb7.length co29] (by rfl) rfl rfl (by (try simp only [List.map_toArray, List.map_cons, List.map_nil]); first | done | rfl | (simp only [List.length_drop, List.length_take]; rfl)) ?_
     with_reducible refine (nat_DivMod.calls k1 (fun k_ => ((((P1_ k_ ∨ w.heap.size ≤ k_) ∧ (some k_ ≠ (.slice Ao27 x7_1.length co27 : Value).ownBlock ∧ k_ ≠ gba6)) ∧ some k_ ≠ (vb5 : Value).ownBlock) ∧ some k_ ≠ (.slice Ao29 tb7.length co29 : Value).ownBlock)) _ _ tb1 (fun k_ => some k_ = (.slice Ao29 tb7.length co29 : Value).ownBlock) _ _ tb7 tc0 tc3 tc6 _ ?side1 ?side2 A13.out).mono ?_
     (case side1 => exact HOb3.out)
     (case side2 => exact Kd.R_V (Kd.R_tight rfl (Kd.R_types (Kd.R_apart' (HOb9.out) (Kd.N_typed HOb6.out) (by decide)) BKa6.out (by decide))))
     rintro e w30 ⟨vc1, vc4, rfl, ho0, ho1, hb⟩
     refine ⟨_, rfl, ?_⟩
     replace HO_31 := yVe HO_31 ho1 hb
     replace HLa5_1 := yVe HLa5_1 ho1 hb
     replace HLa5_2 := yVe HLa5_2 ho1 hb
     replace HOb0 := yVe HOb0 ho1 hb
     replace HOb3 := yVe HOb3 ho1 hb
     have HOc2 := zk (Kd.V_lower (Kd.V_mono (ok' := fun k_ => (P1_ k_ ∨ w.heap.size ≤ k_) ∧ some k_ ≠ (vc4 : Value).ownBlock ∧ some k_ ≠ (.slice Ao27 x7_1.length co27 : Value).ownBlock ∧ some k_ ≠ (vb5 : Value).ownBlock ∧ k_ ≠ gba6) ho0 (fun k_ hk_ => ⟨Or.elim hk_.1 (fun hs_ => Or.elim hs_ (fun hs_ => hs_.1.1.1) (fun hs_ => (.inr (((Kd.R_types (Kd.R_apart' (HOb9.out) (Kd.N_typed HOb6.out) (by decide)) BKa6.out (by decide)).1 k_ hs_.symm).1.1.1.1)))) (fun hn_ => (.inr (Nat.le_trans (below_size (zB1 HB.out GEa6.out)) hn_))), hk_.2, Or.elim hk_.1 (fun hs_ => Or.elim hs_ (fun hs_ => hs_.1.1.2.1) (fun hs_ => ((Kd.R_types (Kd.R_apart' (HOb9.out) (Kd.N_typed HOb6.out) (by decide)) BKa6.out (by decide)).1 k_ hs_.symm).1.1.2)) (fun hn_ => (Kd.fresh' (Kd.R_lt (zR HO_7.out)) k_ hn_)), Or.elim hk_.1 (fun hs_ => Or.elim hs_ (fun hs_ => hs_.1.2) (fun hs_ => ((Kd.R_types (Kd.R_apart' (HOb9.out) (Kd.N_typed HOb6.out) (by decide)) BKa6.out (by decide)).1 k_ hs_.symm).1.2)) (fun hn_ => (Kd.fresh' (Kd.N_lt (zN HOb6.out)) k_ hn_)), Or.elim hk_.1 (fun hs_ => Or.elim hs_ (fun hs_ => hs_.1.1.2.2) (fun hs_ => ((Kd.R_types (Kd.R_apart' (HOb9.out) (Kd.N_typed HOb6.out) (by decide)) BKa6.out (by decide)).1 k_ hs_.symm).2)) (fun hn_ => (Kd.freshB (g := gba6) (o := .cells #[.bool ta7, .slice Ao21 ta8.length co21, .slice Ao22 tb1.length co22] 60 (0, 0)) (by (with_reducible repeat (first | refine blk_drewN ?_ _ | refine blk_drew ?_ | refine blk_alloc ?_ _)); exact BKa6.out) k_ hn_))⟩)) (below_size (zB1 HB.out GEa6.out)))
     replace HOb6 := yNe HOb6 ho1 hb
     replace ho1 := Kd.R_newM (M := fun k_ => (w.heap.size ≤ k_)) (yt ho1) (below_size (zB1 HB.out GEa6.out)) (fun k_ h_ => h_)
     replace ho1 := yn ho1 HO_7
     replace ho1 := yn ho1 HOb9
     have HOc5 := yRl1 ho1 HB GEa6
     replace HO_7 := yRe HO_7 ho1 hb
     replace HOb9 := yRe HOb9 ho1 hb
     replace BKa6 := yK BKa6 hb
     replace HB := yS1 HB GEa6 hb
     (try clear hb)
     (try clear ho0)
     (try clear ho1)
     refine hK.out _ _ ⟨(blk_cell BKa6.out 0).trans rfl, (blk_cell BKa6.out 1).trans rfl, (blk_cell BKa6.out 2).trans rfl⟩ (fun hHeld => ?_)
     clear hK K
     refine norm_ (a' := ?_) ?_ ?_
     rotate_left
     · show Act.put _ (some 50) _ = _
       simp only [Act.put, List.setIfInBounds_toArray, List.set_cons_zero, List.set_cons_succ, i64_w, i32_w]
       rfl
     refine zp (i := 7) (N := some 43) HT_ ?_
     refine zp (i := 8) (N := some 51) HT_ ?_
     refine zp (i := 9) (N := some 52) HT_ ?_
     refine zp (i := 10) (N := some 53) HT_ ?_
     refine zp (i := 11) (N := some 11) HT_ ?_
     refine zp (i := 12) (N := some 12) HT_ ?_
     refine zp (i := 13) (N := some 13) HT_ ?_
     refine done_ (done_of HT_.out (by kernel_rfl)) ?_
     obtain ⟨Ao31, co31, rfl⟩ := Kd.V_slice HOc2.out
     try go_wp2_with (first | ((with_reducible refine gate_dst (N := 56) rfl ?_); refine Kd.N_lit (Kd.slice 97 (Kd.int .u32)) _ 29 ?hg (N' := 56) ?hd (xs := ([x7_1, tc0] : List (List Int))) (inner := [.slice Ao27 x7_1.length co27, .slice Ao31 tc0.length co31]) (ok := (fun k_ => (P1_ k_ ∨ w.heap.size ≤ k_) ∧ some k_ ≠ (vb5 : Value).ownBlock ∧ some k_ ≠ (vc4 : Value).ownBlock ∧ k_ ≠ gba6)) (okp := (fun k_ => (P1_ k_ ∨ w.heap.size ≤ k_) ∧ some k_ ≠ (vb5 : Value).ownBlock ∧ some k_ ≠ (vc4 : Value).ownBlock ∧ k_ ≠ gba6)) ?hr ?hp (fun _ hk => hk) ((show ∀ k_, w30.heap.size ≤ k_ → (fun k_ => (P1_ k_ ∨ w.heap.size ≤ k_) ∧ some k_ ≠ (vb5 : Value).ownBlock ∧ some k_ ≠ (vc4 : Value).ownBlock ∧ k_ ≠ gba6) k_ from fun k_ hk => ⟨(.inr (Nat.le_trans (below_size (zB1 HB.out GEa6.out)) hk)), Kd.fresh' (Kd.N_lt (zN HOb6.out)) k_ hk, Kd.fresh' (Kd.R_lt (zR HOc5.out)) k_ hk, Kd.freshB (g := gba6) (o := .cells #[.bool ta7, .slice Ao21 ta8.length co21, .slice Ao22 tb1.length co22] 60 (0, 0)) (by (with_reducible repeat (first | refine blk_drewN ?_ _ | refine blk_drew ?_ | refine blk_alloc ?_ _)); exact BKa6.out) k_ hk⟩) _ (Nat.le_refl _)) (Below.refl _ _) (Nat.le_refl _) (by simp) ?_; (case hd => rfl); (case hg => rfl); (case hr => first | (go_simp; done) | (go_simp; rfl)); (case hp => exact (Reps.one (show Kd.FK (Kd.slice 97 (Kd.int .u32)) _ _ x7_1 [.slice Ao27 x7_1.length co27] from (Mw.FK_of_R (Kd.R_mono (ok' := (fun k_ => (P1_ k_ ∨ w.heap.size ≤ k_) ∧ some k_ ≠ (vb5 : Value).ownBlock ∧ some k_ ≠ (vc4 : Value).ownBlock ∧ k_ ≠ gba6)) (Kd.R_types (Kd.R_apart' (HO_7.out) (Kd.N_typed HOb6.out) (by decide)) BKa6.out (by decide)) (fun k_ hk => by exact ⟨(.inr (hk.1.1.1.1)), ⟨hk.1.2, ⟨hk.1.1.2, hk.2⟩⟩⟩)))) (Reps.one (show Kd.FK (Kd.slice 97 (Kd.int .u32)) _ _ tc0 [.slice Ao31 tc0.length co31] from (Kd.FK_slice_mk (Kd.V_reads' (Kd.V_mono (ok' := (fun k_ => (P1_ k_ ∨ w.heap.size ≤ k_) ∧ some k_ ≠ (vb5 : Value).ownBlock ∧ some k_ ≠ (vc4 : Value).ownBlock ∧ k_ ≠ gba6)) (HOc2.out) (fun k_ hk => by exact ⟨hk.1, ⟨hk.2.2.2.1, ⟨hk.2.1, hk.2.2.2.2⟩⟩⟩))).2.1 (Kd.V_F (Kd.V_mono (ok' := (fun k_ => (P1_ k_ ∨ w.heap.size ≤ k_) ∧ some k_ ≠ (vb5 : Value).ownBlock ∧ some k_ ≠ (vc4 : Value).ownBlock ∧ k_ ≠ gba6)) (HOc2.out) (fun k_ hk => by exact ⟨hk.1, ⟨hk.2.2.2.1, ⟨hk.2.1, hk.2.2.2.2⟩⟩⟩))))) (Reps.none _ _)))); intro vc8 w32 ho33 hb hg_ hnew_; clear hg_ hnew_; (first | rw [← Nyc7.out] at ho33 | (simp only [Int.reduceToNat] at ho33; rw [← Nyc7.out] at ho33)); replace HO_31 := zk (Kd.V_elder' (zV HO_31.out) (Kd.N_base ho33) hb); replace HLa5_1 := zk (Kd.V_elder' (zV HLa5_1.out) (Kd.N_base ho33) hb); replace HLa5_2 := zk (Kd.V_elder' (zV HLa5_2.out) (Kd.N_base ho33) hb); replace HOb0 := zk (Kd.V_elder' (zV HOb0.out) (Kd.N_base ho33) hb); replace HOb3 := zk (Kd.V_elder' (zV HOb3.out) (Kd.N_base ho33) hb); replace HOb6 := zk (Kd.N_elder' (zN HOb6.out) (Kd.N_base ho33) hb); replace HOb9 := yRb HOb9 hb; replace HOc2 := zk (Kd.V_elder' (zV HOc2.out) (Kd.N_base ho33) hb); replace HOc5 := yRb HOc5 hb; have HOc9 := zk (Kd.N_lower ho33 (below_size (zB1 HB.out GEa6.out))); replace BKa6 := yK BKa6 hb; replace HB := yS1 HB GEa6 hb; clear HO_7; clear hb ho33; obtain ⟨Ao34, co34, rfl⟩ := Kd.N_slice HOc9.out) | ((with_reducible refine gC 74 ?_); refine zG (some 57) Try.func74 #[.slice Ao34 yc7.length co34] ?_; (with_reducible refine (nat_Mul.calls k1 _ _ yc7 td0 _ ?side1 ?side2 A14.out).mono ?_); (case side1 => exact zC (Kd.N_reads' HOc9.out).2.2); (case side2 => exact (Kd.N_reads' HOc9.out).2.1); rintro e w35 ⟨vd1, rfl, ho0, hb⟩; refine ⟨_, rfl, ?_⟩; replace HO_31 := yVe HO_31 ho0 hb; replace HLa5_1 := yVe HLa5_1 ho0 hb; replace HLa5_2 := yVe HLa5_2 ho0 hb; replace HOb0 := yVe HOb0 ho0 hb; replace HOb3 := yVe HOb3 ho0 hb; replace HOb6 := yNe HOb6 ho0 hb; replace HOc2 := yVe HOc2 ho0 hb; replace HOc9 := yNe HOc9 ho0 hb; replace ho0 := Kd.R_newM (M := fun k_ => (w.heap.size ≤ k_)) ho0 (below_size (zB1 HB.out GEa6.out)) (fun k_ h_ => h_); replace ho0 := yn ho0 HOb9; replace ho0 := yn ho0 HOc5; have HOd2 := yRl1 ho0 HB GEa6; replace HOb9 := yRe HOb9 ho0 hb; replace HOc5 := yRe HOc5 ho0 hb; replace BKa6 := yK BKa6 hb; replace HB := yS1 HB GEa6 hb; (try clear hb ho0)))
     go_roundg k1
     case measure => have := HK1.out; omega
     case rel => exact ⟨(td0), (yb4), (wrap64 (x33_1 + 1)), zF, H', ⟨zo1 HK1⟩, ⟨by (with_reducible repeat (first | apply Kd.R_alloc | apply Kd.R_drewN | apply Kd.R_drew)); exact Kd.R_mono HOd2.out (fun _ hk => hk.1.1.1)⟩, ⟨by (with_reducible repeat (first | apply Kd.N_alloc | apply Kd.N_drewN | apply Kd.N_drew)); exact Kd.N_mono HOb6.out (fun _ hk => ⟨hk.1.1.1.1.1, hk.2⟩)⟩, ⟨by (with_reducible repeat (first | apply Kd.V_alloc | apply Kd.V_drewN | apply Kd.V_drew)); exact Kd.V_mono HO_31.out (fun _ hk => ⟨hk.1.1.1.1.1.1, ⟨hk.2, hk.1.1.1.1.2⟩⟩)⟩, ⟨zB1 HB.out GEa6.out⟩⟩
   have H' := zk H
   clear H
   obtain ⟨Ao36, co36, rfl⟩ := Kd.N_slice HO_8.out
   go_wp2
   go_loopg [14, 61] k1 (fun kq v14 v61 w' => ∃ (x14_2 : List (S113)) (x61_2 : Int), v61 = .int .i64 x61_2 ∧ Aside0 (mw_Transform.l1 kq a0 x7_1 x14_2 x8_1 (x8_1.length : Int) x61_2 = some (r1, r2)) ∧ Aside0 (kq ≤ k1) ∧ Aside0 (Kd.R (Kd.int .u32) 97 w' w.heap.size (fun k_ => (w.heap.size ≤ k_)) u7 x7_1) ∧ Aside0 (Kd.N k113 113 w' w.heap.size (fun k_ => (P1_ k_ ∨ w.heap.size ≤ k_) ∧ some k_ ≠ (u7 : Value).ownBlock ∧ some k_ ≠ ((.slice Ao36 x8_1.length co36) : Value).ownBlock) v14 x14_2) ∧ Aside0 (Kd.N k60 60 w' w.heap.size (fun k_ => (P1_ k_ ∨ w.heap.size ≤ k_) ∧ some k_ ≠ (u7 : Value).ownBlock ∧ some k_ ≠ (v14 : Value).ownBlock) (.slice Ao36 x8_1.length co36) x8_1) ∧ Aside0 (Below w.heap.size w w'))
   case atStart => exact ⟨(([] : List (S113))), (0), zF, H', ⟨Nat.le_refl _⟩, ⟨zR HO_7.out⟩, ⟨by first | exact Kd.S_nil _ _ _ _ _ | exact Kd.N_nil _ _ _ _ _ | exact Kd.V_nil _ _ _ _ _ | exact Kd.Q_nil _ _ _ _ _ | exact Kd.R_nil _ _ _ _ _⟩, ⟨by (with_reducible repeat (first | apply Kd.N_alloc | apply Kd.N_drewN | apply Kd.N_drew)); exact Kd.N_mono HO_8.out (fun _ hk => ⟨hk.1, ⟨hk.2, (by simp [Value.ownBlock])⟩⟩)⟩, ⟨zB HB.out⟩⟩
   clear H'
   (try clear c4);(try clear c4b0);(try clear c4b1);(try clear c7b0);(try clear c8b0);(try clear c9b0);(try clear c11);(try clear hcz16_0);(try clear hcz16_1);(try clear hcz16_2);(try clear hcz18_0);(try clear hcz18_1);(try clear hcz18_2);(try clear hcz20_0);(try clear hcz20_1);(try clear hcz20_2);(try clear hcz24_0);(try clear hcz24_1);(try clear hcz24_2);(try clear hfz16_0);(try clear hfz16_1);(try clear hfz16_2);(try clear hfz18_0);(try clear hfz18_1);(try clear hfz18_2);(try clear hfz20_0);(try clear hfz20_1);(try clear hfz20_2);(try clear hfz24_0);(try clear hfz24_1);(try clear hfz24_2);(try clear hxa5_0);(try clear hxa5_1);(try clear hxa5_2);(try clear pa5);(try clear qa5)
   obtain ⟨x14_2, x61_2, rfl, HA, HK2, HO_7, HO_14, HO_59, HB⟩ := hrel
   cases gk with | zero => exact absurd HA.out (by simp [mw_Transform.l1]) | succ k2 => ?_
   have H := HA.out
   clear HA
   simp only [mw_Transform.l1] at H
   replace H := zid H
   rcases H with ⟨c37b0, H⟩ | ⟨c37b0, H⟩
   · replace H := zgd H
     obtain ⟨c38b0, H⟩ := H
     replace H := zgd H
     obtain ⟨c39b0, H⟩ := H
     replace H := zb H
     obtain ⟨⟨td5, td8, te1⟩, A40, H⟩ := H
     dsimp only at H
     obtain ⟨ye2, hye2⟩ : ∃ y_ : List (List Int), y_ = (([(rd_T60 x8_1 x61_2).f1, td5] : List (List Int))) := ⟨_, rfl⟩
     replace H : ((nat_Mul.f k2 ye2).bind fun te5 => (if x14_2.length < 4398046511104 then (mw_Transform.l1 k2 a0 x7_1 (x14_2 ++ [(⟨(rd_T60 x8_1 x61_2).f0, te5⟩ : S113)]) x8_1 (x8_1.length : Int) (wrap64 (x61_2 + 1))) else (none))) = some (r1, r2) := zY hye2 H
     have Nye2 := zk hye2
     clear hye2
     replace H := zb H
     obtain ⟨te5, A41, H⟩ := H
     replace H := zg H
     obtain ⟨c42, H⟩ := H
     have LMc42 := zk c42
     clear c42
     obtain ⟨ye8, hye8⟩ : ∃ y_ : List (S113), y_ = (x14_2 ++ [(⟨(rd_T60 x8_1 x61_2).f0, te5⟩ : S113)]) := ⟨_, rfl⟩
     replace H : (mw_Transform.l1 k2 a0 x7_1 ye8 x8_1 (x8_1.length : Int) (wrap64 (x61_2 + 1))) = some (r1, r2) := zY hye8 H
     have Nye8 := zk hye8
     clear hye8
     have H' := zk H
     clear H
     have pd3 : 0 ≤ (x61_2 : Int) := zd
     have qd3 : x61_2 < (x8_1.length : Int) := zd
     obtain ⟨add3, Ad3_1, cd3_1, Ad3_2, cd3_2, ed3, hxd3_0, hxd3_1, hxd3_2, hld3_1, hid3_1, hld3_2, hid3_2⟩ := at_T60 (Kd.N_reads' HO_59.out).2.2 x61_2 pd3 qd3
     cases ed3
     obtain ⟨ced3, hced3, hMed3, hccd3⟩ := Kd.N_get HO_59.out z60 x61_2 pd3 (by first | exact qd3 | exact zd | (have e_ := (Kd.N_reads' HO_59.out).1; omega))
     obtain ⟨uad3_1, ucd3_1, uad3_2, ucd3_2, rfl, uld3_1, ged3_1, uld3_2, ged3_2⟩ := k60_openF hMed3
     have hvd3_1 := hccd3 1 _ rfl
     rw [add_field _ _ 1 (by omega)] at hvd3_1
     replace hvd3_1 := Option.some.inj (hvd3_1.symm.trans hxd3_1)
     injection hvd3_1 with hva_ hvn_ hvc_
     rw [hva_] at ged3_1
     rw [hvc_] at uld3_1
     have HLd3_1 := zk (show Kd.V (Kd.int .u32) 97 _ w.heap.size _ _ ((rd_T60 x8_1 x61_2).f1) from Kd.V_mk uld3_1 ged3_1)
     clear hva_ hvn_ hvc_ ged3_1 uld3_1
     have hvd3_2 := hccd3 2 _ rfl
     rw [add_field _ _ 2 (by omega)] at hvd3_2
     replace hvd3_2 := Option.some.inj (hvd3_2.symm.trans hxd3_2)
     injection hvd3_2 with hva_ hvn_ hvc_
     rw [hva_] at ged3_2
     rw [hvc_] at uld3_2
     have HLd3_2 := zk (show Kd.V (Kd.int .u32) 97 _ w.heap.size _ _ ((rd_T60 x8_1 x61_2).f2) from Kd.V_mk uld3_2 ged3_2)
     clear hva_ hvn_ hvc_ ged3_2 uld3_2
     clear hccd3 hced3
     have HRd3_1 := zk hid3_1
     have HCd3_1 := zk hld3_1
     clear hid3_1 hld3_1
     have HRd3_2 := zk hid3_2
     have HCd3_2 := zk hld3_2
     clear hid3_2 hld3_2
     replace pd3 := eq_true pd3
     replace qd3 := eq_true qd3
     try go_wp2_with (first | ((with_reducible refine gate_dst (N := 16) rfl ?_); refine box_event ?hg (N := 16) ?hd (cs := #[.bool false, .slice none 0 0, .slice none 0 0]) (t := 60) ?hr ?_; (case hd => rfl); (case hg => rfl); (case hr => first | (go_simp; done) | (go_simp; rfl)); intro gbd4 hg w43 hbox hb; replace HO_7 := yRb HO_7 hb; replace HO_14 := zk (Kd.N_below (Kd.N_elderB (zN HO_14.out) gbd4 (Nat.le_of_eq hg.symm)) hb); replace HO_59 := zk (Kd.N_below (Kd.N_elderB (zN HO_59.out) gbd4 (Nat.le_of_eq hg.symm)) hb); replace HLd3_1 := yVB HLd3_1 hg hb; replace HLd3_2 := yVB HLd3_2 hg hb; (try replace HRd3_1 := yCb HRd3_1 hb); (try replace HRd3_2 := yCb HRd3_2 hb); have BKd4 := zk (hbox); have GWd4 := yg hg HB; have GEd4 := yg hg HB; replace HB := yS HB hb; clear hb hbox hg; obtain ⟨hcz44_0, hcz44_1, hcz44_2, hfz44_0, hfz44_1, hfz44_2⟩ := zz3 BKd4) | ((with_reducible refine gate_store (t := 60) (p := 16) rfl ?_); refine store_event (t := 60) (p := 16) (v := ?vo_w45) (w1 := (((w43.setCell ⟨gbd4, 0, none⟩ (.bool ((rd_T60 x8_1 x61_2).f0))).setCell ⟨gbd4, 1, none⟩ (.slice Ad3_1 ((rd_T60 x8_1 x61_2).f1).length cd3_1)).setCell ⟨gbd4, 2, none⟩ (.slice Ad3_2 ((rd_T60 x8_1 x61_2).f2).length cd3_2))) ?hg ?ho ?hn ?hr ?_; (case ho => rfl); (case hg => rfl); (case hn => rfl); (case hr => first | (go_simp; done) | (go_simp; rfl)); intro w45 hw; have n0_ : Aside0 (Kd.R (Kd.int .u32) 97 w45 w.heap.size (fun k_ => (w.heap.size ≤ k_)) u7 x7_1) := ⟨(by rw [hw]; exact (by (with_reducible repeat (first | apply Kd.R_alloc | apply Kd.R_drewN | apply Kd.R_drew)); exact yf HO_7.out BKd4.out (fun _ hk => hk.1)))⟩; have n1_ : Aside0 (Kd.N k113 113 w45 w.heap.size (fun k_ => (P1_ k_ ∨ w.heap.size ≤ k_) ∧ some k_ ≠ (u7 : Value).ownBlock ∧ some k_ ≠ (.slice (some add3) x8_1.length co36 : Value).ownBlock ∧ k_ ≠ gbd4) u14 x14_2) := ⟨(by rw [hw]; exact (by (with_reducible repeat (first | apply Kd.N_alloc | apply Kd.N_drewN | apply Kd.N_drew)); exact Kd.N_mono (Kd.N_far (p := ⟨gbd4, 2, none⟩) (Kd.N_far (p := ⟨gbd4, 1, none⟩) (Kd.N_far (p := ⟨gbd4, 0, none⟩) (Kd.N_mono HO_14.out (fun k_ hk => (⟨hk, hk.2⟩ : _ ∧ k_ ≠ gbd4))) (fun _ hk => hk.2) (.bool ((rd_T60 x8_1 x61_2).f0))) (fun _ hk => hk.2) (.slice Ad3_1 ((rd_T60 x8_1 x61_2).f1).length cd3_1)) (fun _ hk => hk.2) (.slice Ad3_2 ((rd_T60 x8_1 x61_2).f2).length cd3_2)) (fun _ hk => ⟨hk.1.1.1, ⟨hk.1.1.2.1, ⟨hk.1.1.2.2, hk.1.2⟩⟩⟩)))⟩; have n2_ : Aside0 (Kd.N k60 60 w45 w.heap.size (fun k_ => (P1_ k_ ∨ w.heap.size ≤ k_) ∧ some k_ ≠ (u7 : Value).ownBlock ∧ some k_ ≠ (u14 : Value).ownBlock ∧ k_ ≠ gbd4) (.slice (some add3) x8_1.length co36) x8_1) := ⟨(by rw [hw]; exact (by (with_reducible repeat (first | apply Kd.N_alloc | apply Kd.N_drewN | apply Kd.N_drew)); exact Kd.N_mono (Kd.N_far (p := ⟨gbd4, 2, none⟩) (Kd.N_far (p := ⟨gbd4, 1, none⟩) (Kd.N_far (p := ⟨gbd4, 0, none⟩) (Kd.N_mono HO_59.out (fun k_ hk => (⟨hk, hk.2⟩ : _ ∧ k_ ≠ gbd4))) (fun _ hk => hk.2) (.bool ((rd_T60 x8_1 x61_2).f0))) (fun _ hk => hk.2) (.slice Ad3_1 ((rd_T60 x8_1 x61_2).f1).length cd3_1)) (fun _ hk => hk.2) (.slice Ad3_2 ((rd_T60 x8_1 x61_2).f2).length cd3_2)) (fun _ hk => ⟨hk.1.1.1, ⟨hk.1.1.2.1, ⟨hk.1.1.2.2, hk.1.2⟩⟩⟩)))⟩; have n3_ : Aside0 (Kd.V (Kd.int .u32) 97 w45 w.heap.size (fun k_ => (P1_ k_ ∨ w.heap.size ≤ k_) ∧ some k_ ≠ (u7 : Value).ownBlock ∧ some k_ ≠ (u14 : Value).ownBlock ∧ some k_ ≠ (.slice (some add3) x8_1.length co36 : Value).ownBlock ∧ k_ ≠ gbd4) (.slice Ad3_1 ((rd_T60 x8_1 x61_2).f1).length cd3_1) ((rd_T60 x8_1 x61_2).f1)) := ⟨(by rw [hw]; exact (by (with_reducible repeat (first | apply Kd.V_alloc | apply Kd.V_drewN | apply Kd.V_drew)); exact Kd.V_mono (Kd.V_far (p := ⟨gbd4, 2, none⟩) (Kd.V_far (p := ⟨gbd4, 1, none⟩) (Kd.V_far (p := ⟨gbd4, 0, none⟩) (Kd.V_mono HLd3_1.out (fun k_ hk => (⟨hk, hk.2⟩ : _ ∧ k_ ≠ gbd4))) (fun _ hk => hk.2) (.bool ((rd_T60 x8_1 x61_2).f0))) (fun _ hk => hk.2) (.slice Ad3_1 ((rd_T60 x8_1 x61_2).f1).length cd3_1)) (fun _ hk => hk.2) (.slice Ad3_2 ((rd_T60 x8_1 x61_2).f2).length cd3_2)) (fun _ hk => ⟨hk.1.1.1.1, ⟨hk.1.1.1.2.1, ⟨hk.1.1.1.2.2, ⟨hk.1.1.2, hk.1.2⟩⟩⟩⟩)))⟩; have n4_ : Aside0 (Kd.V (Kd.int .u32) 97 w45 w.heap.size (fun k_ => (P1_ k_ ∨ w.heap.size ≤ k_) ∧ some k_ ≠ (u7 : Value).ownBlock ∧ some k_ ≠ (u14 : Value).ownBlock ∧ some k_ ≠ (.slice (some add3) x8_1.length co36 : Value).ownBlock ∧ k_ ≠ gbd4) (.slice Ad3_2 ((rd_T60 x8_1 x61_2).f2).length cd3_2) ((rd_T60 x8_1 x61_2).f2)) := ⟨(by rw [hw]; exact (by (with_reducible repeat (first | apply Kd.V_alloc | apply Kd.V_drewN | apply Kd.V_drew)); exact Kd.V_mono (Kd.V_far (p := ⟨gbd4, 2, none⟩) (Kd.V_far (p := ⟨gbd4, 1, none⟩) (Kd.V_far (p := ⟨gbd4, 0, none⟩) (Kd.V_mono HLd3_2.out (fun k_ hk => (⟨hk, hk.2⟩ : _ ∧ k_ ≠ gbd4))) (fun _ hk => hk.2) (.bool ((rd_T60 x8_1 x61_2).f0))) (fun _ hk => hk.2) (.slice Ad3_1 ((rd_T60 x8_1 x61_2).f1).length cd3_1)) (fun _ hk => hk.2) (.slice Ad3_2 ((rd_T60 x8_1 x61_2).f2).length cd3_2)) (fun _ hk => ⟨hk.1.1.1.1, ⟨hk.1.1.1.2.1, ⟨hk.1.1.1.2.2, ⟨hk.1.1.2, hk.1.2⟩⟩⟩⟩)))⟩; have n5_ : Aside0 (w45.heap[gbd4]? = some (.cells #[.bool ((rd_T60 x8_1 x61_2).f0), .slice Ad3_1 ((rd_T60 x8_1 x61_2).f1).length cd3_1, .slice Ad3_2 ((rd_T60 x8_1 x61_2).f2).length cd3_2] 60 (0, 0))) := ⟨(by rw [hw]; exact (zP3 BKd4.out))⟩; have n6_ : Aside0 (Below w.heap.size w w45) := ⟨(by rw [hw]; exact (zB1 HB.out GEd4.out))⟩; clear hw; clear HO_7; clear HO_14; clear HO_59; clear HLd3_1; clear HLd3_2; clear BKd4; clear HB; have HO_7 := n0_; have HO_14 := n1_; have HO_59 := n2_; have HLd3_1 := n3_; have HLd3_2 := n4_; have BKd4 := n5_; have HB := n6_; clear n0_ n1_ n2_ n3_ n4_ n5_ n6_; obtain ⟨hcz46_0, hcz46_1, hcz46_2, hfz46_0, hfz46_1, hfz46_2⟩ := zz3 BKd4; obtain ⟨Ao47, co47, rfl⟩ := Kd.R_slice HO_7.out) | ((with_reducible refine gC 105 ?_); refine zG (some 69) Try.func105 #[.slice Ao47 x7_1.length co47, .slice Ad3_2 ((rd_T60 x8_1 x61_2).f2).length cd3_2] ?_; (with_reducible refine (nat_DivMod.calls k2 (fun k_ => some k_ = (.slice Ao47 x7_1.length co47 : Value).ownBlock) _ _ x7_1 (fun k_ => ((P1_ k_ ∨ w.heap.size ≤ k_) ∧ (some k_ ≠ (.slice Ao47 x7_1.length co47 : Value).ownBlock ∧ (some k_ ≠ (u14 : Value).ownBlock ∧ (some k_ ≠ (.slice (some add3) x8_1.length co36 : Value).ownBlock ∧ k_ ≠ gbd4))))) _ _ ((rd_T60 x8_1 x61_2).f2) td5 td8 te1 _ ?side1 ?side2 A40.out).mono ?_); (case side1 => exact Kd.R_V (Kd.R_tight rfl (Kd.R_types (Kd.R_apart' (Kd.R_apart' (HO_7.out) (Kd.N_typed HO_14.out) (by decide)) (Kd.N_typed HO_59.out) (by decide)) BKd4.out (by decide)))); (case side2 => exact HLd3_2.out); rintro e w48 ⟨vd6, vd9, rfl, ho0, ho1, hb⟩; refine ⟨_, rfl, ?_⟩; replace HLd3_1 := yVe HLd3_1 ho1 hb; replace HLd3_2 := yVe HLd3_2 ho1 hb; have HOd7 := zk (Kd.V_lower (Kd.V_mono (ok' := fun k_ => (P1_ k_ ∨ w.heap.size ≤ k_) ∧ some k_ ≠ (vd9 : Value).ownBlock ∧ some k_ ≠ (u14 : Value).ownBlock ∧ some k_ ≠ (.slice (some add3) x8_1.length co36 : Value).ownBlock ∧ k_ ≠ gbd4) ho0 (fun k_ hk_ => ⟨Or.elim hk_.1 (fun hs_ => Or.elim hs_ (fun hs_ => (.inr (((Kd.R_types (Kd.R_apart' (Kd.R_apart' (HO_7.out) (Kd.N_typed HO_14.out) (by decide)) (Kd.N_typed HO_59.out) (by decide)) BKd4.out (by decide)).1 k_ hs_.symm).1.1.1))) (fun hs_ => hs_.1)) (fun hn_ => (.inr (Nat.le_trans (below_size (zB1 HB.out GEd4.out)) hn_))), hk_.2, Or.elim hk_.1 (fun hs_ => Or.elim hs_ (fun hs_ => ((Kd.R_types (Kd.R_apart' (Kd.R_apart' (HO_7.out) (Kd.N_typed HO_14.out) (by decide)) (Kd.N_typed HO_59.out) (by decide)) BKd4.out (by decide)).1 k_ hs_.symm).1.1.2) (fun hs_ => hs_.2.2.1)) (fun hn_ => (Kd.fresh' (Kd.N_lt (zN HO_14.out)) k_ hn_)), Or.elim hk_.1 (fun hs_ => Or.elim hs_ (fun hs_ => ((Kd.R_types (Kd.R_apart' (Kd.R_apart' (HO_7.out) (Kd.N_typed HO_14.out) (by decide)) (Kd.N_typed HO_59.out) (by decide)) BKd4.out (by decide)).1 k_ hs_.symm).1.2) (fun hs_ => hs_.2.2.2.1)) (fun hn_ => (Kd.fresh' (Kd.N_lt (zN HO_59.out)) k_ hn_)), Or.elim hk_.1 (fun hs_ => Or.elim hs_ (fun hs_ => ((Kd.R_types (Kd.R_apart' (Kd.R_apart' (HO_7.out) (Kd.N_typed HO_14.out) (by decide)) (Kd.N_typed HO_59.out) (by decide)) BKd4.out (by decide)).1 k_ hs_.symm).2) (fun hs_ => hs_.2.2.2.2)) (fun hn_ => (Kd.freshB (g := gbd4) (o := .cells #[.bool ((rd_T60 x8_1 x61_2).f0), .slice Ad3_1 ((rd_T60 x8_1 x61_2).f1).length cd3_1, .slice Ad3_2 ((rd_T60 x8_1 x61_2).f2).length cd3_2] 60 (0, 0)) (by (with_reducible repeat (first | refine blk_drewN ?_ _ | refine blk_drew ?_ | refine blk_alloc ?_ _)); exact BKd4.out) k_ hn_))⟩)) (below_size (zB1 HB.out GEd4.out))); replace HO_14 := yNe HO_14 ho1 hb; replace HO_59 := yNe HO_59 ho1 hb; replace ho1 := Kd.R_newM (M := fun k_ => (w.heap.size ≤ k_)) (yt ho1) (below_size (zB1 HB.out GEd4.out)) (fun k_ h_ => h_); replace ho1 := yn ho1 HO_7; have HOe0 := yRl1 ho1 HB GEd4; replace HO_7 := yRe HO_7 ho1 hb; (try replace HRd3_1 := yCb HRd3_1 hb); (try replace HRd3_2 := yCb HRd3_2 hb); replace BKd4 := yK BKd4 hb; replace HB := yS1 HB GEd4 hb; (try clear hb ho0); (try clear ho1)))
     replace HO_7 := zk (Kd.R_drew HO_7.out)
     replace HO_14 := zk (Kd.N_drew HO_14.out)
     replace HO_59 := zk (Kd.N_drew HO_59.out)
     replace HLd3_1 := zk (Kd.V_drew HLd3_1.out)
     replace HLd3_2 := zk (Kd.V_drew HLd3_2.out)
     replace HOd7 := zk (Kd.V_drew HOd7.out)
     replace HOe0 := zk (Kd.R_drew HOe0.out)
     replace BKd4 := zk (blk_drew BKd4.out)
     replace HRd3_1 := zk (Kd.C_drew HRd3_1.out)
     replace HRd3_2 := zk (Kd.C_drew HRd3_2.out)
     replace HB := zk (below_drew1 HB.out)
     obtain ⟨Ao50, co50, eo50⟩ := Kd.V_slice HOd7.out
     (first | subst eo50 | (injection eo50 with f1_ f2_ f3_; have f4_ := f1_.symm; have f5_ := f3_.symm; clear f1_ f2_ f3_; subst f4_; subst f5_))
     refine start_ (n := 12) (S := fun w' => w'.cell? ⟨gbd4, 0, none⟩ = some (.bool ((rd_T60 x8_1 x61_2).f0)) ∧ w'.cell? ⟨gbd4, 1, none⟩ = some (.slice Ad3_1 ((rd_T60 x8_1 x61_2).f1).length cd3_1) ∧ w'.cell? ⟨gbd4, 2, none⟩ = some (.slice Ad3_2 ((rd_T60 x8_1 x61_2).f2).length cd3_2)) (ds := []) #[false, false, false, false, false, false, false, false, false, false, false, false] (by kernel_rfl) rfl rfl ⟨(blk_cell BKd4.out 0).trans rfl, (blk_cell BKd4.out 1).trans rfl, (blk_cell BKd4.out 2).trans rfl⟩ (fun hHeld => ?_); refine with_tabW mw_Transform.tab19 mw_Transform.bits19 (fun HT_ HW_ => ?_)
     generalize w48.drew = w49 at HO_7 HO_14 HO_59 HLd3_1 HLd3_2 HOd7 HOe0 BKd4 HRd3_1 HRd3_2 HB hHeld ⊢
     refine zp (i := 0) (N := some 73) HT_ ?_
     refine zp (i := 1) (N := some 74) HT_ ?_
     refine zp (i := 3) (N := some 76) HT_ ?_
     refine zp (i := 5) (N := some 78) HT_ ?_
     refine take_ (i := 2) (N := some 75) (v := ?_) (a' := ?_) #[true, true, true, true, false, true, false, false, false, false, false, false] rfl rfl (take_ofW HT_.out HW_.out (by kernel_rfl)) (fun _ _ _ h => h) (Or.inl ⟨by rfl, ?_⟩) hHeld ?_ ?_
     rotate_left
     · rintro w' ⟨s0, s1, s2⟩
       go_simp
       with_reducible rfl
     rotate_left
     · simp only [Act.put, List.setIfInBounds_toArray, List.set_cons_zero, List.set_cons_succ, i64_w, i32_w]
       rfl
     refine take_ (i := 4) (N := some 77) (v := ?_) (a' := ?_) #[true, true, true, true, true, true, false, false, false, false, false, false] rfl rfl (take_ofW HT_.out HW_.out (by kernel_rfl)) (fun _ _ _ h => h) (Or.inl ⟨by rfl, ?_⟩) hHeld ?_ ?_
     rotate_left
     · rintro w' ⟨s0, s1, s2⟩
       go_simp
       with_reducible rfl
     rotate_left
     · simp only [Act.put, List.setIfInBounds_toArray, List.set_cons_zero, List.set_cons_succ, i64_w, i32_w]
       rfl
     refine one_ (i := 6) (N := some 79) #[true, true, true, true, true, true, true, false, false, false, false, false] rfl rfl (one_of HT_.out (by kernel_rfl)) (by decide) (fun K hK => ?_)
     refine Kd.N_lit_step (Kd.slice 97 (Kd.int .u32)) _ 29 ?hg (N' := 79) ?hd (xs := ([(rd_T60 x8_1 x61_2).f1, td5] : List (List Int))) (inner := [.slice Ad3_1 ((rd_T60 x8_1 x61_2).f1).length cd3_1, .slice Ao50 td5.length co50]) (ok := (fun k_ => (P1_ k_ ∨ w.heap.size ≤ k_) ∧ some k_ ≠ (u14 : Value).ownBlock ∧ some k_ ≠ (.slice (some add3) x8_1.length co36 : Value).ownBlock ∧ some k_ ≠ (vd9 : Value).ownBlock ∧ k_ ≠ gbd4)) (okp := (fun k_ => (P1_ k_ ∨ w.heap.size ≤ k_) ∧ some k_ ≠ (u14 : Value).ownBlock ∧ some k_ ≠ (.slice (some add3) x8_1.length co36 : Value).ownBlock ∧ some k_ ≠ (vd9 : Value).ownBlock ∧ k_ ≠ gbd4)) ?hr ?hp (fun _ hk => hk) ((show ∀ k_, w49.heap.size ≤ k_ → (fun k_ => (P1_ k_ ∨ w.heap.size ≤ k_) ∧ some k_ ≠ (u14 : Value).ownBlock ∧ some k_ ≠ (.slice (some add3) x8_1.length co36 : Value).ownBlock ∧ some k_ ≠ (vd9 : Value).ownBlock ∧ k_ ≠ gbd4) k_ from fun k_ hk => ⟨(.inr (Nat.le_trans (below_size (zB1 HB.out GEd4.out)) hk)), Kd.fresh' (Kd.N_lt (zN HO_14.out)) k_ hk, Kd.fresh' (Kd.N_lt (zN HO_59.out)) k_ hk, Kd.fresh' (Kd.R_lt (zR HOe0.out)) k_ hk, Kd.freshB (g := gbd4) (o := .cells #[.bool ((rd_T60 x8_1 x61_2).f0), .slice Ad3_1 ((rd_T60 x8_1 x61_2).f1).length cd3_1, .slice Ad3_2 ((rd_T60 x8_1 x61_2).f2).length cd3_2] 60 (0, 0)) (by (with_reducible repeat (first | refine blk_drewN ?_ _ | refine blk_drew ?_ | refine blk_alloc ?_ _)); exact BKd4.out) k_ hk⟩) _ (Nat.le_refl _)) (Below.refl _ _) (Nat.le_refl _) (by simp) ?_; (case hd => rfl); (case hg => rfl); (case hr => first | (go_simp; done) | (go_simp; rfl)); (case hp => exact (Reps.one (show Kd.FK (Kd.slice 97 (Kd.int .u32)) _ _ ((rd_T60 x8_1 x61_2).f1) [.slice Ad3_1 ((rd_T60 x8_1 x61_2).f1).length cd3_1] from (Kd.FK_slice_mk (Kd.V_reads' (Kd.V_mono (ok' := (fun k_ => (P1_ k_ ∨ w.heap.size ≤ k_) ∧ some k_ ≠ (u14 : Value).ownBlock ∧ some k_ ≠ (.slice (some add3) x8_1.length co36 : Value).ownBlock ∧ some k_ ≠ (vd9 : Value).ownBlock ∧ k_ ≠ gbd4)) (HLd3_1.out) (fun k_ hk => by exact ⟨hk.1.1, ⟨hk.1.2.2.1, ⟨hk.1.2.2.2.1, ⟨hk.2, hk.1.2.2.2.2⟩⟩⟩⟩))).2.1 (Kd.V_F (Kd.V_mono (ok' := (fun k_ => (P1_ k_ ∨ w.heap.size ≤ k_) ∧ some k_ ≠ (u14 : Value).ownBlock ∧ some k_ ≠ (.slice (some add3) x8_1.length co36 : Value).ownBlock ∧ some k_ ≠ (vd9 : Value).ownBlock ∧ k_ ≠ gbd4)) (HLd3_1.out) (fun k_ hk => by exact ⟨hk.1.1, ⟨hk.1.2.2.1, ⟨hk.1.2.2.2.1, ⟨hk.2, hk.1.2.2.2.2⟩⟩⟩⟩))))) (Reps.one (show Kd.FK (Kd.slice 97 (Kd.int .u32)) _ _ td5 [.slice Ao50 td5.length co50] from (Kd.FK_slice_mk (Kd.V_reads' (Kd.V_mono (ok' := (fun k_ => (P1_ k_ ∨ w.heap.size ≤ k_) ∧ some k_ ≠ (u14 : Value).ownBlock ∧ some k_ ≠ (.slice (some add3) x8_1.length co36 : Value).ownBlock ∧ some k_ ≠ (vd9 : Value).ownBlock ∧ k_ ≠ gbd4)) (HOd7.out) (fun k_ hk => by exact ⟨hk.1, ⟨hk.2.2.1, ⟨hk.2.2.2.1, ⟨hk.2.1, hk.2.2.2.2⟩⟩⟩⟩))).2.1 (Kd.V_F (Kd.V_mono (ok' := (fun k_ => (P1_ k_ ∨ w.heap.size ≤ k_) ∧ some k_ ≠ (u14 : Value).ownBlock ∧ some k_ ≠ (.slice (some add3) x8_1.length co36 : Value).ownBlock ∧ some k_ ≠ (vd9 : Value).ownBlock ∧ k_ ≠ gbd4)) (HOd7.out) (fun k_ hk => by exact ⟨hk.1, ⟨hk.2.2.1, ⟨hk.2.2.2.1, ⟨hk.2.1, hk.2.2.2.2⟩⟩⟩⟩))))) (Reps.none _ _))))
     intro ve3 w51 ho52 hb hg_ hnew_
     clear hg_ hnew_
     (first | rw [← Nye2.out] at ho52 | (simp only [Int.reduceToNat] at ho52; rw [← Nye2.out] at ho52))
     replace HO_7 := yRb HO_7 hb
     replace HO_14 := zk (Kd.N_elder' (zN HO_14.out) (Kd.N_base ho52) hb)
     replace HO_59 := zk (Kd.N_elder' (zN HO_59.out) (Kd.N_base ho52) hb)
     replace HLd3_1 := zk (Kd.V_elder' (zV HLd3_1.out) (Kd.N_base ho52) hb)
     replace HLd3_2 := zk (Kd.V_elder' (zV HLd3_2.out) (Kd.N_base ho52) hb)
     replace HOd7 := zk (Kd.V_elder' (zV HOd7.out) (Kd.N_base ho52) hb)
     replace HOe0 := yRb HOe0 hb
     have HOe4 := zk (Kd.N_lower ho52 (below_size (zB1 HB.out GEd4.out)))
     (try replace HRd3_1 := yCb HRd3_1 hb)
     (try replace HRd3_2 := yCb HRd3_2 hb)
     replace BKd4 := yK BKd4 hb
     replace HB := yS1 HB GEd4 hb
     clear hb ho52
     obtain ⟨Ao53, co53, eo53⟩ := Kd.N_slice HOe4.out
     (first | subst eo53 | (injection eo53 with f1_ f2_ f3_; have f4_ := f1_.symm; have f5_ := f3_.symm; clear f1_ f2_ f3_; subst f4_; subst f5_))
     refine hK.out _ _ ⟨(blk_cell BKd4.out 0).trans rfl, (blk_cell BKd4.out 1).trans rfl, (blk_cell BKd4.out 2).trans rfl⟩ (fun hHeld => ?_)
     clear hK K
     refine norm_ (a' := ?_) ?_ ?_
     rotate_left
     · show Act.put _ (some 79) _ = _
       simp only [Act.put, List.setIfInBounds_toArray, List.set_cons_zero, List.set_cons_succ, i64_w, i32_w]
       rfl
     refine one_ (i := 7) (N := some 80) #[true, true, true, true, true, true, true, true, false, false, false, false] rfl rfl (one_of HT_.out (by kernel_rfl)) (by decide) (fun K hK => ?_)
     refine goes_ Try.func74 (by kernel_rfl) rfl #[.slice Ao53 ye2.length co53] (by rfl) rfl rfl (by (try simp only [List.map_toArray, List.map_cons, List.map_nil]); first | done | rfl | (simp only [List.length_drop, List.length_take]; rfl)) ?_
     with_reducible refine (nat_Mul.calls k2 _ _ ye2 te5 _ ?side1 ?side2 A41.out).mono ?_
     (case side1 => exact zC (Kd.N_reads' HOe4.out).2.2)
     (case side2 => exact (Kd.N_reads' HOe4.out).2.1)
     rintro e w54 ⟨ve6, rfl, ho0, hb⟩
     refine ⟨_, rfl, ?_⟩
     replace HO_14 := yNe HO_14 ho0 hb
     replace HO_59 := yNe HO_59 ho0 hb
     replace HLd3_1 := yVe HLd3_1 ho0 hb
     replace HLd3_2 := yVe HLd3_2 ho0 hb
     replace HOd7 := yVe HOd7 ho0 hb
     replace HOe4 := yNe HOe4 ho0 hb
     replace ho0 := Kd.R_newM (M := fun k_ => (w.heap.size ≤ k_)) ho0 (below_size (zB1 HB.out GEd4.out)) (fun k_ h_ => h_)
     replace ho0 := yn ho0 HO_7
     replace ho0 := yn ho0 HOe0
     have HOe7 := yRl1 ho0 HB GEd4
     replace HO_7 := yRe HO_7 ho0 hb
     replace HOe0 := yRe HOe0 ho0 hb
     (try replace HRd3_1 := yCb HRd3_1 hb)
     (try replace HRd3_2 := yCb HRd3_2 hb)
     replace BKd4 := yK BKd4 hb
     replace HB := yS1 HB GEd4 hb
     (try clear hb)
     (try clear ho0)
     obtain ⟨Ao55, co55, eo55⟩ := Kd.R_slice HOe7.out
     (first | subst eo55 | (injection eo55 with f1_ f2_ f3_; have f4_ := f1_.symm; have f5_ := f3_.symm; clear f1_ f2_ f3_; subst f4_; subst f5_))
     refine hK.out _ _ ⟨(blk_cell BKd4.out 0).trans rfl, (blk_cell BKd4.out 1).trans rfl, (blk_cell BKd4.out 2).trans rfl⟩ (fun hHeld => ?_)
     clear hK K
     refine norm_ (a' := ?_) ?_ ?_
     rotate_left
     · show Act.put _ (some 80) _ = _
       simp only [Act.put, List.setIfInBounds_toArray, List.set_cons_zero, List.set_cons_succ, i64_w, i32_w]
       rfl
     refine zp (i := 8) (N := some 81) HT_ ?_
     refine one_ (i := 9) (N := some 82) #[true, true, true, true, true, true, true, true, true, true, false, false] rfl rfl (one_of HT_.out (by kernel_rfl)) (by decide) (fun K hK => ?_)
     refine value_ (w1 := ?_) (v := ?_) (by rfl) rfl ?_ ?_
     rotate_left 2
     · go_simp
       constructor
       · rfl
       rfl
     refine hK.out _ _ ⟨(blk_cell (blk_alloc BKd4.out _) 0).trans rfl, (blk_cell (blk_alloc BKd4.out _) 1).trans rfl, (blk_cell (blk_alloc BKd4.out _) 2).trans rfl⟩ (fun hHeld => ?_)
     clear hK K
     refine norm_ (a' := ?_) ?_ ?_
     rotate_left
     · show Act.put _ (some 82) _ = _
       simp only [Act.put, List.setIfInBounds_toArray, List.set_cons_zero, List.set_cons_succ, i64_w, i32_w]
       rfl
     refine one_ (i := 10) (N := some 83) #[true, true, true, true, true, true, true, true, true, true, true, false] rfl rfl (one_of HT_.out (by kernel_rfl)) (by decide) (fun K hK => ?_)
     refine Kd.N_append_step k113 (w0 := w) w.heap.size (by rfl) (.tmp 73) (.tmp 82) 114 113 (.agg #[(.bool false), (.slice none 0 0)]) 32 rfl Try.underlying114 info113 rfl (by decide) (by omega) u14 x14_2 (⟨(rd_T60 x8_1 x61_2).f0, te5⟩ : S113) [.bool ((rd_T60 x8_1 x61_2).f0), .slice Ao55 te5.length co55] (fun k_ => (P1_ k_ ∨ w.heap.size ≤ k_) ∧ some k_ ≠ (.slice Ao47 x7_1.length co47 : Value).ownBlock ∧ some k_ ≠ (.slice (some add3) x8_1.length co36 : Value).ownBlock ∧ some k_ ≠ (vd9 : Value).ownBlock ∧ some k_ ≠ (.slice Ao53 ye2.length co53 : Value).ownBlock ∧ k_ ≠ gbd4) (fun k_ => ((fun k_ => (P1_ k_ ∨ w.heap.size ≤ k_) ∧ some k_ ≠ (.slice Ao47 x7_1.length co47 : Value).ownBlock ∧ some k_ ≠ (.slice (some add3) x8_1.length co36 : Value).ownBlock ∧ some k_ ≠ (vd9 : Value).ownBlock ∧ some k_ ≠ (.slice Ao53 ye2.length co53 : Value).ownBlock ∧ k_ ≠ gbd4)) k_ ∧ some k_ ≠ (u14 : Value).ownBlock) rfl rfl ?aP (fun _ hk => hk) ?aF ?aO ?aB ?aS ?aL ?_
     (case aP => exact (k113_mkF _ _ (⟨(rd_T60 x8_1 x61_2).f0, te5⟩ : S113) (Kd.R_reads' (Kd.R_mono (ok' := (fun k_ => ((fun k_ => (P1_ k_ ∨ w.heap.size ≤ k_) ∧ some k_ ≠ (.slice Ao47 x7_1.length co47 : Value).ownBlock ∧ some k_ ≠ (.slice (some add3) x8_1.length co36 : Value).ownBlock ∧ some k_ ≠ (vd9 : Value).ownBlock ∧ some k_ ≠ (.slice Ao53 ye2.length co53 : Value).ownBlock ∧ k_ ≠ gbd4)) k_ ∧ some k_ ≠ (u14 : Value).ownBlock)) (Kd.R_types (Kd.R_apart' (Kd.R_apart' (Kd.R_apart' (HOe7.out) (Kd.N_typed HO_59.out) (by decide)) (Kd.N_typed HOe4.out) (by decide)) (Kd.N_typed HO_14.out) (by decide)) BKd4.out (by decide)) (fun k_ hk => by exact ⟨⟨(.inr (hk.1.1.1.1.1.1.1)), ⟨hk.1.1.1.1.1.2, ⟨hk.1.1.1.2, ⟨hk.1.1.1.1.2, ⟨hk.1.1.2, hk.2⟩⟩⟩⟩⟩, hk.1.2⟩))).2.1 (Kd.R_F (Kd.R_mono (ok' := (fun k_ => ((fun k_ => (P1_ k_ ∨ w.heap.size ≤ k_) ∧ some k_ ≠ (.slice Ao47 x7_1.length co47 : Value).ownBlock ∧ some k_ ≠ (.slice (some add3) x8_1.length co36 : Value).ownBlock ∧ some k_ ≠ (vd9 : Value).ownBlock ∧ some k_ ≠ (.slice Ao53 ye2.length co53 : Value).ownBlock ∧ k_ ≠ gbd4)) k_ ∧ some k_ ≠ (u14 : Value).ownBlock)) (Kd.R_types (Kd.R_apart' (Kd.R_apart' (Kd.R_apart' (HOe7.out) (Kd.N_typed HO_59.out) (by decide)) (Kd.N_typed HOe4.out) (by decide)) (Kd.N_typed HO_14.out) (by decide)) BKd4.out (by decide)) (fun k_ hk => by exact ⟨⟨(.inr (hk.1.1.1.1.1.1.1)), ⟨hk.1.1.1.1.1.2, ⟨hk.1.1.1.2, ⟨hk.1.1.1.1.2, ⟨hk.1.1.2, hk.2⟩⟩⟩⟩⟩, hk.1.2⟩)))))
     (case aB => exact (zB1 HB.out GEd4.out))
     (case aF => exact (fun k_ hk => ⟨(.inr (Nat.le_trans (below_size (zB1 HB.out GEd4.out)) hk)), Kd.fresh' (Kd.R_lt (zR HO_7.out)) k_ hk, Kd.fresh' (Kd.N_lt (zN HO_59.out)) k_ hk, Kd.fresh' (Kd.R_lt (zR HOe0.out)) k_ hk, Kd.fresh' (Kd.N_lt (zN HOe4.out)) k_ hk, Kd.freshB (g := gbd4) (o := .cells #[.bool ((rd_T60 x8_1 x61_2).f0), .slice Ad3_1 ((rd_T60 x8_1 x61_2).f1).length cd3_1, .slice Ad3_2 ((rd_T60 x8_1 x61_2).f2).length cd3_2] 60 (0, 0)) (by (with_reducible repeat (first | refine blk_drewN ?_ _ | refine blk_drew ?_ | refine blk_alloc ?_ _)); exact BKd4.out) k_ hk⟩))
     (case aO => exact (by (with_reducible repeat (first | apply Kd.N_alloc | apply Kd.N_drewN | apply Kd.N_drew)); exact Kd.N_mono HO_14.out (fun _ hk => ⟨hk.1.1.1.1, ⟨hk.1.1.1.2.1, ⟨hk.1.1.1.2.2.1, ⟨hk.1.1.2, ⟨hk.1.2, hk.1.1.1.2.2.2⟩⟩⟩⟩⟩)))
     (case aS => exact (below_size (zB1 HB.out GEd4.out)))
     (case aL => have := LMc42.out; omega)
     intro ve9 w56 ho hb hg hat
     rw [← Nye8.out] at ho
     replace HO_7 := zk (Kd.R_over' (zR HO_7.out) (Kd.N_typed (zN HO_14.out)) (by decide) hg)
     replace HO_59 := zk (Kd.N_afterv (ok := (fun k_ => (P1_ k_ ∨ w.heap.size ≤ k_) ∧ some k_ ≠ (.slice Ao47 x7_1.length co47 : Value).ownBlock ∧ some k_ ≠ (vd9 : Value).ownBlock ∧ some k_ ≠ (.slice Ao53 ye2.length co53 : Value).ownBlock ∧ some k_ ≠ (.slice Ao55 te5.length co55 : Value).ownBlock ∧ k_ ≠ gbd4)) (by (with_reducible repeat (first | apply Kd.N_alloc | apply Kd.N_drewN | apply Kd.N_drew)); exact Kd.N_mono HO_59.out (fun _ hk => ⟨⟨hk.1.1.1.1, ⟨hk.1.1.1.2.1, ⟨hk.1.1.2, ⟨hk.1.2, ⟨hk.2, hk.1.1.1.2.2.2⟩⟩⟩⟩⟩, hk.1.1.1.2.2.1⟩)) hg hat)
     replace HLd3_1 := zk (Kd.V_afterv (ok := (fun k_ => (P1_ k_ ∨ w.heap.size ≤ k_) ∧ some k_ ≠ (.slice Ao47 x7_1.length co47 : Value).ownBlock ∧ some k_ ≠ (.slice (some add3) x8_1.length co36 : Value).ownBlock ∧ some k_ ≠ (vd9 : Value).ownBlock ∧ some k_ ≠ (.slice Ao53 ye2.length co53 : Value).ownBlock ∧ some k_ ≠ (.slice Ao55 te5.length co55 : Value).ownBlock ∧ k_ ≠ gbd4)) (by (with_reducible repeat (first | apply Kd.V_alloc | apply Kd.V_drewN | apply Kd.V_drew)); exact Kd.V_mono HLd3_1.out (fun _ hk => ⟨⟨hk.1.1.1.1, ⟨hk.1.1.1.2.1, ⟨hk.1.1.1.2.2.2.1, ⟨hk.1.1.2, ⟨hk.1.2, ⟨hk.2, hk.1.1.1.2.2.2.2⟩⟩⟩⟩⟩⟩, hk.1.1.1.2.2.1⟩)) hg hat)
     replace HLd3_2 := zk (Kd.V_afterv (ok := (fun k_ => (P1_ k_ ∨ w.heap.size ≤ k_) ∧ some k_ ≠ (.slice Ao47 x7_1.length co47 : Value).ownBlock ∧ some k_ ≠ (.slice (some add3) x8_1.length co36 : Value).ownBlock ∧ some k_ ≠ (vd9 : Value).ownBlock ∧ some k_ ≠ (.slice Ao53 ye2.length co53 : Value).ownBlock ∧ some k_ ≠ (.slice Ao55 te5.length co55 : Value).ownBlock ∧ k_ ≠ gbd4)) (by (with_reducible repeat (first | apply Kd.V_alloc | apply Kd.V_drewN | apply Kd.V_drew)); exact Kd.V_mono HLd3_2.out (fun _ hk => ⟨⟨hk.1.1.1.1, ⟨hk.1.1.1.2.1, ⟨hk.1.1.1.2.2.2.1, ⟨hk.1.1.2, ⟨hk.1.2, ⟨hk.2, hk.1.1.1.2.2.2.2⟩⟩⟩⟩⟩⟩, hk.1.1.1.2.2.1⟩)) hg hat)
     replace BKd4 := zk (blk_grown (g := gbd4) (o := .cells #[.bool ((rd_T60 x8_1 x61_2).f0), .slice Ad3_1 ((rd_T60 x8_1 x61_2).f1).length cd3_1, .slice Ad3_2 ((rd_T60 x8_1 x61_2).f2).length cd3_2] 60 (0, 0)) (by (with_reducible repeat (first | refine blk_drewN ?_ _ | refine blk_drew ?_ | refine blk_alloc ?_ _)); exact BKd4.out) hg (Kd.N_ne HO_14.out BKd4.out (by decide)))
     replace HOd7 := zk (Kd.V_afterv (ok := (fun k_ => (P1_ k_ ∨ w.heap.size ≤ k_) ∧ some k_ ≠ (.slice (some add3) x8_1.length co36 : Value).ownBlock ∧ some k_ ≠ (vd9 : Value).ownBlock ∧ some k_ ≠ (.slice Ao53 ye2.length co53 : Value).ownBlock ∧ some k_ ≠ (.slice Ao55 te5.length co55 : Value).ownBlock ∧ k_ ≠ gbd4)) (by (with_reducible repeat (first | apply Kd.V_alloc | apply Kd.V_drewN | apply Kd.V_drew)); exact Kd.V_mono HOd7.out (fun _ hk => ⟨⟨hk.1.1.1, ⟨hk.1.1.2.2.2.1, ⟨hk.1.1.2.1, ⟨hk.1.2, ⟨hk.2, hk.1.1.2.2.2.2⟩⟩⟩⟩⟩, hk.1.1.2.2.1⟩)) hg hat)
     replace HOe0 := zk (Kd.R_over' (zR HOe0.out) (Kd.N_typed (zN HO_14.out)) (by decide) hg)
     replace HOe4 := zk (Kd.N_afterv (ok := (fun k_ => (P1_ k_ ∨ w.heap.size ≤ k_) ∧ some k_ ≠ (.slice (some add3) x8_1.length co36 : Value).ownBlock ∧ some k_ ≠ (vd9 : Value).ownBlock ∧ some k_ ≠ (.slice Ao55 te5.length co55 : Value).ownBlock ∧ k_ ≠ gbd4)) (by (with_reducible repeat (first | apply Kd.N_alloc | apply Kd.N_drewN | apply Kd.N_drew)); exact Kd.N_mono HOe4.out (fun _ hk => ⟨⟨hk.1.1, ⟨hk.1.2.2.1, ⟨hk.1.2.2.2.1, ⟨hk.2, hk.1.2.2.2.2⟩⟩⟩⟩, hk.1.2.1⟩)) hg hat)
     replace HB := zk (hb)
     have HOf0 := zk (ho)
     clear HO_14 HOe7
     clear ho hb hg hat
     refine hK.out _ _ ⟨(blk_cell BKd4.out 0).trans rfl, (blk_cell BKd4.out 1).trans rfl, (blk_cell BKd4.out 2).trans rfl⟩ (fun hHeld => ?_)
     clear hK K
     refine norm_ (a' := ?_) ?_ ?_
     rotate_left
     · show Act.put _ (some 83) _ = _
       simp only [Act.put, List.setIfInBounds_toArray, List.set_cons_zero, List.set_cons_succ, i64_w, i32_w]
       rfl
     refine zp (i := 11) (N := some 14) HT_ ?_
     refine done_ (done_of HT_.out (by kernel_rfl)) ?_
     try go_wp2
     go_roundg k2
     case measure => have := HK1.out; have := HK2.out; omega
     case rel => exact ⟨(ye8), (wrap64 (x61_2 + 1)), zF, H', ⟨zo2 HK1 HK2⟩, ⟨by (with_reducible repeat (first | apply Kd.R_alloc | apply Kd.R_drewN | apply Kd.R_drew)); exact Kd.R_mono HO_7.out (fun _ hk => hk.1.1)⟩, ⟨by (with_reducible repeat (first | apply Kd.N_alloc | apply Kd.N_drewN | apply Kd.N_drew)); exact Kd.N_mono HOf0.out (fun _ hk => ⟨hk.1, ⟨hk.2.1, hk.2.2.1⟩⟩)⟩, ⟨by (with_reducible repeat (first | apply Kd.N_alloc | apply Kd.N_drewN | apply Kd.N_drew)); exact Kd.N_mono HO_59.out (fun _ hk => ⟨hk.1.1, ⟨hk.1.2.1, hk.2⟩⟩)⟩, ⟨zB1 HB.out GEd4.out⟩⟩
   replace H := zb H
   obtain ⟨tf1, A57, H⟩ := H
   have H' := zk H
   clear H
   obtain ⟨Ao58, co58, rfl⟩ := Kd.N_slice HO_14.out
   go_wp2_with (first | ((with_reducible refine gC 104 ?_); refine zG (some 87) Try.func104 #[.int .i64 a0, .slice Ao58 x14_2.length co58] ?_; (with_reducible refine (mw_sums.calls k2 a0 _ _ x14_2 tf1 _ ?side1 ?side2 A57.out).mono ?_); (case side1 => exact zC (Kd.N_reads' HO_14.out).2.2); (case side2 => exact (Kd.N_reads' HO_14.out).2.1); rintro e w59 ⟨vf2, rfl, ho0, hb⟩; refine ⟨_, rfl, ?_⟩; have HOf3 := zk (Kd.N_lower (Kd.N_mono (ok' := fun k_ => (P1_ k_ ∨ w.heap.size ≤ k_) ∧ some k_ ≠ (u7 : Value).ownBlock ∧ some k_ ≠ (.slice Ao58 x14_2.length co58 : Value).ownBlock ∧ some k_ ≠ (.slice Ao36 x8_1.length co36 : Value).ownBlock) ho0 (fun k_ hk_ => ⟨(.inr (Nat.le_trans (below_size (zB HB.out)) hk_)), (Kd.fresh' (Kd.R_lt (zR HO_7.out)) k_ hk_), (Kd.fresh' (Kd.N_lt (zN HO_14.out)) k_ hk_), (Kd.fresh' (Kd.N_lt (zN HO_59.out)) k_ hk_)⟩)) (below_size (zB HB.out))); replace HO_7 := yRb HO_7 hb; replace HO_14 := zk (Kd.N_elder' (zN HO_14.out) (Kd.N_base ho0) hb); replace HO_59 := zk (Kd.N_elder' (zN HO_59.out) (Kd.N_base ho0) hb); replace HB := yS HB hb; (try clear hb ho0); obtain ⟨Ao60, co60, rfl⟩ := Kd.N_slice HOf3.out))
   go_loopg [20, 89] k2 (fun kq v20 v89 w' => ∃ (x20_3 : List (S60)) (x89_3 : Int), v89 = .int .i64 x89_3 ∧ Aside0 (mw_Transform.l2 kq x7_1 x20_3 tf1 (tf1.length : Int) x89_3 = some (r1, r2)) ∧ Aside0 (kq ≤ k2) ∧ Aside0 (Kd.R (Kd.int .u32) 97 w' w.heap.size (fun k_ => (w.heap.size ≤ k_)) u7 x7_1) ∧ Aside0 (Kd.N k60 60 w' w.heap.size (fun k_ => (P1_ k_ ∨ w.heap.size ≤ k_) ∧ some k_ ≠ ((.slice Ao60 tf1.length co60) : Value).ownBlock) v20 x20_3) ∧ Aside0 (Kd.N k113 113 w' w.heap.size (fun k_ => (P1_ k_ ∨ w.heap.size ≤ k_) ∧ some k_ ≠ (u7 : Value).ownBlock ∧ some k_ ≠ (v20 : Value).ownBlock) (.slice Ao60 tf1.length co60) tf1) ∧ Aside0 (Below w.heap.size w w'))
   case atStart => exact ⟨(([] : List (S60))), (0), zF, H', ⟨Nat.le_refl _⟩, ⟨zR HO_7.out⟩, ⟨by first | exact Kd.S_nil _ _ _ _ _ | exact Kd.N_nil _ _ _ _ _ | exact Kd.V_nil _ _ _ _ _ | exact Kd.Q_nil _ _ _ _ _ | exact Kd.R_nil _ _ _ _ _⟩, ⟨by (with_reducible repeat (first | apply Kd.N_alloc | apply Kd.N_drewN | apply Kd.N_drew)); exact Kd.N_mono HOf3.out (fun _ hk => ⟨hk.1, ⟨hk.2.1, (by simp [Value.ownBlock])⟩⟩)⟩, ⟨zB HB.out⟩⟩
   clear H'
   (try clear c4);(try clear c4b0);(try clear c4b1);(try clear c7b0);(try clear c8b0);(try clear c9b0);(try clear c11);(try clear c37b0);(try clear c38b0);(try clear c39b0);(try clear c42);(try clear hcz16_0);(try clear hcz16_1);(try clear hcz16_2);(try clear hcz18_0);(try clear hcz18_1);(try clear hcz18_2);(try clear hcz20_0);(try clear hcz20_1);(try clear hcz20_2);(try clear hcz24_0);(try clear hcz24_1);(try clear hcz24_2);(try clear hcz44_0);(try clear hcz44_1);(try clear hcz44_2);(try clear hcz46_0);(try clear hcz46_1);(try clear hcz46_2);(try clear hfz16_0);(try clear hfz16_1);(try clear hfz16_2);(try clear hfz18_0);(try clear hfz18_1);(try clear hfz18_2);(try clear hfz20_0);(try clear hfz20_1);(try clear hfz20_2);(try clear hfz24_0);(try clear hfz24_1);(try clear hfz24_2);(try clear hfz44_0);(try clear hfz44_1);(try clear hfz44_2);(try clear hfz46_0);(try clear hfz46_1);(try clear hfz46_2);(try clear hxa5_0);(try clear hxa5_1);(try clear hxa5_2);(try clear hxd3_0);(try clear hxd3_1);(try clear hxd3_2);(try clear pa5);(try clear pd3);(try clear qa5);(try clear qd3)
   obtain ⟨x20_3, x89_3, rfl, HA, HK3, HO_7, HO_20, HO_87, HB⟩ := hrel
   cases gk with | zero => exact absurd HA.out (by simp [mw_Transform.l2]) | succ k3 => ?_
   have H := HA.out
   clear HA
   simp only [mw_Transform.l2] at H
   replace H := zid H
   rcases H with ⟨c61b0, H⟩ | ⟨c61b0, H⟩
   · replace H := zgd H
     obtain ⟨c62b0, H⟩ := H
     replace H := zgd H
     obtain ⟨c63b0, H⟩ := H
     replace H := zb H
     obtain ⟨⟨tf6, tf7, tg0⟩, A64, H⟩ := H
     dsimp only at H
     replace H := zg H
     obtain ⟨c65, H⟩ := H
     have LMc65 := zk c65
     clear c65
     obtain ⟨yg3, hyg3⟩ : ∃ y_ : List (S60), y_ = (x20_3 ++ [(⟨tf6, tf7, tg0⟩ : S60)]) := ⟨_, rfl⟩
     replace H : (mw_Transform.l2 k3 x7_1 yg3 tf1 (tf1.length : Int) (wrap64 (x89_3 + 1))) = some (r1, r2) := zY hyg3 H
     have Nyg3 := zk hyg3
     clear hyg3
     have H' := zk H
     clear H
     have pf4 : 0 ≤ (x89_3 : Int) := zd
     have qf4 : x89_3 < (tf1.length : Int) := zd
     obtain ⟨adf4, Af4_1, cf4_1, ef4, hxf4_0, hxf4_1, hlf4_1, hif4_1⟩ := at_T113 (Kd.N_reads' HO_87.out).2.2 x89_3 pf4 qf4
     cases ef4
     obtain ⟨cef4, hcef4, hMef4, hccf4⟩ := Kd.N_get HO_87.out z113 x89_3 pf4 (by first | exact qf4 | exact zd | (have e_ := (Kd.N_reads' HO_87.out).1; omega))
     obtain ⟨uaf4_1, ucf4_1, rfl, ulf4_1, gef4_1⟩ := k113_openF hMef4
     have hvf4_1 := hccf4 1 _ rfl
     rw [add_field _ _ 1 (by omega)] at hvf4_1
     replace hvf4_1 := Option.some.inj (hvf4_1.symm.trans hxf4_1)
     injection hvf4_1 with hva_ hvn_ hvc_
     rw [hva_] at gef4_1
     rw [hvc_] at ulf4_1
     have HLf4_1 := zk (show Kd.V (Kd.int .u32) 97 _ w.heap.size _ _ ((rd_T113 tf1 x89_3).f1) from Kd.V_mk ulf4_1 gef4_1)
     clear hva_ hvn_ hvc_ gef4_1 ulf4_1
     clear hccf4 hcef4
     have HRf4_1 := zk hif4_1
     have HCf4_1 := zk hlf4_1
     clear hif4_1 hlf4_1
     replace pf4 := eq_true pf4
     replace qf4 := eq_true qf4
     go_wp2_with (first | ((with_reducible refine gate_dst (N := 22) rfl ?_); refine box_event ?hg (N := 22) ?hd (cs := #[.bool false, .slice none 0 0]) (t := 113) ?hr ?_; (case hd => rfl); (case hg => rfl); (case hr => first | (go_simp; done) | (go_simp; rfl)); intro gbf5 hg w66 hbox hb; replace HO_7 := yRb HO_7 hb; replace HO_20 := zk (Kd.N_below (Kd.N_elderB (zN HO_20.out) gbf5 (Nat.le_of_eq hg.symm)) hb); replace HO_87 := zk (Kd.N_below (Kd.N_elderB (zN HO_87.out) gbf5 (Nat.le_of_eq hg.symm)) hb); replace HLf4_1 := yVB HLf4_1 hg hb; (try replace HRf4_1 := yCb HRf4_1 hb); have BKf5 := zk (hbox); have GWf5 := yg hg HB; have GEf5 := yg hg HB; replace HB := yS HB hb; clear hb hbox hg; obtain ⟨hcz67_0, hcz67_1, hfz67_0, hfz67_1⟩ := zz2 BKf5) | ((with_reducible refine gate_store (t := 113) (p := 22) rfl ?_); refine store_event (t := 113) (p := 22) (v := ?vo_w68) (w1 := ((w66.setCell ⟨gbf5, 0, none⟩ (.bool ((rd_T113 tf1 x89_3).f0))).setCell ⟨gbf5, 1, none⟩ (.slice Af4_1 ((rd_T113 tf1 x89_3).f1).length cf4_1))) ?hg ?ho ?hn ?hr ?_; (case ho => rfl); (case hg => rfl); (case hn => rfl); (case hr => first | (go_simp; done) | (go_simp; rfl)); intro w68 hw; have n0_ : Aside0 (Kd.R (Kd.int .u32) 97 w68 w.heap.size (fun k_ => (w.heap.size ≤ k_)) u7 x7_1) := ⟨(by rw [hw]; exact (by (with_reducible repeat (first | apply Kd.R_alloc | apply Kd.R_drewN | apply Kd.R_drew)); exact Kd.R_mono (Kd.R_far (p := ⟨gbf5, 1, none⟩) (Kd.R_far (p := ⟨gbf5, 0, none⟩) (Kd.R_types HO_7.out BKf5.out (by decide)) (fun _ hk => hk.2) (.bool ((rd_T113 tf1 x89_3).f0))) (fun _ hk => hk.2) (.slice Af4_1 ((rd_T113 tf1 x89_3).f1).length cf4_1)) (fun _ hk => hk.1)))⟩; have n1_ : Aside0 (Kd.N k60 60 w68 w.heap.size (fun k_ => (P1_ k_ ∨ w.heap.size ≤ k_) ∧ some k_ ≠ (.slice (some adf4) tf1.length co60 : Value).ownBlock ∧ k_ ≠ gbf5) u20 x20_3) := ⟨(by rw [hw]; exact (by (with_reducible repeat (first | apply Kd.N_alloc | apply Kd.N_drewN | apply Kd.N_drew)); exact Kd.N_mono (Kd.N_far (p := ⟨gbf5, 1, none⟩) (Kd.N_far (p := ⟨gbf5, 0, none⟩) (Kd.N_mono HO_20.out (fun k_ hk => (⟨hk, hk.2⟩ : _ ∧ k_ ≠ gbf5))) (fun _ hk => hk.2) (.bool ((rd_T113 tf1 x89_3).f0))) (fun _ hk => hk.2) (.slice Af4_1 ((rd_T113 tf1 x89_3).f1).length cf4_1)) (fun _ hk => ⟨hk.1.1.1, ⟨hk.1.1.2, hk.1.2⟩⟩)))⟩; have n2_ : Aside0 (Kd.N k113 113 w68 w.heap.size (fun k_ => (P1_ k_ ∨ w.heap.size ≤ k_) ∧ some k_ ≠ (u7 : Value).ownBlock ∧ some k_ ≠ (u20 : Value).ownBlock ∧ k_ ≠ gbf5) (.slice (some adf4) tf1.length co60) tf1) := ⟨(by rw [hw]; exact (by (with_reducible repeat (first | apply Kd.N_alloc | apply Kd.N_drewN | apply Kd.N_drew)); exact Kd.N_mono (Kd.N_far (p := ⟨gbf5, 1, none⟩) (Kd.N_far (p := ⟨gbf5, 0, none⟩) (Kd.N_mono HO_87.out (fun k_ hk => (⟨hk, hk.2⟩ : _ ∧ k_ ≠ gbf5))) (fun _ hk => hk.2) (.bool ((rd_T113 tf1 x89_3).f0))) (fun _ hk => hk.2) (.slice Af4_1 ((rd_T113 tf1 x89_3).f1).length cf4_1)) (fun _ hk => ⟨hk.1.1.1, ⟨hk.1.1.2.1, ⟨hk.1.1.2.2, hk.1.2⟩⟩⟩)))⟩; have n3_ : Aside0 (Kd.V (Kd.int .u32) 97 w68 w.heap.size (fun k_ => (P1_ k_ ∨ w.heap.size ≤ k_) ∧ some k_ ≠ (u7 : Value).ownBlock ∧ some k_ ≠ (u20 : Value).ownBlock ∧ some k_ ≠ (.slice (some adf4) tf1.length co60 : Value).ownBlock ∧ k_ ≠ gbf5) (.slice Af4_1 ((rd_T113 tf1 x89_3).f1).length cf4_1) ((rd_T113 tf1 x89_3).f1)) := ⟨(by rw [hw]; exact (by (with_reducible repeat (first | apply Kd.V_alloc | apply Kd.V_drewN | apply Kd.V_drew)); exact Kd.V_mono (Kd.V_far (p := ⟨gbf5, 1, none⟩) (Kd.V_far (p := ⟨gbf5, 0, none⟩) (Kd.V_mono HLf4_1.out (fun k_ hk => (⟨hk, hk.2⟩ : _ ∧ k_ ≠ gbf5))) (fun _ hk => hk.2) (.bool ((rd_T113 tf1 x89_3).f0))) (fun _ hk => hk.2) (.slice Af4_1 ((rd_T113 tf1 x89_3).f1).length cf4_1)) (fun _ hk => ⟨hk.1.1.1.1, ⟨hk.1.1.1.2.1, ⟨hk.1.1.1.2.2, ⟨hk.1.1.2, hk.1.2⟩⟩⟩⟩)))⟩; have n4_ : Aside0 (w68.heap[gbf5]? = some (.cells #[.bool ((rd_T113 tf1 x89_3).f0), .slice Af4_1 ((rd_T113 tf1 x89_3).f1).length cf4_1] 113 (0, 0))) := ⟨(by rw [hw]; exact (zP2 BKf5.out))⟩; have n5_ : Aside0 (Below w.heap.size w w68) := ⟨(by rw [hw]; exact (zB1 HB.out GEf5.out))⟩; clear hw; clear HO_7; clear HO_20; clear HO_87; clear HLf4_1; clear BKf5; clear HB; have HO_7 := n0_; have HO_20 := n1_; have HO_87 := n2_; have HLf4_1 := n3_; have BKf5 := n4_; have HB := n5_; clear n0_ n1_ n2_ n3_ n4_ n5_; obtain ⟨hcz69_0, hcz69_1, hfz69_0, hfz69_1⟩ := zz2 BKf5; obtain ⟨Ao70, co70, rfl⟩ := Kd.R_slice HO_7.out) | ((with_reducible refine gC 93 ?_); refine zG (some 96) Try.func93 #[.agg #[.bool ((rd_T113 tf1 x89_3).f0), .slice Af4_1 ((rd_T113 tf1 x89_3).f1).length cf4_1], .slice Ao70 x7_1.length co70] ?_; (with_reducible refine (mw_ratio.calls k3 ((rd_T113 tf1 x89_3).f0) (fun k_ => ((P1_ k_ ∨ w.heap.size ≤ k_) ∧ (some k_ ≠ (.slice Ao70 x7_1.length co70 : Value).ownBlock ∧ (some k_ ≠ (u20 : Value).ownBlock ∧ (some k_ ≠ (.slice (some adf4) tf1.length co60 : Value).ownBlock ∧ k_ ≠ gbf5))))) _ _ ((rd_T113 tf1 x89_3).f1) (fun k_ => some k_ = (.slice Ao70 x7_1.length co70 : Value).ownBlock) _ _ x7_1 tf6 tf7 tg0 _ ?side1 ?side2 A64.out).mono ?_); (case side1 => exact HLf4_1.out); (case side2 => exact Kd.R_V (Kd.R_tight rfl (Kd.R_types (Kd.R_apart' (Kd.R_apart' (HO_7.out) (Kd.N_typed HO_20.out) (by decide)) (Kd.N_typed HO_87.out) (by decide)) BKf5.out (by decide)))); rintro e w71 ⟨vf8, vg1, rfl, ho0, ho1, hb⟩; refine ⟨_, rfl, ?_⟩; replace HLf4_1 := yVb HLf4_1 hb; have HOf9 := zk (Kd.V_lower (Kd.V_mono (ok' := fun k_ => (P1_ k_ ∨ w.heap.size ≤ k_) ∧ some k_ ≠ (u20 : Value).ownBlock ∧ some k_ ≠ (.slice (some adf4) tf1.length co60 : Value).ownBlock ∧ k_ ≠ gbf5) ho0 (fun k_ hk_ => ⟨Or.elim hk_ (fun hs_ => Or.elim hs_ (fun hs_ => hs_.1) (fun hs_ => (.inr (((Kd.R_types (Kd.R_apart' (Kd.R_apart' (HO_7.out) (Kd.N_typed HO_20.out) (by decide)) (Kd.N_typed HO_87.out) (by decide)) BKf5.out (by decide)).1 k_ hs_.symm).1.1.1)))) (fun hn_ => (.inr (Nat.le_trans (below_size (zB1 HB.out GEf5.out)) hn_))), Or.elim hk_ (fun hs_ => Or.elim hs_ (fun hs_ => hs_.2.2.1) (fun hs_ => ((Kd.R_types (Kd.R_apart' (Kd.R_apart' (HO_7.out) (Kd.N_typed HO_20.out) (by decide)) (Kd.N_typed HO_87.out) (by decide)) BKf5.out (by decide)).1 k_ hs_.symm).1.1.2)) (fun hn_ => (Kd.fresh' (Kd.N_lt (zN HO_20.out)) k_ hn_)), Or.elim hk_ (fun hs_ => Or.elim hs_ (fun hs_ => hs_.2.2.2.1) (fun hs_ => ((Kd.R_types (Kd.R_apart' (Kd.R_apart' (HO_7.out) (Kd.N_typed HO_20.out) (by decide)) (Kd.N_typed HO_87.out) (by decide)) BKf5.out (by decide)).1 k_ hs_.symm).1.2)) (fun hn_ => (Kd.fresh' (Kd.N_lt (zN HO_87.out)) k_ hn_)), Or.elim hk_ (fun hs_ => Or.elim hs_ (fun hs_ => hs_.2.2.2.2) (fun hs_ => ((Kd.R_types (Kd.R_apart' (Kd.R_apart' (HO_7.out) (Kd.N_typed HO_20.out) (by decide)) (Kd.N_typed HO_87.out) (by decide)) BKf5.out (by decide)).1 k_ hs_.symm).2)) (fun hn_ => (Kd.freshB (g := gbf5) (o := .cells #[.bool ((rd_T113 tf1 x89_3).f0), .slice Af4_1 ((rd_T113 tf1 x89_3).f1).length cf4_1] 113 (0, 0)) (by (with_reducible repeat (first | refine blk_drewN ?_ _ | refine blk_drew ?_ | refine blk_alloc ?_ _)); exact BKf5.out) k_ hn_))⟩)) (below_size (zB1 HB.out GEf5.out))); have HOg2 := zk (Kd.V_lower (Kd.V_mono (ok' := fun k_ => (P1_ k_ ∨ w.heap.size ≤ k_) ∧ some k_ ≠ (u20 : Value).ownBlock ∧ some k_ ≠ (.slice (some adf4) tf1.length co60 : Value).ownBlock ∧ k_ ≠ gbf5) ho1 (fun k_ hk_ => ⟨Or.elim hk_ (fun hs_ => Or.elim hs_ (fun hs_ => hs_.1) (fun hs_ => (.inr (((Kd.R_types (Kd.R_apart' (Kd.R_apart' (HO_7.out) (Kd.N_typed HO_20.out) (by decide)) (Kd.N_typed HO_87.out) (by decide)) BKf5.out (by decide)).1 k_ hs_.symm).1.1.1)))) (fun hn_ => (.inr (Nat.le_trans (below_size (zB1 HB.out GEf5.out)) hn_))), Or.elim hk_ (fun hs_ => Or.elim hs_ (fun hs_ => hs_.2.2.1) (fun hs_ => ((Kd.R_types (Kd.R_apart' (Kd.R_apart' (HO_7.out) (Kd.N_typed HO_20.out) (by decide)) (Kd.N_typed HO_87.out) (by decide)) BKf5.out (by decide)).1 k_ hs_.symm).1.1.2)) (fun hn_ => (Kd.fresh' (Kd.N_lt (zN HO_20.out)) k_ hn_)), Or.elim hk_ (fun hs_ => Or.elim hs_ (fun hs_ => hs_.2.2.2.1) (fun hs_ => ((Kd.R_types (Kd.R_apart' (Kd.R_apart' (HO_7.out) (Kd.N_typed HO_20.out) (by decide)) (Kd.N_typed HO_87.out) (by decide)) BKf5.out (by decide)).1 k_ hs_.symm).1.2)) (fun hn_ => (Kd.fresh' (Kd.N_lt (zN HO_87.out)) k_ hn_)), Or.elim hk_ (fun hs_ => Or.elim hs_ (fun hs_ => hs_.2.2.2.2) (fun hs_ => ((Kd.R_types (Kd.R_apart' (Kd.R_apart' (HO_7.out) (Kd.N_typed HO_20.out) (by decide)) (Kd.N_typed HO_87.out) (by decide)) BKf5.out (by decide)).1 k_ hs_.symm).2)) (fun hn_ => (Kd.freshB (g := gbf5) (o := .cells #[.bool ((rd_T113 tf1 x89_3).f0), .slice Af4_1 ((rd_T113 tf1 x89_3).f1).length cf4_1] 113 (0, 0)) (by (with_reducible repeat (first | refine blk_drewN ?_ _ | refine blk_drew ?_ | refine blk_alloc ?_ _)); exact BKf5.out) k_ hn_))⟩)) (below_size (zB1 HB.out GEf5.out))); replace HO_7 := yRb HO_7 hb; replace HO_20 := yNb HO_20 hb; replace HO_87 := yNb HO_87 hb; (try replace HRf4_1 := yCb HRf4_1 hb); replace BKf5 := yK BKf5 hb; replace HB := yS1 HB GEf5 hb; (try clear hb ho0); (try clear ho1); obtain ⟨Ao73, co73, rfl⟩ := Kd.V_slice HOf9.out; obtain ⟨Ao74, co74, rfl⟩ := Kd.V_slice HOg2.out) | ((with_reducible refine gate_builtin (b := .append) (xs := #[.tmp 93, .tmp 97]) rfl ?_); at_builtin; refine Kd.N_append k60 (w0 := w) w.heap.size rfl (.tmp 93) (.tmp 97) 83 60 (.agg #[(.bool false), (.slice none 0 0), (.slice none 0 0)]) 56 rfl Try.underlying83 info60 rfl (by decide) (by omega) u20 x20_3 (⟨tf6, tf7, tg0⟩ : S60) [.bool tf6, .slice Ao73 tf7.length co73, .slice Ao74 tg0.length co74] (fun k_ => (P1_ k_ ∨ w.heap.size ≤ k_) ∧ some k_ ≠ (.slice (some adf4) tf1.length co60 : Value).ownBlock ∧ k_ ≠ gbf5) (fun k_ => ((fun k_ => (P1_ k_ ∨ w.heap.size ≤ k_) ∧ some k_ ≠ (.slice (some adf4) tf1.length co60 : Value).ownBlock ∧ k_ ≠ gbf5)) k_ ∧ some k_ ≠ (u20 : Value).ownBlock) rfl rfl ?aP (fun _ hk => hk) ?aF ?aO ?aB ?aS ?aL ?_; (case aP => exact (k60_mkF _ _ (⟨tf6, tf7, tg0⟩ : S60) (Kd.V_reads' (Kd.V_mono (ok' := (fun k_ => ((fun k_ => (P1_ k_ ∨ w.heap.size ≤ k_) ∧ some k_ ≠ (.slice (some adf4) tf1.length co60 : Value).ownBlock ∧ k_ ≠ gbf5)) k_ ∧ some k_ ≠ (u20 : Value).ownBlock)) (HOf9.out) (fun k_ hk => by exact ⟨⟨hk.1, ⟨hk.2.2.1, hk.2.2.2⟩⟩, hk.2.1⟩))).2.1 (Kd.V_F (Kd.V_mono (ok' := (fun k_ => ((fun k_ => (P1_ k_ ∨ w.heap.size ≤ k_) ∧ some k_ ≠ (.slice (some adf4) tf1.length co60 : Value).ownBlock ∧ k_ ≠ gbf5)) k_ ∧ some k_ ≠ (u20 : Value).ownBlock)) (HOf9.out) (fun k_ hk => by exact ⟨⟨hk.1, ⟨hk.2.2.1, hk.2.2.2⟩⟩, hk.2.1⟩))) (Kd.V_reads' (Kd.V_mono (ok' := (fun k_ => ((fun k_ => (P1_ k_ ∨ w.heap.size ≤ k_) ∧ some k_ ≠ (.slice (some adf4) tf1.length co60 : Value).ownBlock ∧ k_ ≠ gbf5)) k_ ∧ some k_ ≠ (u20 : Value).ownBlock)) (HOg2.out) (fun k_ hk => by exact ⟨⟨hk.1, ⟨hk.2.2.1, hk.2.2.2⟩⟩, hk.2.1⟩))).2.1 (Kd.V_F (Kd.V_mono (ok' := (fun k_ => ((fun k_ => (P1_ k_ ∨ w.heap.size ≤ k_) ∧ some k_ ≠ (.slice (some adf4) tf1.length co60 : Value).ownBlock ∧ k_ ≠ gbf5)) k_ ∧ some k_ ≠ (u20 : Value).ownBlock)) (HOg2.out) (fun k_ hk => by exact ⟨⟨hk.1, ⟨hk.2.2.1, hk.2.2.2⟩⟩, hk.2.1⟩))))); (case aB => exact (zB1 HB.out GEf5.out)); (case aF => exact (fun k_ hk => ⟨(.inr (Nat.le_trans (below_size (zB1 HB.out GEf5.out)) hk)), Kd.fresh' (Kd.N_lt (zN HO_87.out)) k_ hk, Kd.freshB (g := gbf5) (o := .cells #[.bool ((rd_T113 tf1 x89_3).f0), .slice Af4_1 ((rd_T113 tf1 x89_3).f1).length cf4_1] 113 (0, 0)) (by (with_reducible repeat (first | refine blk_drewN ?_ _ | refine blk_drew ?_ | refine blk_alloc ?_ _)); exact BKf5.out) k_ hk⟩)); (case aO => exact (zN HO_20.out)); (case aS => exact (below_size (zB1 HB.out GEf5.out))); (case aL => have := LMc65.out; omega); intro vg4 w72 ho hb hg hat; rw [← Nyg3.out] at ho; replace HO_7 := zk (Kd.R_over' (zR HO_7.out) (Kd.N_typed (zN HO_20.out)) (by decide) hg); replace HO_87 := zk (Kd.N_afterv (ok := (fun k_ => (P1_ k_ ∨ w.heap.size ≤ k_) ∧ some k_ ≠ (.slice Ao70 x7_1.length co70 : Value).ownBlock ∧ k_ ≠ gbf5)) (by (with_reducible repeat (first | apply Kd.N_alloc | apply Kd.N_drewN | apply Kd.N_drew)); exact Kd.N_mono HO_87.out (fun _ hk => ⟨⟨hk.1, ⟨hk.2.1, hk.2.2.2⟩⟩, hk.2.2.1⟩)) hg hat); replace HLf4_1 := zk (Kd.V_afterv (ok := (fun k_ => (P1_ k_ ∨ w.heap.size ≤ k_) ∧ some k_ ≠ (.slice Ao70 x7_1.length co70 : Value).ownBlock ∧ some k_ ≠ (.slice (some adf4) tf1.length co60 : Value).ownBlock ∧ k_ ≠ gbf5)) (by (with_reducible repeat (first | apply Kd.V_alloc | apply Kd.V_drewN | apply Kd.V_drew)); exact Kd.V_mono HLf4_1.out (fun _ hk => ⟨⟨hk.1, ⟨hk.2.1, ⟨hk.2.2.2.1, hk.2.2.2.2⟩⟩⟩, hk.2.2.1⟩)) hg hat); replace BKf5 := zk (blk_grown (g := gbf5) (o := .cells #[.bool ((rd_T113 tf1 x89_3).f0), .slice Af4_1 ((rd_T113 tf1 x89_3).f1).length cf4_1] 113 (0, 0)) (by (with_reducible repeat (first | refine blk_drewN ?_ _ | refine blk_drew ?_ | refine blk_alloc ?_ _)); exact BKf5.out) hg (Kd.N_ne HO_20.out BKf5.out (by decide))); replace HOf9 := zk (Kd.V_afterv (ok := (fun k_ => (P1_ k_ ∨ w.heap.size ≤ k_) ∧ some k_ ≠ (.slice (some adf4) tf1.length co60 : Value).ownBlock ∧ k_ ≠ gbf5)) (by (with_reducible repeat (first | apply Kd.V_alloc | apply Kd.V_drewN | apply Kd.V_drew)); exact Kd.V_mono HOf9.out (fun _ hk => ⟨⟨hk.1, ⟨hk.2.2.1, hk.2.2.2⟩⟩, hk.2.1⟩)) hg hat); replace HOg2 := zk (Kd.V_afterv (ok := (fun k_ => (P1_ k_ ∨ w.heap.size ≤ k_) ∧ some k_ ≠ (.slice (some adf4) tf1.length co60 : Value).ownBlock ∧ k_ ≠ gbf5)) (by (with_reducible repeat (first | apply Kd.V_alloc | apply Kd.V_drewN | apply Kd.V_drew)); exact Kd.V_mono HOg2.out (fun _ hk => ⟨⟨hk.1, ⟨hk.2.2.1, hk.2.2.2⟩⟩, hk.2.1⟩)) hg hat); replace HB := zk (hb); have HOg5 := zk (ho); clear HO_20; clear ho hb hg hat))
     go_roundg k3
     case measure => have := HK1.out; have := HK2.out; have := HK3.out; omega
     case rel => exact ⟨(yg3), (wrap64 (x89_3 + 1)), zF, H', ⟨by have := HK1.out; have := HK2.out; have := HK3.out; omega⟩, ⟨zR HO_7.out⟩, ⟨by (with_reducible repeat (first | apply Kd.N_alloc | apply Kd.N_drewN | apply Kd.N_drew)); exact Kd.N_mono HOg5.out (fun _ hk => ⟨hk.1, hk.2.1⟩)⟩, ⟨by (with_reducible repeat (first | apply Kd.N_alloc | apply Kd.N_drewN | apply Kd.N_drew)); exact Kd.N_mono HO_87.out (fun _ hk => ⟨hk.1.1, ⟨hk.1.2.1, hk.2⟩⟩)⟩, ⟨zB1 HB.out GEf5.out⟩⟩
   simp only [Option.some.injEq, Prod.mk.injEq] at H
   obtain ⟨rfl, rfl⟩ := H
   go_wp2
   go_ret2
   exact ⟨_, zE, by (with_reducible repeat (first | apply Kd.N_alloc | apply Kd.N_drewN | apply Kd.N_drew)); exact Kd.N_mono HO_20.out (fun _ hk => hk.1), zB HB.out⟩
 have c4b0 := beq_eq_false_iff_ne.mpr c4
 have c4b1 := bne_iff_ne.mpr c4
 simp only [Option.some.injEq, Prod.mk.injEq] at H
 obtain ⟨rfl, rfl⟩ := H
 go_enter Try.func64, Try.ntmps64
 go_wp2_with (first | ((with_reducible refine gC 102 ?_); refine zG (some 26) Try.func102 #[.int .i64 a0, .int .i64 (l1.length : Int)] ?_; (with_reducible refine (mw_wrong.calls a0 (l1.length : Int) ta1 _ A3.out).mono ?_); rintro e w' ⟨rfl, ⟨nd, rfl⟩⟩; refine ⟨_, rfl, ?_⟩))
 go_ret2
 exact ⟨_, zE, by first | exact Kd.S_nil _ _ _ _ _ | exact Kd.N_nil _ _ _ _ _ | exact Kd.V_nil _ _ _ _ _ | exact Kd.Q_nil _ _ _ _ _ | exact Kd.R_nil _ _ _ _ _, zB HB.out⟩
set_option maxHeartbeats 8000000 in
set_option maxRecDepth 100000 in
theorem r1_Same.calls (k : Nat) (A0 : Option Addr) (c0 : Nat) (l0 : List Int) (A1 : Option Addr) (c1 : Nat) (l1 : List Int) (r : Bool) (w : World) (hr0 : Kd.C (Kd.int .u32) w A0 l0.length l0) (hc0 : l0.length ≤ c0) (hr1 : Kd.C (Kd.int .u32) w A1 l1.length l1) (hc1 : l1.length ≤ c1) (h : r1_Same.f k l0 l1 = some r) :
    Calls Try.prog 25 #[.slice A0 l0.length c0, .slice A1 l1.length c1] w fun e w' => e = .returned (.bool r) ∧ Drawn0 w w' := by
 have HR0 := zk hr0
 have HC0 := zk hc0
 clear hr0 hc0
 have HR1 := zk hr1
 have HC1 := zk hc1
 clear hr1 hc1
 have H := h
 clear h
 unfold r1_Same.f at H
 replace H := zi H
 rcases H with ⟨c3, H⟩ | ⟨c3, H⟩
 · have c3b0 := beq_iff_eq.mpr c3
   have c3b1 := bne_eq_false_iff_eq.mpr c3
   have c3b2 : (l0.length == l1.length) = true := by first | simpa using c3 | (simp at c3 ⊢; omega)
   clear c3
   have H' := zk H
   clear H
   go_enter Try.func25, Try.ntmps25
   go_wp2
   repeat (go_quiet (fail); try go_wp2)
   go_loopg [5] k (fun kq v5 w' => ∃ (x5_1 : Int), v5 = .int .i64 x5_1 ∧ Aside0 (r1_Same.l0 kq l0 l1 x5_1 = some r) ∧ Aside0 (kq ≤ k) ∧ Drawn0 w w')
   case atStart => exact ⟨(0), zF, H', ⟨Nat.le_refl _⟩, by repeat (first | exact Drawn0.refl _ | apply Drawn0.step)⟩
   clear H'
   (try clear c3);(try clear c3b0);(try clear c3b1);(try clear c3b2)
   obtain ⟨x5_1, rfl, HA, HK1, ⟨m1, rfl⟩⟩ := hrel
   cases gk with | zero => exact absurd HA.out (by simp [r1_Same.l0]) | succ k1 => ?_
   have H := HA.out
   clear HA
   simp only [r1_Same.l0] at H
   replace H := zid H
   rcases H with ⟨c4b0, H⟩ | ⟨c4b0, H⟩
   · replace H := zgd H
     obtain ⟨c5b0, H⟩ := H
     replace H := zgd H
     obtain ⟨c6b0, H⟩ := H
     replace H := zi H
     rcases H with ⟨c7, H⟩ | ⟨c7, H⟩
     · have c7b0 := beq_iff_eq.mpr c7
       have c7b1 := bne_eq_false_iff_eq.mpr c7
       clear c7
       have H' := zk H
       clear H
       have pa1 : 0 ≤ (x5_1 : Int) := zd
       have qa1 : x5_1 < (l0.length : Int) := zd
       obtain ⟨ada1, ea1, hxa1_0⟩ := Kd.at_int HR0.out x5_1 pa1 qa1
       cases ea1
       replace pa1 := eq_true pa1
       replace qa1 := eq_true qa1
       have pa2 : 0 ≤ (x5_1 : Int) := zd
       have qa2 : x5_1 < (l1.length : Int) := zd
       obtain ⟨ada2, ea2, hxa2_0⟩ := Kd.at_int HR1.out x5_1 pa2 qa2
       cases ea2
       replace pa2 := eq_true pa2
       replace qa2 := eq_true qa2
       go_wp2
       repeat (go_quiet (fail); try go_wp2)
       go_roundg k1
       case measure => have := HK1.out; omega
       case rel => exact ⟨(wrap64 (x5_1 + 1)), zF, H', ⟨zo1 HK1⟩, by repeat (first | exact Drawn0.refl _ | apply Drawn0.step)⟩
     have c7b0 := beq_eq_false_iff_ne.mpr c7
     have c7b1 := bne_iff_ne.mpr c7
     obtain rfl := Option.some.inj H
     have pa1 : 0 ≤ (x5_1 : Int) := zd
     have qa1 : x5_1 < (l0.length : Int) := zd
     obtain ⟨ada1, ea1, hxa1_0⟩ := Kd.at_int HR0.out x5_1 pa1 qa1
     cases ea1
     replace pa1 := eq_true pa1
     replace qa1 := eq_true qa1
     have pa2 : 0 ≤ (x5_1 : Int) := zd
     have qa2 : x5_1 < (l1.length : Int) := zd
     obtain ⟨ada2, ea2, hxa2_0⟩ := Kd.at_int HR1.out x5_1 pa2 qa2
     cases ea2
     replace pa2 := eq_true pa2
     replace qa2 := eq_true qa2
     go_wp2
     repeat (go_quiet (fail); try go_wp2)
     go_ret
     exact ⟨zF, by repeat (first | exact Drawn0.refl _ | apply Drawn0.step)⟩
   obtain rfl := Option.some.inj H
   go_wp2
   repeat (go_quiet (fail); try go_wp2)
   go_ret
   exact ⟨zF, by repeat (first | exact Drawn0.refl _ | apply Drawn0.step)⟩
 have c3b0 := beq_eq_false_iff_ne.mpr c3
 have c3b1 := bne_iff_ne.mpr c3
 have c3b2 : (l0.length == l1.length) = false := by first | simpa using c3 | (simp at c3 ⊢; omega)
 obtain rfl := Option.some.inj H
 go_enter Try.func25, Try.ntmps25
 go_wp2
 repeat (go_quiet (fail); try go_wp2)
 go_ret
 exact ⟨zF, by repeat (first | exact Drawn0.refl _ | apply Drawn0.step)⟩
set_option maxHeartbeats 8000000 in
set_option maxRecDepth 100000 in
theorem r2_Same.calls (k : Nat) (a0_0 : Bool) (A0_1 : Option Addr) (c0_1 : Nat) (l0_1 : List Int) (A0_2 : Option Addr) (c0_2 : Nat) (l0_2 : List Int) (a1_0 : Bool) (A1_1 : Option Addr) (c1_1 : Nat) (l1_1 : List Int) (A1_2 : Option Addr) (c1_2 : Nat) (l1_2 : List Int) (r : Bool) (w : World) (hr0_1 : Kd.C (Kd.int .u32) w A0_1 l0_1.length l0_1) (hc0_1 : l0_1.length ≤ c0_1) (hr0_2 : Kd.C (Kd.int .u32) w A0_2 l0_2.length l0_2) (hc0_2 : l0_2.length ≤ c0_2) (hr1_1 : Kd.C (Kd.int .u32) w A1_1 l1_1.length l1_1) (hc1_1 : l1_1.length ≤ c1_1) (hr1_2 : Kd.C (Kd.int .u32) w A1_2 l1_2.length l1_2) (hc1_2 : l1_2.length ≤ c1_2) (h : r2_Same.f k a0_0 l0_1 l0_2 a1_0 l1_1 l1_2 = some r) :
    Calls Try.prog 45 #[.agg #[.bool a0_0, .slice A0_1 l0_1.length c0_1, .slice A0_2 l0_2.length c0_2], .agg #[.bool a1_0, .slice A1_1 l1_1.length c1_1, .slice A1_2 l1_2.length c1_2]] w fun e w' => e = .returned (.bool r) ∧ Below w.heap.size w w' := by
 have hu60 := Try.underlying60
 have HR0_1 := zk hr0_1
 have HC0_1 := zk hc0_1
 clear hr0_1 hc0_1
 have HR0_2 := zk hr0_2
 have HC0_2 := zk hc0_2
 clear hr0_2 hc0_2
 have HR1_1 := zk hr1_1
 have HC1_1 := zk hc1_1
 clear hr1_1 hc1_1
 have HR1_2 := zk hr1_2
 have HC1_2 := zk hc1_2
 clear hr1_2 hc1_2
 have HB := zk (Below.refl w.heap.size w)
 have H := h
 clear h
 unfold r2_Same.f at H
 replace H := zi H
 rcases H with ⟨c3, H⟩ | ⟨c3, H⟩
 · have c3b0 : (a0_0 == a1_0) = true := c3
   (try (have c3b1 : decide (a0_0 = a1_0) = true := by simpa using c3))
   (try (have c3b2 : (a0_0 == a1_0) = true := by simpa using c3))
   clear c3
   replace H := zb H
   obtain ⟨ta3, A4, H⟩ := H
   by_cases c5 : ta3 = true
   · subst c5
     rw [if_pos rfl] at H
     replace H := zb H
     obtain ⟨ta4, A6, H⟩ := H
     obtain rfl := Option.some.inj H
     go_enter Try.func45, Try.ntmps45
     go_wp2_with (first | ((with_reducible refine gate_dst (N := 2) rfl ?_); refine box_event ?hg (N := 2) ?hd (cs := #[.bool a0_0, .slice A0_1 l0_1.length c0_1, .slice A0_2 l0_2.length c0_2]) (t := 60) ?hr ?_; (case hd => rfl); (case hg => rfl); (case hr => first | (go_simp; done) | (go_simp; rfl)); intro gba1 hg w7 hbox hb; have BKa1 := zk (hbox); have GWa1 := yg hg HB; have GEa1 := yg hg HB; replace HB := yS HB hb; clear hb hbox hg) | ((with_reducible refine gate_dst (N := 3) rfl ?_); refine box_event ?hg (N := 3) ?hd (cs := #[.bool a1_0, .slice A1_1 l1_1.length c1_1, .slice A1_2 l1_2.length c1_2]) (t := 60) ?hr ?_; (case hd => rfl); (case hg => rfl); (case hr => first | (go_simp; done) | (go_simp; rfl)); intro gba2 hg w8 hbox hb; have BKa2 := zk (hbox); have GWa2 := yg1 hg HB GEa1; have GEa2 := yg1 hg HB GEa1; replace HB := yS1 HB GEa1 hb; have NBa1_102 := ynl hg BKa1; have NBa2_101 := yng hg BKa1; replace BKa1 := yK BKa1 hb; clear hb hbox hg; have hnb9 := NBa1_102.out; have hnc9 := NBa2_101.out; obtain ⟨hcz10_0, hcz10_1, hcz10_2, hfz10_0, hfz10_1, hfz10_2⟩ := zz3 BKa1; obtain ⟨hcz11_0, hcz11_1, hcz11_2, hfz11_0, hfz11_1, hfz11_2⟩ := zz3 BKa2) | (go_at_call 25; (with_reducible refine (r1_Same.calls k _ _ l0_1 _ _ l1_1 true _ ?side1 ?side2 ?side3 ?side4 A4.out).mono ?_); (case side1 => exact zC (Kd.C_below HR0_1.out HB.out)); (case side2 => exact HC0_1.out); (case side3 => exact zC (Kd.C_below HR1_1.out HB.out)); (case side4 => exact HC1_1.out); rintro e w' ⟨rfl, ⟨nd, rfl⟩⟩) | (go_at_call 25; (with_reducible refine (r1_Same.calls k _ _ l0_2 _ _ l1_2 ta4 _ ?side1 ?side2 ?side3 ?side4 A6.out).mono ?_); (case side1 => exact zC (Kd.C_below HR0_2.out (zB2 HB.out GEa1.out GEa2.out))); (case side2 => exact HC0_2.out); (case side3 => exact zC (Kd.C_below HR1_2.out (zB2 HB.out GEa1.out GEa2.out))); (case side4 => exact HC1_2.out); rintro e w' ⟨rfl, ⟨nd, rfl⟩⟩))
     go_ret
     exact ⟨zE, zB2 HB.out GEa1.out GEa2.out⟩
   replace c5 := Bool.eq_false_iff.mpr c5
   subst c5
   rw [if_neg Bool.false_ne_true] at H
   obtain rfl := Option.some.inj H
   go_enter Try.func45, Try.ntmps45
   go_wp2_with (first | ((with_reducible refine gate_dst (N := 2) rfl ?_); refine box_event ?hg (N := 2) ?hd (cs := #[.bool a0_0, .slice A0_1 l0_1.length c0_1, .slice A0_2 l0_2.length c0_2]) (t := 60) ?hr ?_; (case hd => rfl); (case hg => rfl); (case hr => first | (go_simp; done) | (go_simp; rfl)); intro gba1 hg w12 hbox hb; have BKa1 := zk (hbox); have GWa1 := yg hg HB; have GEa1 := yg hg HB; replace HB := yS HB hb; clear hb hbox hg) | ((with_reducible refine gate_dst (N := 3) rfl ?_); refine box_event ?hg (N := 3) ?hd (cs := #[.bool a1_0, .slice A1_1 l1_1.length c1_1, .slice A1_2 l1_2.length c1_2]) (t := 60) ?hr ?_; (case hd => rfl); (case hg => rfl); (case hr => first | (go_simp; done) | (go_simp; rfl)); intro gba2 hg w13 hbox hb; have BKa2 := zk (hbox); have GWa2 := yg1 hg HB GEa1; have GEa2 := yg1 hg HB GEa1; replace HB := yS1 HB GEa1 hb; have NBa1_102 := ynl hg BKa1; have NBa2_101 := yng hg BKa1; replace BKa1 := yK BKa1 hb; clear hb hbox hg; have hnb14 := NBa1_102.out; have hnc14 := NBa2_101.out; obtain ⟨hcz15_0, hcz15_1, hcz15_2, hfz15_0, hfz15_1, hfz15_2⟩ := zz3 BKa1; obtain ⟨hcz16_0, hcz16_1, hcz16_2, hfz16_0, hfz16_1, hfz16_2⟩ := zz3 BKa2) | (go_at_call 25; (with_reducible refine (r1_Same.calls k _ _ l0_1 _ _ l1_1 false _ ?side1 ?side2 ?side3 ?side4 A4.out).mono ?_); (case side1 => exact zC (Kd.C_below HR0_1.out HB.out)); (case side2 => exact HC0_1.out); (case side3 => exact zC (Kd.C_below HR1_1.out HB.out)); (case side4 => exact HC1_1.out); rintro e w' ⟨rfl, ⟨nd, rfl⟩⟩))
   go_ret
   exact ⟨zE, zB2 HB.out GEa1.out GEa2.out⟩
 have c3b0 : (a0_0 == a1_0) = false := by simpa using c3
 (try (have c3b1 : decide (a0_0 = a1_0) = false := by simpa using c3))
 (try (have c3b2 : (a0_0 == a1_0) = false := by simpa using c3))
 (try (have c3b3 : ¬ (a0_0 = a1_0) := by simpa using c3))
 clear c3
 obtain rfl := Option.some.inj H
 go_enter Try.func45, Try.ntmps45
 go_wp2_with (first | ((with_reducible refine gate_dst (N := 2) rfl ?_); refine box_event ?hg (N := 2) ?hd (cs := #[.bool a0_0, .slice A0_1 l0_1.length c0_1, .slice A0_2 l0_2.length c0_2]) (t := 60) ?hr ?_; (case hd => rfl); (case hg => rfl); (case hr => first | (go_simp; done) | (go_simp; rfl)); intro gba1 hg w17 hbox hb; have BKa1 := zk (hbox); have GWa1 := yg hg HB; have GEa1 := yg hg HB; replace HB := yS HB hb; clear hb hbox hg) | ((with_reducible refine gate_dst (N := 3) rfl ?_); refine box_event ?hg (N := 3) ?hd (cs := #[.bool a1_0, .slice A1_1 l1_1.length c1_1, .slice A1_2 l1_2.length c1_2]) (t := 60) ?hr ?_; (case hd => rfl); (case hg => rfl); (case hr => first | (go_simp; done) | (go_simp; rfl)); intro gba2 hg w18 hbox hb; have BKa2 := zk (hbox); have GWa2 := yg1 hg HB GEa1; have GEa2 := yg1 hg HB GEa1; replace HB := yS1 HB GEa1 hb; have NBa1_102 := ynl hg BKa1; have NBa2_101 := yng hg BKa1; replace BKa1 := yK BKa1 hb; clear hb hbox hg; have hnb19 := NBa1_102.out; have hnc19 := NBa2_101.out; obtain ⟨hcz20_0, hcz20_1, hcz20_2, hfz20_0, hfz20_1, hfz20_2⟩ := zz3 BKa1; obtain ⟨hcz21_0, hcz21_1, hcz21_2, hfz21_0, hfz21_1, hfz21_2⟩ := zz3 BKa2))
 go_ret
 exact ⟨zE, zB2 HB.out GEa1.out GEa2.out⟩
def r2_SameList.T6 : Bool × List (List Nat × List Nat) := (true, [([], []), ([], []), ([0, 1], [0, 1]), ([2], [2]), ([], []), ([], []), ([4, 5], [4, 5]), ([6], [6]), ([3, 7], [3, 7]), ([8], [8])])
def r2_SameList.B6 : List Nat := [0, 0, 3, 7, 0, 0, 48, 112, 255, 511]
theorem r2_SameList.tab6 : rtab .any (opsOf Try.f65 6) = r2_SameList.T6 := by kernel_rfl
theorem r2_SameList.bits6 : waitsOk r2_SameList.T6.2 r2_SameList.B6 = true := by kernel_rfl
set_option maxHeartbeats 8000000 in
set_option maxRecDepth 100000 in
theorem r2_SameList.calls (k : Nat) (A0 : Option Addr) (c0 : Nat) (l0 : List (S60)) (A1 : Option Addr) (c1 : Nat) (l1 : List (S60)) (r : Bool) (w : World) (hr0 : Kd.C k60 w A0 l0.length l0) (hc0 : l0.length ≤ c0) (hr1 : Kd.C k60 w A1 l1.length l1) (hc1 : l1.length ≤ c1) (h : r2_SameList.f k l0 l1 = some r) :
    Calls Try.prog 65 #[.slice A0 l0.length c0, .slice A1 l1.length c1] w fun e w' => e = .returned (.bool r) ∧ Below w.heap.size w w' := by
 have hu60 := Try.underlying60
 have HR0 := zk hr0
 have HC0 := zk hc0
 clear hr0 hc0
 have HR1 := zk hr1
 have HC1 := zk hc1
 clear hr1 hc1
 have HB := zk (Below.refl w.heap.size w)
 have H := h
 clear h
 unfold r2_SameList.f at H
 replace H := zi H
 rcases H with ⟨c3, H⟩ | ⟨c3, H⟩
 · have c3b0 := beq_iff_eq.mpr c3
   have c3b1 := bne_eq_false_iff_eq.mpr c3
   have c3b2 : (l0.length == l1.length) = true := by first | simpa using c3 | (simp at c3 ⊢; omega)
   clear c3
   have H' := zk H
   clear H
   go_enter Try.func65, Try.ntmps65
   go_wp2
   go_loopg [5] k (fun kq v5 w' => ∃ (x5_1 : Int), v5 = .int .i64 x5_1 ∧ Aside0 (r2_SameList.l0 kq l0 l1 x5_1 = some r) ∧ Aside0 (kq ≤ k) ∧ Aside0 (Below w.heap.size w w'))
   case atStart => exact ⟨(0), zF, H', ⟨Nat.le_refl _⟩, ⟨zB HB.out⟩⟩
   clear H'
   (try clear c3);(try clear c3b0);(try clear c3b1);(try clear c3b2)
   obtain ⟨x5_1, rfl, HA, HK1, HB⟩ := hrel
   cases gk with | zero => exact absurd HA.out (by simp [r2_SameList.l0]) | succ k1 => ?_
   have H := HA.out
   clear HA
   simp only [r2_SameList.l0] at H
   replace H := zid H
   rcases H with ⟨c4b0, H⟩ | ⟨c4b0, H⟩
   · replace H := zgd H
     obtain ⟨c5b0, H⟩ := H
     replace H := zgd H
     obtain ⟨c6b0, H⟩ := H
     replace H := zb H
     obtain ⟨ta3, A7, H⟩ := H
     by_cases c8 : ta3 = true
     · subst c8
       rw [if_pos rfl] at H
       have H' := zk H
       clear H
       try go_wp2
       replace HB := zk (below_drew1 HB.out)
       have pa1 : 0 ≤ (x5_1 : Int) := zd
       have qa1 : x5_1 < (l0.length : Int) := zd
       obtain ⟨ada1, Aa1_1, ca1_1, Aa1_2, ca1_2, ea1, hxa1_0, hxa1_1, hxa1_2, hla1_1, hia1_1, hla1_2, hia1_2⟩ := at_T60 HR0.out x5_1 pa1 qa1
       have hw101_2 := hxa1_2
       have hw101_1 := hxa1_1
       have hw101_0 := hxa1_0
       cases ea1
       replace hxa1_0 := (HB.out.cell (World.block_lt_of_cell? w _ hxa1_0)).trans hxa1_0
       replace hxa1_1 := (HB.out.cell (World.block_lt_of_cell? w _ hxa1_1)).trans hxa1_1
       replace hxa1_2 := (HB.out.cell (World.block_lt_of_cell? w _ hxa1_2)).trans hxa1_2
       have HRa1_1 := zk hia1_1
       have HCa1_1 := zk hla1_1
       clear hia1_1 hla1_1
       have HRa1_2 := zk hia1_2
       have HCa1_2 := zk hla1_2
       clear hia1_2 hla1_2
       replace pa1 := eq_true pa1
       replace qa1 := eq_true qa1
       have pa2 : 0 ≤ (x5_1 : Int) := zd
       have qa2 : x5_1 < (l1.length : Int) := zd
       obtain ⟨ada2, Aa2_1, ca2_1, Aa2_2, ca2_2, ea2, hxa2_0, hxa2_1, hxa2_2, hla2_1, hia2_1, hla2_2, hia2_2⟩ := at_T60 HR1.out x5_1 pa2 qa2
       have hw102_2 := hxa2_2
       have hw102_1 := hxa2_1
       have hw102_0 := hxa2_0
       cases ea2
       replace hxa2_0 := (HB.out.cell (World.block_lt_of_cell? w _ hxa2_0)).trans hxa2_0
       replace hxa2_1 := (HB.out.cell (World.block_lt_of_cell? w _ hxa2_1)).trans hxa2_1
       replace hxa2_2 := (HB.out.cell (World.block_lt_of_cell? w _ hxa2_2)).trans hxa2_2
       have HRa2_1 := zk hia2_1
       have HCa2_1 := zk hla2_1
       clear hia2_1 hla2_1
       have HRa2_2 := zk hia2_2
       have HCa2_2 := zk hla2_2
       clear hia2_2 hla2_2
       replace pa2 := eq_true pa2
       replace qa2 := eq_true qa2
       refine start_ (n := 10) (S := fun w' => w'.cell? (ada1.add ((x5_1).toNat * 3)) = some (.bool ((rd_T60 l0 x5_1).f0)) ∧ w'.cell? ⟨(ada1.add ((x5_1).toNat * 3)).block, (ada1.add ((x5_1).toNat * 3)).off + 1, none⟩ = some (.slice Aa1_1 ((rd_T60 l0 x5_1).f1).length ca1_1) ∧ w'.cell? ⟨(ada1.add ((x5_1).toNat * 3)).block, (ada1.add ((x5_1).toNat * 3)).off + 2, none⟩ = some (.slice Aa1_2 ((rd_T60 l0 x5_1).f2).length ca1_2) ∧ w'.cell? (ada2.add ((x5_1).toNat * 3)) = some (.bool ((rd_T60 l1 x5_1).f0)) ∧ w'.cell? ⟨(ada2.add ((x5_1).toNat * 3)).block, (ada2.add ((x5_1).toNat * 3)).off + 1, none⟩ = some (.slice Aa2_1 ((rd_T60 l1 x5_1).f1).length ca2_1) ∧ w'.cell? ⟨(ada2.add ((x5_1).toNat * 3)).block, (ada2.add ((x5_1).toNat * 3)).off + 2, none⟩ = some (.slice Aa2_2 ((rd_T60 l1 x5_1).f2).length ca2_2)) (ds := []) #[false, false, false, false, false, false, false, false, false, false] (by kernel_rfl) rfl rfl ⟨((HB.out.cell (World.block_lt_of_cell? w _ hw101_0)).trans hw101_0), ((HB.out.cell (World.block_lt_of_cell? w _ hw101_1)).trans hw101_1), ((HB.out.cell (World.block_lt_of_cell? w _ hw101_2)).trans hw101_2), ((HB.out.cell (World.block_lt_of_cell? w _ hw102_0)).trans hw102_0), ((HB.out.cell (World.block_lt_of_cell? w _ hw102_1)).trans hw102_1), ((HB.out.cell (World.block_lt_of_cell? w _ hw102_2)).trans hw102_2)⟩ (fun hHeld => ?_); refine with_tabW r2_SameList.tab6 r2_SameList.bits6 (fun HT_ HW_ => ?_)
       generalize wr.drew = w9 at HB HRa1_1 HRa1_2 HRa2_1 HRa2_2 hxa1_0 hxa1_1 hxa1_2 hxa2_0 hxa2_1 hxa2_2 hHeld ⊢
       refine zp (i := 0) (N := some 17) HT_ ?_
       refine zp (i := 1) (N := some 18) HT_ ?_
       refine zp (i := 2) (N := some 19) HT_ ?_
       refine zp (i := 4) (N := some 21) HT_ ?_
       refine zp (i := 5) (N := some 22) HT_ ?_
       refine zp (i := 6) (N := some 23) HT_ ?_
       refine take_ (i := 3) (N := some 20) (v := ?_) (a' := ?_) #[true, true, true, true, true, true, true, false, false, false] rfl rfl (take_ofW HT_.out HW_.out (by kernel_rfl)) (fun _ _ _ h => h) (Or.inl ⟨by rfl, ?_⟩) hHeld ?_ ?_
       rotate_left
       · rintro w' ⟨s0, s1, s2, s3, s4, s5⟩
         go_simp
         with_reducible rfl
       rotate_left
       · simp only [Act.put, List.setIfInBounds_toArray, List.set_cons_zero, List.set_cons_succ, i64_w, i32_w]
         rfl
       refine take_ (i := 7) (N := some 24) (v := ?_) (a' := ?_) #[true, true, true, true, true, true, true, true, false, false] rfl rfl (take_ofW HT_.out HW_.out (by kernel_rfl)) (fun _ _ _ h => h) (Or.inl ⟨by rfl, ?_⟩) hHeld ?_ ?_
       rotate_left
       · rintro w' ⟨s0, s1, s2, s3, s4, s5⟩
         go_simp
         with_reducible rfl
       rotate_left
       · simp only [Act.put, List.setIfInBounds_toArray, List.set_cons_zero, List.set_cons_succ, i64_w, i32_w]
         rfl
       refine one_ (i := 8) (N := some 25) #[true, true, true, true, true, true, true, true, true, false] rfl rfl (one_of HT_.out (by kernel_rfl)) (by decide) (fun K hK => ?_)
       refine goes_ Try.func45 (by kernel_rfl) rfl #[.agg #[.bool ((rd_T60 l0 x5_1).f0), .slice Aa1_1 ((rd_T60 l0 x5_1).f1).length ca1_1, .slice Aa1_2 ((rd_T60 l0 x5_1).f2).length ca1_2], .agg #[.bool ((rd_T60 l1 x5_1).f0), .slice Aa2_1 ((rd_T60 l1 x5_1).f1).length ca2_1, .slice Aa2_2 ((rd_T60 l1 x5_1).f2).length ca2_2]] (by rfl) rfl rfl (by (try simp only [List.map_toArray, List.map_cons, List.map_nil]); first | done | rfl | (simp only [List.length_drop, List.length_take]; rfl)) ?_
       with_reducible refine (r2_Same.calls k1 ((rd_T60 l0 x5_1).f0) _ _ ((rd_T60 l0 x5_1).f1) _ _ ((rd_T60 l0 x5_1).f2) ((rd_T60 l1 x5_1).f0) _ _ ((rd_T60 l1 x5_1).f1) _ _ ((rd_T60 l1 x5_1).f2) true _ ?side1 ?side2 ?side3 ?side4 ?side5 ?side6 ?side7 ?side8 A7.out).mono ?_
       (case side1 => exact zC (Kd.C_below HRa1_1.out HB.out))
       (case side2 => exact HCa1_1.out)
       (case side3 => exact zC (Kd.C_below HRa1_2.out HB.out))
       (case side4 => exact HCa1_2.out)
       (case side5 => exact zC (Kd.C_below HRa2_1.out HB.out))
       (case side6 => exact HCa2_1.out)
       (case side7 => exact zC (Kd.C_below HRa2_2.out HB.out))
       (case side8 => exact HCa2_2.out)
       rintro e w10 ⟨rfl, hb⟩
       refine ⟨_, rfl, ?_⟩
       replace HB := yS HB hb
       (try clear hb)
       refine hK.out _ _ ⟨((HB.out.cell (World.block_lt_of_cell? w _ hw101_0)).trans hw101_0), ((HB.out.cell (World.block_lt_of_cell? w _ hw101_1)).trans hw101_1), ((HB.out.cell (World.block_lt_of_cell? w _ hw101_2)).trans hw101_2), ((HB.out.cell (World.block_lt_of_cell? w _ hw102_0)).trans hw102_0), ((HB.out.cell (World.block_lt_of_cell? w _ hw102_1)).trans hw102_1), ((HB.out.cell (World.block_lt_of_cell? w _ hw102_2)).trans hw102_2)⟩ (fun hHeld => ?_)
       clear hK K
       refine norm_ (a' := ?_) ?_ ?_
       rotate_left
       · show Act.put _ (some 25) _ = _
         simp only [Act.put, List.setIfInBounds_toArray, List.set_cons_zero, List.set_cons_succ, i64_w, i32_w]
         rfl
       refine zp (i := 9) (N := some 26) HT_ ?_
       refine done_ (done_of HT_.out (by kernel_rfl)) ?_
       try go_wp2
       go_roundg k1
       case measure => have := HK1.out; omega
       case rel => exact ⟨(wrap64 (x5_1 + 1)), zF, H', ⟨zo1 HK1⟩, ⟨zB HB.out⟩⟩
     replace c8 := Bool.eq_false_iff.mpr c8
     subst c8
     rw [if_neg Bool.false_ne_true] at H
     obtain rfl := Option.some.inj H
     try go_wp2
     replace HB := zk (below_drew1 HB.out)
     have pa1 : 0 ≤ (x5_1 : Int) := zd
     have qa1 : x5_1 < (l0.length : Int) := zd
     obtain ⟨ada1, Aa1_1, ca1_1, Aa1_2, ca1_2, ea1, hxa1_0, hxa1_1, hxa1_2, hla1_1, hia1_1, hla1_2, hia1_2⟩ := at_T60 HR0.out x5_1 pa1 qa1
     have hw101_2 := hxa1_2
     have hw101_1 := hxa1_1
     have hw101_0 := hxa1_0
     cases ea1
     replace hxa1_0 := (HB.out.cell (World.block_lt_of_cell? w _ hxa1_0)).trans hxa1_0
     replace hxa1_1 := (HB.out.cell (World.block_lt_of_cell? w _ hxa1_1)).trans hxa1_1
     replace hxa1_2 := (HB.out.cell (World.block_lt_of_cell? w _ hxa1_2)).trans hxa1_2
     have HRa1_1 := zk hia1_1
     have HCa1_1 := zk hla1_1
     clear hia1_1 hla1_1
     have HRa1_2 := zk hia1_2
     have HCa1_2 := zk hla1_2
     clear hia1_2 hla1_2
     replace pa1 := eq_true pa1
     replace qa1 := eq_true qa1
     have pa2 : 0 ≤ (x5_1 : Int) := zd
     have qa2 : x5_1 < (l1.length : Int) := zd
     obtain ⟨ada2, Aa2_1, ca2_1, Aa2_2, ca2_2, ea2, hxa2_0, hxa2_1, hxa2_2, hla2_1, hia2_1, hla2_2, hia2_2⟩ := at_T60 HR1.out x5_1 pa2 qa2
     have hw102_2 := hxa2_2
     have hw102_1 := hxa2_1
     have hw102_0 := hxa2_0
     cases ea2
     replace hxa2_0 := (HB.out.cell (World.block_lt_of_cell? w _ hxa2_0)).trans hxa2_0
     replace hxa2_1 := (HB.out.cell (World.block_lt_of_cell? w _ hxa2_1)).trans hxa2_1
     replace hxa2_2 := (HB.out.cell (World.block_lt_of_cell? w _ hxa2_2)).trans hxa2_2
     have HRa2_1 := zk hia2_1
     have HCa2_1 := zk hla2_1
     clear hia2_1 hla2_1
     have HRa2_2 := zk hia2_2
     have HCa2_2 := zk hla2_2
     clear hia2_2 hla2_2
     replace pa2 := eq_true pa2
     replace qa2 := eq_true qa2
     refine start_ (n := 10) (S := fun w' => w'.cell? (ada1.add ((x5_1).toNat * 3)) = some (.bool ((rd_T60 l0 x5_1).f0)) ∧ w'.cell? ⟨(ada1.add ((x5_1).toNat * 3)).block, (ada1.add ((x5_1).toNat * 3)).off + 1, none⟩ = some (.slice Aa1_1 ((rd_T60 l0 x5_1).f1).length ca1_1) ∧ w'.cell? ⟨(ada1.add ((x5_1).toNat * 3)).block, (ada1.add ((x5_1).toNat * 3)).off + 2, none⟩ = some (.slice Aa1_2 ((rd_T60 l0 x5_1).f2).length ca1_2) ∧ w'.cell? (ada2.add ((x5_1).toNat * 3)) = some (.bool ((rd_T60 l1 x5_1).f0)) ∧ w'.cell? ⟨(ada2.add ((x5_1).toNat * 3)).block, (ada2.add ((x5_1).toNat * 3)).off + 1, none⟩ = some (.slice Aa2_1 ((rd_T60 l1 x5_1).f1).length ca2_1) ∧ w'.cell? ⟨(ada2.add ((x5_1).toNat * 3)).block, (ada2.add ((x5_1).toNat * 3)).off + 2, none⟩ = some (.slice Aa2_2 ((rd_T60 l1 x5_1).f2).length ca2_2)) (ds := []) #[false, false, false, false, false, false, false, false, false, false] (by kernel_rfl) rfl rfl ⟨((HB.out.cell (World.block_lt_of_cell? w _ hw101_0)).trans hw101_0), ((HB.out.cell (World.block_lt_of_cell? w _ hw101_1)).trans hw101_1), ((HB.out.cell (World.block_lt_of_cell? w _ hw101_2)).trans hw101_2), ((HB.out.cell (World.block_lt_of_cell? w _ hw102_0)).trans hw102_0), ((HB.out.cell (World.block_lt_of_cell? w _ hw102_1)).trans hw102_1), ((HB.out.cell (World.block_lt_of_cell? w _ hw102_2)).trans hw102_2)⟩ (fun hHeld => ?_); refine with_tabW r2_SameList.tab6 r2_SameList.bits6 (fun HT_ HW_ => ?_)
     generalize wr.drew = w11 at HB HRa1_1 HRa1_2 HRa2_1 HRa2_2 hxa1_0 hxa1_1 hxa1_2 hxa2_0 hxa2_1 hxa2_2 hHeld ⊢
     refine zp (i := 0) (N := some 17) HT_ ?_
     refine zp (i := 1) (N := some 18) HT_ ?_
     refine zp (i := 2) (N := some 19) HT_ ?_
     refine zp (i := 4) (N := some 21) HT_ ?_
     refine zp (i := 5) (N := some 22) HT_ ?_
     refine zp (i := 6) (N := some 23) HT_ ?_
     refine take_ (i := 3) (N := some 20) (v := ?_) (a' := ?_) #[true, true, true, true, true, true, true, false, false, false] rfl rfl (take_ofW HT_.out HW_.out (by kernel_rfl)) (fun _ _ _ h => h) (Or.inl ⟨by rfl, ?_⟩) hHeld ?_ ?_
     rotate_left
     · rintro w' ⟨s0, s1, s2, s3, s4, s5⟩
       go_simp
       with_reducible rfl
     rotate_left
     · simp only [Act.put, List.setIfInBounds_toArray, List.set_cons_zero, List.set_cons_succ, i64_w, i32_w]
       rfl
     refine take_ (i := 7) (N := some 24) (v := ?_) (a' := ?_) #[true, true, true, true, true, true, true, true, false, false] rfl rfl (take_ofW HT_.out HW_.out (by kernel_rfl)) (fun _ _ _ h => h) (Or.inl ⟨by rfl, ?_⟩) hHeld ?_ ?_
     rotate_left
     · rintro w' ⟨s0, s1, s2, s3, s4, s5⟩
       go_simp
       with_reducible rfl
     rotate_left
     · simp only [Act.put, List.setIfInBounds_toArray, List.set_cons_zero, List.set_cons_succ, i64_w, i32_w]
       rfl
     refine one_ (i := 8) (N := some 25) #[true, true, true, true, true, true, true, true, true, false] rfl rfl (one_of HT_.out (by kernel_rfl)) (by decide) (fun K hK => ?_)
     refine goes_ Try.func45 (by kernel_rfl) rfl #[.agg #[.bool ((rd_T60 l0 x5_1).f0), .slice Aa1_1 ((rd_T60 l0 x5_1).f1).length ca1_1, .slice Aa1_2 ((rd_T60 l0 x5_1).f2).length ca1_2], .agg #[.bool ((rd_T60 l1 x5_1).f0), .slice Aa2_1 ((rd_T60 l1 x5_1).f1).length ca2_1, .slice Aa2_2 ((rd_T60 l1 x5_1).f2).length ca2_2]] (by rfl) rfl rfl (by (try simp only [List.map_toArray, List.map_cons, List.map_nil]); first | done | rfl | (simp only [List.length_drop, List.length_take]; rfl)) ?_
     with_reducible refine (r2_Same.calls k1 ((rd_T60 l0 x5_1).f0) _ _ ((rd_T60 l0 x5_1).f1) _ _ ((rd_T60 l0 x5_1).f2) ((rd_T60 l1 x5_1).f0) _ _ ((rd_T60 l1 x5_1).f1) _ _ ((rd_T60 l1 x5_1).f2) false _ ?side1 ?side2 ?side3 ?side4 ?side5 ?side6 ?side7 ?side8 A7.out).mono ?_
     (case side1 => exact zC (Kd.C_below HRa1_1.out HB.out))
     (case side2 => exact HCa1_1.out)
     (case side3 => exact zC (Kd.C_below HRa1_2.out HB.out))
     (case side4 => exact HCa1_2.out)
     (case side5 => exact zC (Kd.C_below HRa2_1.out HB.out))
     (case side6 => exact HCa2_1.out)
     (case side7 => exact zC (Kd.C_below HRa2_2.out HB.out))
     (case side8 => exact HCa2_2.out)
     rintro e w12 ⟨rfl, hb⟩
     refine ⟨_, rfl, ?_⟩
     replace HB := yS HB hb
     (try clear hb)
     refine hK.out _ _ ⟨((HB.out.cell (World.block_lt_of_cell? w _ hw101_0)).trans hw101_0), ((HB.out.cell (World.block_lt_of_cell? w _ hw101_1)).trans hw101_1), ((HB.out.cell (World.block_lt_of_cell? w _ hw101_2)).trans hw101_2), ((HB.out.cell (World.block_lt_of_cell? w _ hw102_0)).trans hw102_0), ((HB.out.cell (World.block_lt_of_cell? w _ hw102_1)).trans hw102_1), ((HB.out.cell (World.block_lt_of_cell? w _ hw102_2)).trans hw102_2)⟩ (fun hHeld => ?_)
     clear hK K
     refine norm_ (a' := ?_) ?_ ?_
     rotate_left
     · show Act.put _ (some 25) _ = _
       simp only [Act.put, List.setIfInBounds_toArray, List.set_cons_zero, List.set_cons_succ, i64_w, i32_w]
       rfl
     refine zp (i := 9) (N := some 26) HT_ ?_
     refine done_ (done_of HT_.out (by kernel_rfl)) ?_
     try go_wp2
     go_ret
     exact ⟨zE, zB HB.out⟩
   obtain rfl := Option.some.inj H
   go_wp2
   go_ret
   exact ⟨zE, zB HB.out⟩
 have c3b0 := beq_eq_false_iff_ne.mpr c3
 have c3b1 := bne_iff_ne.mpr c3
 have c3b2 : (l0.length == l1.length) = false := by first | simpa using c3 | (simp at c3 ⊢; omega)
 obtain rfl := Option.some.inj H
 go_enter Try.func65, Try.ntmps65
 go_wp2
 go_ret
 exact ⟨zE, zB HB.out⟩
set_option maxHeartbeats 8000000 in
set_option maxRecDepth 100000 in
theorem w24_MacwilliamsTransforms.calls (k : Nat) (a0 : Int) (A1 : Option Addr) (c1 : Nat) (l1 : List (S60)) (r : Bool) (w : World) (hr1 : Kd.C k60 w A1 l1.length l1) (hc1 : l1.length ≤ c1) (h : w24_MacwilliamsTransforms.f k a0 l1 = some r) :
    Calls Try.prog 17 #[.int .i64 a0, .slice A1 l1.length c1] w fun e w' => e = .returned (.bool r) ∧ Below w.heap.size w w' := by
 have HR1 := zk hr1
 have HC1 := zk hc1
 clear hr1 hc1
 have HB := zk (Below.refl w.heap.size w)
 have H := h
 clear h
 unfold w24_MacwilliamsTransforms.f at H
 replace H := zb H
 obtain ⟨ta1, A3, H⟩ := H
 by_cases c4 : ta1 = true
 · subst c4
   rw [if_pos rfl] at H
   obtain rfl := Option.some.inj H
   go_enter Try.func17, Try.ntmps17
   go_wp2_with (first | ((with_reducible refine gC 63 ?_); refine zG (some 8) Try.func63 #[.int .i64 4, .slice A1 l1.length c1] ?_; (with_reducible refine (w24_large.calls k 4 _ _ l1 true _ ?side1 ?side2 A3.out).mono ?_); (case side1 => exact zC HR1.out); (case side2 => exact HC1.out); rintro e w' ⟨rfl, ⟨nd, rfl⟩⟩; refine ⟨_, rfl, ?_⟩))
   go_ret
   exact ⟨zE, zB HB.out⟩
 replace c4 := Bool.eq_false_iff.mpr c4
 subst c4
 rw [if_neg Bool.false_ne_true] at H
 have HC5 := zk H
 clear H
 go_enter Try.func17, Try.ntmps17
 go_upto_region 3 with (first | ((with_reducible refine gC 63 ?_); refine zG (some 8) Try.func63 #[.int .i64 4, .slice A1 l1.length c1] ?_; (with_reducible refine (w24_large.calls k 4 _ _ l1 false _ ?side1 ?side2 A3.out).mono ?_); (case side1 => exact zC HR1.out); (case side2 => exact HC1.out); rintro e w' ⟨rfl, ⟨nd, rfl⟩⟩; refine ⟨_, rfl, ?_⟩))
 (try simp only [Act.put, List.setIfInBounds_toArray, List.set_cons_zero, List.set_cons_succ])
 go_cut [16] (fun v16 wc => ∃ (kq : Nat) (x16_4 : Bool), v16 = .bool x16_4 ∧ Aside0 (w24_MacwilliamsTransforms.j0 kq a0 l1 x16_4 = some r) ∧ Aside0 (kq ≤ k) ∧ Aside0 (Below w.heap.size w wc))
 case first =>
  have H := HC5.out
  clear HC5
  replace H := zi H
  rcases H with ⟨c6, H⟩ | ⟨c6, H⟩
  · have c6b0 : decide (20 < (l1.length : Int)) = true := decide_eq_true c6
    have c6b1 : decide (20 < l1.length) = true := decide_eq_true (by omega)
    clear c6
    (first | rw [c6b0] | (simp only [i64_w, i32_w]; rw [c6b0]) | rw [c6b1] | skip)
    have H' := zk H
    clear H
    go_wp2
    go_meet
    case rel => exact ⟨_, (decide ((l1.length : Int) ≤ 65)), zF, H', ⟨zO⟩, ⟨zB HB.out⟩⟩
  have c6b0 : decide (20 < (l1.length : Int)) = false := decide_eq_false c6
  have c6b1 : decide (20 < l1.length) = false := decide_eq_false (by omega)
  clear c6
  (first | rw [c6b0] | (simp only [i64_w, i32_w]; rw [c6b0]) | rw [c6b1] | skip)
  have H' := zk H
  clear H
  go_wp2
  go_meet
  case rel => exact ⟨_, (false), zF, H', ⟨zO⟩, ⟨zB HB.out⟩⟩
 clear HC5
 (try clear c4);(try clear c6);(try clear c6b0);(try clear c6b1)
 obtain ⟨kq, x16_4, rfl, HA, HJ4, HB⟩ := hcut
 cases kq with | zero => exact absurd HA.out (by simp [w24_MacwilliamsTransforms.j0]) | succ kj4 => ?_
 have H := HA.out
 clear HA
 simp only [w24_MacwilliamsTransforms.j0] at H
 by_cases c7 : x16_4 = true
 · subst c7
   rw [if_pos rfl] at H
   obtain rfl := Option.some.inj H
   go_wp2
   go_ret
   exact ⟨zE, zB HB.out⟩
 replace c7 := Bool.eq_false_iff.mpr c7
 subst c7
 rw [if_neg Bool.false_ne_true] at H
 replace H := zb H
 obtain ⟨⟨ta2, ta5⟩, A8, H⟩ := H
 dsimp only at H
 replace H := zb H
 obtain ⟨ta6, A9, H⟩ := H
 replace H := zi H
 rcases H with ⟨c10, H⟩ | ⟨c10, H⟩
 · have c10b0 := beq_iff_eq.mpr c10
   have c10b1 := bne_eq_false_iff_eq.mpr c10
   clear c10
   replace H := zb H
   obtain ⟨ta7, A11, H⟩ := H
   replace H := zi H
   rcases H with ⟨c12, H⟩ | ⟨c12, H⟩
   · have c12b0 := beq_iff_eq.mpr c12
     have c12b1 := bne_eq_false_iff_eq.mpr c12
     clear c12
     replace H := zi H
     rcases H with ⟨c13, H⟩ | ⟨c13, H⟩
     · have c13b0 := beq_iff_eq.mpr c13
       have c13b1 := bne_eq_false_iff_eq.mpr c13
       clear c13
       replace H := zb H
       obtain ⟨ta8, A14, H⟩ := H
       replace H := zb H
       obtain ⟨tb1, A15, H⟩ := H
       obtain rfl := Option.some.inj H
       go_wp2_with (first | ((with_reducible refine gC 64 ?_); refine zG (some 20) Try.func64 #[.int .i64 a0, .slice A1 l1.length c1] ?_; (with_reducible refine (mw_Transform.calls kj4 a0 (fun k_ => k_ < w.heap.size) _ _ l1 ta2 ta5 _ ?side1 A8.out).mono ?_); (case side1 => exact Kd.V_mk HC1.out (Kd.F_below (Kd.C_F k60_heap HR1.out) (zB HB.out))); rintro e w16 ⟨va3, rfl, ho0, hb⟩; refine ⟨_, rfl, ?_⟩; have HOa4 := zk (Kd.N_lower (Kd.N_mono (ok' := fun k_ => True) ho0 (fun k_ hk_ => trivial)) (below_size (zB HB.out))); replace HB := yS HB hb; (try clear hb ho0)) | ((with_reducible refine gC 43 ?_); refine zG (some 24) Try.func43 #[.int .i64 a0] ?_; (with_reducible refine (r24_Order.calls a0 ta6 _ A9.out).mono ?_); rintro e w' ⟨rfl, ⟨nd, rfl⟩⟩; refine ⟨_, rfl, ?_⟩) | ((with_reducible refine gC 35 ?_); refine zG (some 35) Try.func35 #[.int .i64 (l1.length : Int)] ?_; (with_reducible refine (r24_Shape.calls (l1.length : Int) ta7 _ A11.out).mono ?_); rintro e w' ⟨rfl, ⟨nd, rfl⟩⟩; refine ⟨_, rfl, ?_⟩) | (go_at_call 66; (with_reducible refine (r24_Transform.calls kj4 a0 _ _ l1 ta8 _ ?side1 ?side2 A14.out).mono ?_); (case side1 => exact zC (Kd.C_below HR1.out (zB HB.out))); (case side2 => exact HC1.out); rintro e w17 ⟨va9, rfl, ho0, hb⟩; have HOb0 := zk (Kd.N_lower (Kd.N_mono (ok' := fun k_ => some k_ ≠ (va3 : Value).ownBlock) (Kd.S_N (Kd.S_bound ho0)) (fun k_ hk_ => (Kd.fresh' (Kd.N_lt (zN HOa4.out)) k_ hk_.2.1))) (below_size (zB HB.out))); replace HOa4 := zk (Kd.N_elder' (zN HOa4.out) (Kd.S_base ho0) hb); replace HB := yS HB hb; (try clear hb ho0); obtain ⟨Ao18, co18, rfl⟩ := Kd.N_slice HOa4.out; obtain ⟨Ao19, co19, rfl⟩ := Kd.N_slice HOb0.out) | (go_at_call 65; (with_reducible refine (r2_SameList.calls kj4 _ _ ta2 _ _ ta8 tb1 _ ?side1 ?side2 ?side3 ?side4 A15.out).mono ?_); (case side1 => exact zC (Kd.N_reads' HOa4.out).2.2); (case side2 => exact (Kd.N_reads' HOa4.out).2.1); (case side3 => exact zC (Kd.N_reads' HOb0.out).2.2); (case side4 => exact (Kd.N_reads' HOb0.out).2.1); rintro e w20 ⟨rfl, hb⟩; replace HOa4 := yNb HOa4 hb; replace HOb0 := yNb HOb0 hb; replace HB := yS HB hb; (try clear hb); (try clear hb2); (try clear hk); (try clear hi)))
       go_ret
       exact ⟨zE, zB HB.out⟩
     have c13b0 := beq_eq_false_iff_ne.mpr c13
     have c13b1 := bne_iff_ne.mpr c13
     obtain rfl := Option.some.inj H
     go_wp2_with (first | ((with_reducible refine gC 64 ?_); refine zG (some 20) Try.func64 #[.int .i64 a0, .slice A1 l1.length c1] ?_; (with_reducible refine (mw_Transform.calls kj4 a0 (fun k_ => k_ < w.heap.size) _ _ l1 ta2 ta5 _ ?side1 A8.out).mono ?_); (case side1 => exact Kd.V_mk HC1.out (Kd.F_below (Kd.C_F k60_heap HR1.out) (zB HB.out))); rintro e w21 ⟨va3, rfl, ho0, hb⟩; refine ⟨_, rfl, ?_⟩; have HOa4 := zk (Kd.N_lower (Kd.N_mono (ok' := fun k_ => True) ho0 (fun k_ hk_ => trivial)) (below_size (zB HB.out))); replace HB := yS HB hb; (try clear hb ho0)) | ((with_reducible refine gC 43 ?_); refine zG (some 24) Try.func43 #[.int .i64 a0] ?_; (with_reducible refine (r24_Order.calls a0 ta6 _ A9.out).mono ?_); rintro e w' ⟨rfl, ⟨nd, rfl⟩⟩; refine ⟨_, rfl, ?_⟩) | ((with_reducible refine gC 35 ?_); refine zG (some 35) Try.func35 #[.int .i64 (l1.length : Int)] ?_; (with_reducible refine (r24_Shape.calls (l1.length : Int) ta7 _ A11.out).mono ?_); rintro e w' ⟨rfl, ⟨nd, rfl⟩⟩; refine ⟨_, rfl, ?_⟩))
     go_ret
     exact ⟨zE, zB HB.out⟩
   have c12b0 := beq_eq_false_iff_ne.mpr c12
   have c12b1 := bne_iff_ne.mpr c12
   replace H := zi H
   rcases H with ⟨c22, H⟩ | ⟨c22, H⟩
   · have c22b0 := beq_iff_eq.mpr c22
     have c22b1 := bne_eq_false_iff_eq.mpr c22
     clear c22
     obtain rfl := Option.some.inj H
     go_wp2_with (first | ((with_reducible refine gC 64 ?_); refine zG (some 20) Try.func64 #[.int .i64 a0, .slice A1 l1.length c1] ?_; (with_reducible refine (mw_Transform.calls kj4 a0 (fun k_ => k_ < w.heap.size) _ _ l1 ta2 ta5 _ ?side1 A8.out).mono ?_); (case side1 => exact Kd.V_mk HC1.out (Kd.F_below (Kd.C_F k60_heap HR1.out) (zB HB.out))); rintro e w23 ⟨va3, rfl, ho0, hb⟩; refine ⟨_, rfl, ?_⟩; have HOa4 := zk (Kd.N_lower (Kd.N_mono (ok' := fun k_ => True) ho0 (fun k_ hk_ => trivial)) (below_size (zB HB.out))); replace HB := yS HB hb; (try clear hb ho0)) | ((with_reducible refine gC 43 ?_); refine zG (some 24) Try.func43 #[.int .i64 a0] ?_; (with_reducible refine (r24_Order.calls a0 ta6 _ A9.out).mono ?_); rintro e w' ⟨rfl, ⟨nd, rfl⟩⟩; refine ⟨_, rfl, ?_⟩) | ((with_reducible refine gC 35 ?_); refine zG (some 35) Try.func35 #[.int .i64 (l1.length : Int)] ?_; (with_reducible refine (r24_Shape.calls (l1.length : Int) ta7 _ A11.out).mono ?_); rintro e w' ⟨rfl, ⟨nd, rfl⟩⟩; refine ⟨_, rfl, ?_⟩; obtain ⟨Ao24, co24, rfl⟩ := Kd.N_slice HOa4.out))
     go_ret
     exact ⟨zE, zB HB.out⟩
   have c22b0 := beq_eq_false_iff_ne.mpr c22
   have c22b1 := bne_iff_ne.mpr c22
   obtain rfl := Option.some.inj H
   go_wp2_with (first | ((with_reducible refine gC 64 ?_); refine zG (some 20) Try.func64 #[.int .i64 a0, .slice A1 l1.length c1] ?_; (with_reducible refine (mw_Transform.calls kj4 a0 (fun k_ => k_ < w.heap.size) _ _ l1 ta2 ta5 _ ?side1 A8.out).mono ?_); (case side1 => exact Kd.V_mk HC1.out (Kd.F_below (Kd.C_F k60_heap HR1.out) (zB HB.out))); rintro e w25 ⟨va3, rfl, ho0, hb⟩; refine ⟨_, rfl, ?_⟩; have HOa4 := zk (Kd.N_lower (Kd.N_mono (ok' := fun k_ => True) ho0 (fun k_ hk_ => trivial)) (below_size (zB HB.out))); replace HB := yS HB hb; (try clear hb ho0)) | ((with_reducible refine gC 43 ?_); refine zG (some 24) Try.func43 #[.int .i64 a0] ?_; (with_reducible refine (r24_Order.calls a0 ta6 _ A9.out).mono ?_); rintro e w' ⟨rfl, ⟨nd, rfl⟩⟩; refine ⟨_, rfl, ?_⟩) | ((with_reducible refine gC 35 ?_); refine zG (some 35) Try.func35 #[.int .i64 (l1.length : Int)] ?_; (with_reducible refine (r24_Shape.calls (l1.length : Int) ta7 _ A11.out).mono ?_); rintro e w' ⟨rfl, ⟨nd, rfl⟩⟩; refine ⟨_, rfl, ?_⟩))
   go_ret
   exact ⟨zE, zB HB.out⟩
 have c10b0 := beq_eq_false_iff_ne.mpr c10
 have c10b1 := bne_iff_ne.mpr c10
 replace H := zi H
 rcases H with ⟨c26, H⟩ | ⟨c26, H⟩
 · have c26b0 := beq_iff_eq.mpr c26
   have c26b1 := bne_eq_false_iff_eq.mpr c26
   clear c26
   obtain rfl := Option.some.inj H
   go_wp2_with (first | ((with_reducible refine gC 64 ?_); refine zG (some 20) Try.func64 #[.int .i64 a0, .slice A1 l1.length c1] ?_; (with_reducible refine (mw_Transform.calls kj4 a0 (fun k_ => k_ < w.heap.size) _ _ l1 ta2 ta5 _ ?side1 A8.out).mono ?_); (case side1 => exact Kd.V_mk HC1.out (Kd.F_below (Kd.C_F k60_heap HR1.out) (zB HB.out))); rintro e w27 ⟨va3, rfl, ho0, hb⟩; refine ⟨_, rfl, ?_⟩; have HOa4 := zk (Kd.N_lower (Kd.N_mono (ok' := fun k_ => True) ho0 (fun k_ hk_ => trivial)) (below_size (zB HB.out))); replace HB := yS HB hb; (try clear hb ho0)) | ((with_reducible refine gC 43 ?_); refine zG (some 24) Try.func43 #[.int .i64 a0] ?_; (with_reducible refine (r24_Order.calls a0 ta6 _ A9.out).mono ?_); rintro e w' ⟨rfl, ⟨nd, rfl⟩⟩; refine ⟨_, rfl, ?_⟩; obtain ⟨Ao28, co28, rfl⟩ := Kd.N_slice HOa4.out))
   go_ret
   exact ⟨zE, zB HB.out⟩
 have c26b0 := beq_eq_false_iff_ne.mpr c26
 have c26b1 := bne_iff_ne.mpr c26
 obtain rfl := Option.some.inj H
 go_wp2_with (first | ((with_reducible refine gC 64 ?_); refine zG (some 20) Try.func64 #[.int .i64 a0, .slice A1 l1.length c1] ?_; (with_reducible refine (mw_Transform.calls kj4 a0 (fun k_ => k_ < w.heap.size) _ _ l1 ta2 ta5 _ ?side1 A8.out).mono ?_); (case side1 => exact Kd.V_mk HC1.out (Kd.F_below (Kd.C_F k60_heap HR1.out) (zB HB.out))); rintro e w29 ⟨va3, rfl, ho0, hb⟩; refine ⟨_, rfl, ?_⟩; have HOa4 := zk (Kd.N_lower (Kd.N_mono (ok' := fun k_ => True) ho0 (fun k_ hk_ => trivial)) (below_size (zB HB.out))); replace HB := yS HB hb; (try clear hb ho0)) | ((with_reducible refine gC 43 ?_); refine zG (some 24) Try.func43 #[.int .i64 a0] ?_; (with_reducible refine (r24_Order.calls a0 ta6 _ A9.out).mono ?_); rintro e w' ⟨rfl, ⟨nd, rfl⟩⟩; refine ⟨_, rfl, ?_⟩))
 go_ret
 exact ⟨zE, zB HB.out⟩
end Go.Proofs.Ytifkbghnmhineaa.PAll
section
set_option linter.unusedVariables false
set_option linter.unusedSimpArgs false
namespace Mw
open Go Go.RowKit Go.Proofs.YtifkbghnmhineaaW.PrintWords
def Ev {α : Type} (g : Nat → Option α) (r : α) : Prop := ∃ K, ∀ k, K ≤ k → g k = some r
theorem Ev.of {α : Type} {g : Nat → Option α} {r : α} (h : ∀ k, g k = some r) : Ev g r := ⟨0, fun k _ => h k⟩
theorem Ev.some {α : Type} (r : α) : Ev (fun _ => some r) r := ⟨0, fun _ _ => rfl⟩
theorem Ev.succ {α : Type} {g : Nat → Option α} {r : α} (h : Ev (fun k => g (k + 1)) r) : Ev g r := by
  obtain ⟨K, h⟩ := h
  refine ⟨K + 1, fun k hk => ?_⟩
  obtain ⟨m, rfl⟩ : ∃ m, k = m + 1 := ⟨k - 1, by omega⟩
  exact h m (by omega)
theorem Ev.bind {α β : Type} {g : Nat → Option α} {f : Nat → α → Option β} {a : α} {r : β} (hg : Ev g a) (hf : Ev (fun k => f k a) r) : Ev (fun k => (g k).bind (f k)) r := by
  obtain ⟨K, hg⟩ := hg
  obtain ⟨L, hf⟩ := hf
  refine ⟨K + L, fun k hk => ?_⟩
  show (g k).bind (f k) = _
  rw [hg k (by omega)]
  exact hf k (by omega)
theorem Ev.cast {α : Type} {g : Nat → Option α} {r s : α} (h : Ev g r) (e : r = s) : Ev g s := e ▸ h
theorem Ev.get {α : Type} {g : Nat → Option α} {r : α} (h : Ev g r) : ∃ k, g k = Option.some r := by
  obtain ⟨K, h⟩ := h
  exact ⟨K, h K (Nat.le_refl K)⟩
theorem w64 {x : Int} (h0 : -9223372036854775808 ≤ x) (h1 : x ≤ 9223372036854775807) : wrap64 x = x := by unfold wrap64; omega
theorem wn {x : Int} {n : Nat} (h : x = (n : Int)) (hn : n < 9223372036854775808) : wrap64 x = (n : Int) := by subst h; exact w64 (by omega) (by omega)
theorem u64w {x : Int} (h0 : 0 ≤ x) (h1 : x < 18446744073709551616) : IntKind.u64.wrap x = x := by
  simp [IntKind.wrap, IntKind.bits, IntKind.signed]; omega
theorem u64m (x : Int) : IntKind.u64.wrap x = x % 18446744073709551616 := by
  simp [IntKind.wrap, IntKind.bits, IntKind.signed]
def bp : Nat → Nat
  | 0 => 1
  | n + 1 => 4294967296 * bp n
theorem bp_pos : ∀ n, 0 < bp n
  | 0 => by decide
  | n + 1 => by have := bp_pos n; simp only [bp]; omega
theorem bp_mono : ∀ {m n : Nat}, m ≤ n → bp m ≤ bp n := by
  intro m n h
  induction n with
  | zero => have : m = 0 := by omega
            subst this; exact Nat.le_refl _
  | succ n ih =>
    by_cases e : m = n + 1
    · subst e; exact Nat.le_refl _
    · have := ih (by omega); simp only [bp]; omega
theorem bp_add : ∀ (m n : Nat), bp (m + n) = bp m * bp n
  | m, 0 => by simp [bp]
  | m, n + 1 => by rw [← Nat.add_assoc, bp, bp, bp_add m n, Nat.mul_left_comm]
def lv : List Int → Int
  | [] => 0
  | a :: l => a + 4294967296 * lv l
def Lm (l : List Int) : Prop := ∀ x ∈ l, 0 ≤ x ∧ x < 4294967296
def dg (n : Nat) : List Int := if n = 0 then [] else ((n % 4294967296 : Nat) : Int) :: dg (n / 4294967296)
termination_by n
decreasing_by omega
theorem dg_zero : dg 0 = [] := by rw [dg]; rfl
theorem dg_pos {n : Nat} (h : n ≠ 0) : dg n = ((n % 4294967296 : Nat) : Int) :: dg (n / 4294967296) := by rw [dg, if_neg h]
theorem lv_dg : ∀ n : Nat, lv (dg n) = n := by
  intro n
  induction n using Nat.strongRecOn with
  | _ n ih =>
    by_cases h : n = 0
    · subst h; rw [dg_zero]; rfl
    · rw [dg_pos h, lv, ih _ (by omega)]; omega
theorem lm_nil : Lm [] := by intro x hx; simp at hx
theorem lm_cons {a : Int} {l : List Int} : Lm (a :: l) ↔ (0 ≤ a ∧ a < 4294967296) ∧ Lm l := by
  constructor
  · intro h; exact ⟨h a (by simp), fun x hx => h x (by simp [hx])⟩
  · intro h x hx
    exact (List.mem_cons.mp hx).elim (fun e => e ▸ h.1) (fun e => h.2 x e)
theorem lm_dg : ∀ n : Nat, Lm (dg n) := by
  intro n
  induction n using Nat.strongRecOn with
  | _ n ih =>
    by_cases h : n = 0
    · subst h; rw [dg_zero]; exact lm_nil
    · rw [dg_pos h, lm_cons]; exact ⟨by omega, ih _ (by omega)⟩
theorem lv_nonneg : ∀ {l : List Int}, Lm l → 0 ≤ lv l
  | [], _ => Int.le_refl 0
  | a :: l, h => by have := lv_nonneg (lm_cons.mp h).2; have := (lm_cons.mp h).1; simp only [lv]; omega
theorem lv_lt : ∀ {l : List Int}, Lm l → lv l < bp l.length
  | [], _ => by simp [lv, bp]
  | a :: l, h => by
    have h1 := lv_lt (lm_cons.mp h).2
    have h2 := (lm_cons.mp h).1
    simp only [lv, List.length_cons, bp]
    omega
theorem lv_append : ∀ (l m : List Int), lv (l ++ m) = lv l + (bp l.length : Int) * lv m
  | [], m => by simp [lv, bp]
  | a :: l, m => by
    simp only [List.cons_append, lv, List.length_cons, bp, Int.natCast_mul]
    rw [lv_append l m, Int.mul_add, Int.mul_assoc]
    omega
theorem lv_rep : ∀ n : Nat, lv (List.replicate n 0) = 0
  | 0 => rfl
  | n + 1 => by rw [List.replicate_succ, lv, lv_rep n]; rfl
theorem lm_rep (n : Nat) : Lm (List.replicate n 0) := by
  intro x hx; rw [(List.mem_replicate.mp hx).2]; omega
theorem dg_lv : ∀ {l : List Int}, Lm l → (∀ h : l ≠ [], l.getLast h ≠ 0) → dg (lv l).toNat = l
  | [], _, _ => by simp only [lv]; exact dg_zero
  | a :: l, h, hl => by
    have h1 := lm_cons.mp h
    have h0 := lv_nonneg h1.2
    have ih : l ≠ [] → dg (lv l).toNat = l := fun hne => dg_lv h1.2 (fun hh => by
      have := hl (by simp)
      rwa [List.getLast_cons hh] at this)
    by_cases hne : l = []
    · subst hne
      have ha := hl (by simp)
      simp only [List.getLast_singleton] at ha
      simp only [lv]
      rw [dg_pos (by omega), show (a + 4294967296 * 0).toNat / 4294967296 = 0 by omega, dg_zero]
      congr 1
      omega
    · have ih := ih hne
      have hpos : lv l ≠ 0 := by
        intro e
        rw [e] at ih
        rw [show (0 : Int).toNat = 0 from rfl, dg_zero] at ih
        exact hne ih.symm
      simp only [lv]
      rw [dg_pos (by omega), show (a + 4294967296 * lv l).toNat / 4294967296 = (lv l).toNat by omega, ih]
      congr 1
      omega
theorem dg_last : ∀ (n : Nat) (h : dg n ≠ []), (dg n).getLast h ≠ 0 := by
  intro n
  induction n using Nat.strongRecOn with
  | _ n ih =>
    intro h
    by_cases h0 : n = 0
    · subst h0; exact absurd dg_zero h
    · have e := dg_pos h0
      by_cases hd : n / 4294967296 = 0
      · rw [hd, dg_zero] at e
        simp only [e, List.getLast_singleton]
        omega
      · have hne : dg (n / 4294967296) ≠ [] := by rw [dg_pos hd]; simp
        have := ih (n / 4294967296) (by omega) hne
        simp only [e]
        rw [List.getLast_cons hne]
        exact this
theorem dg_inj {m n : Nat} (h : dg m = dg n) : m = n := by
  have := lv_dg m
  rw [h, lv_dg] at this
  omega
theorem dg_len_le {n m : Nat} (h : n < bp m) : (dg n).length ≤ m := by
  induction m generalizing n with
  | zero => have : n = 0 := by simp only [bp] at h; omega
            subst this; rw [dg_zero]; simp
  | succ m ih =>
    by_cases h0 : n = 0
    · subst h0; rw [dg_zero]; simp
    · rw [dg_pos h0, List.length_cons]
      have := ih (n := n / 4294967296) (by simp only [bp] at h; omega)
      omega
theorem dg_lt_len (n : Nat) : n < bp (dg n).length := by
  have h := lv_lt (lm_dg n)
  rw [lv_dg] at h
  omega
theorem dg_len_zero {n : Nat} : (dg n).length = 0 ↔ n = 0 := by
  constructor
  · intro h
    by_cases h0 : n = 0
    · exact h0
    · rw [dg_pos h0] at h; simp at h
  · intro h; subst h; rw [dg_zero]; rfl
theorem dg_len_mono {m n : Nat} (h : m ≤ n) : (dg m).length ≤ (dg n).length := dg_len_le (Nat.lt_of_le_of_lt h (dg_lt_len n))
theorem dg_small {n : Nat} (h0 : n ≠ 0) (h : n < 4294967296) : dg n = [(n : Int)] := by
  rw [dg_pos h0, show n / 4294967296 = 0 by omega, dg_zero, show n % 4294967296 = n by omega]
theorem dg_one : dg 1 = [1] := dg_small (by decide) (by decide)
theorem lv_le_of_len {l : List Int} (h : Lm l) {m : Nat} (hm : l.length ≤ m) : (lv l).toNat < bp m := by
  have h1 := lv_lt h
  have h2 := bp_mono hm
  have h3 := lv_nonneg h
  omega
theorem rd_lt {l : List Int} {i : Nat} (h : i < l.length) : rd l (i : Int) = l[i] := by
  unfold rd
  simp [List.getD_eq_getElem?_getD, h]
theorem rd_ge {l : List Int} {i : Nat} (h : l.length ≤ i) : rd l (i : Int) = 0 := by
  unfold rd
  simp [List.getD_eq_getElem?_getD, h]
theorem rd_lm {l : List Int} (hl : Lm l) (i : Int) : 0 ≤ rd l i ∧ rd l i < 4294967296 := by
  unfold rd
  rw [List.getD_eq_getElem?_getD]
  by_cases h : i.toNat < l.length
  · rw [List.getElem?_eq_getElem h]
    exact hl _ (List.getElem_mem h)
  · rw [List.getElem?_eq_none (by omega)]; simp
theorem take_succ_rd {l : List Int} {i : Nat} (h : i < l.length) : l.take (i + 1) = l.take i ++ [rd l (i : Int)] := by
  rw [List.take_succ_eq_append_getElem h, rd_lt h]
theorem lv_take_succ {l : List Int} {i : Nat} (h : i < l.length) : lv (l.take (i + 1)) = lv (l.take i) + (bp i : Int) * rd l (i : Int) := by
  rw [take_succ_rd h, lv_append, List.length_take, Nat.min_eq_left (by omega)]
  simp [lv]
theorem lv_set : ∀ {l : List Int} {i : Nat} (v : Int), i < l.length → lv (l.set i v) = lv l + (bp i : Int) * (v - rd l (i : Int))
  | [], i, v, h => by simp at h
  | a :: l, 0, v, _ => by
    rw [show ((0 : Nat) : Int) = ((0 : Nat) : Int) from rfl, rd_lt (by simp)]
    simp only [List.set_cons_zero, lv, List.getElem_cons_zero, bp]; omega
  | a :: l, i + 1, v, h => by
    have h' : i < l.length := by simpa using h
    have ih := lv_set v h'
    rw [rd_lt h'] at ih
    rw [rd_lt h]
    simp only [List.set_cons_succ, lv, List.getElem_cons_succ, bp, Int.natCast_mul]
    rw [ih, Int.mul_add, Int.mul_assoc]
    omega
theorem lm_set {l : List Int} {i : Nat} {v : Int} (h : Lm l) (h0 : 0 ≤ v) (h1 : v < 4294967296) : Lm (l.set i v) := by
  intro x hx
  rcases List.mem_or_eq_of_mem_set hx with e | e
  · exact h x e
  · subst e; exact ⟨h0, h1⟩
theorem rd_set_ne {l : List Int} {i j : Nat} (v : Int) (h : i ≠ j) : rd (l.set i v) (j : Int) = rd l (j : Int) := by
  unfold rd
  simp [List.getD_eq_getElem?_getD, h]
theorem lm_take {l : List Int} (h : Lm l) (n : Nat) : Lm (l.take n) := fun x hx => h x (List.mem_of_mem_take hx)
theorem lm_append {l m : List Int} (h1 : Lm l) (h2 : Lm m) : Lm (l ++ m) := by
  intro x hx
  rcases List.mem_append.mp hx with e | e
  · exact h1 x e
  · exact h2 x e
theorem dg_take {l : List Int} (h : Lm l) {n : Nat} (hn : n ≤ l.length) (hz : ∀ i : Nat, n ≤ i → i < l.length → rd l (i : Int) = 0) (hl : n = 0 ∨ rd l ((n - 1 : Nat) : Int) ≠ 0) :
    l.take n = dg (lv l).toNat := by
  have hv : lv l = lv (l.take n) := by
    have : ∀ m : Nat, n + m ≤ l.length → lv (l.take (n + m)) = lv (l.take n) := by
      intro m
      induction m with
      | zero => intro _; rfl
      | succ m ih =>
        intro hm
        rw [← Nat.add_assoc, lv_take_succ (by omega), hz (n + m) (by omega) (by omega), ih (by omega)]; simp
    have := this (l.length - n) (by omega)
    rw [show n + (l.length - n) = l.length by omega, List.take_of_length_le (Nat.le_refl _)] at this
    exact this
  rw [hv]
  symm
  refine dg_lv (lm_take h n) (fun hne => ?_)
  rcases hl with e | e
  · subst e; simp at hne
  · rw [List.getLast_eq_getElem]
    simp only [List.length_take, Nat.min_eq_left hn]
    have hp : n ≠ 0 := by intro e0; subst e0; simp at hne
    rw [List.getElem_take]
    rw [rd_lt (by omega)] at e
    exact e
theorem lv_nil : lv [] = 0 := rfl
theorem lv_cons (a : Int) (l : List Int) : lv (a :: l) = a + 4294967296 * lv l := rfl
theorem bp_zero : bp 0 = 1 := rfl
theorem bp_succ (n : Nat) : bp (n + 1) = 4294967296 * bp n := rfl
attribute [irreducible] lv bp
end Mw
end
section
set_option linter.unusedVariables false
set_option linter.unusedSimpArgs false
namespace Mw
open Go Go.RowKit Go.Proofs.YtifkbghnmhineaaW.PrintWords Go.Proofs.YtifkbghnmhineaaW.PrintLast Go.Proofs.YtifkbghnmhineaaW.PrintMore Go.Proofs.Ytifkbghnmhineaa.PAll
theorem short_loop {l : List Int} (hl : Lm l) (hlen : l.length < 1099511627776) : ∀ n : Nat, n ≤ l.length → (∀ i : Nat, n ≤ i → i < l.length → rd l (i : Int) = 0) →
    Ev (fun k => nat_short.l0 k l (n : Int)) (dg (lv l).toNat) := by
  intro n
  induction n with
  | zero =>
    intro hn hz
    refine Ev.succ ?_
    simp only [nat_short.l0, if_neg (show ¬ ((0 : Nat) : Int) > 0 by omega), if_pos (show (0 : Int) ≤ ((0 : Nat) : Int) by omega), if_pos (show ((0 : Nat) : Int) ≤ (l.length : Int) by omega)]
    refine Ev.cast (Ev.some _) ?_
    rw [show (((0 : Nat) : Int)).toNat = 0 from rfl]
    exact dg_take hl hn hz (.inl rfl)
  | succ n ih =>
    intro hn hz
    refine Ev.succ ?_
    have e : wrap64 (((n + 1 : Nat) : Int) - 1) = (n : Int) := by rw [w64 (by omega) (by omega)]; omega
    by_cases h : rd l (n : Int) = 0
    · simp only [nat_short.l0, e, if_pos (show ((n + 1 : Nat) : Int) > 0 by omega), if_pos (show (0 : Int) ≤ (n : Int) by omega), if_pos (show (n : Int) < (l.length : Int) by omega), if_pos h]
      exact ih (by omega) (fun i h1 h2 => by
        by_cases e2 : i = n
        · subst e2; exact h
        · exact hz i (by omega) h2)
    · simp only [nat_short.l0, e, if_pos (show ((n + 1 : Nat) : Int) > 0 by omega), if_pos (show (0 : Int) ≤ (n : Int) by omega), if_pos (show (n : Int) < (l.length : Int) by omega), if_neg h, if_pos (show (0 : Int) ≤ ((n + 1 : Nat) : Int) by omega), if_pos (show ((n + 1 : Nat) : Int) ≤ (l.length : Int) by omega)]
      refine Ev.cast (Ev.some _) ?_
      rw [show (((n + 1 : Nat) : Int)).toNat = n + 1 by omega]
      exact dg_take hl hn hz (.inr h)
theorem short_ev {l : List Int} (hl : Lm l) (hlen : l.length < 1099511627776) : Ev (fun k => nat_short.f k l) (dg (lv l).toNat) := by
  simp only [nat_short.f]
  exact short_loop hl hlen l.length (Nat.le_refl _) (fun i h1 h2 => by omega)
theorem dg_len_of {l : List Int} (hl : Lm l) : (dg (lv l).toNat).length ≤ l.length := dg_len_le (lv_le_of_len hl (Nat.le_refl _))
theorem trim_ev {l : List Int} (hl : Lm l) (hlen : l.length < 1099511627776) : Ev (fun k => nat_Trim.f k l) (dg (lv l).toNat) := by
  simp only [nat_Trim.f]
  refine Ev.bind (short_ev hl hlen) ?_
  have := dg_len_of hl
  simp only [List.length_nil, List.nil_append, if_pos (show 0 + (dg (lv l).toNat).length < 35184372088832 by omega)]
  exact Ev.some _
theorem of_ev {n : Nat} (hn : n < 18446744073709551616) : Ev (fun k => nat_Of.f k (n : Int)) (dg n) := by
  simp only [nat_Of.f]
  have hl : Lm [(n : Int) % 4294967296, ((n : Int) / 4294967296) % 4294967296] := by
    rw [lm_cons, lm_cons]
    exact ⟨by omega, by omega, lm_nil⟩
  refine Ev.bind (trim_ev hl (by simp)) ?_
  refine Ev.cast (Ev.some _) ?_
  congr 1
  simp only [lv_cons, lv_nil]
  omega
theorem plus_loop {a b : List Int} (ha : Lm a) (hb : Lm b) (hab : b.length ≤ a.length) (hlen : a.length < 549755813888) : ∀ (d : Nat) (i : Nat) (o : List Int) (c : Int), i + d = a.length → o.length = a.length + 1 → Lm o →
    0 ≤ c → c ≤ 1 → (∀ j : Nat, i ≤ j → rd o (j : Int) = 0) → Aside0 (lv o + (bp i : Int) * c = lv (a.take i) + lv (b.take i)) →
    Ev (fun k => nat_plus.l0 k a b o c (a.length : Int) (i : Int)) (dg (lv a + lv b).toNat) := by
  intro d
  induction d with
  | zero =>
    intro i o c hi ho hol hc0 hc1 hz hv
    have hi : i = a.length := by omega
    subst hi
    refine Ev.succ ?_
    simp only [nat_plus.l0, if_neg (show ¬ ((a.length : Nat) : Int) < (a.length : Int) by omega), if_pos (show (0 : Int) ≤ (a.length : Int) by omega), if_pos (show (a.length : Int) < (o.length : Int) by omega)]
    have hs : Lm (o.set ((a.length : Int) : Int).toNat (c % 4294967296)) := lm_set hol (by omega) (by omega)
    refine Ev.bind (short_ev hs (by rw [List.length_set]; omega)) ?_
    refine Ev.cast (Ev.some _) ?_
    congr 2
    rw [Int.toNat_natCast, lv_set _ (by omega), hz _ (Nat.le_refl _), show c % 4294967296 = c by omega, Int.sub_zero, hv.out, List.take_of_length_le (Nat.le_refl _), List.take_of_length_le hab]
  | succ d ih =>
    intro i o c hi ho hol hc0 hc1 hz hv
    have hia : i < a.length := by omega
    refine Ev.succ ?_
    have ra := rd_lm ha (i : Int)
    have rb := rd_lm hb (i : Int)
    have e1 : wrap64 ((i : Int) + 1) = ((i + 1 : Nat) : Int) := by rw [w64 (by omega) (by omega)]; omega
    have step : ∀ s : Int, 0 ≤ s → s ≤ 8589934591 → s = rd a (i : Int) + c + rd b (i : Int) →
        Ev (fun k => nat_plus.l0 k a b (o.set ((i : Int)).toNat (s % 4294967296)) (s / 4294967296) (a.length : Int) ((i + 1 : Nat) : Int)) (dg (lv a + lv b).toNat) := by
      intro s hs0 hs1 hs
      refine ih (i + 1) _ _ (by omega) (by rw [List.length_set]; exact ho) (lm_set hol (by omega) (by omega)) (by omega) (by omega) (fun j hj => ?_) ?_
      · rw [Int.toNat_natCast, rd_set_ne _ (by omega)]; exact hz j (by omega)
      · refine ⟨?_⟩
        rw [Int.toNat_natCast, lv_set _ (by omega), hz i (Nat.le_refl _), lv_take_succ hia]
        have hbt : lv (b.take (i + 1)) = lv (b.take i) + (bp i : Int) * rd b (i : Int) := by
          by_cases hib : i < b.length
          · exact lv_take_succ hib
          · rw [rd_ge (by omega), List.take_of_length_le (by omega), List.take_of_length_le (by omega)]; simp
        rw [hbt]
        have hdiv : s % 4294967296 + 4294967296 * (s / 4294967296) = rd a (i : Int) + c + rd b (i : Int) := by omega
        have hm := congrArg (fun z => (bp i : Int) * z) hdiv
        simp only [Int.mul_add] at hm
        rw [Int.mul_left_comm] at hm
        rw [Int.sub_zero, bp_succ, Int.natCast_mul, Int.mul_assoc]
        have hv := hv.out
        clear ih hz hdiv hs hs0 hs1 ra rb e1 hc0 hc1
        omega
    by_cases hib : i < b.length
    · have e2 : IntKind.u64.wrap (IntKind.u64.wrap (IntKind.u64.wrap (rd a (i : Int)) + c) + IntKind.u64.wrap (rd b (i : Int))) = rd a (i : Int) + c + rd b (i : Int) := by
        rw [u64w ra.1 (by omega), u64w rb.1 (by omega), u64w (x := rd a (i : Int) + c) (by omega) (by omega), u64w (x := rd a (i : Int) + c + rd b (i : Int)) (by omega) (by omega)]
      simp only [nat_plus.l0, e1, e2, if_pos (show (i : Int) < (a.length : Int) by omega), if_pos (show (0 : Int) ≤ (i : Int) by omega), if_pos (show (i : Int) < (b.length : Int) by omega), if_pos (show (i : Int) < (o.length : Int) by omega)]
      exact step (rd a (i : Int) + c + rd b (i : Int)) (by omega) (by omega) rfl
    · have e2 : IntKind.u64.wrap (IntKind.u64.wrap (rd a (i : Int)) + c) = rd a (i : Int) + c := by
        rw [u64w ra.1 (by omega), u64w (x := rd a (i : Int) + c) (by omega) (by omega)]
      simp only [nat_plus.l0, e1, e2, if_pos (show (i : Int) < (a.length : Int) by omega), if_pos (show (0 : Int) ≤ (i : Int) by omega), if_neg (show ¬ (i : Int) < (b.length : Int) by omega), if_pos (show (i : Int) < (o.length : Int) by omega)]
      exact step (rd a (i : Int) + c) (by omega) (by omega) (by rw [rd_ge (l := b) (by omega)]; omega)
theorem plus_long {a b : List Int} (ha : Lm a) (hb : Lm b) (hab : b.length ≤ a.length) (hlen : a.length < 549755813888) : Ev (fun k => nat_plus.j0 k a b) (dg (lv a + lv b).toNat) := by
  refine Ev.succ ?_
  have e1 : wrap64 ((a.length : Int) + 1) = ((a.length + 1 : Nat) : Int) := by rw [w64 (by omega) (by omega)]; omega
  simp only [nat_plus.j0, e1, Int.toNat_natCast, if_pos (show (0 : Int) ≤ ((a.length + 1 : Nat) : Int) by omega), if_pos (show a.length + 1 ≤ 70368744177664 by omega)]
  exact plus_loop ha hb hab hlen a.length 0 _ 0 (by omega) (by simp) (lm_rep _) (by omega) (by omega) (fun j _ => by
    by_cases h : j < a.length + 1
    · rw [rd_lt (by simpa using h)]; simp
    · exact rd_ge (by simp; omega)) ⟨by rw [lv_rep]; simp [lv_nil]⟩
theorem plus_ev {a b : List Int} (ha : Lm a) (hb : Lm b) (h1 : a.length < 549755813888) (h2 : b.length < 549755813888) : Ev (fun k => nat_plus.f k a b) (dg (lv a + lv b).toNat) := by
  simp only [nat_plus.f]
  by_cases h : (a.length : Int) < (b.length : Int)
  · simp only [if_pos h]
    rw [Int.add_comm]
    exact plus_long hb ha (by omega) h2
  · simp only [if_neg h]
    exact plus_long ha hb (by omega) h1
def lsum : List (List Int) → Int
  | [] => 0
  | a :: l => lv a + lsum l
def Lms (l : List (List Int)) : Prop := ∀ x ∈ l, Lm x ∧ x.length < 1073741824
theorem rd3_lt {l : List (List Int)} {i : Nat} (h : i < l.length) : rd_L3 l (i : Int) = l[i] := by
  unfold rd_L3
  simp [List.getD_eq_getElem?_getD, h]
theorem lsum_take {l : List (List Int)} {i : Nat} (h : i < l.length) : lsum (l.take (i + 1)) = lsum (l.take i) + lv l[i] := by
  have app : ∀ (a b : List (List Int)), lsum (a ++ b) = lsum a + lsum b := by
    intro a
    induction a with
    | nil => intro b; simp [lsum]
    | cons x a ih => intro b; simp only [List.cons_append, lsum]; rw [ih]; omega
  rw [List.take_succ_eq_append_getElem h, app]
  simp [lsum]
theorem lv_dg_toNat {x : Int} (h : 0 ≤ x) : lv (dg x.toNat) = x := by rw [lv_dg]; omega
theorem add_loop {l : List (List Int)} (hl : Lms l) (hlen : l.length < 1073741824) : ∀ (d i : Nat) (s : List Int), i + d = l.length → Lm s → s.length ≤ 1073741824 + i → lv s = lsum (l.take i) →
    Ev (fun k => nat_Add.l0 k s l (l.length : Int) (i : Int)) (dg (lsum l).toNat) := by
  intro d
  induction d with
  | zero =>
    intro i s hi hs hsl hv
    have hi : i = l.length := by omega
    subst hi
    refine Ev.succ ?_
    simp only [nat_Add.l0, if_neg (show ¬ ((l.length : Nat) : Int) < (l.length : Int) by omega)]
    refine Ev.bind (trim_ev hs (by omega)) ?_
    refine Ev.cast (Ev.some _) ?_
    rw [hv, List.take_of_length_le (Nat.le_refl _)]
  | succ d ih =>
    intro i s hi hs hsl hv
    have hil : i < l.length := by omega
    have hx := hl l[i] (List.getElem_mem hil)
    refine Ev.succ ?_
    have e1 : wrap64 ((i : Int) + 1) = ((i + 1 : Nat) : Int) := by rw [w64 (by omega) (by omega)]; omega
    simp only [nat_Add.l0, e1, rd3_lt hil, if_pos (show (i : Int) < (l.length : Int) by omega), if_pos (show (0 : Int) ≤ (i : Int) by omega)]
    refine Ev.bind (short_ev hx.1 (by omega)) ?_
    have h2 := dg_len_of hx.1
    refine Ev.bind (plus_ev hs (lm_dg _) (by omega) (by omega)) ?_
    have h3 : 0 ≤ lv s := lv_nonneg hs
    have h4 : 0 ≤ lv l[i] := lv_nonneg hx.1
    refine ih (i + 1) _ (by omega) (lm_dg _) ?_ ?_
    · rw [lv_dg_toNat h4]
      have h5 := lv_le_of_len hs hsl
      have h6 := lv_le_of_len hx.1 (m := 1073741824 + i) (by omega)
      refine dg_len_le ?_
      rw [show 1073741824 + (i + 1) = (1073741824 + i) + 1 by omega, bp_succ]
      generalize bp (1073741824 + i) = p at *
      omega
    · rw [lv_dg_toNat h4, lv_dg_toNat (by omega), hv, lsum_take hil]
theorem add_ev {l : List (List Int)} (hl : Lms l) (hlen : l.length < 1073741824) : Ev (fun k => nat_Add.f k l) (dg (lsum l).toNat) := by
  simp only [nat_Add.f]
  exact add_loop hl hlen l.length 0 [] (by omega) lm_nil (by simp) (by simp [lv_nil, lsum])
theorem add2_ev {a b : Nat} (ha : (dg a).length < 1073741824) (hb : (dg b).length < 1073741824) : Ev (fun k => nat_Add.f k [dg a, dg b]) (dg (a + b)) := by
  refine Ev.cast (add_ev (l := [dg a, dg b]) (fun x hx => ?_) (by simp)) ?_
  · rcases List.mem_cons.mp hx with e | e
    · exact e ▸ ⟨lm_dg a, ha⟩
    · rw [List.mem_singleton.mp e]; exact ⟨lm_dg b, hb⟩
  · congr 1
    simp only [lsum, lv_dg]
    omega
end Mw
end
section
namespace Mw
def sm : Nat → (Nat → Int) → Int
  | 0, _ => 0
  | n + 1, f => sm n f + f n
theorem sm_congr {n : Nat} {f g : Nat → Int} (h : ∀ i, i < n → f i = g i) : sm n f = sm n g := by
  induction n with
  | zero => rfl
  | succ n ih => simp only [sm]; rw [ih (fun i hi => h i (by omega)), h n (by omega)]
theorem sm_zero {n : Nat} {f : Nat → Int} (h : ∀ i, i < n → f i = 0) : sm n f = 0 := by
  induction n with
  | zero => rfl
  | succ n ih => simp only [sm]; rw [ih (fun i hi => h i (by omega)), h n (by omega)]; rfl
theorem sm_sub (n : Nat) (f g : Nat → Int) : sm n (fun i => f i - g i) = sm n f - sm n g := by
  induction n with
  | zero => rfl
  | succ n ih => simp only [sm]; rw [ih]; omega
theorem sm_head (n : Nat) (f : Nat → Int) : sm (n + 1) f = f 0 + sm n (fun i => f (i + 1)) := by
  induction n with
  | zero => simp [sm]
  | succ n ih => rw [sm, ih]; simp only [sm]; omega
theorem sm_single {n a : Nat} {f : Nat → Int} (ha : a < n) (h : ∀ i, i < n → i ≠ a → f i = 0) : sm n f = f a := by
  induction n with
  | zero => omega
  | succ n ih =>
    simp only [sm]
    by_cases e : a = n
    · subst e; rw [sm_zero (fun i hi => h i (by omega) (by omega))]; omega
    · rw [ih (by omega) (fun i hi hne => h i (by omega) hne), h n (by omega) (by omega)]; omega
def bin : Nat → Nat → Nat
  | _, 0 => 1
  | 0, _ + 1 => 0
  | n + 1, k + 1 => bin n k + bin n (k + 1)
theorem bin_zero (n : Nat) : bin n 0 = 1 := by cases n <;> rfl
theorem bin_succ (n k : Nat) : bin (n + 1) (k + 1) = bin n k + bin n (k + 1) := rfl
theorem bin_above : ∀ {n k : Nat}, n < k → bin n k = 0
  | 0, 0, h => by omega
  | 0, _ + 1, _ => rfl
  | n + 1, 0, h => by omega
  | n + 1, k + 1, h => by rw [bin_succ, bin_above (n := n) (k := k) (by omega), bin_above (n := n) (k := k + 1) (by omega)]
theorem bin_self (n : Nat) : bin n n = 1 := by
  induction n with
  | zero => rfl
  | succ n ih => rw [bin_succ, ih, bin_above (by omega)]
theorem bin_one (n : Nat) : bin n 1 = n := by
  induction n with
  | zero => rfl
  | succ n ih => rw [bin_succ, ih, bin_zero]; omega
theorem bin_step : ∀ (n k : Nat), (k + 1) * bin n (k + 1) = (n - k) * bin n k
  | 0, k => by rw [bin_above (by omega)]; simp
  | n + 1, 0 => by rw [bin_one, bin_zero]; omega
  | n + 1, k + 1 => by
    rw [bin_succ, bin_succ]
    have h1 := bin_step n k
    have h2 := bin_step n (k + 1)
    by_cases hk : k + 1 ≤ n
    · obtain ⟨m, rfl⟩ : ∃ m, n = m + (k + 1) := ⟨n - (k + 1), by omega⟩
      rw [show m + (k + 1) - k = m + 1 by omega] at h1
      rw [show m + (k + 1) - (k + 1) = m by omega] at h2
      rw [show m + (k + 1) + 1 - (k + 1) = m + 1 by omega]
      grind
    · by_cases hk2 : k = n
      · subst hk2
        rw [bin_above (n := k) (k := k + 1 + 1) (by omega), bin_above (n := k) (k := k + 1) (by omega)]; simp
      · rw [bin_above (n := n) (k := k + 1 + 1) (by omega), bin_above (n := n) (k := k + 1) (by omega), bin_above (n := n) (k := k) (by omega)]; simp
theorem bin_symm : ∀ {n k : Nat}, k ≤ n → bin n (n - k) = bin n k
  | 0, k, h => by have : k = 0 := by omega
                  subst this; rfl
  | n + 1, 0, _ => by rw [Nat.sub_zero, bin_self, bin_zero]
  | n + 1, k + 1, h => by
    rw [Nat.add_sub_add_right]
    by_cases e : k = n
    · subst e; rw [Nat.sub_self, bin_zero, bin_self]
    · obtain ⟨m, hm⟩ : ∃ m, n - k = m + 1 := ⟨n - k - 1, by omega⟩
      rw [hm, bin_succ, bin_succ]
      have h1 := bin_symm (n := n) (k := k) (by omega)
      have h2 := bin_symm (n := n) (k := k + 1) (by omega)
      rw [hm] at h1
      rw [show n - (k + 1) = m by omega] at h2
      omega
def kr (g : Int) : Nat → Nat → Nat → Int
  | 0, 0, 0 => 1
  | 0, 0, _ + 1 => 0
  | a + 1, 0, 0 => kr g a 0 0
  | a + 1, 0, k + 1 => kr g a 0 (k + 1) + g * kr g a 0 k
  | a, b + 1, 0 => kr g a b 0
  | a, b + 1, k + 1 => kr g a b (k + 1) - kr g a b k
theorem kr_b0 (g : Int) (a b : Nat) : kr g a (b + 1) 0 = kr g a b 0 := by cases a <;> simp [kr]
theorem kr_b (g : Int) (a b k : Nat) : kr g a (b + 1) (k + 1) = kr g a b (k + 1) - kr g a b k := by cases a <;> simp [kr]
theorem kr_zero (g : Int) (a b : Nat) : kr g a b 0 = 1 := by
  induction b with
  | zero => induction a with
    | zero => simp [kr]
    | succ a ih => simp [kr, ih]
  | succ b ih => rw [kr_b0, ih]
theorem kr_a (g : Int) (a b k : Nat) : kr g (a + 1) b (k + 1) = kr g a b (k + 1) + g * kr g a b k := by
  induction b generalizing k with
  | zero => simp [kr]
  | succ b ih =>
    rw [kr_b, kr_b, ih]
    cases k with
    | zero => rw [kr_zero, kr_zero, kr_zero]; omega
    | succ k => rw [ih, kr_b]; grind
theorem kr_first (g : Int) (a k : Nat) : kr g a 0 k = (bin a k : Int) * g ^ k := by
  induction a generalizing k with
  | zero => cases k with
    | zero => simp [kr, bin]
    | succ k => simp [kr, bin]
  | succ a ih => cases k with
    | zero => simp [kr_zero, bin_zero]
    | succ k => rw [kr_a, ih, ih, bin_succ, Int.pow_succ, Int.natCast_add]; grind
theorem kr_row (g : Int) (a b k : Nat) : kr g a (b + 1) (k + 1) = kr g (a + 1) b (k + 1) - kr g (a + 1) b k - g * kr g a (b + 1) k := by
  have h := kr_a g a (b + 1) k
  rw [kr_b] at h
  omega
def krF (g : Int) (a b k : Nat) : Int := sm (k + 1) (fun j => (-1) ^ j * (g ^ (k - j) * ((bin b j : Int) * (bin a (k - j) : Int))))
theorem kr_formula (g : Int) (a b k : Nat) : kr g a b k = krF g a b k := by
  induction b generalizing k with
  | zero =>
    rw [kr_first, krF]
    rw [sm_single (a := 0) (by omega)]
    · simp [bin_zero]; grind
    · intro i _ hne
      obtain ⟨m, rfl⟩ : ∃ m, i = m + 1 := ⟨i - 1, by omega⟩
      simp [bin]
  | succ b ih =>
    cases k with
    | zero => rw [kr_zero]; simp [krF, sm, bin_zero]
    | succ k =>
      rw [kr_b, ih, ih, krF, krF, krF]
      rw [sm_head (k + 1) (fun j => (-1) ^ j * (g ^ (k + 1 - j) * ((bin (b + 1) j : Int) * (bin a (k + 1 - j) : Int))))]
      rw [sm_head (k + 1) (fun j => (-1) ^ j * (g ^ (k + 1 - j) * ((bin b j : Int) * (bin a (k + 1 - j) : Int))))]
      simp only [bin_zero, Nat.add_sub_add_right]
      rw [Int.add_sub_assoc]
      congr 1
      rw [← sm_sub]
      refine sm_congr fun i hi => ?_
      rw [bin_succ, Int.natCast_add, Int.pow_succ]
      grind
end Mw
end
section
set_option linter.unusedVariables false
set_option linter.unusedSimpArgs false
namespace Mw
open Go Go.RowKit Go.Proofs.YtifkbghnmhineaaW.PrintWords Go.Proofs.YtifkbghnmhineaaW.PrintLast Go.Proofs.YtifkbghnmhineaaW.PrintMore Go.Proofs.Ytifkbghnmhineaa.PAll
theorem rd_rep (n : Nat) (j : Nat) : rd (List.replicate n 0) (j : Int) = 0 := by
  by_cases h : j < n
  · rw [rd_lt (by simpa using h)]; simp
  · exact rd_ge (by simp; omega)
theorem mac_bound {x y z c : Int} (hx0 : 0 ≤ x) (hx1 : x < 4294967296) (hy0 : 0 ≤ y) (hy1 : y < 4294967296) (hz0 : 0 ≤ z) (hz1 : z < 4294967296) (hc0 : 0 ≤ c) (hc1 : c < 4294967296) :
    0 ≤ x * y ∧ x * y + z + c < 18446744073709551616 := by
  have hp0 : 0 ≤ x * y := Int.mul_nonneg hx0 hy0
  have hp1 : x * y ≤ 4294967295 * 4294967295 := Int.mul_le_mul (by omega) (by omega) hy0 (by decide)
  generalize x * y = p at *
  omega
theorem mac_wrap {x y z c : Int} (hx0 : 0 ≤ x) (hx1 : x < 4294967296) (hy0 : 0 ≤ y) (hy1 : y < 4294967296) (hz0 : 0 ≤ z) (hz1 : z < 4294967296) (hc0 : 0 ≤ c) (hc1 : c < 4294967296) :
    IntKind.u64.wrap (IntKind.u64.wrap (IntKind.u64.wrap (IntKind.u64.wrap x * IntKind.u64.wrap y) + IntKind.u64.wrap z) + c) = x * y + z + c := by
  have hb := mac_bound hx0 hx1 hy0 hy1 hz0 hz1 hc0 hc1
  rw [u64w (x := x) (by omega) (by omega), u64w (x := y) (by omega) (by omega), u64w (x := z) (by omega) (by omega)]
  generalize x * y = p at *
  rw [u64w (x := p) (by omega) (by omega), u64w (x := p + z) (by omega) (by omega), u64w (x := p + z + c) (by omega) (by omega)]
theorem split_div (s : Int) : s % 4294967296 + 4294967296 * (s / 4294967296) = s := by omega
theorem div_bound {s : Int} (h0 : 0 ≤ s) (h1 : s < 18446744073709551616) : 0 ≤ s % 4294967296 ∧ s % 4294967296 < 4294967296 ∧ 0 ≤ s / 4294967296 ∧ s / 4294967296 < 4294967296 := by omega
theorem times_inner {x : Int} {b l18 : List Int} (hx0 : 0 ≤ x) (hx1 : x < 4294967296) (hb : Lm b) (hbl : b.length < 536870912) (x19 : Int) (i L : Nat) (hL : i + b.length + 1 ≤ L) (hL2 : L < 1073741824) (V : Int) (R : List Int)
    (next : ∀ o : List Int, o.length = L → Lm o → (∀ j : Nat, i + 1 + b.length ≤ j → rd o (j : Int) = 0) → Aside0 (lv o = V + (bp i : Int) * (x * lv b)) → Ev (fun k => nat_times.l0 k b o l18 x19 ((i + 1 : Nat) : Int)) R) :
    ∀ (d j : Nat) (o : List Int) (c : Int), j + d = b.length → o.length = L → Lm o → 0 ≤ c → c < 4294967296 → (∀ m : Nat, i + b.length ≤ m → rd o (m : Int) = 0) →
      Aside0 (lv o + (bp (i + j) : Int) * c = V + (bp i : Int) * (x * lv (b.take j))) →
      Ev (fun k => nat_times.l1 k b o (i : Int) x c l18 x19 (i : Int) b (b.length : Int) (j : Int)) R := by
  intro d
  induction d with
  | zero =>
    intro j o c hj ho hol hc0 hc1 hz hv
    have hj : j = b.length := by omega
    subst hj
    refine Ev.succ ?_
    simp only [nat_times.l1, wn (show (i : Int) + (b.length : Int) = ((i + b.length : Nat) : Int) by omega) (by omega), wn (show (i : Int) + 1 = ((i + 1 : Nat) : Int) by omega) (by omega), if_neg (show ¬ ((b.length : Nat) : Int) < (b.length : Int) by omega), if_pos (show (0 : Int) ≤ ((i + b.length : Nat) : Int) by omega), if_pos (show ((i + b.length : Nat) : Int) < (o.length : Int) by omega)]
    rw [Int.toNat_natCast, show c % 4294967296 = c by omega]
    refine next _ (by rw [List.length_set]; omega) (lm_set hol hc0 hc1) (fun m hm => ?_) ⟨?_⟩
    · rw [rd_set_ne _ (by omega)]; exact hz m (by omega)
    · rw [lv_set _ (by omega), hz _ (Nat.le_refl _), Int.sub_zero, hv.out, List.take_of_length_le (Nat.le_refl _)]
  | succ d ih =>
    intro j o c hj ho hol hc0 hc1 hz hv
    have hjb : j < b.length := by omega
    refine Ev.succ ?_
    have rb := rd_lm hb (j : Int)
    have ro := rd_lm hol ((i + j : Nat) : Int)
    simp only [nat_times.l1, wn (show (i : Int) + (j : Int) = ((i + j : Nat) : Int) by omega) (by omega), wn (show (j : Int) + 1 = ((j + 1 : Nat) : Int) by omega) (by omega), if_pos (show (j : Int) < (b.length : Int) by omega), if_pos (show (0 : Int) ≤ (j : Int) by omega), if_pos (show (0 : Int) ≤ ((i + j : Nat) : Int) by omega), if_pos (show ((i + j : Nat) : Int) < (o.length : Int) by omega), mac_wrap hx0 hx1 rb.1 rb.2 ro.1 ro.2 hc0 hc1]
    have hb2 := mac_bound hx0 hx1 rb.1 rb.2 ro.1 ro.2 hc0 hc1
    have hdef : ∃ s, s = x * rd b (j : Int) + rd o ((i + j : Nat) : Int) + c := ⟨_, rfl⟩
    obtain ⟨s, hs⟩ := hdef
    have hs0 : 0 ≤ s := by rw [hs]; exact Int.add_nonneg (Int.add_nonneg hb2.1 ro.1) hc0
    have hs1 : s < 18446744073709551616 := by rw [hs]; exact hb2.2
    have hd := div_bound hs0 hs1
    clear hb2
    rw [← hs]
    rw [Int.toNat_natCast]
    have hs := Aside0.mk hs
    refine ih (j + 1) _ _ (by omega) (by rw [List.length_set]; omega) (lm_set hol hd.1 hd.2.1) hd.2.2.1 hd.2.2.2 (fun m hm => ?_) ⟨?_⟩
    · rw [rd_set_ne _ (by omega)]; exact hz m hm
    · rw [lv_set _ (by omega), lv_take_succ hjb, ← Nat.add_assoc, bp_succ, Int.natCast_mul]
      have hdiv : s % 4294967296 + 4294967296 * (s / 4294967296) = x * rd b (j : Int) + rd o ((i + j : Nat) : Int) + c := by rw [split_div]; exact hs.out
      have hv := hv.out
      have hbp : ((bp (i + j) : Nat) : Int) = (bp i : Int) * (bp j : Int) := by rw [bp_add, Int.natCast_mul]
      clear ih hz next hs hs0 hs1 hd rb ro hc0 hc1
      generalize s % 4294967296 = y at *
      generalize s / 4294967296 = u at *
      generalize (bp (i + j) : Int) = p at *
      generalize (bp i : Int) = pi at *
      generalize (bp j : Int) = pj at *
      generalize rd b (j : Int) = rb at *
      generalize rd o ((i + j : Nat) : Int) = ro at *
      generalize lv o = lo at *
      generalize lv (b.take j) = lt at *
      subst hbp
      have h1 : lo + pi * pj * c = V + pi * (x * lt) := hv
      have h2 : y + 4294967296 * u = x * rb + ro + c := hdiv
      show lo + pi * pj * (y - ro) + 4294967296 * (pi * pj) * u = V + pi * (x * (lt + pj * rb))
      have h3 : pi * pj * (y + 4294967296 * u) = pi * pj * (x * rb + ro + c) := by rw [h2]
      grind
theorem times_outer {b l : List Int} (hb : Lm b) (hl : Lm l) (hbl : b.length < 268435456) (hll : l.length < 268435456) : ∀ (d i : Nat) (o : List Int), i + d = l.length → o.length = l.length + b.length → Lm o → (∀ m : Nat, i + b.length ≤ m → rd o (m : Int) = 0) →
    Aside0 (lv o = lv (l.take i) * lv b) → Ev (fun k => nat_times.l0 k b o l (l.length : Int) (i : Int)) (dg (lv l * lv b).toNat) := by
  intro d
  induction d with
  | zero =>
    intro i o hi ho hol hz hv
    have hi : i = l.length := by omega
    subst hi
    refine Ev.succ ?_
    simp only [nat_times.l0, if_neg (show ¬ ((l.length : Nat) : Int) < (l.length : Int) by omega)]
    refine Ev.bind (short_ev hol (by omega)) ?_
    refine Ev.cast (Ev.some _) ?_
    rw [hv.out, List.take_of_length_le (Nat.le_refl _)]
  | succ d ih =>
    intro i o hi ho hol hz hv
    have hil : i < l.length := by omega
    refine Ev.succ ?_
    have rl := rd_lm hl (i : Int)
    simp only [nat_times.l0, if_pos (show (i : Int) < (l.length : Int) by omega), if_pos (show (0 : Int) ≤ (i : Int) by omega)]
    refine times_inner (l18 := l) rl.1 rl.2 hb (by omega) (l.length : Int) i (l.length + b.length) (by omega) (by omega) (lv (l.take i) * lv b) _ (fun o2 h1 h2 h3 h4 => ?_) b.length 0 o 0 (by omega) ho hol (by omega) (by omega) hz ⟨?_⟩
    · refine ih (i + 1) o2 (by omega) h1 h2 (fun m hm => h3 m hm) ⟨?_⟩
      rw [h4.out, lv_take_succ hil, Int.add_mul, Int.mul_assoc]
    · rw [hv.out]; simp [lv_nil]
theorem times_ev {a b : List Int} (ha : Lm a) (hb : Lm b) (h1 : a.length < 268435456) (h2 : b.length < 268435456) : Ev (fun k => nat_times.f k a b) (dg (lv a * lv b).toNat) := by
  simp only [nat_times.f]
  simp only [wn (show (a.length : Int) + (b.length : Int) = ((a.length + b.length : Nat) : Int) by omega) (by omega), Int.toNat_natCast, if_pos (show (0 : Int) ≤ ((a.length + b.length : Nat) : Int) by omega), if_pos (show a.length + b.length ≤ 70368744177664 by omega)]
  exact times_outer hb ha h2 h1 a.length 0 _ (by omega) (by simp) (lm_rep _) (fun m _ => rd_rep _ m) ⟨by rw [lv_rep]; simp [lv_nil]⟩
theorem mul2_ev {a b : Nat} (ha : (dg a).length < 134217728) (hb : (dg b).length < 134217728) : Ev (fun k => nat_Mul.f k [dg a, dg b]) (dg (a * b)) := by
  simp only [nat_Mul.f]
  have mul_len : ∀ x y : Nat, (dg (x * y)).length ≤ (dg x).length + (dg y).length := by
    intro x y
    refine dg_len_le ?_
    rw [bp_add]
    exact Nat.mul_lt_mul'' (dg_lt_len x) (dg_lt_len y)
  have one : lv [1] = 1 := by rw [lv_cons, lv_nil]; rfl
  have l1 : Lm [1] := by rw [lm_cons]; exact ⟨by omega, lm_nil⟩
  refine Ev.succ ?_
  simp only [nat_Mul.l0, List.length_cons, List.length_nil, w64 (x := (0 : Int) + 1) (by omega) (by omega)]
  rw [show ((0 + 1 + 1 : Nat) : Int) = 2 from rfl]
  simp only [if_pos (show (0 : Int) < 2 by omega), if_pos (show (0 : Int) ≤ 0 by omega)]
  rw [show rd_L3 [dg a, dg b] 0 = dg a from rfl]
  refine Ev.bind (short_ev (lm_dg a) (by omega)) ?_
  rw [lv_dg, Int.toNat_natCast]
  refine Ev.bind (times_ev l1 (lm_dg a) (by simp) (by omega)) ?_
  rw [one, lv_dg, Int.one_mul, Int.toNat_natCast]
  refine Ev.succ ?_
  rw [show (0 : Int) + 1 = 1 from rfl]
  simp only [nat_Mul.l0, List.length_cons, List.length_nil, w64 (x := (1 : Int) + 1) (by omega) (by omega)]
  rw [show ((0 + 1 + 1 : Nat) : Int) = 2 from rfl]
  simp only [if_pos (show (1 : Int) < 2 by omega), if_pos (show (0 : Int) ≤ 1 by omega)]
  rw [show rd_L3 [dg a, dg b] 1 = dg b from rfl]
  refine Ev.bind (short_ev (lm_dg b) (by omega)) ?_
  rw [lv_dg, Int.toNat_natCast]
  refine Ev.bind (times_ev (lm_dg a) (lm_dg b) (by omega) (by omega)) ?_
  rw [lv_dg, lv_dg, ← Int.natCast_mul, Int.toNat_natCast]
  rw [show (1 : Int) + 1 = 2 from rfl]
  refine Ev.succ ?_
  simp only [nat_Mul.l0, if_neg (show ¬ (2 : Int) < 2 by omega)]
  have := mul_len a b
  refine Ev.bind (trim_ev (lm_dg (a * b)) (by omega)) ?_
  rw [lv_dg, Int.toNat_natCast]
  exact Ev.some _
theorem wraps_u64 (n : Int) (h0 : 0 ≤ n) (h1 : n < 2 ^ 64) : IntKind.u64.wrap n = n := u64w h0 (by omega)
theorem join32 {x y : Int} (hx0 : 0 ≤ x) (hx1 : x < 4294967296) (hy0 : 0 ≤ y) (hy1 : y < 4294967296) : Go.bits .or .u64 (IntKind.u64.wrap (x * 4294967296)) (IntKind.u64.wrap y) = x * 4294967296 + y := by
  rw [u64w (x := x * 4294967296) (by omega) (by omega), u64w (x := y) (by omega) (by omega)]
  exact bits_join .u64 64 (by decide) wraps_u64 32 _ _ (by omega) (by omega) (by omega) hy0 (by omega) (by omega)
theorem digit_bounds {r b y : Int} (hr0 : 0 ≤ r) (hrb : r < b) (hb : b < 4294967296) (hy0 : 0 ≤ y) (hy1 : y < 4294967296) :
    0 ≤ (r * 4294967296 + y) / b ∧ (r * 4294967296 + y) / b < 4294967296 ∧ 0 ≤ (r * 4294967296 + y) % b ∧ (r * 4294967296 + y) % b < b := by
  have hbp : 0 < b := by omega
  refine ⟨Int.ediv_nonneg (by omega) (by omega), ?_, Int.emod_nonneg _ (by omega), Int.emod_lt_of_pos _ hbp⟩
  refine Int.ediv_lt_of_lt_mul hbp ?_
  have : (r + 1) * 4294967296 ≤ b * 4294967296 := by omega
  omega
theorem digit_loop {a : List Int} {b : Int} (ha : Lm a) (hb0 : 0 < b) (hb1 : b < 4294967296) (hlen : a.length < 1073741824) : ∀ (n : Nat) (o : List Int) (r : Int), n ≤ a.length → o.length = a.length → Lm o → (∀ j : Nat, j < n → rd o (j : Int) = 0) → 0 ≤ r → r < b →
    Aside0 (lv o * b + (bp n : Int) * r = lv a - lv (a.take n)) → Ev (fun k => nat_digit.l0 k a b o r ((n : Int) - 1)) (dg (lv a / b).toNat, lv a % b) := by
  intro n
  induction n with
  | zero =>
    intro o r hn ho hol hz hr0 hr1 hv
    refine Ev.succ ?_
    simp only [nat_digit.l0, if_neg (show ¬ ((0 : Nat) : Int) - 1 ≥ 0 by omega)]
    refine Ev.bind (short_ev hol (by omega)) ?_
    refine Ev.cast (Ev.some _) ?_
    have hv := hv.out
    rw [List.take_zero, lv_nil, bp_zero] at hv
    have e : lv a = b * lv o + r := by rw [Int.mul_comm]; omega
    have h1 : lv a / b = lv o := by
      rw [e, Int.add_comm, Int.add_mul_ediv_left _ _ (by omega), Int.ediv_eq_zero_of_lt hr0 hr1]; omega
    have h2 : lv a % b = r := by
      rw [e, Int.add_comm, Int.add_mul_emod_self_left, Int.emod_eq_of_lt hr0 hr1]
    rw [h1, h2]
    clear hv e h1 h2
    congr 1
    omega
  | succ n ih =>
    intro o r hn ho hol hz hr0 hr1 hv
    refine Ev.succ ?_
    have ra := rd_lm ha (n : Int)
    have hd := digit_bounds hr0 hr1 hb1 ra.1 ra.2
    have hdiv : b * ((r * 4294967296 + rd a (n : Int)) / b) + (r * 4294967296 + rd a (n : Int)) % b = r * 4294967296 + rd a (n : Int) := Int.mul_ediv_add_emod _ _
    have t0 : 0 ≤ r * 4294967296 + rd a (n : Int) := by omega
    simp only [nat_digit.l0, show ((n + 1 : Nat) : Int) - 1 = (n : Int) from by omega, if_pos (show (n : Int) ≥ 0 by omega), if_pos (show (0 : Int) ≤ (n : Int) by omega), if_pos (show (n : Int) < (a.length : Int) by omega), if_pos (show (n : Int) < (o.length : Int) by omega), if_neg (show ¬ b = 0 by omega),
      join32 hr0 (by omega) ra.1 ra.2, w64 (x := (n : Int) - 1) (by omega) (by omega), u64w (x := b) (by omega) (by omega)]
    rw [Int.tdiv_eq_ediv_of_nonneg t0, Int.tmod_eq_emod_of_nonneg t0]
    generalize (r * 4294967296 + rd a (n : Int)) / b = q at *
    generalize (r * 4294967296 + rd a (n : Int)) % b = s at *
    rw [u64w (x := q) hd.1 (by omega), show q % 4294967296 = q by omega, Int.toNat_natCast]
    refine ih _ _ (by omega) (by rw [List.length_set]; exact ho) (lm_set hol hd.1 hd.2.1) (fun j hj => ?_) hd.2.2.1 hd.2.2.2 ⟨?_⟩
    · rw [rd_set_ne _ (by omega)]; exact hz j (by omega)
    · have hv := hv.out
      rw [lv_take_succ (l := a) (i := n) (by omega), bp_succ, Int.natCast_mul] at hv
      rw [lv_set (l := o) (i := n) _ (by omega), hz n (by omega)]
      clear ih hz hd ra t0
      generalize lv o = x at *
      generalize (bp n : Int) = p at *
      generalize rd a (n : Int) = y at *
      generalize lv a = A at *
      generalize lv (a.take n) = T at *
      have hv : x * b + 4294967296 * p * r = A - (T + p * y) := hv
      have h3 : p * (b * q + s) = p * (r * 4294967296 + y) := by rw [hdiv]
      grind
theorem digit_ev {a : List Int} {b : Int} (ha : Lm a) (hb0 : 0 < b) (hb1 : b < 4294967296) (hlen : a.length < 1073741824) : Ev (fun k => nat_digit.f k a b) (dg (lv a / b).toNat, lv a % b) := by
  simp only [nat_digit.f, Int.toNat_natCast, if_pos (show (0 : Int) ≤ (a.length : Int) by omega), if_pos (show a.length ≤ 70368744177664 by omega), w64 (x := (a.length : Int) - 1) (by omega) (by omega)]
  exact digit_loop ha hb0 hb1 hlen a.length _ 0 (Nat.le_refl _) (by simp) (lm_rep _) (fun j _ => rd_rep _ j) (by omega) (by omega) ⟨by rw [lv_rep, List.take_of_length_le (Nat.le_refl _)]; simp⟩
theorem bin_mul (n i : Nat) : bin n i * (n - i) = (i + 1) * bin n (i + 1) := by rw [bin_step, Nat.mul_comm]
theorem bin_lt (n k : Nat) : bin n k ≤ 2 ^ n := by
  induction n generalizing k with
  | zero => cases k <;> simp [bin]
  | succ n ih => cases k with
    | zero => rw [bin_zero]; exact Nat.one_le_two_pow
    | succ k => rw [bin_succ, Nat.pow_succ]; have h1 := ih k; have h2 := ih (k + 1); omega
theorem pow2_bp (m : Nat) : 2 ^ (32 * m) = bp m := by
  induction m with
  | zero => rw [bp_zero]
  | succ m ih => rw [Nat.mul_succ, Nat.pow_add, ih, bp_succ, Nat.mul_comm]
theorem bin_len {n : Nat} (hn : n ≤ 4096) (k : Nat) : (dg (bin n k)).length ≤ 129 := by
  refine dg_len_le ?_
  have h1 := bin_lt n k
  have h2 : ∀ m, n ≤ 32 * m → 2 ^ n ≤ bp m := fun m h => by rw [← pow2_bp]; exact Nat.pow_le_pow_right (by decide) h
  have h2 := h2 128 (by omega)
  have h3 := bp_pos 128
  rw [show 129 = 128 + 1 from rfl, bp_succ]
  generalize 2 ^ n = p at *
  generalize bp 128 = u at *
  omega
theorem binomial_loop {n : Nat} (hn : n ≤ 4096) : ∀ (d i m : Nat), i + d = m → m ≤ n → Ev (fun k => nat_Binomial.l0 k (n : Int) (dg (bin n i)) (m : Int) (i : Int)) (dg (bin n m), 0) := by
  intro d
  induction d with
  | zero =>
    intro i m hi hm
    have hi : i = m := by omega
    subst hi
    refine Ev.succ ?_
    simp only [nat_Binomial.l0, if_neg (show ¬ (i : Int) < (i : Int) by omega)]
    have := bin_len hn i
    refine Ev.bind (trim_ev (lm_dg _) (by omega)) ?_
    rw [lv_dg, Int.toNat_natCast]
    exact Ev.some _
  | succ d ih =>
    intro i m hi hm
    refine Ev.succ ?_
    have hl := bin_len hn i
    have e0 : ((n : Int) - (i : Int)) % 4294967296 = ((n - i : Nat) : Int) := by omega
    have e1 : ((i + 1 : Nat) : Int) % 4294967296 = ((i + 1 : Nat) : Int) := by omega
    simp only [nat_Binomial.l0, w64 (x := (n : Int) - (i : Int)) (by omega) (by omega), wn (show (i : Int) + 1 = ((i + 1 : Nat) : Int) by omega) (by omega), if_pos (show (i : Int) < (m : Int) by omega), e0, e1]
    have l1 : Lm [((n - i : Nat) : Int)] := by rw [lm_cons]; exact ⟨by omega, lm_nil⟩
    refine Ev.bind (times_ev (lm_dg _) l1 (by omega) (by simp)) ?_
    have v1 : lv (dg (bin n i)) * lv [((n - i : Nat) : Int)] = ((bin n i * (n - i) : Nat) : Int) := by rw [lv_dg, lv_cons, lv_nil, Int.natCast_mul]; simp
    rw [v1, Int.toNat_natCast, bin_mul]
    have hl2 : (dg ((i + 1) * bin n (i + 1))).length ≤ 130 := by
      refine dg_len_le ?_
      rw [← bin_mul]
      have h1 := dg_lt_len (bin n i)
      have h2 := bp_mono hl
      have h3 : bin n i < bp 129 := by omega
      rw [show 130 = 129 + 1 from rfl, bp_succ, Nat.mul_comm]
      have h4 : n - i ≤ 4294967296 := by omega
      exact Nat.lt_of_le_of_lt (Nat.mul_le_mul_right _ h4) (Nat.mul_lt_mul_of_pos_left h3 (by decide))
    refine Ev.bind (digit_ev (lm_dg _) (by omega) (by omega) (by omega)) ?_
    rw [lv_dg]
    have v2 : (((i + 1) * bin n (i + 1) : Nat) : Int) / ((i + 1 : Nat) : Int) = ((bin n (i + 1) : Nat) : Int) := by
      rw [Int.natCast_mul, Int.mul_ediv_cancel_left _ (by omega)]
    rw [v2, Int.toNat_natCast]
    exact ih (i + 1) m (by omega) hm
theorem binomial_ev {n m : Nat} (hn : n ≤ 4096) (hm : m ≤ n) : Ev (fun k => nat_Binomial.f k (n : Int) (m : Int)) (dg (bin n m), 0) := by
  simp only [nat_Binomial.f, if_neg (show ¬ (n : Int) < 0 by omega), decide_eq_false (show ¬ (n : Int) > 4096 by omega)]
  refine Ev.succ ?_
  simp only [nat_Binomial.j0, Bool.false_eq_true, if_false, if_neg (show ¬ (m : Int) < 0 by omega), decide_eq_false (show ¬ (m : Int) > (n : Int) by omega)]
  refine Ev.succ ?_
  simp only [nat_Binomial.j1, Bool.false_eq_true, if_false, wn (show (n : Int) - (m : Int) = ((n - m : Nat) : Int) by omega) (by omega)]
  have hone : ([1] : List Int) = dg (bin n 0) := by rw [bin_zero, dg_one]
  rw [hone]
  have hz : (0 : Int) = ((0 : Nat) : Int) := rfl
  by_cases h : m ≤ n - m
  · rw [show mn (m : Int) ((n - m : Nat) : Int) = (m : Int) from by unfold mn; split <;> omega]
    exact binomial_loop hn m 0 m (by omega) hm
  · rw [show mn (m : Int) ((n - m : Nat) : Int) = ((n - m : Nat) : Int) from by unfold mn; split <;> omega, ← bin_symm hm]
    exact binomial_loop hn (n - m) 0 (n - m) (by omega) (by omega)
theorem bits_half (x : Nat) (h : x < 4294967296) : Lib.bitLen x ≤ 32 := Lib.bitLen_le x 32 (by decide) (by omega)
theorem bitLen_zero : Lib.bitLen 0 = 0 := by decide
theorem bitLen_pos {x : Nat} (h0 : x ≠ 0) (h : x < 4294967296) : 1 ≤ Lib.bitLen x := by
  rw [Lib.bitLen_half x h0 (by omega)]; omega
theorem bitLen_lt : ∀ (b x : Nat), x < 4294967296 → Lib.bitLen x ≤ b → x < 2 ^ b := by
  intro b
  induction b with
  | zero =>
    intro x hx hb
    by_cases h : x = 0
    · subst h; decide
    · have := bitLen_pos h hx; omega
  | succ b ih =>
    intro x hx hb
    by_cases h : x = 0
    · subst h; exact Nat.two_pow_pos _
    · rw [Lib.bitLen_half x h (by omega)] at hb
      have := ih (x / 2) (by omega) (by omega)
      rw [Nat.pow_succ]
      omega
theorem dg_head {n : Nat} {i : Nat} (hi : i + 1 = (dg n).length) : rd (dg n) (i : Int) ≠ 0 := by
  have hne : dg n ≠ [] := by intro e; rw [e] at hi; simp at hi
  have := dg_last n hne
  rw [List.getLast_eq_getElem] at this
  rw [rd_lt (by omega)]
  have e : (dg n).length - 1 = i := by omega
  simpa [e] using this
def bl (n : Nat) : Nat := if n = 0 then 0 else 32 * ((dg n).length - 1) + Lib.bitLen (rd (dg n) (((dg n).length - 1 : Nat) : Int)).toNat
theorem bits_ev {n : Nat} (hn : (dg n).length < 33554432) : Ev (fun k => nat_Bits.f k (dg n)) ((bl n : Nat) : Int) := by
  simp only [nat_Bits.f]
  refine Ev.bind (short_ev (lm_dg n) (by omega)) ?_
  rw [lv_dg, Int.toNat_natCast]
  by_cases h : n = 0
  · subst h
    rw [dg_zero]
    simp only [List.length_nil, if_pos (show ((0 : Nat) : Int) = 0 from rfl)]
    exact Ev.cast (Ev.some _) (by simp [bl])
  · have hp : (dg n).length ≠ 0 := by rw [Ne, dg_len_zero]; exact h
    obtain ⟨m, hm⟩ : ∃ m, (dg n).length = m + 1 := ⟨(dg n).length - 1, by omega⟩
    have hb : bl n = 32 * m + Lib.bitLen (rd (dg n) (m : Int)).toNat := by unfold bl; rw [if_neg h, hm]; rfl
    have hr := rd_lm (lm_dg n) (m : Int)
    have hbl := bits_half (rd (dg n) (m : Int)).toNat (by omega)
    rw [hb, hm]
    have f1 : bits_Len32.f (rd (dg n) (m : Int)) = some ((Lib.bitLen (rd (dg n) (m : Int)).toNat : Nat) : Int) := by
      unfold bits_Len32.f
      rw [if_pos hr.1, if_pos (by omega)]
    simp only [if_neg (show ¬ ((m + 1 : Nat) : Int) = 0 by omega), wn (show ((m + 1 : Nat) : Int) - 1 = (m : Int) by omega) (by omega), if_pos (show (0 : Int) ≤ (m : Int) by omega), if_pos (show (m : Int) < ((m + 1 : Nat) : Int) by omega), f1, Option.bind_some]
    refine Ev.cast (Ev.some _) ?_
    rw [wn (show (32 : Int) * (m : Int) = ((32 * m : Nat) : Int) by omega) (by omega), wn (show ((32 * m : Nat) : Int) + ((Lib.bitLen (rd (dg n) (m : Int)).toNat : Nat) : Int) = ((32 * m + Lib.bitLen (rd (dg n) (m : Int)).toNat : Nat) : Int) by omega) (by omega)]
theorem bl_zero {n : Nat} : bl n = 0 ↔ n = 0 := by
  constructor
  · intro h
    by_cases h0 : n = 0
    · exact h0
    · unfold bl at h
      rw [if_neg h0] at h
      have hp : (dg n).length ≠ 0 := by rw [Ne, dg_len_zero]; exact h0
      obtain ⟨m, hm⟩ : ∃ m, (dg n).length = m + 1 := ⟨(dg n).length - 1, by omega⟩
      have hr := rd_lm (lm_dg n) (m : Int)
      have h1 := dg_head hm.symm
      rw [hm, show m + 1 - 1 = m from rfl] at h
      have := bitLen_pos (x := (rd (dg n) (m : Int)).toNat) (by omega) (by omega)
      omega
  · intro h; subst h; rfl
theorem bl_small {n : Nat} (h0 : n ≠ 0) (h : n < 4294967296) : bl n = Lib.bitLen n := by
  unfold bl
  rw [if_neg h0, dg_small h0 h]
  simp [rd]
theorem bl_one {n : Nat} : bl n = 1 ↔ n = 1 := by
  constructor
  · intro h
    have hn0 : n ≠ 0 := by intro e; subst e; rw [bl_zero.mpr rfl] at h; omega
    unfold bl at h
    rw [if_neg hn0] at h
    have hp : (dg n).length ≠ 0 := by rw [Ne, dg_len_zero]; exact hn0
    obtain ⟨m, hm⟩ : ∃ m, (dg n).length = m + 1 := ⟨(dg n).length - 1, by omega⟩
    have hr := rd_lm (lm_dg n) (m : Int)
    have h1 := dg_head hm.symm
    rw [hm, show m + 1 - 1 = m from rfl] at h
    have h2 := bitLen_pos (x := (rd (dg n) (m : Int)).toNat) (by omega) (by omega)
    have hm0 : m = 0 := by omega
    subst hm0
    have hn : n < 4294967296 := by
      have := dg_lt_len n
      rw [hm, show (0 + 1 : Nat) = 0 + 1 from rfl, bp_succ, bp_zero] at this
      omega
    have h4 : dg n = [(n : Int)] := dg_small hn0 hn
    rw [h4] at h
    have h3 := bitLen_lt 1 n hn (by simp [rd] at h; omega)
    omega
  · intro h; subst h; rw [bl_small (by decide) (by decide)]; decide
theorem pow_len (x n m : Nat) (h : (dg x).length ≤ m) : (dg (x ^ n)).length ≤ m * n + 1 := by
  refine dg_len_le ?_
  have h1 := dg_lt_len x
  have h2 := bp_mono h
  have h3 : ∀ n, x ^ n ≤ bp (m * n) := by
    intro n
    induction n with
    | zero => simp [bp_zero]
    | succ n ih => rw [Nat.pow_succ, Nat.mul_succ, bp_add]; exact Nat.mul_le_mul ih (by omega)
  have h4 := h3 n
  rw [bp_succ]
  have h5 := bp_pos (m * n)
  omega
theorem and1 {n : Nat} (hn : n < 9223372036854775808) : Go.bits .and .i64 (n : Int) 1 = ((n % 2 : Nat) : Int) := by
  have := bits_mask .i64 63 (by decide) (fun n h0 h1 => by
    rw [IntKind.wrap_i64]
    have : n < 9223372036854775808 := by omega
    omega) 1 (by decide) (n : Int) (by omega) (by have : (n : Int) < 9223372036854775808 := by omega
                                                  omega)
  rw [show (2 : Int) ^ 1 - 1 = 1 from rfl, show (2 : Int) ^ 1 = 2 from rfl] at this
  rw [this]
  omega
theorem mul_len (x y : Nat) : (dg (x * y)).length ≤ (dg x).length + (dg y).length := by
  refine dg_len_le ?_
  rw [bp_add]
  exact Nat.mul_lt_mul'' (dg_lt_len x) (dg_lt_len y)
theorem times2_ev {a b : Nat} (h1 : (dg a).length < 268435456) (h2 : (dg b).length < 268435456) : Ev (fun k => nat_times.f k (dg a) (dg b)) (dg (a * b)) := by
  refine Ev.cast (times_ev (lm_dg a) (lm_dg b) h1 h2) ?_
  rw [lv_dg, lv_dg, ← Int.natCast_mul, Int.toNat_natCast]
theorem trim2_ev {a : Nat} (h1 : (dg a).length < 268435456) : Ev (fun k => nat_Trim.f k (dg a)) (dg a) := by
  refine Ev.cast (trim_ev (lm_dg a) (by omega)) ?_
  rw [lv_dg, Int.toNat_natCast]
theorem pow_half (y x n : Nat) : y * x ^ n = (if n % 2 = 1 then y * x else y) * (x * x) ^ (n / 2) := by
  have e : n = 2 * (n / 2) + n % 2 := by omega
  have h : x ^ n = (x * x) ^ (n / 2) * x ^ (n % 2) := by
    conv => lhs; rw [e]
    rw [Nat.pow_add, Nat.pow_mul, Nat.pow_two]
  rw [h]
  by_cases g : n % 2 = 1
  · rw [if_pos g, g, Nat.pow_one]; simp only [Nat.mul_assoc, Nat.mul_comm x]
  · rw [if_neg g, show n % 2 = 0 by omega, Nat.pow_zero, Nat.mul_one]
theorem pow_loop : ∀ (n : Nat), 0 < n → n < 4611686018427387904 → ∀ (y x : Nat), Aside0 ((dg x).length * n + (dg y).length ≤ 4096) → Ev (fun k => nat_Pow.l0 k (n : Int) (dg y) (dg x)) (dg (y * x ^ n), 0) := by
  intro n
  induction n using Nat.strongRecOn with
  | _ n ih =>
    intro h0 h1 y x hl
    have hx : (dg x).length ≤ 4096 := by
      have h2 := hl.out
      have h3 : (dg x).length * 1 ≤ (dg x).length * n := Nat.mul_le_mul_left _ h0
      omega
    have hy : (dg y).length ≤ 4096 := by have := hl.out; omega
    have hyx := mul_len y x
    have hxx := mul_len x x
    refine Ev.succ ?_
    have hd : (n : Int) / 2 = ((n / 2 : Nat) : Int) := by omega
    have hy2 : Aside0 ((dg (x * x)).length * (n / 2) + (dg (if n % 2 = 1 then y * x else y)).length ≤ 4096) := by
      refine ⟨?_⟩
      have h2 := hl.out
      have h3 : (dg (x * x)).length * (n / 2) ≤ ((dg x).length + (dg x).length) * (n / 2) := Nat.mul_le_mul_right _ hxx
      have h4 : ((dg x).length + (dg x).length) * (n / 2) + (dg x).length * (n % 2) = (dg x).length * n := by
        conv => rhs; rw [show n = 2 * (n / 2) + n % 2 by omega]
        rw [Nat.mul_add, ← Nat.two_mul, Nat.mul_assoc, Nat.mul_left_comm]
      by_cases g : n % 2 = 1
      · rw [if_pos g]
        rw [g, Nat.mul_one] at h4
        omega
      · rw [if_neg g]
        rw [show n % 2 = 0 by omega, Nat.mul_zero] at h4
        omega
    have fin : n / 2 = 0 → Ev (fun k => if (((dg (if n % 2 = 1 then y * x else y)).length : Nat) : Int) > 4096 then some (([] : List Int), (8 : Int)) else (nat_Trim.f k (dg (if n % 2 = 1 then y * x else y))).bind fun t => some (t, 0)) (dg (y * x ^ n), 0) := by
      intro hz
      have h2 := hy2.out
      rw [hz, Nat.mul_zero] at h2
      rw [pow_half y x n, hz, Nat.pow_zero, Nat.mul_one]
      simp only [if_neg (show ¬ (((dg (if n % 2 = 1 then y * x else y)).length : Nat) : Int) > 4096 by omega)]
      refine Ev.bind (trim2_ev (by omega)) ?_
      exact Ev.some _
    have go : n / 2 ≠ 0 → Ev (fun k => (nat_times.f k (dg x) (dg x)).bind fun t => nat_Pow.l0 k ((n / 2 : Nat) : Int) (dg (if n % 2 = 1 then y * x else y)) t) (dg (y * x ^ n), 0) := by
      intro hz
      refine Ev.bind (times2_ev (by omega) (by omega)) ?_
      rw [pow_half y x n]
      exact ih (n / 2) (by omega) (by omega) (by omega) _ _ hy2
    simp only [nat_Pow.l0, and1 (show n < 9223372036854775808 by omega), hd]
    clear hy2 hl
    by_cases g : n % 2 = 1
    · rw [if_pos g] at fin go
      simp only [if_pos (show ((n % 2 : Nat) : Int) = 1 by omega)]
      refine Ev.bind (times2_ev (by omega) (by omega)) ?_
      by_cases hz : n / 2 = 0
      · simp only [if_pos (show ((n / 2 : Nat) : Int) = 0 by omega)]
        exact fin hz
      · simp only [if_neg (show ¬ ((n / 2 : Nat) : Int) = 0 by omega)]
        exact go hz
    · rw [if_neg g] at fin go
      simp only [if_neg (show ¬ ((n % 2 : Nat) : Int) = 1 by omega)]
      by_cases hz : n / 2 = 0
      · simp only [if_pos (show ((n / 2 : Nat) : Int) = 0 by omega)]
        exact fin hz
      · simp only [if_neg (show ¬ ((n / 2 : Nat) : Int) = 0 by omega)]
        exact go hz
theorem pow_ev {x n : Nat} (hx : x < 4294967296) (hn : n < 4096) : Ev (fun k => nat_Pow.f k (dg x) (n : Int)) (dg (x ^ n), 0) := by
  have hxl : (dg x).length ≤ 1 := dg_len_le (by rw [show (1 : Nat) = 0 + 1 from rfl, bp_succ, bp_zero]; omega)
  simp only [nat_Pow.f, if_neg (show ¬ (n : Int) < 0 by omega)]
  refine Ev.bind (bits_ev (by omega)) ?_
  have one : ([1] : List Int) = dg 1 := dg_one.symm
  by_cases h0 : n = 0
  · subst h0
    simp only [if_pos (show ((0 : Nat) : Int) = 0 from rfl)]
    refine Ev.succ ?_
    simp only [nat_Pow.j0, if_true, Nat.pow_zero, one]
    exact Ev.some _
  · simp only [if_neg (show ¬ (n : Int) = 0 by omega)]
    by_cases h1 : x = 1
    · subst h1
      rw [bl_one.mpr rfl]
      refine Ev.succ ?_
      simp only [nat_Pow.j0, Nat.one_pow, one]
      exact Ev.some _
    · have hb1 : bl x ≠ 1 := fun e => h1 (bl_one.mp e)
      have hbl : bl x ≤ 32 := by
        by_cases hx0 : x = 0
        · subst hx0; rw [bl_zero.mpr rfl]; omega
        · rw [bl_small hx0 hx]; exact bits_half x hx
      rw [show (((bl x : Nat) : Int) == 1) = false from by simp; omega]
      refine Ev.succ ?_
      simp only [nat_Pow.j0, Bool.false_eq_true, if_false]
      by_cases hx0 : x = 0
      · subst hx0
        simp only [bl_zero.mpr rfl, if_pos (show ((0 : Nat) : Int) = 0 from rfl)]
        rw [Nat.zero_pow (by omega), dg_zero]
        exact Ev.some _
      · have hb0 : bl x ≠ 0 := fun e => hx0 (bl_zero.mp e)
        have hmul : (bl x - 1) * n ≤ 31 * 4095 := Nat.mul_le_mul (by omega) (by omega)
        have e2 : wrap64 (wrap64 ((bl x : Int) - 1) * (n : Int)) = (((bl x - 1) * n : Nat) : Int) := by
          rw [wn (show (bl x : Int) - 1 = ((bl x - 1 : Nat) : Int) by omega) (by omega)]
          exact wn (by rw [Int.natCast_mul]) (by omega)
        have e3 : ¬ wrap64 (wrap64 ((bl x : Int) - 1) * (n : Int)) ≥ 131072 := by rw [e2]; clear e2; omega
        simp only [if_neg (show ¬ ((bl x : Nat) : Int) = 0 by clear e2 e3; omega), if_neg (show ¬ (n : Int) > 131072 by clear e2 e3; omega), if_neg e3]
        clear e2 e3
        refine Ev.bind (short_ev (lm_dg x) (by omega)) ?_
        rw [lv_dg, Int.toNat_natCast, one]
        refine Ev.cast (pow_loop n (by omega) (by omega) 1 x ⟨?_⟩) (by rw [Nat.one_mul])
        have h5 : (dg x).length * n ≤ 1 * 4095 := Nat.mul_le_mul hxl (by omega)
        rw [dg_one]
        simp only [List.length_cons, List.length_nil]
        omega
theorem rtrim_loop {l : List Int} (hl : Lm l) (hlen : l.length < 1099511627776) : ∀ n : Nat, n ≤ l.length → (∀ i : Nat, n ≤ i → i < l.length → rd l (i : Int) = 0) →
    Ev (fun k => r1_Trim.l0 k l (n : Int)) (dg (lv l).toNat) := by
  intro n
  induction n with
  | zero =>
    intro hn hz
    refine Ev.succ ?_
    simp only [r1_Trim.l0, Option.bind_some, if_neg (show ¬ ((0 : Nat) : Int) > 0 by omega), if_pos (show (0 : Int) ≤ ((0 : Nat) : Int) by omega), if_pos (show ((0 : Nat) : Int) ≤ (l.length : Int) by omega), if_pos (show ([] : List Int).length + (l.take ((0 : Nat) : Int).toNat).length < 35184372088832 by simp), List.nil_append]
    refine Ev.cast (Ev.some _) ?_
    rw [show (((0 : Nat) : Int)).toNat = 0 from rfl]
    exact dg_take hl hn hz (.inl rfl)
  | succ n ih =>
    intro hn hz
    refine Ev.succ ?_
    have e : wrap64 (((n + 1 : Nat) : Int) - 1) = (n : Int) := by rw [w64 (by omega) (by omega)]; omega
    by_cases h : rd l (n : Int) = 0
    · simp only [r1_Trim.l0, e, if_pos (show ((n + 1 : Nat) : Int) > 0 by omega), if_pos (show (0 : Int) ≤ (n : Int) by omega), if_pos (show (n : Int) < (l.length : Int) by omega), if_pos h]
      exact ih (by omega) (fun i h1 h2 => by
        by_cases e2 : i = n
        · subst e2; exact h
        · exact hz i (by omega) h2)
    · have hlt : ([] : List Int).length + (l.take ((n + 1 : Nat) : Int).toNat).length < 35184372088832 := by
        rw [List.length_take, List.length_nil]; clear e; omega
      simp only [r1_Trim.l0, Option.bind_some, e, if_pos (show ((n + 1 : Nat) : Int) > 0 by omega), if_pos (show (0 : Int) ≤ (n : Int) by omega), if_pos (show (n : Int) < (l.length : Int) by omega), if_neg h, if_pos (show (0 : Int) ≤ ((n + 1 : Nat) : Int) by omega), if_pos (show ((n + 1 : Nat) : Int) ≤ (l.length : Int) by omega), if_pos hlt, List.nil_append]
      refine Ev.cast (Ev.some _) ?_
      rw [show (((n + 1 : Nat) : Int)).toNat = n + 1 by omega]
      exact dg_take hl hn hz (.inr h)
theorem rtrim_ev {l : List Int} (hl : Lm l) (hlen : l.length < 1099511627776) : Ev (fun k => r1_Trim.f k l) (dg (lv l).toNat) := by
  simp only [r1_Trim.f]
  exact rtrim_loop hl hlen l.length (Nat.le_refl _) (fun i h1 h2 => by omega)
theorem rtrim2_ev {a : Nat} (h1 : (dg a).length < 268435456) : Ev (fun k => r1_Trim.f k (dg a)) (dg a) := by
  refine Ev.cast (rtrim_ev (lm_dg a) (by omega)) ?_
  rw [lv_dg, Int.toNat_natCast]
theorem rof_ev {n : Nat} (hn : n < 18446744073709551616) : Ev (fun k => r1_Of.f k (n : Int)) (dg n) := by
  simp only [r1_Of.f]
  have e1 : Int.tmod (n : Int) 4294967296 = (n : Int) % 4294967296 := Int.tmod_eq_emod_of_nonneg (by omega)
  have e2 : Int.tdiv (n : Int) 4294967296 = (n : Int) / 4294967296 := Int.tdiv_eq_ediv_of_nonneg (by omega)
  rw [e1, e2, u64w (x := (n : Int) / 4294967296) (by clear e1 e2; omega) (by clear e1 e2; omega)]
  have hl : Lm [(n : Int) % 4294967296 % 4294967296, ((n : Int) / 4294967296) % 4294967296] := by
    rw [lm_cons, lm_cons]
    clear e1 e2
    exact ⟨by omega, by omega, lm_nil⟩
  refine Ev.bind (rtrim_ev hl (by simp)) ?_
  refine Ev.cast (Ev.some _) ?_
  congr 1
  simp only [lv_cons, lv_nil]
  clear e1 e2
  omega
theorem limb_eq {l : List Int} (hl : Lm l) (i : Nat) : r1_limb.f l (i : Int) = some (rd l (i : Int)) := by
  unfold r1_limb.f
  have r := rd_lm hl (i : Int)
  by_cases h : i < l.length
  · rw [if_pos (by omega), if_pos (by omega), u64w r.1 (by omega)]
  · rw [if_neg (by omega), rd_ge (by omega)]
theorem lv_take_any (l : List Int) (i : Nat) : lv (l.take (i + 1)) = lv (l.take i) + (bp i : Int) * rd l (i : Int) := by
  by_cases h : i < l.length
  · exact lv_take_succ h
  · rw [rd_ge (by omega), List.take_of_length_le (by omega), List.take_of_length_le (by omega)]; simp
theorem radd_sum {a b c : Int} (ha0 : 0 ≤ a) (ha1 : a < 4294967296) (hb0 : 0 ≤ b) (hb1 : b < 4294967296) (hc0 : 0 ≤ c) (hc1 : c ≤ 1) :
    IntKind.u64.wrap (IntKind.u64.wrap (a + b) + c) = a + b + c := by
  rw [u64w (x := a + b) (by omega) (by omega), u64w (by omega) (by omega)]
theorem tmod_nn {a : Int} (b : Int) (h : 0 ≤ a) : Int.tmod a b = a % b := Int.tmod_eq_emod_of_nonneg h
theorem tdiv_nn {a : Int} (b : Int) (h : 0 ≤ a) : Int.tdiv a b = a / b := Int.tdiv_eq_ediv_of_nonneg h
theorem radd_loop {a b : List Int} (ha : Lm a) (hb : Lm b) (hla : a.length < 549755813888) (hlb : b.length < 549755813888) : ∀ (d i : Nat) (o : List Int) (c : Int), i + d = max a.length b.length + 1 → o.length = i → Lm o → 0 ≤ c → c ≤ 1 → (d = 0 → c = 0) →
    Aside0 (lv o + (bp i : Int) * c = lv (a.take i) + lv (b.take i)) → Ev (fun k => r1_Add.l0 k a b o c (i : Int)) (dg (lv a + lv b).toNat) := by
  intro d
  induction d with
  | zero =>
    intro i o c hi ho hol hc0 hc1 hz hv
    have hc := hz rfl
    subst hc
    refine Ev.succ ?_
    simp only [r1_Add.l0, if_neg (show ¬ (i : Int) < (a.length : Int) by omega), if_neg (show ¬ (i : Int) < (b.length : Int) by omega), decide_eq_false (show ¬ (0 : Int) > 0 by omega)]
    refine Ev.succ ?_
    simp only [r1_Add.j1, Bool.false_eq_true, if_false]
    refine Ev.bind (rtrim_ev hol (by omega)) ?_
    refine Ev.cast (Ev.some _) ?_
    have hv := hv.out
    rw [List.take_of_length_le (by omega), List.take_of_length_le (by omega), Int.mul_zero, Int.add_zero] at hv
    rw [hv]
  | succ d ih =>
    intro i o c hi ho hol hc0 hc1 hz hv
    have ra := rd_lm ha (i : Int)
    have rb := rd_lm hb (i : Int)
    have body : Ev (fun k => r1_Add.j1 k a b o c (i : Int) true) (dg (lv a + lv b).toNat) := by
      refine Ev.succ ?_
      simp only [r1_Add.j1, if_true, limb_eq ha, limb_eq hb, Option.bind_some, if_pos (show o.length < 35184372088832 by omega), radd_sum ra.1 ra.2 rb.1 rb.2 hc0 hc1, tmod_nn 4294967296 (show 0 ≤ rd a (i : Int) + rd b (i : Int) + c by omega), tdiv_nn 4294967296 (show 0 ≤ rd a (i : Int) + rd b (i : Int) + c by omega), wn (show (i : Int) + 1 = ((i + 1 : Nat) : Int) by omega) (by omega), u64w (x := (rd a (i : Int) + rd b (i : Int) + c) / 4294967296) (by omega) (by omega), show (rd a (i : Int) + rd b (i : Int) + c) % 4294967296 % 4294967296 = (rd a (i : Int) + rd b (i : Int) + c) % 4294967296 by omega]
      have hs : ∃ s, s = rd a (i : Int) + rd b (i : Int) + c := ⟨_, rfl⟩
      obtain ⟨s, hs⟩ := hs
      rw [← hs]
      have hs0 : 0 ≤ s := by omega
      have hs1 : s ≤ 8589934591 := by omega
      refine ih (i + 1) _ _ (by omega) (by rw [List.length_append]; simp [ho]) (lm_append hol (lm_cons.mpr ⟨by omega, lm_nil⟩)) (by omega) (by omega) (fun hd => ?_) ⟨?_⟩
      · have h1 : rd a (i : Int) = 0 := rd_ge (by omega)
        have h2 : rd b (i : Int) = 0 := rd_ge (by omega)
        omega
      · rw [lv_append, lv_cons, lv_nil, ho, lv_take_any, lv_take_any, bp_succ, Int.natCast_mul]
        have hv := hv.out
        have hdiv : s % 4294967296 + 4294967296 * (s / 4294967296) = rd a (i : Int) + rd b (i : Int) + c := by rw [split_div]; exact hs
        clear ih hz hs hs0 hs1 ra rb hc0 hc1
        generalize s % 4294967296 = y at *
        generalize s / 4294967296 = u at *
        generalize (bp i : Int) = p at *
        generalize rd a (i : Int) = x at *
        generalize rd b (i : Int) = z at *
        generalize lv (a.take i) = la at *
        generalize lv (b.take i) = lb at *
        generalize lv o = lo at *
        show lo + p * (y + 4294967296 * 0) + 4294967296 * p * u = la + p * x + (lb + p * z)
        have h3 : p * (y + 4294967296 * u) = p * (x + z + c) := by rw [hdiv]
        have h4 : lo + p * c = la + lb := hv
        grind
    refine Ev.succ ?_
    simp only [r1_Add.l0]
    by_cases h1 : (i : Int) < (a.length : Int)
    · simp only [if_pos h1]; exact body
    · simp only [if_neg h1]
      by_cases h2 : (i : Int) < (b.length : Int)
      · simp only [if_pos h2]; exact body
      · simp only [if_neg h2]
        by_cases h3 : c > 0
        · simp only [decide_eq_true h3]; exact body
        · simp only [decide_eq_false h3]
          have hc : c = 0 := by omega
          subst hc
          refine Ev.succ ?_
          simp only [r1_Add.j1, Bool.false_eq_true, if_false]
          refine Ev.bind (rtrim_ev hol (by omega)) ?_
          refine Ev.cast (Ev.some _) ?_
          have hv := hv.out
          rw [List.take_of_length_le (by omega), List.take_of_length_le (by omega), Int.mul_zero, Int.add_zero] at hv
          rw [hv]
theorem radd_ev {a b : List Int} (ha : Lm a) (hb : Lm b) (hla : a.length < 549755813888) (hlb : b.length < 549755813888) : Ev (fun k => r1_Add.f k a b) (dg (lv a + lv b).toNat) := by
  simp only [r1_Add.f]
  exact radd_loop ha hb hla hlb _ 0 [] 0 (by rw [Nat.zero_add]) rfl lm_nil (by omega) (by omega) (fun h => by omega) ⟨by simp [lv_nil]⟩
theorem radd2_ev {a b : Nat} (ha : (dg a).length < 268435456) (hb : (dg b).length < 268435456) : Ev (fun k => r1_Add.f k (dg a) (dg b)) (dg (a + b)) := by
  refine Ev.cast (radd_ev (lm_dg a) (lm_dg b) (by omega) (by omega)) ?_
  rw [lv_dg, lv_dg, ← Int.natCast_add, Int.toNat_natCast]
theorem same_loop (a b : List Int) (hab : a.length = b.length) (hlen : a.length < 549755813888) : ∀ (d i : Nat), i + d = a.length → a.take i = b.take i → Ev (fun k => r1_Same.l0 k a b (i : Int)) (decide (a = b)) := by
  intro d
  induction d with
  | zero =>
    intro i hi he
    refine Ev.succ ?_
    simp only [r1_Same.l0, if_neg (show ¬ (i : Int) < (a.length : Int) by omega)]
    rw [List.take_of_length_le (by omega), List.take_of_length_le (by omega)] at he
    refine Ev.cast (Ev.some _) (decide_eq_true he).symm
  | succ d ih =>
    intro i hi he
    refine Ev.succ ?_
    simp only [r1_Same.l0, if_pos (show (i : Int) < (a.length : Int) by omega), if_pos (show (0 : Int) ≤ (i : Int) by omega), if_pos (show (i : Int) < (b.length : Int) by omega), wn (show (i : Int) + 1 = ((i + 1 : Nat) : Int) by omega) (by omega)]
    by_cases h : rd a (i : Int) = rd b (i : Int)
    · simp only [if_pos h]
      exact ih (i + 1) (by omega) (by rw [take_succ_rd (by omega), take_succ_rd (by omega), he, h])
    · simp only [if_neg h]
      exact Ev.cast (Ev.some _) (decide_eq_false (fun e => h (by rw [e]))).symm
theorem same_ev (a b : List Int) (hlen : a.length < 549755813888) : Ev (fun k => r1_Same.f k a b) (decide (a = b)) := by
  simp only [r1_Same.f]
  by_cases h : a.length = b.length
  · simp only [if_pos (show (a.length : Int) = (b.length : Int) by omega)]
    exact same_loop a b h hlen a.length 0 (by omega) rfl
  · simp only [if_neg (show ¬ (a.length : Int) = (b.length : Int) by omega)]
    exact Ev.cast (Ev.some _) (decide_eq_false (fun e => h (by rw [e]))).symm
theorem rmul_inner {b l : List Int} (hl : Lm l) (hb : Lm b) (hbl : b.length < 268435456) (hll : l.length < 268435456) (i : Nat) (hi : i < l.length) (V : Int) (R : List Int)
    (next : ∀ o : List Int, o.length = l.length + b.length → Lm o → (∀ j : Nat, i + 1 + b.length ≤ j → rd o (j : Int) = 0) → Aside0 (lv o = V + (bp i : Int) * (rd l (i : Int) * lv b)) → Ev (fun k => r1_Mul.l0 k l b o ((i + 1 : Nat) : Int)) R) :
    ∀ (d j : Nat) (o : List Int) (c : Int), j + d = b.length → o.length = l.length + b.length → Lm o → 0 ≤ c → c < 4294967296 → (∀ m : Nat, i + b.length ≤ m → rd o (m : Int) = 0) →
      Aside0 (lv o + (bp (i + j) : Int) * c = V + (bp i : Int) * (rd l (i : Int) * lv (b.take j))) →
      Ev (fun k => r1_Mul.l1 k l b o (i : Int) c (j : Int)) R := by
  intro d
  induction d with
  | zero =>
    intro j o c hj ho hol hc0 hc1 hz hv
    have hj : j = b.length := by omega
    subst hj
    refine Ev.succ ?_
    simp only [r1_Mul.l1, wn (show (i : Int) + (b.length : Int) = ((i + b.length : Nat) : Int) by omega) (by omega), wn (show (i : Int) + 1 = ((i + 1 : Nat) : Int) by omega) (by omega), if_neg (show ¬ ((b.length : Nat) : Int) < (b.length : Int) by omega), if_pos (show (0 : Int) ≤ ((i + b.length : Nat) : Int) by omega), if_pos (show ((i + b.length : Nat) : Int) < (o.length : Int) by omega)]
    rw [Int.toNat_natCast, show c % 4294967296 = c by omega]
    refine next _ (by rw [List.length_set]; omega) (lm_set hol hc0 hc1) (fun m hm => ?_) ⟨?_⟩
    · rw [rd_set_ne _ (by omega)]; exact hz m (by omega)
    · rw [lv_set _ (by omega), hz _ (Nat.le_refl _), Int.sub_zero, hv.out, List.take_of_length_le (Nat.le_refl _)]
  | succ d ih =>
    intro j o c hj ho hol hc0 hc1 hz hv
    have hjb : j < b.length := by omega
    have rl := rd_lm hl (i : Int)
    refine Ev.succ ?_
    have rb := rd_lm hb (j : Int)
    have ro := rd_lm hol ((i + j : Nat) : Int)
    have hb2 := mac_bound rl.1 rl.2 rb.1 rb.2 ro.1 ro.2 hc0 hc1
    have hs00 : 0 ≤ rd l (i : Int) * rd b (j : Int) + rd o ((i + j : Nat) : Int) + c := Int.add_nonneg (Int.add_nonneg hb2.1 ro.1) hc0
    simp only [r1_Mul.l1, wn (show (i : Int) + (j : Int) = ((i + j : Nat) : Int) by omega) (by omega), wn (show (j : Int) + 1 = ((j + 1 : Nat) : Int) by omega) (by omega), if_pos (show (j : Int) < (b.length : Int) by omega), if_pos (show (0 : Int) ≤ (i : Int) by omega), if_pos (show (i : Int) < (l.length : Int) by omega), if_pos (show (0 : Int) ≤ (j : Int) by omega), if_pos (show (0 : Int) ≤ ((i + j : Nat) : Int) by omega), if_pos (show ((i + j : Nat) : Int) < (o.length : Int) by omega), mac_wrap rl.1 rl.2 rb.1 rb.2 ro.1 ro.2 hc0 hc1, tmod_nn 4294967296 hs00, tdiv_nn 4294967296 hs00]
    have hdef : ∃ s, s = rd l (i : Int) * rd b (j : Int) + rd o ((i + j : Nat) : Int) + c := ⟨_, rfl⟩
    obtain ⟨s, hs⟩ := hdef
    have hs0 : 0 ≤ s := by rw [hs]; exact hs00
    have hs1 : s < 18446744073709551616 := by rw [hs]; exact hb2.2
    have hd := div_bound hs0 hs1
    clear hb2
    rw [← hs]
    rw [Int.toNat_natCast]
    have hs := Aside0.mk hs
    have hq : IntKind.u64.wrap (s / 4294967296) = s / 4294967296 := u64w hd.2.2.1 (by omega)
    rw [hq]
    clear hq
    rw [show s % 4294967296 % 4294967296 = s % 4294967296 by omega]
    refine ih (j + 1) _ _ (by omega) (by rw [List.length_set]; omega) (lm_set hol hd.1 hd.2.1) hd.2.2.1 hd.2.2.2 (fun m hm => ?_) ⟨?_⟩
    · rw [rd_set_ne _ (by omega)]; exact hz m hm
    · rw [lv_set _ (by omega), lv_take_succ hjb, ← Nat.add_assoc, bp_succ, Int.natCast_mul]
      have hdiv : s % 4294967296 + 4294967296 * (s / 4294967296) = rd l (i : Int) * rd b (j : Int) + rd o ((i + j : Nat) : Int) + c := by rw [split_div]; exact hs.out
      have hv := hv.out
      have hbp : ((bp (i + j) : Nat) : Int) = (bp i : Int) * (bp j : Int) := by rw [bp_add, Int.natCast_mul]
      clear ih hz next hs hs0 hs1 hd rb ro hc0 hc1 hs00 rl
      generalize s % 4294967296 = y at *
      generalize s / 4294967296 = u at *
      generalize (bp (i + j) : Int) = p at *
      generalize (bp i : Int) = pi at *
      generalize (bp j : Int) = pj at *
      generalize rd b (j : Int) = rb at *
      generalize rd l (i : Int) = x at *
      generalize rd o ((i + j : Nat) : Int) = ro at *
      generalize lv o = lo at *
      generalize lv (b.take j) = lt at *
      subst hbp
      have h1 : lo + pi * pj * c = V + pi * (x * lt) := hv
      have h2 : y + 4294967296 * u = x * rb + ro + c := hdiv
      show lo + pi * pj * (y - ro) + 4294967296 * (pi * pj) * u = V + pi * (x * (lt + pj * rb))
      have h3 : pi * pj * (y + 4294967296 * u) = pi * pj * (x * rb + ro + c) := by rw [h2]
      grind
theorem rmul_outer {b l : List Int} (hb : Lm b) (hl : Lm l) (hbl : b.length < 268435456) (hll : l.length < 268435456) : ∀ (d i : Nat) (o : List Int), i + d = l.length → o.length = l.length + b.length → Lm o → (∀ m : Nat, i + b.length ≤ m → rd o (m : Int) = 0) →
    Aside0 (lv o = lv (l.take i) * lv b) → Ev (fun k => r1_Mul.l0 k l b o (i : Int)) (dg (lv l * lv b).toNat) := by
  intro d
  induction d with
  | zero =>
    intro i o hi ho hol hz hv
    have hi : i = l.length := by omega
    subst hi
    refine Ev.succ ?_
    simp only [r1_Mul.l0, if_neg (show ¬ ((l.length : Nat) : Int) < (l.length : Int) by omega)]
    refine Ev.bind (rtrim_ev hol (by omega)) ?_
    refine Ev.cast (Ev.some _) ?_
    rw [hv.out, List.take_of_length_le (Nat.le_refl _)]
  | succ d ih =>
    intro i o hi ho hol hz hv
    have hil : i < l.length := by omega
    refine Ev.succ ?_
    simp only [r1_Mul.l0, if_pos (show (i : Int) < (l.length : Int) by omega)]
    refine rmul_inner hl hb hbl hll i hil (lv (l.take i) * lv b) _ (fun o2 h1 h2 h3 h4 => ?_) b.length 0 o 0 (by omega) ho hol (by omega) (by omega) hz ⟨?_⟩
    · refine ih (i + 1) o2 (by omega) h1 h2 (fun m hm => h3 m hm) ⟨?_⟩
      rw [h4.out, lv_take_succ hil, Int.add_mul, Int.mul_assoc]
    · rw [hv.out]; simp [lv_nil]
theorem rmul_ev {a b : List Int} (ha : Lm a) (hb : Lm b) (h1 : a.length < 268435456) (h2 : b.length < 268435456) : Ev (fun k => r1_Mul.f k a b) (dg (lv a * lv b).toNat) := by
  simp only [r1_Mul.f]
  simp only [wn (show (a.length : Int) + (b.length : Int) = ((a.length + b.length : Nat) : Int) by omega) (by omega), Int.toNat_natCast, if_pos (show (0 : Int) ≤ ((a.length + b.length : Nat) : Int) by omega), if_pos (show a.length + b.length ≤ 70368744177664 by omega)]
  exact rmul_outer hb ha h2 h1 a.length 0 _ (by omega) (by simp) (lm_rep _) (fun m _ => rd_rep _ m) ⟨by rw [lv_rep]; simp [lv_nil]⟩
theorem rmul2_ev {a b : Nat} (h1 : (dg a).length < 268435456) (h2 : (dg b).length < 268435456) : Ev (fun k => r1_Mul.f k (dg a) (dg b)) (dg (a * b)) := by
  refine Ev.cast (rmul_ev (lm_dg a) (lm_dg b) h1 h2) ?_
  rw [lv_dg, lv_dg, ← Int.natCast_mul, Int.toNat_natCast]
theorem rbits_loop : ∀ (b x n : Nat), x < 4294967296 → Lib.bitLen x = b → n + b < 9223372036854775000 → Ev (fun k => r1_Bits.l0 k (n : Int) (x : Int)) ((n + b : Nat) : Int) := by
  intro b
  induction b with
  | zero =>
    intro x n hx hb hn
    have h0 : x = 0 := by
      by_cases h : x = 0
      · exact h
      · have := bitLen_pos h hx; omega
    subst h0
    refine Ev.succ ?_
    simp only [r1_Bits.l0, if_neg (show ¬ ((0 : Nat) : Int) > 0 by omega)]
    exact Ev.some _
  | succ b ih =>
    intro x n hx hb hn
    have h0 : x ≠ 0 := by intro h; subst h; rw [bitLen_zero] at hb; omega
    have hb2 : b + 1 ≤ 32 := by rw [← hb]; exact bits_half x hx
    rw [Lib.bitLen_half x h0 (by omega)] at hb
    refine Ev.succ ?_
    simp only [r1_Bits.l0, if_pos (show (x : Int) > 0 by omega), tdiv_nn 2 (show (0 : Int) ≤ (x : Int) by omega), show (x : Int) / 2 % 4294967296 = ((x / 2 : Nat) : Int) by omega, wn (show (n : Int) + 1 = ((n + 1 : Nat) : Int) by omega) (by omega)]
    refine Ev.cast (ih (x / 2) (n + 1) (by omega) (by omega) (by omega)) (by omega)
theorem rbits_ev {n : Nat} (hn : (dg n).length < 33554432) : Ev (fun k => r1_Bits.f k (dg n)) ((bl n : Nat) : Int) := by
  simp only [r1_Bits.f]
  refine Ev.bind (rtrim2_ev (by omega)) ?_
  by_cases h : n = 0
  · subst h
    rw [dg_zero]
    simp only [List.length_nil, if_pos (show ((0 : Nat) : Int) = 0 from rfl)]
    exact Ev.cast (Ev.some _) (by simp [bl])
  · have hp : (dg n).length ≠ 0 := by rw [Ne, dg_len_zero]; exact h
    obtain ⟨m, hm⟩ : ∃ m, (dg n).length = m + 1 := ⟨(dg n).length - 1, by omega⟩
    have hb : bl n = 32 * m + Lib.bitLen (rd (dg n) (m : Int)).toNat := by unfold bl; rw [if_neg h, hm]; rfl
    have hr := rd_lm (lm_dg n) (m : Int)
    have hbl := bits_half (rd (dg n) (m : Int)).toNat (by omega)
    rw [hb, hm]
    simp only [if_neg (show ¬ ((m + 1 : Nat) : Int) = 0 by omega), wn (show ((m + 1 : Nat) : Int) - 1 = (m : Int) by omega) (by omega), if_pos (show (0 : Int) ≤ (m : Int) by omega), if_pos (show (m : Int) < ((m + 1 : Nat) : Int) by omega)]
    rw [wn (show (32 : Int) * (m : Int) = ((32 * m : Nat) : Int) by omega) (by omega)]
    obtain ⟨x, hx⟩ : ∃ x : Nat, rd (dg n) (m : Int) = (x : Int) := ⟨(rd (dg n) (m : Int)).toNat, by omega⟩
    rw [hx] at hr hbl ⊢
    exact rbits_loop _ x (32 * m) (by omega) rfl (by omega)
theorem bl_le_one {n : Nat} : bl n ≤ 1 ↔ n ≤ 1 := by
  constructor
  · intro h
    by_cases h1 : bl n = 1
    · rw [bl_one.mp h1]; exact Nat.le_refl _
    · have h2 : n = 0 := bl_zero.mp (by omega)
      omega
  · intro h
    by_cases h1 : n = 1
    · rw [bl_one.mpr h1]; exact Nat.le_refl _
    · have h2 : bl n = 0 := bl_zero.mpr (by omega)
      omega
theorem rsmall_loop {a : List Int} {b : Int} (ha : Lm a) (hb0 : 0 < b) (hb1 : b < 4294967296) (hlen : a.length < 1073741824) : ∀ (n : Nat) (o : List Int) (r : Int), n ≤ a.length → o.length = a.length → Lm o → (∀ j : Nat, j < n → rd o (j : Int) = 0) → 0 ≤ r → r < b →
    Aside0 (lv o * b + (bp n : Int) * r = lv a - lv (a.take n)) → Ev (fun k => r1_small.l0 k a b o r ((n : Int) - 1)) (dg (lv a / b).toNat) := by
  intro n
  induction n with
  | zero =>
    intro o r hn ho hol hz hr0 hr1 hv
    refine Ev.succ ?_
    simp only [r1_small.l0, if_neg (show ¬ ((0 : Nat) : Int) - 1 ≥ 0 by omega)]
    refine Ev.bind (rtrim_ev hol (by omega)) ?_
    refine Ev.cast (Ev.some _) ?_
    have hv := hv.out
    rw [List.take_zero, lv_nil, bp_zero] at hv
    have e : lv a = b * lv o + r := by rw [Int.mul_comm]; omega
    have h1 : lv a / b = lv o := by
      rw [e, Int.add_comm, Int.add_mul_ediv_left _ _ (by omega), Int.ediv_eq_zero_of_lt hr0 hr1]; omega
    rw [h1]
  | succ n ih =>
    intro o r hn ho hol hz hr0 hr1 hv
    refine Ev.succ ?_
    have ra := rd_lm ha (n : Int)
    have hd := digit_bounds hr0 hr1 hb1 ra.1 ra.2
    have hdiv : b * ((r * 4294967296 + rd a (n : Int)) / b) + (r * 4294967296 + rd a (n : Int)) % b = r * 4294967296 + rd a (n : Int) := Int.mul_ediv_add_emod _ _
    have t0 : 0 ≤ r * 4294967296 + rd a (n : Int) := by omega
    simp only [r1_small.l0, show ((n + 1 : Nat) : Int) - 1 = (n : Int) from by omega, if_pos (show (n : Int) ≥ 0 by omega), if_pos (show (0 : Int) ≤ (n : Int) by omega), if_pos (show (n : Int) < (a.length : Int) by omega), if_pos (show (n : Int) < (o.length : Int) by omega), u64w (x := b) (by omega) (by omega), if_neg (show ¬ b = 0 by omega),
      u64w (x := rd a (n : Int)) ra.1 (by omega), u64w (x := r * 4294967296) (by omega) (by omega), u64w (x := r * 4294967296 + rd a (n : Int)) (by omega) (by omega), w64 (x := (n : Int) - 1) (by omega) (by omega)]
    rw [Int.tdiv_eq_ediv_of_nonneg t0, Int.tmod_eq_emod_of_nonneg t0]
    generalize (r * 4294967296 + rd a (n : Int)) / b = q at *
    generalize (r * 4294967296 + rd a (n : Int)) % b = s at *
    rw [u64w (x := q) hd.1 (by omega), show q % 4294967296 = q by omega, Int.toNat_natCast]
    refine ih _ _ (by omega) (by rw [List.length_set]; exact ho) (lm_set hol hd.1 hd.2.1) (fun j hj => ?_) hd.2.2.1 hd.2.2.2 ⟨?_⟩
    · rw [rd_set_ne _ (by omega)]; exact hz j (by omega)
    · have hv := hv.out
      rw [lv_take_succ (l := a) (i := n) (by omega), bp_succ, Int.natCast_mul] at hv
      rw [lv_set (l := o) (i := n) _ (by omega), hz n (by omega)]
      clear ih hz hd ra t0
      generalize lv o = x at *
      generalize (bp n : Int) = p at *
      generalize rd a (n : Int) = y at *
      generalize lv a = A at *
      generalize lv (a.take n) = T at *
      have hv : x * b + 4294967296 * p * r = A - (T + p * y) := hv
      have h3 : p * (b * q + s) = p * (r * 4294967296 + y) := by rw [hdiv]
      grind
theorem rsmall_ev {a n d : Nat} (ha : (dg a).length < 134217728) (hn : n < 4294967296) (hd0 : 0 < d) (hd1 : d < 4294967296) : Ev (fun k => r1_small.f k (dg a) (n : Int) (d : Int)) (dg (a * n / d)) := by
  simp only [r1_small.f, u64w (x := (n : Int)) (by omega) (by omega)]
  refine Ev.bind (rof_ev (by omega)) ?_
  have hnl : (dg n).length ≤ 1 := dg_len_le (by rw [show (1 : Nat) = 0 + 1 from rfl, bp_succ, bp_zero]; omega)
  refine Ev.bind (rmul2_ev (by omega) (by omega)) ?_
  have hl := mul_len a n
  simp only [if_pos (show (0 : Int) ≤ ((dg (a * n)).length : Int) by omega), Int.toNat_natCast, if_pos (show (dg (a * n)).length ≤ 70368744177664 by omega), w64 (x := ((dg (a * n)).length : Int) - 1) (by omega) (by omega)]
  refine Ev.cast (rsmall_loop (lm_dg _) (b := (d : Int)) (by omega) (by omega) (by omega) _ _ 0 (Nat.le_refl _) (by simp) (lm_rep _) (fun j _ => rd_rep _ j) (by omega) (by omega) ⟨by rw [lv_rep, List.take_of_length_le (Nat.le_refl _)]; simp⟩) ?_
  rw [lv_dg, ← Int.natCast_ediv, Int.toNat_natCast]
theorem choose_loop {n : Nat} (hn : n ≤ 4096) : ∀ (d i m : Nat), i + d = m → m ≤ n → Ev (fun k => r1_Choose.l0 k (n : Int) (m : Int) (dg (bin n i)) (i : Int)) (dg (bin n m)) := by
  intro d
  induction d with
  | zero =>
    intro i m hi hm
    have hi : i = m := by omega
    subst hi
    refine Ev.succ ?_
    simp only [r1_Choose.l0, if_neg (show ¬ (i : Int) < (i : Int) by omega)]
    exact Ev.some _
  | succ d ih =>
    intro i m hi hm
    refine Ev.succ ?_
    have hl := bin_len hn i
    simp only [r1_Choose.l0, wn (show (n : Int) - (i : Int) = ((n - i : Nat) : Int) by omega) (by omega), wn (show (i : Int) + 1 = ((i + 1 : Nat) : Int) by omega) (by omega), if_pos (show (i : Int) < (m : Int) by omega)]
    refine Ev.bind (rsmall_ev (by omega) (by omega) (by omega) (by omega)) ?_
    rw [bin_mul, Nat.mul_div_cancel_left _ (by omega)]
    exact ih (i + 1) m (by omega) hm
theorem choose_ev {n m : Nat} (hn : n ≤ 4096) (hm : m < 9223372036854775808) : Ev (fun k => r1_Choose.f k (n : Int) (m : Int)) (dg (bin n m)) := by
  simp only [r1_Choose.f, if_neg (show ¬ (m : Int) < 0 by omega)]
  by_cases h : n < m
  · simp only [decide_eq_true (show (m : Int) > (n : Int) by omega)]
    refine Ev.succ ?_
    simp only [r1_Choose.j0, if_true, bin_above h, dg_zero]
    exact Ev.some _
  · simp only [decide_eq_false (show ¬ (m : Int) > (n : Int) by omega)]
    refine Ev.succ ?_
    simp only [r1_Choose.j0, Bool.false_eq_true, if_false]
    rw [show ([1] : List Int) = dg (bin n 0) by rw [bin_zero, dg_one]]
    exact choose_loop hn m 0 m (by omega) (by omega)
theorem half_twice (n p : Nat) : n / p / 2 = n / (2 * p) := by rw [Nat.div_div_eq_div_mul, Nat.mul_comm]
theorem rpow_step (a n p : Nat) : a ^ (n / (2 * p)) * a ^ (n / (2 * p)) * (if n / p % 2 = 1 then a else 1) = a ^ (n / p) := by
  rw [← half_twice]
  generalize n / p = m
  rw [← Nat.pow_add]
  by_cases h : m % 2 = 1
  · rw [if_pos h, ← Nat.pow_succ]; congr 1; omega
  · rw [if_neg h, Nat.mul_one]; congr 1; omega
theorem rpow_loop {a n : Nat} (ha : (dg a).length ≤ 1) (hn : n < 4096) : ∀ (s : Nat), s ≤ 19 → ∀ d p : Nat, d = 2 ^ s / 2 → p = 2 ^ s → Ev (fun k => r1_Pow.l0 k (dg a) (n : Int) (dg (a ^ (n / p))) (d : Int)) (dg (a ^ n), 0) := by
  intro s
  induction s with
  | zero =>
    intro _ d p hd hp
    subst hd
    subst hp
    refine Ev.succ ?_
    rw [Nat.pow_zero, Nat.div_one]
    simp only [r1_Pow.l0, if_neg (show ¬ ((1 / 2 : Nat) : Int) > 0 by omega)]
    exact Ev.some _
  | succ s ih =>
    intro hs d p hd hp
    have hd2 : d = 2 ^ s := by rw [hd, Nat.pow_succ, Nat.mul_div_cancel _ (by decide)]
    have hp2 : p = 2 * d := by rw [hp, hd2, Nat.pow_succ, Nat.mul_comm]
    have hpos : 0 < d := by rw [hd2]; exact Nat.two_pow_pos s
    have hbig : d ≤ 524288 := by rw [hd2]; exact Nat.pow_le_pow_right (n := 2) (by decide) (show s ≤ 19 by omega)
    have hle : ∀ m, m ≤ n → (dg (a ^ m)).length ≤ 4096 := by
      intro m hm
      have := pow_len a m 1 ha
      omega
    have hm1 : n / p ≤ n := Nat.div_le_self _ _
    have hm2 : n / d ≤ n := Nat.div_le_self _ _
    have hl1 := hle _ hm1
    have hl2 := hle _ hm2
    have hst := rpow_step a n d
    rw [← hp2] at hst
    have hsq := mul_len (a ^ (n / p)) (a ^ (n / p))
    refine Ev.succ ?_
    have hw : wrap64 ((n / d : Nat) : Int) = ((n / d : Nat) : Int) := wn rfl (by omega)
    have hq : Int.tdiv (n : Int) (d : Int) = ((n / d : Nat) : Int) := by rw [Int.tdiv_eq_ediv_of_nonneg (by omega), ← Int.natCast_ediv]
    have hm : Int.tmod ((n / d : Nat) : Int) 2 = ((n / d % 2 : Nat) : Int) := by rw [Int.tmod_eq_emod_of_nonneg (Int.natCast_nonneg _)]; rfl
    have hh : wrap64 (Int.tdiv (d : Int) 2) = ((d / 2 : Nat) : Int) := by
      clear hw hq hm
      rw [Int.tdiv_eq_ediv_of_nonneg (by omega)]; exact wn (by omega) (by omega)
    simp only [r1_Pow.l0, if_pos (show (d : Int) > 0 by omega), if_neg (show ¬ (d : Int) = 0 by omega), hq, hw, hm, hh]
    clear hq hw hm hh
    refine Ev.bind (rmul2_ev (by omega) (by omega)) ?_
    have nx := ih (by omega) (d / 2) d (by rw [hd2]) hd2
    by_cases g : n / d % 2 = 1
    · rw [if_pos g] at hst
      simp only [if_pos (show ((n / d % 2 : Nat) : Int) = 1 by omega)]
      refine Ev.bind (rmul2_ev (by omega) (by omega)) ?_
      rw [hst]
      simp only [if_neg (show ¬ (((dg (a ^ (n / d))).length : Nat) : Int) > 4096 by omega)]
      exact nx
    · rw [if_neg g, Nat.mul_one] at hst
      simp only [if_neg (show ¬ ((n / d % 2 : Nat) : Int) = 1 by omega)]
      rw [hst]
      simp only [if_neg (show ¬ (((dg (a ^ (n / d))).length : Nat) : Int) > 4096 by omega)]
      exact nx
theorem rpow_ev {x n : Nat} (hx : x < 4294967296) (hn : n < 4096) : Ev (fun k => r1_Pow.f k (dg x) (n : Int)) (dg (x ^ n), 0) := by
  have hxl : (dg x).length ≤ 1 := dg_len_le (by rw [show (1 : Nat) = 0 + 1 from rfl, bp_succ, bp_zero]; omega)
  simp only [r1_Pow.f, if_neg (show ¬ (n : Int) < 0 by omega)]
  refine Ev.bind (rtrim2_ev (by omega)) ?_
  have one : ([1] : List Int) = dg 1 := dg_one.symm
  by_cases h0 : n = 0
  · subst h0
    simp only [if_pos (show ((0 : Nat) : Int) = 0 from rfl), Nat.pow_zero, one]
    exact Ev.some _
  · simp only [if_neg (show ¬ (n : Int) = 0 by omega)]
    refine Ev.bind (rbits_ev (by omega)) ?_
    by_cases h1 : x ≤ 1
    · have := bl_le_one.mpr h1
      simp only [if_pos (show ((bl x : Nat) : Int) ≤ 1 by omega)]
      have hx1 : x ^ n = x := by
        have : x = 0 ∨ x = 1 := by omega
        rcases this with e | e
        · subst e; exact Nat.zero_pow (by omega)
        · subst e; exact Nat.one_pow _
      rw [hx1]
      exact Ev.some _
    · have hb : ¬ bl x ≤ 1 := fun e => h1 (bl_le_one.mp e)
      simp only [if_neg (show ¬ ((bl x : Nat) : Int) ≤ 1 by omega), if_neg (show ¬ (n : Int) > 131072 by omega)]
      have := rpow_loop hxl hn 19 (Nat.le_refl _) 262144 524288 (by decide) (by decide)
      rw [Nat.div_eq_of_lt (show n < 524288 by omega), Nat.pow_zero, dg_one] at this
      exact this
def cmpZ (x y : Int) : Int := if x < y then -1 else if y < x then 1 else 0
theorem take_bound {a : List Int} (ha : Lm a) (n : Nat) : 0 ≤ lv (a.take n) ∧ lv (a.take n) < bp n := by
  have h1 := lv_nonneg (lm_take ha n)
  have h2 := lv_le_of_len (lm_take ha n) (m := n) (by rw [List.length_take]; omega)
  omega
theorem cmp_lt {a b : List Int} (ha : Lm a) (hb : Lm b) (n : Nat) (h : rd a (n : Int) < rd b (n : Int)) : lv (a.take (n + 1)) < lv (b.take (n + 1)) := by
  have h1 := take_bound ha n
  have h2 := take_bound hb n
  have h3 : (bp n : Int) * (rd a (n : Int) + 1) ≤ (bp n : Int) * rd b (n : Int) := Int.mul_le_mul_of_nonneg_left (by omega) (by omega)
  rw [lv_take_any, lv_take_any]
  rw [Int.mul_add, Int.mul_one] at h3
  generalize (bp n : Int) * rd a (n : Int) = x at *
  generalize (bp n : Int) * rd b (n : Int) = y at *
  omega
theorem cmp_step {a b : List Int} (ha : Lm a) (hb : Lm b) (n : Nat) : cmpZ (lv (a.take (n + 1))) (lv (b.take (n + 1))) = if rd a (n : Int) < rd b (n : Int) then -1 else if rd b (n : Int) < rd a (n : Int) then 1 else cmpZ (lv (a.take n)) (lv (b.take n)) := by
  by_cases h : rd a (n : Int) < rd b (n : Int)
  · rw [if_pos h]
    unfold cmpZ
    rw [if_pos (cmp_lt ha hb n h)]
  · rw [if_neg h]
    by_cases g : rd b (n : Int) < rd a (n : Int)
    · rw [if_pos g]
      have := cmp_lt hb ha n g
      unfold cmpZ
      rw [if_neg (by omega), if_pos this]
    · rw [if_neg g]
      have e : rd a (n : Int) = rd b (n : Int) := by omega
      rw [lv_take_any, lv_take_any, e]
      unfold cmpZ
      generalize (bp n : Int) * rd b (n : Int) = y at *
      by_cases h1 : lv (a.take n) < lv (b.take n)
      · rw [if_pos h1, if_pos (by omega)]
      · rw [if_neg h1, if_neg (by omega)]
        by_cases h2 : lv (b.take n) < lv (a.take n)
        · rw [if_pos h2, if_pos (by omega)]
        · rw [if_neg h2, if_neg (by omega)]
theorem ncmp_loop {a b : List Int} (ha : Lm a) (hb : Lm b) (hlen : a.length < 1073741824) (hab : a.length = b.length) : ∀ n : Nat, n ≤ a.length → Ev (fun k => nat_Cmp.l0 k a b ((n : Int) - 1)) (cmpZ (lv (a.take n)) (lv (b.take n))) := by
  intro n
  induction n with
  | zero =>
    intro _
    refine Ev.succ ?_
    simp only [nat_Cmp.l0, if_neg (show ¬ ((0 : Nat) : Int) - 1 ≥ 0 by omega)]
    exact Ev.cast (Ev.some _) (by simp [cmpZ])
  | succ n ih =>
    intro hn
    refine Ev.succ ?_
    rw [cmp_step ha hb n]
    simp only [nat_Cmp.l0, show ((n + 1 : Nat) : Int) - 1 = (n : Int) from by omega, if_pos (show (n : Int) ≥ 0 by omega), if_pos (show (0 : Int) ≤ (n : Int) by omega), if_pos (show (n : Int) < (a.length : Int) by omega), if_pos (show (n : Int) < (b.length : Int) by omega), w64 (x := (n : Int) - 1) (by omega) (by omega)]
    by_cases h : rd a (n : Int) < rd b (n : Int)
    · simp only [if_pos h]; exact Ev.some _
    · simp only [if_neg h]
      by_cases g : rd b (n : Int) < rd a (n : Int)
      · simp only [if_pos g, if_pos (show rd a (n : Int) > rd b (n : Int) from g)]; exact Ev.some _
      · simp only [if_neg g, if_neg (show ¬ rd a (n : Int) > rd b (n : Int) from g)]; exact ih (by omega)
theorem ncmp_ev {a b : Nat} (h1 : (dg a).length < 268435456) (h2 : (dg b).length < 268435456) : Ev (fun k => nat_Cmp.f k (dg a) (dg b)) (cmpZ (a : Int) (b : Int)) := by
  simp only [nat_Cmp.f]
  refine Ev.bind (short_ev (lm_dg a) (by omega)) ?_
  refine Ev.bind (short_ev (lm_dg b) (by omega)) ?_
  rw [lv_dg, lv_dg, Int.toNat_natCast, Int.toNat_natCast]
  by_cases h : (dg a).length = (dg b).length
  · simp only [if_pos (show ((dg a).length : Int) = ((dg b).length : Int) by omega), w64 (x := ((dg a).length : Int) - 1) (by omega) (by omega)]
    have := ncmp_loop (lm_dg a) (lm_dg b) (by omega) h _ (Nat.le_refl _)
    rw [List.take_of_length_le (Nat.le_refl _), List.take_of_length_le (by omega), lv_dg, lv_dg] at this
    exact this
  · simp only [if_neg (show ¬ ((dg a).length : Int) = ((dg b).length : Int) by omega)]
    by_cases g : (dg a).length < (dg b).length
    · simp only [if_pos (show ((dg a).length : Int) < ((dg b).length : Int) by omega)]
      have hlt : a < b := by
        by_cases e : b ≤ a
        · have := dg_len_mono e; omega
        · omega
      exact Ev.cast (Ev.some _) (by unfold cmpZ; rw [if_pos (by omega)])
    · simp only [if_neg (show ¬ ((dg a).length : Int) < ((dg b).length : Int) by omega)]
      have hlt : b < a := by
        by_cases e : a ≤ b
        · have := dg_len_mono e; omega
        · omega
      exact Ev.cast (Ev.some _) (by unfold cmpZ; rw [if_neg (by omega), if_pos (by omega)])
theorem rcmp_loop {a b : List Int} (ha : Lm a) (hb : Lm b) : ∀ n : Nat, n < 1073741824 → Ev (fun k => r1_Cmp.l0 k a b ((n : Int) - 1)) (cmpZ (lv (a.take n)) (lv (b.take n))) := by
  intro n
  induction n with
  | zero =>
    intro _
    refine Ev.succ ?_
    simp only [r1_Cmp.l0, if_neg (show ¬ ((0 : Nat) : Int) - 1 ≥ 0 by omega)]
    exact Ev.cast (Ev.some _) (by simp [cmpZ])
  | succ n ih =>
    intro hn
    refine Ev.succ ?_
    rw [cmp_step ha hb n]
    simp only [r1_Cmp.l0, show ((n + 1 : Nat) : Int) - 1 = (n : Int) from by omega, if_pos (show (n : Int) ≥ 0 by omega), limb_eq ha, limb_eq hb, Option.bind_some, w64 (x := (n : Int) - 1) (by omega) (by omega)]
    by_cases h : rd a (n : Int) < rd b (n : Int)
    · simp only [if_pos h]; exact Ev.some _
    · simp only [if_neg h]
      by_cases g : rd b (n : Int) < rd a (n : Int)
      · simp only [if_pos g, if_pos (show rd a (n : Int) > rd b (n : Int) from g)]; exact Ev.some _
      · simp only [if_neg g, if_neg (show ¬ rd a (n : Int) > rd b (n : Int) from g)]; exact ih (by omega)
theorem rcmp_ev {a b : Nat} (h1 : (dg a).length < 268435456) (h2 : (dg b).length < 268435456) : Ev (fun k => r1_Cmp.f k (dg a) (dg b)) (cmpZ (a : Int) (b : Int)) := by
  simp only [r1_Cmp.f]
  have hm : mx ((dg a).length : Int) ((dg b).length : Int) = ((max (dg a).length (dg b).length : Nat) : Int) := by unfold mx; split <;> omega
  rw [hm, w64 (x := ((max (dg a).length (dg b).length : Nat) : Int) - 1) (by clear hm; omega) (by clear hm; omega)]
  have := rcmp_loop (lm_dg a) (lm_dg b) (max (dg a).length (dg b).length) (by clear hm; omega)
  rw [List.take_of_length_le (by clear hm; omega), List.take_of_length_le (by clear hm; omega), lv_dg, lv_dg] at this
  exact this
theorem sub_low {a b c : Int} (ha0 : 0 ≤ a) (ha1 : a < 4294967296) (hb0 : 0 ≤ b) (hb1 : b < 4294967296) (hc0 : 0 ≤ c) (hc1 : c ≤ 1) :
    IntKind.u64.wrap (IntKind.u64.wrap (IntKind.u64.wrap a - c) - IntKind.u64.wrap b) % 4294967296 = (a - c - b) % 4294967296 := by
  simp only [u64m]; omega
theorem sub_high {a b c : Int} (ha0 : 0 ≤ a) (ha1 : a < 4294967296) (hb0 : 0 ≤ b) (hb1 : b < 4294967296) (hc0 : 0 ≤ c) (hc1 : c ≤ 1) :
    IntKind.u64.wrap (IntKind.u64.wrap (IntKind.u64.wrap a - c) - IntKind.u64.wrap b) / 9223372036854775808 = -((a - c - b) / 4294967296) := by
  simp only [u64m]; omega
theorem sub_low0 {a c : Int} (ha0 : 0 ≤ a) (ha1 : a < 4294967296) (hc0 : 0 ≤ c) (hc1 : c ≤ 1) : IntKind.u64.wrap (IntKind.u64.wrap a - c) % 4294967296 = (a - c - 0) % 4294967296 := by
  simp only [u64m]; omega
theorem sub_high0 {a c : Int} (ha0 : 0 ≤ a) (ha1 : a < 4294967296) (hc0 : 0 ≤ c) (hc1 : c ≤ 1) : IntKind.u64.wrap (IntKind.u64.wrap a - c) / 9223372036854775808 = -((a - c - 0) / 4294967296) := by
  simp only [u64m]; omega
theorem sub_bounds {a b c : Int} (ha0 : 0 ≤ a) (ha1 : a < 4294967296) (hb0 : 0 ≤ b) (hb1 : b < 4294967296) (hc0 : 0 ≤ c) (hc1 : c ≤ 1) :
    0 ≤ (a - c - b) % 4294967296 ∧ (a - c - b) % 4294967296 < 4294967296 ∧ 0 ≤ -((a - c - b) / 4294967296) ∧ -((a - c - b) / 4294967296) ≤ 1 ∧ (a - c - b) % 4294967296 = a - c - b + 4294967296 * -((a - c - b) / 4294967296) := by omega
theorem nsub_loop {a b : List Int} (ha : Lm a) (hb : Lm b) (hlen : a.length < 1073741824) (hba : b.length ≤ a.length) (hle : lv b ≤ lv a) : ∀ (d i : Nat) (o : List Int) (c : Int), i + d = a.length → o.length = a.length → Lm o → 0 ≤ c → c ≤ 1 → (∀ j : Nat, i ≤ j → rd o (j : Int) = rd a (j : Int)) →
    Aside0 (lv o = lv a - lv (b.take i) + (bp i : Int) * c) → Ev (fun k => nat_Sub.l0 k b o c (a.length : Int) (i : Int)) (dg (lv a - lv b).toNat, 0) := by
  intro d
  induction d with
  | zero =>
    intro i o c hi ho hol hc0 hc1 hr hv
    have hi : i = a.length := by omega
    subst hi
    refine Ev.succ ?_
    simp only [nat_Sub.l0, if_neg (show ¬ ((a.length : Nat) : Int) < (a.length : Int) by omega)]
    refine Ev.bind (short_ev hol (by omega)) ?_
    refine Ev.cast (Ev.some _) ?_
    have hv := hv.out
    rw [List.take_of_length_le hba] at hv
    have h1 := lv_le_of_len hol (m := a.length) (by omega)
    have h2 := lv_nonneg hol
    have hc : c = 0 := by
      by_cases e : c = 1
      · subst e; rw [Int.mul_one] at hv; omega
      · omega
    subst hc
    rw [hv, Int.mul_zero, Int.add_zero]
  | succ d ih =>
    intro i o c hi ho hol hc0 hc1 hr hv
    have hia : i < a.length := by omega
    have ra := rd_lm ha (i : Int)
    have rb := rd_lm hb (i : Int)
    have hri := hr i (Nat.le_refl _)
    have step : Ev (fun k => nat_Sub.l0 k b (o.set ((i : Int)).toNat ((rd a (i : Int) - c - rd b (i : Int)) % 4294967296)) (-((rd a (i : Int) - c - rd b (i : Int)) / 4294967296)) (a.length : Int) ((i + 1 : Nat) : Int)) (dg (lv a - lv b).toNat, 0) := by
      have sb := sub_bounds ra.1 ra.2 rb.1 rb.2 hc0 hc1
      rw [Int.toNat_natCast]
      refine ih (i + 1) _ _ (by omega) (by rw [List.length_set]; exact ho) (lm_set hol sb.1 sb.2.1) sb.2.2.1 sb.2.2.2.1 (fun j hj => ?_) ⟨?_⟩
      · rw [rd_set_ne _ (by omega)]; exact hr j (by omega)
      · rw [lv_set _ (by omega), lv_take_any, bp_succ, Int.natCast_mul, sb.2.2.2.2, hri, hv.out]
        generalize -((rd a (i : Int) - c - rd b (i : Int)) / 4294967296) = u at *
        generalize (bp i : Int) = p at *
        generalize rd a (i : Int) = x at *
        generalize rd b (i : Int) = y at *
        show lv a - lv (b.take i) + p * c + p * (x - c - y + 4294967296 * u - x) = lv a - (lv (b.take i) + p * y) + 4294967296 * p * u
        grind
    refine Ev.succ ?_
    by_cases hib : i < b.length
    · simp only [nat_Sub.l0, wn (show (i : Int) + 1 = ((i + 1 : Nat) : Int) by omega) (by omega), if_pos (show (i : Int) < (a.length : Int) by omega), if_pos (show (0 : Int) ≤ (i : Int) by omega), if_pos (show (i : Int) < (o.length : Int) by omega), if_pos (show (i : Int) < (b.length : Int) by omega), hri, sub_low ra.1 ra.2 rb.1 rb.2 hc0 hc1, sub_high ra.1 ra.2 rb.1 rb.2 hc0 hc1]
      exact step
    · have hb0 : rd b (i : Int) = 0 := rd_ge (by omega)
      rw [hb0] at step
      simp only [nat_Sub.l0, wn (show (i : Int) + 1 = ((i + 1 : Nat) : Int) by omega) (by omega), if_pos (show (i : Int) < (a.length : Int) by omega), if_pos (show (0 : Int) ≤ (i : Int) by omega), if_pos (show (i : Int) < (o.length : Int) by omega), if_neg (show ¬ (i : Int) < (b.length : Int) by omega), hri, sub_low0 ra.1 ra.2 hc0 hc1, sub_high0 ra.1 ra.2 hc0 hc1]
      exact step
theorem nsub_ev {a b : Nat} (h1 : (dg a).length < 268435456) (hab : b ≤ a) : Ev (fun k => nat_Sub.f k (dg a) (dg b)) (dg (a - b), 0) := by
  have hl := dg_len_mono hab
  simp only [nat_Sub.f]
  refine Ev.bind (ncmp_ev (by omega) (by omega)) ?_
  have hc : ¬ cmpZ (a : Int) (b : Int) < 0 := by unfold cmpZ; rw [if_neg (by omega)]; split <;> omega
  simp only [if_neg hc]
  refine Ev.bind (trim2_ev (by omega)) ?_
  refine Ev.cast (nsub_loop (lm_dg a) (lm_dg b) (by omega) hl (by rw [lv_dg, lv_dg]; omega) (dg a).length 0 _ 0 (by omega) rfl (lm_dg a) (by omega) (by omega) (fun j _ => rfl) ⟨by simp [lv_nil]⟩) ?_
  rw [lv_dg, lv_dg]
  congr 2
  omega
theorem rsub_sum {a b c : Int} (ha0 : 0 ≤ a) (ha1 : a < 4294967296) (hb0 : 0 ≤ b) (hb1 : b < 4294967296) (hc0 : 0 ≤ c) (hc1 : c ≤ 1) :
    IntKind.u64.wrap (IntKind.u64.wrap (IntKind.u64.wrap (a + 4294967296) - b) - c) = a + 4294967296 - b - c := by
  rw [u64w (x := a + 4294967296) (by omega) (by omega), u64w (x := a + 4294967296 - b) (by omega) (by omega), u64w (by omega) (by omega)]
theorem rsub_loop {a b : List Int} (ha : Lm a) (hb : Lm b) (hlen : a.length < 1073741824) (hba : b.length ≤ a.length) (hle : lv b ≤ lv a) : ∀ (d i : Nat) (o : List Int) (c : Int), i + d = a.length → o.length = i → Lm o → 0 ≤ c → c ≤ 1 →
    Aside0 (lv o = lv (a.take i) - lv (b.take i) + (bp i : Int) * c) → Ev (fun k => r1_Sub.l0 k a b o c (i : Int)) (dg (lv a - lv b).toNat) := by
  intro d
  induction d with
  | zero =>
    intro i o c hi ho hol hc0 hc1 hv
    have hi : i = a.length := by omega
    subst hi
    refine Ev.succ ?_
    simp only [r1_Sub.l0, if_neg (show ¬ ((a.length : Nat) : Int) < (a.length : Int) by omega)]
    refine Ev.bind (rtrim_ev hol (by omega)) ?_
    refine Ev.cast (Ev.some _) ?_
    have hv := hv.out
    rw [List.take_of_length_le (Nat.le_refl _), List.take_of_length_le hba] at hv
    have h1 := lv_le_of_len hol (m := a.length) (by omega)
    have h2 := lv_nonneg hol
    have hc : c = 0 := by
      by_cases e : c = 1
      · subst e; rw [Int.mul_one] at hv; omega
      · omega
    subst hc
    rw [hv, Int.mul_zero, Int.add_zero]
  | succ d ih =>
    intro i o c hi ho hol hc0 hc1 hv
    have hia : i < a.length := by omega
    have ra := rd_lm ha (i : Int)
    have rb := rd_lm hb (i : Int)
    have hsd : ∃ s, s = rd a (i : Int) + 4294967296 - rd b (i : Int) - c := ⟨_, rfl⟩
    obtain ⟨s, hs⟩ := hsd
    have hs0 : 0 ≤ s := by omega
    have hs1 : s < 8589934592 := by omega
    refine Ev.succ ?_
    simp only [r1_Sub.l0, limb_eq ha, limb_eq hb, Option.bind_some, if_pos (show (i : Int) < (a.length : Int) by omega), if_pos (show o.length < 35184372088832 by omega), rsub_sum ra.1 ra.2 rb.1 rb.2 hc0 hc1, ← hs, tmod_nn 4294967296 hs0, tdiv_nn 4294967296 hs0, wn (show (i : Int) + 1 = ((i + 1 : Nat) : Int) by omega) (by omega), u64w (x := s / 4294967296) (by omega) (by omega), u64w (x := 1 - s / 4294967296) (by omega) (by omega), show s % 4294967296 % 4294967296 = s % 4294967296 by omega]
    refine ih (i + 1) _ _ (by omega) (by rw [List.length_append]; simp [ho]) (lm_append hol (lm_cons.mpr ⟨by omega, lm_nil⟩)) (by omega) (by omega) ⟨?_⟩
    rw [lv_append, lv_cons, lv_nil, ho, lv_take_any, lv_take_any, bp_succ, Int.natCast_mul, hv.out]
    have hdiv : s % 4294967296 + 4294967296 * (s / 4294967296) = rd a (i : Int) + 4294967296 - rd b (i : Int) - c := by rw [split_div]; exact hs
    clear ih hs hs0 hs1 ra rb hc0 hc1 hv
    generalize s % 4294967296 = y at *
    generalize s / 4294967296 = u at *
    generalize (bp i : Int) = p at *
    generalize rd a (i : Int) = x at *
    generalize rd b (i : Int) = z at *
    generalize lv (a.take i) = la at *
    generalize lv (b.take i) = lb at *
    show la - lb + p * c + p * (y + 4294967296 * 0) = la + p * x - (lb + p * z) + 4294967296 * p * (1 - u)
    have h3 : p * (y + 4294967296 * u) = p * (x + 4294967296 - z - c) := by rw [hdiv]
    grind
theorem rsub_ev {a b : Nat} (h1 : (dg a).length < 268435456) (hab : b ≤ a) : Ev (fun k => r1_Sub.f k (dg a) (dg b)) (dg (a - b)) := by
  have hl := dg_len_mono hab
  simp only [r1_Sub.f]
  refine Ev.cast (rsub_loop (lm_dg a) (lm_dg b) (by omega) hl (by rw [lv_dg, lv_dg]; omega) (dg a).length 0 [] 0 (by omega) rfl lm_nil (by omega) (by omega) ⟨by simp [lv_nil]⟩) ?_
  rw [lv_dg, lv_dg]
  congr 1
  omega
theorem bitLen_ge : ∀ (b x : Nat), x < 4294967296 → x ≠ 0 → Lib.bitLen x = b + 1 → 2 ^ b ≤ x := by
  intro b
  induction b with
  | zero => intro x _ h0 _; rw [Nat.pow_zero]; omega
  | succ b ih =>
    intro x hx h0 hb
    rw [Lib.bitLen_half x h0 (by omega)] at hb
    have h2 : x / 2 ≠ 0 := by intro e; rw [e, bitLen_zero] at hb; omega
    have := ih (x / 2) (by omega) h2 (by omega)
    rw [Nat.pow_succ]
    omega
theorem bl_bounds {n : Nat} (h : n ≠ 0) : 2 ^ (bl n - 1) ≤ n ∧ n < 2 ^ bl n ∧ 1 ≤ bl n := by
  have hp : (dg n).length ≠ 0 := by rw [Ne, dg_len_zero]; exact h
  obtain ⟨m, hm⟩ : ∃ m, (dg n).length = m + 1 := ⟨(dg n).length - 1, by omega⟩
  have hb : bl n = 32 * m + Lib.bitLen (rd (dg n) (m : Int)).toNat := by unfold bl; rw [if_neg h, hm]; rfl
  have hr := rd_lm (lm_dg n) (m : Int)
  have ht := dg_head hm.symm
  obtain ⟨x, hx⟩ : ∃ x : Nat, rd (dg n) (m : Int) = (x : Int) := ⟨(rd (dg n) (m : Int)).toNat, by omega⟩
  have hv : lv (dg n) = lv ((dg n).take m) + (bp m : Int) * (x : Int) := by
    have := lv_take_succ (l := dg n) (i := m) (by omega)
    rw [← hm, List.take_of_length_le (Nat.le_refl _), hx] at this
    exact this
  have hlow := take_bound (lm_dg n) m
  rw [lv_dg] at hv
  rw [hx] at hr ht hb
  rw [Int.toNat_natCast] at hb
  have hx0 : x ≠ 0 := by omega
  have hx1 : x < 4294967296 := by omega
  obtain ⟨c, hc⟩ : ∃ c, Lib.bitLen x = c + 1 := ⟨Lib.bitLen x - 1, by have := bitLen_pos hx0 hx1; omega⟩
  have h1 := bitLen_ge c x hx1 hx0 hc
  have h2 := bitLen_lt (c + 1) x hx1 (by omega)
  obtain ⟨y, hy⟩ : ∃ y : Nat, lv ((dg n).take m) = (y : Int) := ⟨(lv ((dg n).take m)).toNat, by omega⟩
  rw [hy] at hlow hv
  have hn : n = y + bp m * x := by
    have : ((n : Nat) : Int) = ((y + bp m * x : Nat) : Int) := by rw [hv, Int.natCast_add, Int.natCast_mul]
    omega
  have hy2 : y < bp m := by omega
  rw [hb, hc]
  refine ⟨?_, ?_, by omega⟩
  · rw [show 32 * m + (c + 1) - 1 = 32 * m + c by omega, Nat.pow_add, pow2_bp]
    have := Nat.mul_le_mul_left (bp m) h1
    omega
  · rw [Nat.pow_add, pow2_bp]
    have h3 : bp m * (x + 1) ≤ bp m * 2 ^ (c + 1) := Nat.mul_le_mul_left _ (by omega)
    rw [Nat.mul_add, Nat.mul_one] at h3
    omega
theorem shl_limb {x c : Int} {m : Nat} (hx0 : 0 ≤ x) (hx1 : x < 4294967296) (hm : m < 32) (hc0 : 0 ≤ c) (hc1 : c < 4294967296) :
    IntKind.u64.wrap (shl .u64 (IntKind.u64.wrap x) (m : Int) + c) = x * ((2 ^ m : Nat) : Int) + c ∧ 0 ≤ x * ((2 ^ m : Nat) : Int) + c ∧ x * ((2 ^ m : Nat) : Int) + c < 18446744073709551616 := by
  have hp : 2 ^ m ≤ 2147483648 := Nat.pow_le_pow_right (n := 2) (by decide) (show m ≤ 31 by omega)
  have hb : x * ((2 ^ m : Nat) : Int) ≤ 4294967295 * 2147483648 := Int.mul_le_mul (by omega) (Int.ofNat_le.mpr hp) (Int.natCast_nonneg _) (by decide)
  have h0 : 0 ≤ x * ((2 ^ m : Nat) : Int) := Int.mul_nonneg hx0 (Int.natCast_nonneg _)
  have e : shl .u64 (IntKind.u64.wrap x) (m : Int) = x * ((2 ^ m : Nat) : Int) := by
    unfold shl
    rw [u64w (x := x) hx0 (by omega), Int.toNat_natCast, Nat.min_eq_left (show m ≤ IntKind.u64.bits by simp [IntKind.bits]; omega)]
    rw [show (2 : Int) ^ m = ((2 ^ m : Nat) : Int) by rw [Int.natCast_pow]; rfl]
    exact u64w h0 (by omega)
  rw [e]
  generalize x * ((2 ^ m : Nat) : Int) = y at *
  exact ⟨u64w (by omega) (by omega), by omega, by omega⟩
theorem rshift_loop {a : List Int} {n m z : Nat} (ha : Lm a) (hla : a.length < 268435456) (hz : z < 268435456) (hnm : Int.tmod (n : Int) 32 = (m : Int)) (hm : m < 32) : ∀ (d i : Nat) (o : List Int) (c : Int), i + d = a.length → o.length = z + i → Lm o → 0 ≤ c → c < 4294967296 →
    Aside0 (lv o + (bp (z + i) : Int) * c = (bp z : Int) * (lv (a.take i) * ((2 ^ m : Nat) : Int))) → Ev (fun k => r1_shift.l0 k a (n : Int) o c (i : Int)) (dg ((bp z : Int) * (lv a * ((2 ^ m : Nat) : Int))).toNat) := by
  intro d
  induction d with
  | zero =>
    intro i o c hi ho hol hc0 hc1 hv
    have hi : i = a.length := by omega
    subst hi
    refine Ev.succ ?_
    simp only [r1_shift.l0, if_neg (show ¬ ((a.length : Nat) : Int) < (a.length : Int) by omega), if_pos (show o.length < 35184372088832 by omega)]
    have hl : Lm (o ++ [c % 4294967296]) := lm_append hol (lm_cons.mpr ⟨by omega, lm_nil⟩)
    refine Ev.bind (rtrim_ev hl (by rw [List.length_append]; simp; omega)) ?_
    refine Ev.cast (Ev.some _) ?_
    have hv := hv.out
    rw [List.take_of_length_le (Nat.le_refl _)] at hv
    rw [lv_append, lv_cons, lv_nil, ho, show c % 4294967296 = c by omega, Int.mul_zero, Int.add_zero, hv]
  | succ d ih =>
    intro i o c hi ho hol hc0 hc1 hv
    have hia : i < a.length := by omega
    have ra := rd_lm ha (i : Int)
    have sl := shl_limb ra.1 ra.2 hm hc0 hc1
    refine Ev.succ ?_
    simp only [r1_shift.l0, hnm, sl.1, if_pos (show (i : Int) < (a.length : Int) by omega), if_pos (show (0 : Int) ≤ (i : Int) by omega), if_pos (show (0 : Int) ≤ (m : Int) by omega), if_pos (show o.length < 35184372088832 by omega), wn (show (i : Int) + 1 = ((i + 1 : Nat) : Int) by omega) (by omega), tmod_nn 4294967296 sl.2.1, tdiv_nn 4294967296 sl.2.1]
    have hsd : ∃ s, s = rd a (i : Int) * ((2 ^ m : Nat) : Int) + c := ⟨_, rfl⟩
    obtain ⟨s, hs⟩ := hsd
    have hs0 : 0 ≤ s := by rw [hs]; exact sl.2.1
    have hs1 : s < 18446744073709551616 := by rw [hs]; exact sl.2.2
    clear sl
    rw [← hs]
    have hd := div_bound hs0 hs1
    have hs := Aside0.mk hs
    rw [show s % 4294967296 % 4294967296 = s % 4294967296 by omega]
    rw [u64w (x := s / 4294967296) hd.2.2.1 (by omega)]
    refine ih (i + 1) _ _ (by omega) (by rw [List.length_append]; simp [ho]; omega) (lm_append hol (lm_cons.mpr ⟨⟨hd.1, hd.2.1⟩, lm_nil⟩)) hd.2.2.1 hd.2.2.2 ⟨?_⟩
    have hdiv : s % 4294967296 + 4294967296 * (s / 4294967296) = rd a (i : Int) * ((2 ^ m : Nat) : Int) + c := by rw [split_div]; exact hs.out
    rw [lv_append, lv_cons, lv_nil, ho, lv_take_any, ← Nat.add_assoc, bp_succ, Int.natCast_mul]
    have hv := hv.out
    have hbp : ((bp (z + i) : Nat) : Int) = (bp z : Int) * (bp i : Int) := by rw [bp_add, Int.natCast_mul]
    clear ih hs hs0 hs1 hd ra hc0 hc1 hnm hm
    generalize s % 4294967296 = y at *
    generalize s / 4294967296 = u at *
    generalize (bp (z + i) : Int) = p at *
    generalize (bp z : Int) = pz at *
    generalize (bp i : Int) = pi at *
    generalize rd a (i : Int) = x at *
    generalize ((2 ^ m : Nat) : Int) = P at *
    generalize lv (a.take i) = la at *
    generalize lv o = lo at *
    subst hbp
    show lo + pz * pi * (y + 4294967296 * 0) + 4294967296 * (pz * pi) * u = pz * ((la + pi * x) * P)
    have h3 : pz * pi * (y + 4294967296 * u) = pz * pi * (x * P + c) := by rw [hdiv]
    grind
theorem rshift_ev {a n : Nat} (ha : (dg a).length < 134217728) (hn : n < 4294967296) : Ev (fun k => r1_shift.f k (dg a) (n : Int)) (dg (a * 2 ^ n)) := by
  have h1 : Int.tdiv (n : Int) 32 = ((n / 32 : Nat) : Int) := by rw [Int.tdiv_eq_ediv_of_nonneg (by omega)]; rfl
  have h2 : Int.tmod (n : Int) 32 = ((n % 32 : Nat) : Int) := by rw [Int.tmod_eq_emod_of_nonneg (by omega)]; rfl
  have h3 : wrap64 ((n / 32 : Nat) : Int) = ((n / 32 : Nat) : Int) := wn rfl (by clear h1 h2; omega)
  simp only [r1_shift.f, h1, h3, if_pos (show (0 : Int) ≤ ((n / 32 : Nat) : Int) by omega), Int.toNat_natCast, if_pos (show n / 32 ≤ 70368744177664 by clear h1 h2 h3; omega)]
  clear h1 h3
  refine Ev.cast (rshift_loop (z := n / 32) (lm_dg a) (by clear h2; omega) (by clear h2; omega) h2 (by clear h2; omega) (dg a).length 0 _ 0 (by omega) (by simp) (lm_rep _) (by omega) (by omega) ⟨by rw [lv_rep]; simp [lv_nil]⟩) ?_
  clear h2
  rw [lv_dg, ← Int.natCast_mul, ← Int.natCast_mul, Int.toNat_natCast]
  congr 1
  rw [← pow2_bp, Nat.mul_left_comm, ← Nat.pow_add]
  congr 2
  omega
theorem pow2_len (i : Nat) : (dg (2 ^ i)).length ≤ i / 32 + 1 := by
  refine dg_len_le ?_
  rw [← pow2_bp]
  exact Nat.pow_lt_pow_right (by decide) (by omega)
theorem rdivmod_loop {a b : Nat} (hb : b ≠ 0) (hla : (dg a).length < 1048576) (hlb : (dg b).length < 1048576) : ∀ (n : Nat), n < 67108864 → ∀ (quo rem : Nat), quo * b + rem = a → rem < b * 2 ^ n →
    Ev (fun k => r1_DivMod.l0 k (dg b) (dg quo) (dg rem) ((n : Int) - 1)) (dg (a / b), dg (a % b)) := by
  intro n
  induction n with
  | zero =>
    intro _ quo rem h1 h2
    rw [Nat.pow_zero, Nat.mul_one] at h2
    have hq : a / b = quo := by
      rw [← h1, Nat.mul_comm, Nat.mul_add_div (by omega), Nat.div_eq_of_lt h2, Nat.add_zero]
    have hr : a % b = rem := by
      rw [← h1, Nat.mul_comm, Nat.mul_add_mod, Nat.mod_eq_of_lt h2]
    have hql : (dg quo).length ≤ (dg a).length := dg_len_mono (by
      rw [← hq]; exact Nat.div_le_self _ _)
    refine Ev.succ ?_
    simp only [r1_DivMod.l0, if_neg (show ¬ ((0 : Nat) : Int) - 1 ≥ 0 by omega)]
    refine Ev.bind (rtrim2_ev (by omega)) ?_
    rw [hq, hr]
    exact Ev.some _
  | succ n ih =>
    intro hn quo rem h1 h2
    have hql : (dg quo).length ≤ (dg a).length := dg_len_mono (by
      have : quo * 1 ≤ quo * b := Nat.mul_le_mul_left _ (by omega)
      omega)
    have hrl : (dg rem).length ≤ (dg a).length := dg_len_mono (by omega)
    have hp := pow2_len n
    have ht := mul_len b (2 ^ n)
    refine Ev.succ ?_
    simp only [r1_DivMod.l0, show ((n + 1 : Nat) : Int) - 1 = (n : Int) from by omega, if_pos (show (n : Int) ≥ 0 by omega), w64 (x := (n : Int) - 1) (by omega) (by omega)]
    refine Ev.bind (rshift_ev (by omega) (by omega)) ?_
    refine Ev.bind (rcmp_ev (by omega) (by omega)) ?_
    by_cases h : b * 2 ^ n ≤ rem
    · have hc : cmpZ (rem : Int) ((b * 2 ^ n : Nat) : Int) ≥ 0 := by
        unfold cmpZ
        rw [if_neg (by omega)]
        split <;> omega
      simp only [if_pos hc]
      refine Ev.bind (rsub_ev (by omega) h) ?_
      rw [show ([1] : List Int) = dg 1 from dg_one.symm]
      refine Ev.bind (rshift_ev (by rw [dg_one]; simp) (by omega)) ?_
      rw [Nat.one_mul]
      refine Ev.bind (radd2_ev (by omega) (by omega)) ?_
      refine ih (by omega) _ _ ?_ ?_
      · rw [Nat.add_mul, Nat.mul_comm (2 ^ n) b]
        generalize b * 2 ^ n = t at *
        omega
      · rw [Nat.pow_succ, ← Nat.mul_assoc] at h2
        generalize b * 2 ^ n = t at *
        omega
    · have hc : ¬ cmpZ (rem : Int) ((b * 2 ^ n : Nat) : Int) ≥ 0 := by
        unfold cmpZ
        rw [if_pos (by omega)]
        omega
      simp only [if_neg hc]
      exact ih (by omega) quo rem h1 (by omega)
theorem bl_le (n : Nat) : bl n ≤ 32 * (dg n).length := by
  by_cases h : n = 0
  · subst h; rw [bl_zero.mpr rfl]; omega
  · have hb := bl_bounds h
    have h1 := dg_lt_len n
    rw [← pow2_bp] at h1
    have h2 : bl n - 1 < 32 * (dg n).length := by
      refine (Nat.pow_lt_pow_iff_right (a := 2) (by decide)).mp (Nat.lt_of_le_of_lt hb.1 h1)
    omega
theorem rdivmod_ev {a b : Nat} (hb : b ≠ 0) (hla : (dg a).length < 1048576) (hlb : (dg b).length < 1048576) : Ev (fun k => r1_DivMod.f k (dg a) (dg b)) (dg (a / b), dg (a % b)) := by
  simp only [r1_DivMod.f]
  refine Ev.bind (rtrim2_ev (by omega)) ?_
  refine Ev.bind (rbits_ev (by omega)) ?_
  refine Ev.bind (rbits_ev (by omega)) ?_
  have ba := bl_le a
  have bb := bl_le b
  have hbb := bl_bounds hb
  rw [show ([] : List Int) = dg 0 from dg_zero.symm]
  by_cases h : bl b ≤ bl a
  · rw [show wrap64 (((bl a : Nat) : Int) - ((bl b : Nat) : Int)) = ((bl a - bl b + 1 : Nat) : Int) - 1 from by rw [w64 (by omega) (by omega)]; omega]
    refine rdivmod_loop hb hla hlb _ (by omega) 0 a (by omega) ?_
    by_cases ha : a = 0
    · subst ha; exact Nat.mul_pos (by omega) (Nat.two_pow_pos _)
    · have hba := bl_bounds ha
      refine Nat.lt_of_lt_of_le hba.2.1 ?_
      rw [show bl a = (bl b - 1) + (bl a - bl b + 1) by omega, Nat.pow_add]
      rw [show (bl b - 1) + (bl a - bl b + 1) - bl b + 1 = bl a - bl b + 1 by omega]
      exact Nat.mul_le_mul_right _ hbb.1
  · rw [show wrap64 (((bl a : Nat) : Int) - ((bl b : Nat) : Int)) = -((bl b - bl a : Nat) : Int) from by rw [w64 (by omega) (by omega)]; omega]
    have hlt : a < b := by
      by_cases ha : a = 0
      · omega
      · have hba := bl_bounds ha
        refine Nat.lt_of_lt_of_le hba.2.1 (Nat.le_trans ?_ hbb.1)
        exact Nat.pow_le_pow_right (by decide) (by omega)
    refine Ev.succ ?_
    simp only [r1_DivMod.l0, if_neg (show ¬ -((bl b - bl a : Nat) : Int) ≥ 0 by omega)]
    refine Ev.bind (rtrim2_ev (by rw [dg_zero]; simp)) ?_
    rw [Nat.div_eq_of_lt hlt, Nat.mod_eq_of_lt hlt]
    exact Ev.some _
theorem rzero_ev {a : Nat} (h : (dg a).length < 268435456) : Ev (fun k => r1_Zero.f k (dg a)) (decide (a = 0)) := by
  simp only [r1_Zero.f]
  refine Ev.bind (rtrim2_ev h) ?_
  refine Ev.cast (Ev.some _) ?_
  by_cases h0 : a = 0
  · subst h0; rw [dg_zero]; simp
  · rw [decide_eq_false h0]
    have : (dg a).length ≠ 0 := by rw [Ne, dg_len_zero]; exact h0
    simp only [beq_eq_false_iff_ne]
    omega
theorem rgcd_loop : ∀ (b a : Nat), (dg a).length < 1048576 → (dg b).length < 1048576 → Ev (fun k => r1_Gcd.l0 k (dg a) (dg b)) (dg (Nat.gcd a b)) := by
  intro b
  induction b using Nat.strongRecOn with
  | _ b ih =>
    intro a h1 h2
    refine Ev.succ ?_
    simp only [r1_Gcd.l0]
    refine Ev.bind (rzero_ev (by omega)) ?_
    by_cases h0 : b = 0
    · subst h0
      simp only [decide_true, if_true, Nat.gcd_zero_right]
      refine Ev.bind (rtrim2_ev (by omega)) ?_
      exact Ev.some _
    · simp only [decide_eq_false h0, Bool.false_eq_true, if_false]
      refine Ev.bind (rdivmod_ev h0 h1 h2) ?_
      rw [Nat.gcd_comm, Nat.gcd_rec, Nat.gcd_comm]
      have hlt := Nat.mod_lt a (show b > 0 by omega)
      refine ih (a % b) hlt b h2 ?_
      have := dg_len_mono (Nat.le_of_lt hlt)
      omega
theorem rgcd_ev {a b : Nat} (h1 : (dg a).length < 1048576) (h2 : (dg b).length < 1048576) : Ev (fun k => r1_Gcd.f k (dg a) (dg b)) (dg (Nat.gcd a b)) := by
  simp only [r1_Gcd.f]
  exact rgcd_loop b a h1 h2
theorem short2_ev {a : Nat} (h1 : (dg a).length < 268435456) : Ev (fun k => nat_short.f k (dg a)) (dg a) := by
  refine Ev.cast (short_ev (lm_dg a) (by omega)) ?_
  rw [lv_dg, Int.toNat_natCast]
theorem ndivmod1_ev {a b : Nat} (hb0 : b ≠ 0) (hb1 : b < 4294967296) (hla : (dg a).length < 268435456) : Ev (fun k => nat_DivMod.f k (dg a) (dg b)) (dg (a / b), dg (a % b), 0) := by
  have hb : dg b = [(b : Int)] := dg_small hb0 hb1
  have hbl : (dg b).length = 1 := by rw [hb]; rfl
  simp only [nat_DivMod.f]
  refine Ev.bind (short2_ev hla) ?_
  refine Ev.bind (short2_ev (by omega)) ?_
  rw [hbl]
  simp only [if_neg (show ¬ ((1 : Nat) : Int) = 0 by omega)]
  refine Ev.bind (ncmp_ev hla (by omega)) ?_
  by_cases h : a < b
  · have hc : cmpZ (a : Int) (b : Int) < 0 := by unfold cmpZ; rw [if_pos (by omega)]; omega
    simp only [if_pos hc]
    refine Ev.bind (trim2_ev hla) ?_
    rw [Nat.div_eq_of_lt h, Nat.mod_eq_of_lt h, dg_zero]
    exact Ev.some _
  · have hc : ¬ cmpZ (a : Int) (b : Int) < 0 := by unfold cmpZ; rw [if_neg (by omega)]; split <;> omega
    simp only [if_neg hc, if_pos (show ((1 : Nat) : Int) = 1 by omega), if_pos (show (0 : Int) < ((1 : Nat) : Int) by omega)]
    have hr : rd (dg b) 0 = (b : Int) := by rw [hb]; rfl
    rw [hr]
    refine Ev.bind (digit_ev (lm_dg a) (by omega) (by omega) (by omega)) ?_
    have hm : lv (dg a) % (b : Int) = ((a % b : Nat) : Int) := by rw [lv_dg, Int.natCast_emod]
    have hd : (lv (dg a) / (b : Int)).toNat = a / b := by rw [lv_dg, ← Int.natCast_ediv, Int.toNat_natCast]
    have hmb : a % b < b := Nat.mod_lt _ (by omega)
    rw [hm, hd]
    clear hm hd hr
    simp only [u64w (x := ((a % b : Nat) : Int)) (by omega) (by omega)]
    refine Ev.bind (of_ev (by omega)) ?_
    exact Ev.some _
def sg (neg : Bool) (n : Nat) : Int := if neg = true then -(n : Int) else (n : Int)
def rz (z : Int) : Bool × List Int × List Int := (decide (z < 0), dg z.natAbs, dg 1)
theorem sg_abs (neg : Bool) (n : Nat) : (sg neg n).natAbs = n := by unfold sg; cases neg <;> simp
theorem sg_neg {neg : Bool} {n : Nat} (h : n ≠ 0) : decide (sg neg n < 0) = neg := by
  unfold sg
  cases neg
  · simp
  · simp; omega
theorem sg_self (z : Int) : sg (decide (z < 0)) z.natAbs = z := by
  unfold sg
  by_cases h : z < 0
  · rw [if_pos (decide_eq_true h)]; omega
  · rw [if_neg (by simpa using h)]; omega
theorem rz_sg {neg : Bool} {n : Nat} (h : n ≠ 0) : rz (sg neg n) = (neg, dg n, dg 1) := by
  unfold rz
  rw [sg_neg h, sg_abs]
theorem rz_zero : rz 0 = (false, [], [1]) := by unfold rz; simp [dg_zero, dg_one]
theorem sg_zero (neg : Bool) : sg neg 0 = 0 := by unfold sg; cases neg <;> simp
theorem one_len : (dg 1).length = 1 := by rw [dg_one]; rfl
theorem rmake_ev {neg : Bool} {n : Nat} (h : (dg n).length < 1048576) : Ev (fun k => r2_Make.f k neg (dg n) (dg 1)) (rz (sg neg n)) := by
  simp only [r2_Make.f]
  refine Ev.bind (rzero_ev (by omega)) ?_
  by_cases h0 : n = 0
  · subst h0
    simp only [decide_true, if_true]
    refine Ev.succ ?_
    simp only [r2_Make.j0, if_true]
    rw [sg_zero, rz_zero]
    exact Ev.some _
  · simp only [decide_eq_false h0, Bool.false_eq_true, if_false]
    have := one_len
    refine Ev.bind (rzero_ev (by omega)) ?_
    refine Ev.succ ?_
    simp only [show decide ((1 : Nat) = 0) = false from rfl, r2_Make.j0, Bool.false_eq_true, if_false]
    refine Ev.bind (rgcd_ev h (by omega)) ?_
    rw [Nat.gcd_one_right]
    refine Ev.bind (rdivmod_ev (by decide) h (by omega)) ?_
    refine Ev.bind (rdivmod_ev (by decide) (by omega) (by omega)) ?_
    simp only [Nat.div_one]
    rw [rz_sg h0]
    exact Ev.some _
def Few (z : Int) : Prop := (dg z.natAbs).length < 262144
theorem rtrimq_ev {z : Int} (h : Few z) : Ev (fun k => r2_Trim.f k (rz z).1 (rz z).2.1 (rz z).2.2) (rz z) := by
  have h : (dg z.natAbs).length < 262144 := h
  simp only [r2_Trim.f]
  refine Ev.bind (rmake_ev (neg := decide (z < 0)) (n := z.natAbs) (by omega)) ?_
  rw [sg_self]
  exact Ev.some _
theorem rnatq_ev {n : Nat} (h : (dg n).length < 262144) : Ev (fun k => r2_Nat.f k (dg n)) (rz (n : Int)) := by
  simp only [r2_Nat.f, show ([1] : List Int) = dg 1 from dg_one.symm]
  refine Ev.bind (rmake_ev (neg := false) (n := n) (by omega)) ?_
  exact Ev.some _
theorem rnegq_ev {z : Int} (h : Few z) : Ev (fun k => r2_Neg.f k (rz z).1 (rz z).2.1 (rz z).2.2) (rz (-z)) := by
  simp only [r2_Neg.f]
  refine Ev.bind (rtrimq_ev h) ?_
  have h : (dg z.natAbs).length < 262144 := h
  refine Ev.bind (rmake_ev (neg := !decide (z < 0)) (n := z.natAbs) (by omega)) ?_
  have e : sg (!decide (z < 0)) z.natAbs = -z := by
    unfold sg
    by_cases g : z < 0
    · simp [g]; omega
    · simp [g]; omega
  rw [e]
  exact Ev.some _
theorem raddq_ev {x y : Int} (hx : Few x) (hy : Few y) : Ev (fun k => r2_Add.f k (rz x).1 (rz x).2.1 (rz x).2.2 (rz y).1 (rz y).2.1 (rz y).2.2) (rz (x + y)) := by
  simp only [r2_Add.f]
  refine Ev.bind (rtrimq_ev hx) ?_
  refine Ev.bind (rtrimq_ev hy) ?_
  have hx : (dg x.natAbs).length < 262144 := hx
  have hy : (dg y.natAbs).length < 262144 := hy
  have h1 := one_len
  simp only [rz]
  refine Ev.bind (rmul2_ev (by omega) (by omega)) ?_
  refine Ev.bind (rmul2_ev (by omega) (by omega)) ?_
  refine Ev.bind (rmul2_ev (by omega) (by omega)) ?_
  simp only [Nat.mul_one]
  by_cases hs : (decide (x < 0) == decide (y < 0)) = true
  · simp only [hs, if_true]
    refine Ev.bind (radd2_ev (by omega) (by omega)) ?_
    have hl : (dg (x.natAbs + y.natAbs)).length < 1048576 := by
      have hb1 := dg_lt_len x.natAbs
      have hb2 := dg_lt_len y.natAbs
      have hb3 := bp_mono (show (dg x.natAbs).length ≤ 262144 by omega)
      have hb4 := bp_mono (show (dg y.natAbs).length ≤ 262144 by omega)
      have : (dg (x.natAbs + y.natAbs)).length ≤ 262144 + 1 := dg_len_le (by rw [bp_succ]; generalize bp 262144 = p at *; omega)
      omega
    refine Ev.bind (rmake_ev hl) ?_
    refine Ev.cast (Ev.some _) ?_
    have e : sg (decide (x < 0)) (x.natAbs + y.natAbs) = x + y := by
      unfold sg
      by_cases g : x < 0
      · have g2 : y < 0 := by simpa [g] using hs
        simp [g]; omega
      · have g2 : ¬ y < 0 := by simpa [g] using hs
        simp [g]; omega
    rw [e]
    rfl
  · simp only [hs, Bool.false_eq_true, if_false]
    refine Ev.bind (rcmp_ev (by omega) (by omega)) ?_
    by_cases hle : y.natAbs ≤ x.natAbs
    · have hc : cmpZ ((x.natAbs : Nat) : Int) ((y.natAbs : Nat) : Int) ≥ 0 := by
        unfold cmpZ
        rw [if_neg (by omega)]
        split <;> omega
      simp only [if_pos hc]
      refine Ev.bind (rsub_ev (by omega) hle) ?_
      have hl := dg_len_mono (show x.natAbs - y.natAbs ≤ x.natAbs by omega)
      refine Ev.bind (rmake_ev (by omega)) ?_
      refine Ev.cast (Ev.some _) ?_
      have e : sg (decide (x < 0)) (x.natAbs - y.natAbs) = x + y := by
        unfold sg
        by_cases g : x < 0
        · have g2 : ¬ y < 0 := by simpa [g] using hs
          simp [g]; omega
        · have g2 : y < 0 := by simpa [g] using hs
          simp [g]; omega
      rw [e]
      rfl
    · have hc : ¬ cmpZ ((x.natAbs : Nat) : Int) ((y.natAbs : Nat) : Int) ≥ 0 := by
        unfold cmpZ
        rw [if_pos (by omega)]
        omega
      simp only [if_neg hc]
      refine Ev.bind (rsub_ev (by omega) (by omega)) ?_
      have hl := dg_len_mono (show y.natAbs - x.natAbs ≤ y.natAbs by omega)
      refine Ev.bind (rmake_ev (by omega)) ?_
      refine Ev.cast (Ev.some _) ?_
      have e : sg (decide (y < 0)) (y.natAbs - x.natAbs) = x + y := by
        unfold sg
        by_cases g : y < 0
        · have g2 : ¬ x < 0 := by intro g3; apply hs; simp [g, g3]
          simp [g]; omega
        · have g2 : x < 0 := by
            by_cases g3 : x < 0
            · exact g3
            · exact absurd (by simp [g, g3]) hs
          simp [g]; omega
      rw [e]
      rfl
theorem rabs_ev {z : Int} (h0 : -4611686018427387904 ≤ z) (h1 : z ≤ 4611686018427387904) : Ev (fun k => r2_abs.f k z) (dg z.natAbs) := by
  simp only [r2_abs.f]
  by_cases h : z < 0
  · simp only [if_pos h]
    have e : IntKind.u64.wrap (wrap64 (-(wrap64 (z + 1)))) = ((z.natAbs - 1 : Nat) : Int) := by
      rw [w64 (x := z + 1) (by omega) (by omega), w64 (x := -(z + 1)) (by omega) (by omega), u64w (by omega) (by omega)]
      omega
    rw [e]
    clear e
    refine Ev.bind (rof_ev (by omega)) ?_
    rw [show ([1] : List Int) = dg 1 from dg_one.symm]
    have hl : (dg (z.natAbs - 1)).length ≤ 3 := dg_len_le (by
      simp only [bp_succ, bp_zero]; omega)
    have := one_len
    refine Ev.bind (radd2_ev (by omega) (by omega)) ?_
    exact Ev.cast (Ev.some _) (by congr 1; omega)
  · simp only [if_neg h]
    have e : IntKind.u64.wrap z = ((z.natAbs : Nat) : Int) := by rw [u64w (by omega) (by omega)]; omega
    rw [e]
    clear e
    refine Ev.bind (rof_ev (by omega)) ?_
    exact Ev.some _
theorem rintq_ev {z : Int} (h0 : -4611686018427387904 ≤ z) (h1 : z ≤ 4611686018427387904) : Ev (fun k => r2_Int.f k z) (rz z) := by
  simp only [r2_Int.f, r2_Of.f]
  refine Ev.bind (Ev.bind (rabs_ev h0 h1) (Ev.bind (rabs_ev (z := 1) (by omega) (by omega)) (Ev.bind (rmake_ev (neg := (decide (z < 0) != decide ((1 : Int) < 0))) (n := z.natAbs) ?_) (Ev.some _)))) ?_
  · have hl : (dg z.natAbs).length ≤ 3 := dg_len_le (by simp only [bp_succ, bp_zero]; omega)
    omega
  · refine Ev.cast (Ev.some _) ?_
    have e : (decide (z < 0) != decide ((1 : Int) < 0)) = decide (z < 0) := by simp
    rw [e, sg_self]
end Mw
end
