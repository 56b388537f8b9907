/- What functions of the program do and come to, for the statement MacwilliamsReciprocal, part 2. Conditions: as each theorem says. -/
import Derived.Test.YtifkbghnmhineaaQReciprocal1

namespace Go.Proofs.Ytifkbghnmhineaa.PAll
open Go.RowKit Go.Proofs.YtifkbghnmhineaaW.PrintWords Go.Proofs.YtifkbghnmhineaaW.PrintLast Go.Proofs.YtifkbghnmhineaaW.PrintMore
attribute [local go_sem] max2_int min2_int max_two min_two max_three min_three max_four min_four
set_option linter.unusedVariables false
set_option linter.unusedSimpArgs false
def macwilliams_plus.T2 : Bool × List (List Nat × List Nat) := (true, [([], []), ([0], [0]), ([], []), ([2], [2]), ([], []), ([4], [4]), ([3, 5], [3, 5]), ([6], [6]), ([1, 7], [1, 7]), ([8, 7, 0, 1, 2, 3, 4, 5, 6, 7, 8], [8])])
def macwilliams_plus.B2 : List Nat := [0, 1, 0, 4, 0, 16, 60, 124, 255, 511]
theorem macwilliams_plus.tab2 : rtab .any (opsOf Try.f128 2) = macwilliams_plus.T2 := by kernel_rfl
theorem macwilliams_plus.bits2 : waitsOk macwilliams_plus.T2.2 macwilliams_plus.B2 = true := by kernel_rfl
set_option maxHeartbeats 8000000 in
set_option maxRecDepth 100000 in
theorem macwilliams_plus.calls (k : Nat) (a0_0 : Bool) (P0_1_ : Nat → Prop) (A0_1 : Option Addr) (c0_1 : Nat) (l0_1 : List Int) (a1_0 : Bool) (P1_1_ : Nat → Prop) (A1_1 : Option Addr) (c1_1 : Nat) (l1_1 : List Int) (r1 : Bool) (r2 : List Int) (w : World) (hs0_1 : Kd.V (Kd.int .u32) 97 w w.heap.size (fun k_ => P0_1_ k_) (.slice A0_1 l0_1.length c0_1) l0_1) (hs1_1 : Kd.V (Kd.int .u32) 97 w w.heap.size (fun k_ => P1_1_ k_) (.slice A1_1 l1_1.length c1_1) l1_1) (h : macwilliams_plus.f k a0_0 l0_1 a1_0 l1_1 = some (r1, r2)) :
    Calls Try.prog 128 #[.agg #[.bool a0_0, .slice A0_1 l0_1.length c0_1], .agg #[.bool a1_0, .slice A1_1 l1_1.length c1_1]] w fun e w' => ∃ v1_ : Value, e = .returned (.agg #[.bool r1, v1_]) ∧ Kd.V (Kd.int .u32) 97 w' w.heap.size (fun k_ => ((P0_1_ k_ ∨ P1_1_ k_) ∨ w.heap.size ≤ k_)) v1_ r2 ∧ Below w.heap.size w w' := by
 have hu113 := Try.underlying113
 have HO0_1 := Aside0.mk (show Kd.V (Kd.int .u32) 97 w w.heap.size (fun k_ => ((P0_1_ k_ ∨ P1_1_ k_) ∨ w.heap.size ≤ k_)) (.slice A0_1 l0_1.length c0_1) l0_1 from Kd.V_mono hs0_1 (fun k_ hk => .inl (.inl hk)))
 have HO1_1 := Aside0.mk (show Kd.V (Kd.int .u32) 97 w w.heap.size (fun k_ => ((P0_1_ k_ ∨ P1_1_ k_) ∨ w.heap.size ≤ k_)) (.slice A1_1 l1_1.length c1_1) l1_1 from Kd.V_mono hs1_1 (fun k_ hk => .inl (.inr hk)))
 have HB := Aside0.mk (Below.refl w.heap.size w)
 have H : (if (a0_0 == a1_0) = true then ((nat_Add.f k (([l0_1, l1_1] : List (List Int)))).bind fun t107 => (some (a0_0, t107))) else ((nat_Cmp.f k l0_1 l1_1).bind fun t110 => (if t110 < 0 then ((nat_Sub.f k l1_1 l0_1).bind fun bt111 => (some (a1_0, bt111.1))) else ((nat_Sub.f k l0_1 l1_1).bind fun bt115 => (some (a0_0, bt115.1)))))) = some (r1, r2) := h
 clear h
 replace H := zi H
 rcases H with ⟨c3, H⟩ | ⟨c3, H⟩
 · have c3b0 : (a0_0 == a1_0) = true := c3
   (try (have c3b1 : decide (a0_0 = a1_0) = true := by simpa using c3))
   (try (have c3b2 : (a0_0 == a1_0) = true := by simpa using c3))
   clear c3
   obtain ⟨y104, hy104⟩ : ∃ y_ : List (List Int), y_ = (([l0_1, l1_1] : List (List Int))) := ⟨_, rfl⟩
   replace H : ((nat_Add.f k y104).bind fun t107 => (some (a0_0, t107))) = some (r1, r2) := zY hy104 H
   have Ny104 := Aside0.mk hy104
   clear hy104
   replace H := zb H
   obtain ⟨t107, A4, H⟩ := H
   simp only [Option.some.injEq, Prod.mk.injEq] at H
   obtain ⟨rfl, rfl⟩ := H
   go_enter Try.func128, Try.ntmps128
   try go_wp2_with (first | ((with_reducible refine gate_dst (N := 2) rfl ?_); refine box_event ?hg (N := 2) ?hd (cs := #[.bool a0_0, .slice A0_1 l0_1.length c0_1]) (t := 113) ?hr ?_; (case hd => rfl); (case hg => rfl); (case hr => first | (go_simp; done) | (go_simp; rfl)); intro gb101 hg w5 hbox hb; replace HO0_1 := yVB HO0_1 hg hb; replace HO1_1 := yVB HO1_1 hg hb; have BK101 := Aside0.mk (hbox); have GW101 := yg hg HB; have GE101 := yg hg HB; replace HB := yS HB hb; clear hb hbox hg) | ((with_reducible refine gate_dst (N := 3) rfl ?_); refine box_event ?hg (N := 3) ?hd (cs := #[.bool a1_0, .slice A1_1 l1_1.length c1_1]) (t := 113) ?hr ?_; (case hd => rfl); (case hg => rfl); (case hr => first | (go_simp; done) | (go_simp; rfl)); intro gb102 hg w6 hbox hb; replace HO0_1 := yVB HO0_1 hg hb; replace HO1_1 := yVB HO1_1 hg hb; have BK102 := Aside0.mk (hbox); have GW102 := yg1 hg HB GE101; have GE102 := yg1 hg HB GE101; replace HB := yS1 HB GE101 hb; have NB101_102 := ynl hg BK101; have NB102_101 := yng hg BK101; replace BK101 := yK BK101 hb; clear hb hbox hg) | ((with_reducible refine gate_dst (N := 4) rfl ?_); refine box_event ?hg (N := 4) ?hd (cs := #[.bool false, .slice none 0 0]) (t := 113) ?hr ?_; (case hd => rfl); (case hg => rfl); (case hr => first | (go_simp; done) | (go_simp; rfl)); intro gb103 hg w7 hbox hb; replace HO0_1 := yVB HO0_1 hg hb; replace HO1_1 := yVB HO1_1 hg hb; have BK103 := Aside0.mk (hbox); have GW103 := yg2 hg HB GE101 GE102; have GE103 := yg2 hg HB GE101 GE102; replace HB := yS2 HB GE101 GE102 hb; have NB101_103 := ynl hg BK101; have NB103_101 := yng hg BK101; replace BK101 := yK BK101 hb; have NB102_103 := ynl hg BK102; have NB103_102 := yng hg BK102; replace BK102 := yK BK102 hb; clear hb hbox hg; have hnb8 := NB101_102.out; have hnc8 := NB102_101.out; have hnb9 := NB101_103.out; have hnc9 := NB103_101.out; have hcz10_0 : w7.cell? ⟨gb101, 0, none⟩ = some (.bool a0_0) := (blk_cell BK101.out 0).trans rfl; have hcz10_1 : w7.cell? ⟨gb101, 1, none⟩ = some (.slice A0_1 l0_1.length c0_1) := (blk_cell BK101.out 1).trans rfl; have hfz10_0 := blk_frozen BK101.out 0; have hfz10_1 := blk_frozen BK101.out 1; have hnb11 := NB102_103.out; have hnc11 := NB103_102.out; have hcz12_0 : w7.cell? ⟨gb102, 0, none⟩ = some (.bool a1_0) := (blk_cell BK102.out 0).trans rfl; have hcz12_1 : w7.cell? ⟨gb102, 1, none⟩ = some (.slice A1_1 l1_1.length c1_1) := (blk_cell BK102.out 1).trans rfl; have hfz12_0 := blk_frozen BK102.out 0; have hfz12_1 := blk_frozen BK102.out 1))
   replace HO0_1 := Aside0.mk (Kd.V_drew HO0_1.out)
   replace HO1_1 := Aside0.mk (Kd.V_drew HO1_1.out)
   replace BK101 := Aside0.mk (blk_drew BK101.out)
   replace BK102 := Aside0.mk (blk_drew BK102.out)
   replace BK103 := Aside0.mk (blk_drew BK103.out)
   replace HB := Aside0.mk (below_drew1 HB.out)
   refine start_ (n := 10) (S := fun w' => w'.cell? ⟨gb101, 0, none⟩ = some (.bool a0_0) ∧ w'.cell? ⟨gb101, 1, none⟩ = some (.slice A0_1 l0_1.length c0_1) ∧ w'.cell? ⟨gb102, 0, none⟩ = some (.bool a1_0) ∧ w'.cell? ⟨gb102, 1, none⟩ = some (.slice A1_1 l1_1.length c1_1)) (ds := []) #[false, false, false, false, false, false, false, false, false, false] (by kernel_rfl) rfl rfl ⟨(blk_cell BK101.out 0).trans rfl, (blk_cell BK101.out 1).trans rfl, (blk_cell BK102.out 0).trans rfl, (blk_cell BK102.out 1).trans rfl⟩ (fun hHeld => ?_); refine with_tabW macwilliams_plus.tab2 macwilliams_plus.bits2 (fun HT_ HW_ => ?_)
   generalize w7.drew = w13 at HO0_1 HO1_1 BK101 BK102 BK103 HB hHeld ⊢
   refine zp (i := 0) (N := some 12) HT_ ?_
   refine zp (i := 2) (N := some 14) HT_ ?_
   refine zp (i := 4) (N := some 16) HT_ ?_
   refine take_ (i := 1) (N := some 13) (v := ?_) (a' := ?_) #[true, true, true, false, true, false, false, false, false, false] rfl rfl (take_ofW HT_.out HW_.out (by kernel_rfl)) (fun _ _ _ h => h) (Or.inl ⟨by rfl, ?_⟩) hHeld ?_ ?_
   rotate_left
   · rintro w' ⟨s0, s1, s2, s3⟩
     go_simp
     with_reducible rfl
   rotate_left
   · simp only [Act.put, List.setIfInBounds_toArray, List.set_cons_zero, List.set_cons_succ, i64_w, i32_w]
     rfl
   refine take_ (i := 3) (N := some 15) (v := ?_) (a' := ?_) #[true, true, true, true, true, false, false, false, false, false] rfl rfl (take_ofW HT_.out HW_.out (by kernel_rfl)) (fun _ _ _ h => h) (Or.inl ⟨by rfl, ?_⟩) hHeld ?_ ?_
   rotate_left
   · rintro w' ⟨s0, s1, s2, s3⟩
     go_simp
     with_reducible rfl
   rotate_left
   · simp only [Act.put, List.setIfInBounds_toArray, List.set_cons_zero, List.set_cons_succ, i64_w, i32_w]
     rfl
   refine take_ (i := 5) (N := some 17) (v := ?_) (a' := ?_) #[true, true, true, true, true, true, false, false, false, false] rfl rfl (take_ofW HT_.out HW_.out (by kernel_rfl)) (fun _ _ _ h => h) (Or.inl ⟨by rfl, ?_⟩) hHeld ?_ ?_
   rotate_left
   · rintro w' ⟨s0, s1, s2, s3⟩
     go_simp
     with_reducible rfl
   rotate_left
   · simp only [Act.put, List.setIfInBounds_toArray, List.set_cons_zero, List.set_cons_succ, i64_w, i32_w]
     rfl
   refine one_ (i := 6) (N := some 18) #[true, true, true, true, true, true, true, false, false, false] rfl rfl (one_of HT_.out (by kernel_rfl)) (by decide) (fun K hK => ?_)
   refine Kd.N_lit_step (Kd.slice 97 (Kd.int .u32)) _ 29 ?hg (N' := 18) ?hd (xs := ([l0_1, l1_1] : List (List Int))) (inner := [.slice A0_1 l0_1.length c0_1, .slice A1_1 l1_1.length c1_1]) (ok := (fun k_ => ((P0_1_ k_ ∨ P1_1_ k_) ∨ w.heap.size ≤ k_) ∧ k_ ≠ gb101 ∧ k_ ≠ gb102 ∧ k_ ≠ gb103)) (okp := (fun k_ => ((P0_1_ k_ ∨ P1_1_ k_) ∨ w.heap.size ≤ k_) ∧ k_ ≠ gb101 ∧ k_ ≠ gb102 ∧ k_ ≠ gb103)) ?hr ?hp (fun _ hk => hk) ((show ∀ k_, w13.heap.size ≤ k_ → (fun k_ => ((P0_1_ k_ ∨ P1_1_ k_) ∨ w.heap.size ≤ k_) ∧ k_ ≠ gb101 ∧ k_ ≠ gb102 ∧ k_ ≠ gb103) k_ from fun k_ hk => ⟨(.inr (Nat.le_trans (below_size (zB3 HB.out GE101.out GE102.out GE103.out)) hk)), Kd.freshB (g := gb101) (o := .cells #[.bool a0_0, .slice A0_1 l0_1.length c0_1] 113 (0, 0)) (by (with_reducible repeat (first | refine blk_drewN ?_ _ | refine blk_drew ?_ | refine blk_alloc ?_ _)); exact BK101.out) k_ hk, Kd.freshB (g := gb102) (o := .cells #[.bool a1_0, .slice A1_1 l1_1.length c1_1] 113 (0, 0)) (by (with_reducible repeat (first | refine blk_drewN ?_ _ | refine blk_drew ?_ | refine blk_alloc ?_ _)); exact BK102.out) k_ hk, Kd.freshB (g := gb103) (o := .cells #[.bool false, .slice none 0 0] 113 (0, 0)) (by (with_reducible repeat (first | refine blk_drewN ?_ _ | refine blk_drew ?_ | refine blk_alloc ?_ _)); exact BK103.out) k_ hk⟩) _ (Nat.le_refl _)) (Below.refl _ _) (Nat.le_refl _) (by simp) ?_; (case hd => rfl); (case hg => rfl); (case hr => first | (go_simp; done) | (go_simp; rfl)); (case hp => exact (Reps.one (show Kd.FK (Kd.slice 97 (Kd.int .u32)) _ _ l0_1 [.slice A0_1 l0_1.length c0_1] from (Kd.FK_slice_mk (Kd.V_reads' (Kd.V_mono (ok' := (fun k_ => ((P0_1_ k_ ∨ P1_1_ k_) ∨ w.heap.size ≤ k_) ∧ k_ ≠ gb101 ∧ k_ ≠ gb102 ∧ k_ ≠ gb103)) (HO0_1.out) (fun k_ hk => by exact ⟨hk.1.1.1, ⟨hk.1.1.2, ⟨hk.1.2, hk.2⟩⟩⟩))).2.1 (Kd.V_F (Kd.V_mono (ok' := (fun k_ => ((P0_1_ k_ ∨ P1_1_ k_) ∨ w.heap.size ≤ k_) ∧ k_ ≠ gb101 ∧ k_ ≠ gb102 ∧ k_ ≠ gb103)) (HO0_1.out) (fun k_ hk => by exact ⟨hk.1.1.1, ⟨hk.1.1.2, ⟨hk.1.2, hk.2⟩⟩⟩))))) (Reps.one (show Kd.FK (Kd.slice 97 (Kd.int .u32)) _ _ l1_1 [.slice A1_1 l1_1.length c1_1] from (Kd.FK_slice_mk (Kd.V_reads' (Kd.V_mono (ok' := (fun k_ => ((P0_1_ k_ ∨ P1_1_ k_) ∨ w.heap.size ≤ k_) ∧ k_ ≠ gb101 ∧ k_ ≠ gb102 ∧ k_ ≠ gb103)) (HO1_1.out) (fun k_ hk => by exact ⟨hk.1.1.1, ⟨hk.1.1.2, ⟨hk.1.2, hk.2⟩⟩⟩))).2.1 (Kd.V_F (Kd.V_mono (ok' := (fun k_ => ((P0_1_ k_ ∨ P1_1_ k_) ∨ w.heap.size ≤ k_) ∧ k_ ≠ gb101 ∧ k_ ≠ gb102 ∧ k_ ≠ gb103)) (HO1_1.out) (fun k_ hk => by exact ⟨hk.1.1.1, ⟨hk.1.1.2, ⟨hk.1.2, hk.2⟩⟩⟩))))) (Reps.none _ _))))
   intro v105 w14 ho15 hb hg_ hnew_
   clear hg_ hnew_
   (first | rw [← Ny104.out] at ho15 | (simp only [Int.reduceToNat] at ho15; rw [← Ny104.out] at ho15))
   replace HO0_1 := Aside0.mk (Kd.V_elder' (zV HO0_1.out) (Kd.N_base ho15) hb)
   replace HO1_1 := Aside0.mk (Kd.V_elder' (zV HO1_1.out) (Kd.N_base ho15) hb)
   have HO106 := Aside0.mk (Kd.N_lower ho15 (below_size (zB3 HB.out GE101.out GE102.out GE103.out)))
   replace BK101 := yK BK101 hb
   replace BK102 := yK BK102 hb
   replace BK103 := yK BK103 hb
   replace HB := yS3 HB GE101 GE102 GE103 hb
   clear hb ho15
   obtain ⟨Ao16, co16, eo16⟩ := Kd.N_slice HO106.out
   (first | subst eo16 | (injection eo16 with f1_ f2_ f3_; have f4_ := f1_.symm; have f5_ := f3_.symm; clear f1_ f2_ f3_; subst f4_; subst f5_))
   refine hK.out _ _ ⟨(blk_cell BK101.out 0).trans rfl, (blk_cell BK101.out 1).trans rfl, (blk_cell BK102.out 0).trans rfl, (blk_cell BK102.out 1).trans rfl⟩ (fun hHeld => ?_)
   clear hK K
   refine norm_ (a' := ?_) ?_ ?_
   rotate_left
   · show Act.put _ (some 18) _ = _
     simp only [Act.put, List.setIfInBounds_toArray, List.set_cons_zero, List.set_cons_succ, i64_w, i32_w]
     rfl
   refine one_ (i := 7) (N := some 19) #[true, true, true, true, true, true, true, true, false, false] rfl rfl (one_of HT_.out (by kernel_rfl)) (by decide) (fun K hK => ?_)
   refine goes_ Try.func73 (by kernel_rfl) rfl #[.slice Ao16 y104.length co16] (by rfl) rfl rfl (by (try simp only [List.map_toArray, List.map_cons, List.map_nil]); first | done | rfl | (simp only [List.length_drop, List.length_take]; rfl)) ?_
   with_reducible refine (nat_Add.calls k _ _ y104 t107 _ ?side1 ?side2 A4.out).mono ?_
   (case side1 => exact zC (Kd.N_reads' HO106.out).2.2)
   (case side2 => exact (Kd.N_reads' HO106.out).2.1)
   rintro e w17 ⟨v108, rfl, ho0, hb⟩
   refine ⟨_, rfl, ?_⟩
   replace HO0_1 := yVe HO0_1 ho0 hb
   replace HO1_1 := yVe HO1_1 ho0 hb
   replace HO106 := yNe HO106 ho0 hb
   replace ho0 := Kd.R_newM (M := fun k_ => (w.heap.size ≤ k_)) ho0 (below_size (zB3 HB.out GE101.out GE102.out GE103.out)) (fun k_ h_ => h_)
   have HO109 := yRl3 ho0 HB GE101 GE102 GE103
   replace BK101 := yK BK101 hb
   replace BK102 := yK BK102 hb
   replace BK103 := yK BK103 hb
   replace HB := yS3 HB GE101 GE102 GE103 hb
   (try clear hb)
   (try clear hb2)
   (try clear hk)
   (try clear hi)
   (try clear ho0)
   obtain ⟨Ao18, co18, eo18⟩ := Kd.R_slice HO109.out
   (first | subst eo18 | (injection eo18 with f1_ f2_ f3_; have f4_ := f1_.symm; have f5_ := f3_.symm; clear f1_ f2_ f3_; subst f4_; subst f5_))
   refine hK.out _ _ ⟨(blk_cell BK101.out 0).trans rfl, (blk_cell BK101.out 1).trans rfl, (blk_cell BK102.out 0).trans rfl, (blk_cell BK102.out 1).trans rfl⟩ (fun hHeld => ?_)
   clear hK K
   refine norm_ (a' := ?_) ?_ ?_
   rotate_left
   · show Act.put _ (some 19) _ = _
     simp only [Act.put, List.setIfInBounds_toArray, List.set_cons_zero, List.set_cons_succ, i64_w, i32_w]
     rfl
   refine zp (i := 8) (N := some 20) HT_ ?_
   refine one_ (i := 9) (N := none) #[true, true, true, true, true, true, true, true, true, true] rfl rfl (one_of HT_.out (by kernel_rfl)) (by decide) (fun K hK => ?_)
   have hs19 : w17.cell? ⟨gb103, 0, none⟩ = some (.bool false) := (blk_cell BK103.out 0).trans rfl
   have hfs19 := blk_frozen BK103.out 0
   have hns19_0 := NB101_103.out
   have hns19_1 := NB102_103.out
   have hms19_0 := NB103_101.out
   have hms19_1 := NB103_102.out
   have hs20 : w17.cell? ⟨gb103, 1, none⟩ = some (.slice none 0 0) := (blk_cell BK103.out 1).trans rfl
   have hfs20 := blk_frozen BK103.out 1
   have hns20_0 := NB101_103.out
   have hns20_1 := NB102_103.out
   have hms20_0 := NB103_101.out
   have hms20_1 := NB103_102.out
   refine skip_ (w1 := ?_) (by rfl) rfl ?_ ?_
   rotate_left
   · go_simp
     rfl
   refine hK.out _ _ ⟨((cell_far (p := ⟨gb103, _, none⟩) NB101_103.out _).trans (((cell_far (p := ⟨gb103, _, none⟩) NB101_103.out _).trans (hHeld.1)))), ((cell_far (p := ⟨gb103, _, none⟩) NB101_103.out _).trans (((cell_far (p := ⟨gb103, _, none⟩) NB101_103.out _).trans (hHeld.2.1)))), ((cell_far (p := ⟨gb103, _, none⟩) NB102_103.out _).trans (((cell_far (p := ⟨gb103, _, none⟩) NB102_103.out _).trans (hHeld.2.2.1)))), ((cell_far (p := ⟨gb103, _, none⟩) NB102_103.out _).trans (((cell_far (p := ⟨gb103, _, none⟩) NB102_103.out _).trans (hHeld.2.2.2))))⟩ (fun hHeld => ?_)
   clear hK K
   refine done_ (done_of HT_.out (by kernel_rfl)) ?_
   try go_wp2
   refine bodyPost_ret (results_cell_row rfl _ _ gb103 113 #[.bool a0_0, .slice Ao18 t107.length co18] (0, 0) _ rfl (by (with_reducible repeat (first | refine blk_drewN ?_ _ | refine blk_drew ?_ | refine blk_alloc ?_ _)); refine blk_put (cs := #[.bool a0_0, .slice none 0 0]) ?_ 1 _ rfl; (with_reducible repeat (first | refine blk_drewN ?_ _ | refine blk_drew ?_ | refine blk_alloc ?_ _)); refine blk_put (cs := #[.bool false, .slice none 0 0]) ?_ 0 _ rfl; (with_reducible repeat (first | refine blk_drewN ?_ _ | refine blk_drew ?_ | refine blk_alloc ?_ _)); exact BK103.out) Try.underlying113 rfl (by kernel_rfl)) rfl ?_
   exact ⟨_, zE, Kd.V_mono (Kd.R_V (by (with_reducible repeat (first | apply Kd.R_alloc | apply Kd.R_drewN | apply Kd.R_drew)); exact Kd.R_mono (Kd.R_far (p := ⟨gb103, 1, none⟩) (Kd.R_far (p := ⟨gb103, 0, none⟩) (Kd.R_types HO109.out BK103.out (by decide)) (fun _ hk => hk.2) (.bool a0_0)) (fun _ hk => hk.2) (.slice Ao18 t107.length co18)) (fun _ hk => hk.1.1))) (fun k_ hk => by first | exact ⟨(.inr (hk.1)), hk.2⟩ | exact (.inr (hk))), zB3 HB.out GE101.out GE102.out GE103.out⟩
 have c3b0 : (a0_0 == a1_0) = false := by simpa using c3
 (try (have c3b1 : decide (a0_0 = a1_0) = false := by simpa using c3))
 (try (have c3b2 : (a0_0 == a1_0) = false := by simpa using c3))
 (try (have c3b3 : ¬ (a0_0 = a1_0) := by simpa using c3))
 clear c3
 replace H := zb H
 obtain ⟨t110, A21, H⟩ := H
 replace H := zi H
 rcases H with ⟨c22, H⟩ | ⟨c22, H⟩
 · have c22b0 := decide_eq_true c22
   clear c22
   replace H := zb H
   obtain ⟨⟨t111, t114⟩, A23, H⟩ := H
   dsimp only at H
   simp only [Option.some.injEq, Prod.mk.injEq] at H
   obtain ⟨rfl, rfl⟩ := H
   go_enter Try.func128, Try.ntmps128
   go_wp2_with (first | ((with_reducible refine gate_dst (N := 2) rfl ?_); refine box_event ?hg (N := 2) ?hd (cs := #[.bool a0_0, .slice A0_1 l0_1.length c0_1]) (t := 113) ?hr ?_; (case hd => rfl); (case hg => rfl); (case hr => first | (go_simp; done) | (go_simp; rfl)); intro gb101 hg w24 hbox hb; replace HO0_1 := yVB HO0_1 hg hb; replace HO1_1 := yVB HO1_1 hg hb; have BK101 := Aside0.mk (hbox); have GW101 := yg hg HB; have GE101 := yg hg HB; replace HB := yS HB hb; clear hb hbox hg) | ((with_reducible refine gate_dst (N := 3) rfl ?_); refine box_event ?hg (N := 3) ?hd (cs := #[.bool a1_0, .slice A1_1 l1_1.length c1_1]) (t := 113) ?hr ?_; (case hd => rfl); (case hg => rfl); (case hr => first | (go_simp; done) | (go_simp; rfl)); intro gb102 hg w25 hbox hb; replace HO0_1 := yVB HO0_1 hg hb; replace HO1_1 := yVB HO1_1 hg hb; have BK102 := Aside0.mk (hbox); have GW102 := yg1 hg HB GE101; have GE102 := yg1 hg HB GE101; replace HB := yS1 HB GE101 hb; have NB101_102 := ynl hg BK101; have NB102_101 := yng hg BK101; replace BK101 := yK BK101 hb; clear hb hbox hg) | ((with_reducible refine gate_dst (N := 4) rfl ?_); refine box_event ?hg (N := 4) ?hd (cs := #[.bool false, .slice none 0 0]) (t := 113) ?hr ?_; (case hd => rfl); (case hg => rfl); (case hr => first | (go_simp; done) | (go_simp; rfl)); intro gb103 hg w26 hbox hb; replace HO0_1 := yVB HO0_1 hg hb; replace HO1_1 := yVB HO1_1 hg hb; have BK103 := Aside0.mk (hbox); have GW103 := yg2 hg HB GE101 GE102; have GE103 := yg2 hg HB GE101 GE102; replace HB := yS2 HB GE101 GE102 hb; have NB101_103 := ynl hg BK101; have NB103_101 := yng hg BK101; replace BK101 := yK BK101 hb; have NB102_103 := ynl hg BK102; have NB103_102 := yng hg BK102; replace BK102 := yK BK102 hb; clear hb hbox hg; have hnb27 := NB101_102.out; have hnc27 := NB102_101.out; have hnb28 := NB101_103.out; have hnc28 := NB103_101.out; have hcz29_0 : w26.cell? ⟨gb101, 0, none⟩ = some (.bool a0_0) := (blk_cell BK101.out 0).trans rfl; have hcz29_1 : w26.cell? ⟨gb101, 1, none⟩ = some (.slice A0_1 l0_1.length c0_1) := (blk_cell BK101.out 1).trans rfl; have hfz29_0 := blk_frozen BK101.out 0; have hfz29_1 := blk_frozen BK101.out 1; have hnb30 := NB102_103.out; have hnc30 := NB103_102.out; have hcz31_0 : w26.cell? ⟨gb102, 0, none⟩ = some (.bool a1_0) := (blk_cell BK102.out 0).trans rfl; have hcz31_1 : w26.cell? ⟨gb102, 1, none⟩ = some (.slice A1_1 l1_1.length c1_1) := (blk_cell BK102.out 1).trans rfl; have hfz31_0 := blk_frozen BK102.out 0; have hfz31_1 := blk_frozen BK102.out 1) | ((with_reducible refine gate_callee (f := 79) rfl ?_); refine zG (some 25) Try.func79 #[.slice A0_1 l0_1.length c0_1, .slice A1_1 l1_1.length c1_1] ?_; (with_reducible refine (nat_Cmp.calls k _ _ l0_1 _ _ l1_1 t110 _ ?side1 ?side2 ?side3 ?side4 A21.out).mono ?_); (case side1 => exact zC (Kd.V_reads' HO0_1.out).2.2); (case side2 => exact (Kd.V_reads' HO0_1.out).2.1); (case side3 => exact zC (Kd.V_reads' HO1_1.out).2.2); (case side4 => exact (Kd.V_reads' HO1_1.out).2.1); rintro e w32 ⟨rfl, hb⟩; refine ⟨_, rfl, ?_⟩; replace HO0_1 := yVb HO0_1 hb; replace HO1_1 := yVb HO1_1 hb; replace BK101 := yK BK101 hb; replace BK102 := yK BK102 hb; replace BK103 := yK BK103 hb; replace HB := yS3 HB GE101 GE102 GE103 hb; (try clear hb); (try clear hb2); (try clear hk); (try clear hi); have hcz33_0 : w32.cell? ⟨gb102, 0, none⟩ = some (.bool a1_0) := (blk_cell BK102.out 0).trans rfl; have hcz33_1 : w32.cell? ⟨gb102, 1, none⟩ = some (.slice A1_1 l1_1.length c1_1) := (blk_cell BK102.out 1).trans rfl; have hfz33_0 := blk_frozen BK102.out 0; have hfz33_1 := blk_frozen BK102.out 1; have hcz34_0 : w32.cell? ⟨gb101, 0, none⟩ = some (.bool a0_0) := (blk_cell BK101.out 0).trans rfl; have hcz34_1 : w32.cell? ⟨gb101, 1, none⟩ = some (.slice A0_1 l0_1.length c0_1) := (blk_cell BK101.out 1).trans rfl; have hfz34_0 := blk_frozen BK101.out 0; have hfz34_1 := blk_frozen BK101.out 1) | ((with_reducible refine gate_callee (f := 137) rfl ?_); refine zG (some 34) Try.func137 #[.slice A1_1 l1_1.length c1_1, .slice A0_1 l0_1.length c0_1] ?_; (with_reducible refine (nat_Sub.calls k _ _ l1_1 _ _ l0_1 t111 t114 _ ?side1 ?side2 ?side3 ?side4 A23.out).mono ?_); (case side1 => refine (Kd.V_reads' (e := 97) (base := w.heap.size) (ok := fun k_ => (((((P0_1_ k_ ∨ P1_1_ k_) ∨ w.heap.size ≤ k_) ∧ k_ ≠ gb101) ∧ k_ ≠ gb102) ∧ k_ ≠ gb103)) (n := l1_1.length) (c := c1_1) ?_).2.2; exact (by (with_reducible repeat (first | apply Kd.V_alloc | apply Kd.V_drewN | apply Kd.V_drew)); exact (Kd.V_mono (Kd.V_mono (Kd.V_far (p := ⟨gb102, 1, none⟩) (Kd.V_far (p := ⟨gb102, 0, none⟩) (Kd.V_far (p := ⟨gb101, 1, none⟩) (Kd.V_far (p := ⟨gb101, 0, none⟩) (Kd.V_mono (Kd.V_mono HO1_1.out (fun k_ hk => (⟨hk, hk.1.1.2⟩ : _ ∧ k_ ≠ gb101))) (fun k_ hk => (⟨hk, hk.1.1.2⟩ : _ ∧ k_ ≠ gb102))) (fun _ hk => hk.1.2) (.bool a1_0)) (fun _ hk => hk.1.2) (.slice A1_1 l1_1.length c1_1)) (fun _ hk => hk.2) (.bool a0_0)) (fun _ hk => hk.2) (.slice A0_1 l0_1.length c0_1)) (fun _ h_ => h_.1)) (fun _ h_ => h_.1)))); (case side2 => exact (Kd.V_reads' HO1_1.out).2.1); (case side3 => refine (Kd.V_reads' (e := 97) (base := w.heap.size) (ok := fun k_ => (((((P0_1_ k_ ∨ P1_1_ k_) ∨ w.heap.size ≤ k_) ∧ k_ ≠ gb101) ∧ k_ ≠ gb102) ∧ k_ ≠ gb103)) (n := l0_1.length) (c := c0_1) ?_).2.2; exact (by (with_reducible repeat (first | apply Kd.V_alloc | apply Kd.V_drewN | apply Kd.V_drew)); exact (Kd.V_mono (Kd.V_mono (Kd.V_far (p := ⟨gb102, 1, none⟩) (Kd.V_far (p := ⟨gb102, 0, none⟩) (Kd.V_far (p := ⟨gb101, 1, none⟩) (Kd.V_far (p := ⟨gb101, 0, none⟩) (Kd.V_mono (Kd.V_mono HO0_1.out (fun k_ hk => (⟨hk, hk.1.1.2⟩ : _ ∧ k_ ≠ gb101))) (fun k_ hk => (⟨hk, hk.1.1.2⟩ : _ ∧ k_ ≠ gb102))) (fun _ hk => hk.1.2) (.bool a1_0)) (fun _ hk => hk.1.2) (.slice A1_1 l1_1.length c1_1)) (fun _ hk => hk.2) (.bool a0_0)) (fun _ hk => hk.2) (.slice A0_1 l0_1.length c0_1)) (fun _ h_ => h_.1)) (fun _ h_ => h_.1)))); (case side4 => exact (Kd.V_reads' HO0_1.out).2.1); rintro e w35 ⟨v112, rfl, ho0, hb⟩; refine ⟨_, rfl, ?_⟩; replace HO0_1 := Aside0.mk (Kd.V_below (by (with_reducible repeat (first | apply Kd.V_alloc | apply Kd.V_drewN | apply Kd.V_drew)); exact (Kd.V_mono (Kd.V_mono (Kd.V_far (p := ⟨gb102, 1, none⟩) (Kd.V_far (p := ⟨gb102, 0, none⟩) (Kd.V_far (p := ⟨gb101, 1, none⟩) (Kd.V_far (p := ⟨gb101, 0, none⟩) (Kd.V_mono (Kd.V_mono HO0_1.out (fun k_ hk => (⟨hk, hk.1.1.2⟩ : _ ∧ k_ ≠ gb101))) (fun k_ hk => (⟨hk, hk.1.1.2⟩ : _ ∧ k_ ≠ gb102))) (fun _ hk => hk.1.2) (.bool a1_0)) (fun _ hk => hk.1.2) (.slice A1_1 l1_1.length c1_1)) (fun _ hk => hk.2) (.bool a0_0)) (fun _ hk => hk.2) (.slice A0_1 l0_1.length c0_1)) (fun _ h_ => h_.1)) (fun _ h_ => h_.1))) hb); replace HO1_1 := Aside0.mk (Kd.V_below (by (with_reducible repeat (first | apply Kd.V_alloc | apply Kd.V_drewN | apply Kd.V_drew)); exact (Kd.V_mono (Kd.V_mono (Kd.V_far (p := ⟨gb102, 1, none⟩) (Kd.V_far (p := ⟨gb102, 0, none⟩) (Kd.V_far (p := ⟨gb101, 1, none⟩) (Kd.V_far (p := ⟨gb101, 0, none⟩) (Kd.V_mono (Kd.V_mono HO1_1.out (fun k_ hk => (⟨hk, hk.1.1.2⟩ : _ ∧ k_ ≠ gb101))) (fun k_ hk => (⟨hk, hk.1.1.2⟩ : _ ∧ k_ ≠ gb102))) (fun _ hk => hk.1.2) (.bool a1_0)) (fun _ hk => hk.1.2) (.slice A1_1 l1_1.length c1_1)) (fun _ hk => hk.2) (.bool a0_0)) (fun _ hk => hk.2) (.slice A0_1 l0_1.length c0_1)) (fun _ h_ => h_.1)) (fun _ h_ => h_.1))) hb); have HO113 := Aside0.mk (Kd.V_lower (Kd.V_mono (ok' := fun k_ => ((P0_1_ k_ ∨ P1_1_ k_) ∨ w.heap.size ≤ k_) ∧ k_ ≠ gb101 ∧ k_ ≠ gb102 ∧ k_ ≠ gb103) ho0 (fun k_ hk_ => ⟨(.inr (Nat.le_trans (below_size (zB3 HB.out GE101.out GE102.out GE103.out)) hk_)), (Kd.freshB (g := gb101) (o := .cells #[.bool a1_0, .slice A1_1 l1_1.length c1_1] 113 (0, 0)) (by (with_reducible repeat (first | refine blk_drewN ?_ _ | refine blk_drew ?_ | refine blk_alloc ?_ _)); refine blk_far ?_ NB101_102.out _; (with_reducible repeat (first | refine blk_drewN ?_ _ | refine blk_drew ?_ | refine blk_alloc ?_ _)); refine blk_far ?_ NB101_102.out _; (with_reducible repeat (first | refine blk_drewN ?_ _ | refine blk_drew ?_ | refine blk_alloc ?_ _)); refine blk_put (cs := #[.bool a1_0, .slice A0_1 l0_1.length c0_1]) ?_ 1 _ rfl; (with_reducible repeat (first | refine blk_drewN ?_ _ | refine blk_drew ?_ | refine blk_alloc ?_ _)); refine blk_put (cs := #[.bool a0_0, .slice A0_1 l0_1.length c0_1]) ?_ 0 _ rfl; (with_reducible repeat (first | refine blk_drewN ?_ _ | refine blk_drew ?_ | refine blk_alloc ?_ _)); exact BK101.out) k_ hk_), (Kd.freshB (g := gb102) (o := .cells #[.bool a0_0, .slice A0_1 l0_1.length c0_1] 113 (0, 0)) (by (with_reducible repeat (first | refine blk_drewN ?_ _ | refine blk_drew ?_ | refine blk_alloc ?_ _)); refine blk_put (cs := #[.bool a0_0, .slice A1_1 l1_1.length c1_1]) ?_ 1 _ rfl; (with_reducible repeat (first | refine blk_drewN ?_ _ | refine blk_drew ?_ | refine blk_alloc ?_ _)); refine blk_put (cs := #[.bool a1_0, .slice A1_1 l1_1.length c1_1]) ?_ 0 _ rfl; (with_reducible repeat (first | refine blk_drewN ?_ _ | refine blk_drew ?_ | refine blk_alloc ?_ _)); refine blk_far ?_ NB102_101.out _; (with_reducible repeat (first | refine blk_drewN ?_ _ | refine blk_drew ?_ | refine blk_alloc ?_ _)); refine blk_far ?_ NB102_101.out _; (with_reducible repeat (first | refine blk_drewN ?_ _ | refine blk_drew ?_ | refine blk_alloc ?_ _)); exact BK102.out) k_ hk_), (Kd.freshB (g := gb103) (o := .cells #[.bool false, .slice none 0 0] 113 (0, 0)) (by (with_reducible repeat (first | refine blk_drewN ?_ _ | refine blk_drew ?_ | refine blk_alloc ?_ _)); refine blk_far ?_ NB103_102.out _; (with_reducible repeat (first | refine blk_drewN ?_ _ | refine blk_drew ?_ | refine blk_alloc ?_ _)); refine blk_far ?_ NB103_102.out _; (with_reducible repeat (first | refine blk_drewN ?_ _ | refine blk_drew ?_ | refine blk_alloc ?_ _)); refine blk_far ?_ NB103_101.out _; (with_reducible repeat (first | refine blk_drewN ?_ _ | refine blk_drew ?_ | refine blk_alloc ?_ _)); refine blk_far ?_ NB103_101.out _; (with_reducible repeat (first | refine blk_drewN ?_ _ | refine blk_drew ?_ | refine blk_alloc ?_ _)); exact BK103.out) k_ hk_)⟩)) (below_size (zB3 HB.out GE101.out GE102.out GE103.out))); replace BK101 := Aside0.mk (blk_below (g := gb101) (o := .cells #[.bool a1_0, .slice A1_1 l1_1.length c1_1] 113 (0, 0)) (by (with_reducible repeat (first | refine blk_drewN ?_ _ | refine blk_drew ?_ | refine blk_alloc ?_ _)); refine blk_far ?_ NB101_102.out _; (with_reducible repeat (first | refine blk_drewN ?_ _ | refine blk_drew ?_ | refine blk_alloc ?_ _)); refine blk_far ?_ NB101_102.out _; (with_reducible repeat (first | refine blk_drewN ?_ _ | refine blk_drew ?_ | refine blk_alloc ?_ _)); refine blk_put (cs := #[.bool a1_0, .slice A0_1 l0_1.length c0_1]) ?_ 1 _ rfl; (with_reducible repeat (first | refine blk_drewN ?_ _ | refine blk_drew ?_ | refine blk_alloc ?_ _)); refine blk_put (cs := #[.bool a0_0, .slice A0_1 l0_1.length c0_1]) ?_ 0 _ rfl; (with_reducible repeat (first | refine blk_drewN ?_ _ | refine blk_drew ?_ | refine blk_alloc ?_ _)); exact BK101.out) hb); replace BK102 := Aside0.mk (blk_below (g := gb102) (o := .cells #[.bool a0_0, .slice A0_1 l0_1.length c0_1] 113 (0, 0)) (by (with_reducible repeat (first | refine blk_drewN ?_ _ | refine blk_drew ?_ | refine blk_alloc ?_ _)); refine blk_put (cs := #[.bool a0_0, .slice A1_1 l1_1.length c1_1]) ?_ 1 _ rfl; (with_reducible repeat (first | refine blk_drewN ?_ _ | refine blk_drew ?_ | refine blk_alloc ?_ _)); refine blk_put (cs := #[.bool a1_0, .slice A1_1 l1_1.length c1_1]) ?_ 0 _ rfl; (with_reducible repeat (first | refine blk_drewN ?_ _ | refine blk_drew ?_ | refine blk_alloc ?_ _)); refine blk_far ?_ NB102_101.out _; (with_reducible repeat (first | refine blk_drewN ?_ _ | refine blk_drew ?_ | refine blk_alloc ?_ _)); refine blk_far ?_ NB102_101.out _; (with_reducible repeat (first | refine blk_drewN ?_ _ | refine blk_drew ?_ | refine blk_alloc ?_ _)); exact BK102.out) hb); replace BK103 := Aside0.mk (blk_below (g := gb103) (o := .cells #[.bool false, .slice none 0 0] 113 (0, 0)) (by (with_reducible repeat (first | refine blk_drewN ?_ _ | refine blk_drew ?_ | refine blk_alloc ?_ _)); refine blk_far ?_ NB103_102.out _; (with_reducible repeat (first | refine blk_drewN ?_ _ | refine blk_drew ?_ | refine blk_alloc ?_ _)); refine blk_far ?_ NB103_102.out _; (with_reducible repeat (first | refine blk_drewN ?_ _ | refine blk_drew ?_ | refine blk_alloc ?_ _)); refine blk_far ?_ NB103_101.out _; (with_reducible repeat (first | refine blk_drewN ?_ _ | refine blk_drew ?_ | refine blk_alloc ?_ _)); refine blk_far ?_ NB103_101.out _; (with_reducible repeat (first | refine blk_drewN ?_ _ | refine blk_drew ?_ | refine blk_alloc ?_ _)); exact BK103.out) hb); replace HB := yS3 HB GE101 GE102 GE103 hb; (try clear hb ho0); have hcz36_0 : w35.cell? ⟨gb101, 0, none⟩ = some (.bool a1_0) := (blk_cell BK101.out 0).trans rfl; have hcz36_1 : w35.cell? ⟨gb101, 1, none⟩ = some (.slice A1_1 l1_1.length c1_1) := (blk_cell BK101.out 1).trans rfl; have hfz36_0 := blk_frozen BK101.out 0; have hfz36_1 := blk_frozen BK101.out 1; obtain ⟨Ao37, co37, rfl⟩ := Kd.V_slice HO113.out; have hcz38_0 : w35.cell? ⟨gb103, 0, none⟩ = some (.bool false) := (blk_cell BK103.out 0).trans rfl; have hcz38_1 : w35.cell? ⟨gb103, 1, none⟩ = some (.slice none 0 0) := (blk_cell BK103.out 1).trans rfl; have hfz38_0 := blk_frozen BK103.out 0; have hfz38_1 := blk_frozen BK103.out 1))
   refine bodyPost_ret (results_cell_row rfl _ _ gb103 113 #[.bool a1_0, .slice Ao37 t111.length co37] (0, 0) _ rfl (by (with_reducible repeat (first | refine blk_drewN ?_ _ | refine blk_drew ?_ | refine blk_alloc ?_ _)); refine blk_put (cs := #[.bool a1_0, .slice none 0 0]) ?_ 1 _ rfl; (with_reducible repeat (first | refine blk_drewN ?_ _ | refine blk_drew ?_ | refine blk_alloc ?_ _)); refine blk_put (cs := #[.bool false, .slice none 0 0]) ?_ 0 _ rfl; (with_reducible repeat (first | refine blk_drewN ?_ _ | refine blk_drew ?_ | refine blk_alloc ?_ _)); exact BK103.out) Try.underlying113 rfl (by kernel_rfl)) rfl ?_
   exact ⟨_, zE, by (with_reducible repeat (first | apply Kd.V_alloc | apply Kd.V_drewN | apply Kd.V_drew)); exact Kd.V_mono (Kd.V_far (p := ⟨gb103, 1, none⟩) (Kd.V_far (p := ⟨gb103, 0, none⟩) (Kd.V_mono HO113.out (fun k_ hk => (⟨hk, hk.2.2.2⟩ : _ ∧ k_ ≠ gb103))) (fun _ hk => hk.2) (.bool a1_0)) (fun _ hk => hk.2) (.slice Ao37 t111.length co37)) (fun _ hk => hk.1.1), zB3 HB.out GE101.out GE102.out GE103.out⟩
 have c22b0 := decide_eq_false c22
 clear c22
 replace H := zb H
 obtain ⟨⟨t115, t118⟩, A39, H⟩ := H
 dsimp only at H
 simp only [Option.some.injEq, Prod.mk.injEq] at H
 obtain ⟨rfl, rfl⟩ := H
 go_enter Try.func128, Try.ntmps128
 go_wp2_with (first | ((with_reducible refine gate_dst (N := 2) rfl ?_); refine box_event ?hg (N := 2) ?hd (cs := #[.bool a0_0, .slice A0_1 l0_1.length c0_1]) (t := 113) ?hr ?_; (case hd => rfl); (case hg => rfl); (case hr => first | (go_simp; done) | (go_simp; rfl)); intro gb101 hg w40 hbox hb; replace HO0_1 := yVB HO0_1 hg hb; replace HO1_1 := yVB HO1_1 hg hb; have BK101 := Aside0.mk (hbox); have GW101 := yg hg HB; have GE101 := yg hg HB; replace HB := yS HB hb; clear hb hbox hg) | ((with_reducible refine gate_dst (N := 3) rfl ?_); refine box_event ?hg (N := 3) ?hd (cs := #[.bool a1_0, .slice A1_1 l1_1.length c1_1]) (t := 113) ?hr ?_; (case hd => rfl); (case hg => rfl); (case hr => first | (go_simp; done) | (go_simp; rfl)); intro gb102 hg w41 hbox hb; replace HO0_1 := yVB HO0_1 hg hb; replace HO1_1 := yVB HO1_1 hg hb; have BK102 := Aside0.mk (hbox); have GW102 := yg1 hg HB GE101; have GE102 := yg1 hg HB GE101; replace HB := yS1 HB GE101 hb; have NB101_102 := ynl hg BK101; have NB102_101 := yng hg BK101; replace BK101 := yK BK101 hb; clear hb hbox hg) | ((with_reducible refine gate_dst (N := 4) rfl ?_); refine box_event ?hg (N := 4) ?hd (cs := #[.bool false, .slice none 0 0]) (t := 113) ?hr ?_; (case hd => rfl); (case hg => rfl); (case hr => first | (go_simp; done) | (go_simp; rfl)); intro gb103 hg w42 hbox hb; replace HO0_1 := yVB HO0_1 hg hb; replace HO1_1 := yVB HO1_1 hg hb; have BK103 := Aside0.mk (hbox); have GW103 := yg2 hg HB GE101 GE102; have GE103 := yg2 hg HB GE101 GE102; replace HB := yS2 HB GE101 GE102 hb; have NB101_103 := ynl hg BK101; have NB103_101 := yng hg BK101; replace BK101 := yK BK101 hb; have NB102_103 := ynl hg BK102; have NB103_102 := yng hg BK102; replace BK102 := yK BK102 hb; clear hb hbox hg; have hnb43 := NB101_102.out; have hnc43 := NB102_101.out; have hnb44 := NB101_103.out; have hnc44 := NB103_101.out; have hcz45_0 : w42.cell? ⟨gb101, 0, none⟩ = some (.bool a0_0) := (blk_cell BK101.out 0).trans rfl; have hcz45_1 : w42.cell? ⟨gb101, 1, none⟩ = some (.slice A0_1 l0_1.length c0_1) := (blk_cell BK101.out 1).trans rfl; have hfz45_0 := blk_frozen BK101.out 0; have hfz45_1 := blk_frozen BK101.out 1; have hnb46 := NB102_103.out; have hnc46 := NB103_102.out; have hcz47_0 : w42.cell? ⟨gb102, 0, none⟩ = some (.bool a1_0) := (blk_cell BK102.out 0).trans rfl; have hcz47_1 : w42.cell? ⟨gb102, 1, none⟩ = some (.slice A1_1 l1_1.length c1_1) := (blk_cell BK102.out 1).trans rfl; have hfz47_0 := blk_frozen BK102.out 0; have hfz47_1 := blk_frozen BK102.out 1) | ((with_reducible refine gate_callee (f := 79) rfl ?_); refine zG (some 25) Try.func79 #[.slice A0_1 l0_1.length c0_1, .slice A1_1 l1_1.length c1_1] ?_; (with_reducible refine (nat_Cmp.calls k _ _ l0_1 _ _ l1_1 t110 _ ?side1 ?side2 ?side3 ?side4 A21.out).mono ?_); (case side1 => exact zC (Kd.V_reads' HO0_1.out).2.2); (case side2 => exact (Kd.V_reads' HO0_1.out).2.1); (case side3 => exact zC (Kd.V_reads' HO1_1.out).2.2); (case side4 => exact (Kd.V_reads' HO1_1.out).2.1); rintro e w48 ⟨rfl, hb⟩; refine ⟨_, rfl, ?_⟩; replace HO0_1 := yVb HO0_1 hb; replace HO1_1 := yVb HO1_1 hb; replace BK101 := yK BK101 hb; replace BK102 := yK BK102 hb; replace BK103 := yK BK103 hb; replace HB := yS3 HB GE101 GE102 GE103 hb; (try clear hb); (try clear hb2); (try clear hk); (try clear hi); have hcz49_0 : w48.cell? ⟨gb101, 0, none⟩ = some (.bool a0_0) := (blk_cell BK101.out 0).trans rfl; have hcz49_1 : w48.cell? ⟨gb101, 1, none⟩ = some (.slice A0_1 l0_1.length c0_1) := (blk_cell BK101.out 1).trans rfl; have hfz49_0 := blk_frozen BK101.out 0; have hfz49_1 := blk_frozen BK101.out 1; have hcz50_0 : w48.cell? ⟨gb102, 0, none⟩ = some (.bool a1_0) := (blk_cell BK102.out 0).trans rfl; have hcz50_1 : w48.cell? ⟨gb102, 1, none⟩ = some (.slice A1_1 l1_1.length c1_1) := (blk_cell BK102.out 1).trans rfl; have hfz50_0 := blk_frozen BK102.out 0; have hfz50_1 := blk_frozen BK102.out 1) | ((with_reducible refine gate_callee (f := 137) rfl ?_); refine zG (some 34) Try.func137 #[.slice A0_1 l0_1.length c0_1, .slice A1_1 l1_1.length c1_1] ?_; (with_reducible refine (nat_Sub.calls k _ _ l0_1 _ _ l1_1 t115 t118 _ ?side1 ?side2 ?side3 ?side4 A39.out).mono ?_); (case side1 => exact zC (Kd.V_reads' HO0_1.out).2.2); (case side2 => exact (Kd.V_reads' HO0_1.out).2.1); (case side3 => exact zC (Kd.V_reads' HO1_1.out).2.2); (case side4 => exact (Kd.V_reads' HO1_1.out).2.1); rintro e w51 ⟨v116, rfl, ho0, hb⟩; refine ⟨_, rfl, ?_⟩; replace HO0_1 := yVb HO0_1 hb; replace HO1_1 := yVb HO1_1 hb; have HO117 := Aside0.mk (Kd.V_lower (Kd.V_mono (ok' := fun k_ => ((P0_1_ k_ ∨ P1_1_ k_) ∨ w.heap.size ≤ k_) ∧ k_ ≠ gb101 ∧ k_ ≠ gb102 ∧ k_ ≠ gb103) ho0 (fun k_ hk_ => ⟨(.inr (Nat.le_trans (below_size (zB3 HB.out GE101.out GE102.out GE103.out)) hk_)), (Kd.freshB (g := gb101) (o := .cells #[.bool a0_0, .slice A0_1 l0_1.length c0_1] 113 (0, 0)) (by (with_reducible repeat (first | refine blk_drewN ?_ _ | refine blk_drew ?_ | refine blk_alloc ?_ _)); exact BK101.out) k_ hk_), (Kd.freshB (g := gb102) (o := .cells #[.bool a1_0, .slice A1_1 l1_1.length c1_1] 113 (0, 0)) (by (with_reducible repeat (first | refine blk_drewN ?_ _ | refine blk_drew ?_ | refine blk_alloc ?_ _)); exact BK102.out) k_ hk_), (Kd.freshB (g := gb103) (o := .cells #[.bool false, .slice none 0 0] 113 (0, 0)) (by (with_reducible repeat (first | refine blk_drewN ?_ _ | refine blk_drew ?_ | refine blk_alloc ?_ _)); exact BK103.out) k_ hk_)⟩)) (below_size (zB3 HB.out GE101.out GE102.out GE103.out))); replace BK101 := yK BK101 hb; replace BK102 := yK BK102 hb; replace BK103 := yK BK103 hb; replace HB := yS3 HB GE101 GE102 GE103 hb; (try clear hb ho0); have hcz52_0 : w51.cell? ⟨gb101, 0, none⟩ = some (.bool a0_0) := (blk_cell BK101.out 0).trans rfl; have hcz52_1 : w51.cell? ⟨gb101, 1, none⟩ = some (.slice A0_1 l0_1.length c0_1) := (blk_cell BK101.out 1).trans rfl; have hfz52_0 := blk_frozen BK101.out 0; have hfz52_1 := blk_frozen BK101.out 1; obtain ⟨Ao53, co53, rfl⟩ := Kd.V_slice HO117.out; have hcz54_0 : w51.cell? ⟨gb103, 0, none⟩ = some (.bool false) := (blk_cell BK103.out 0).trans rfl; have hcz54_1 : w51.cell? ⟨gb103, 1, none⟩ = some (.slice none 0 0) := (blk_cell BK103.out 1).trans rfl; have hfz54_0 := blk_frozen BK103.out 0; have hfz54_1 := blk_frozen BK103.out 1))
 refine bodyPost_ret (results_cell_row rfl _ _ gb103 113 #[.bool a0_0, .slice Ao53 t115.length co53] (0, 0) _ rfl (by (with_reducible repeat (first | refine blk_drewN ?_ _ | refine blk_drew ?_ | refine blk_alloc ?_ _)); refine blk_put (cs := #[.bool a0_0, .slice none 0 0]) ?_ 1 _ rfl; (with_reducible repeat (first | refine blk_drewN ?_ _ | refine blk_drew ?_ | refine blk_alloc ?_ _)); refine blk_put (cs := #[.bool false, .slice none 0 0]) ?_ 0 _ rfl; (with_reducible repeat (first | refine blk_drewN ?_ _ | refine blk_drew ?_ | refine blk_alloc ?_ _)); exact BK103.out) Try.underlying113 rfl (by kernel_rfl)) rfl ?_
 exact ⟨_, zE, by (with_reducible repeat (first | apply Kd.V_alloc | apply Kd.V_drewN | apply Kd.V_drew)); exact Kd.V_mono (Kd.V_far (p := ⟨gb103, 1, none⟩) (Kd.V_far (p := ⟨gb103, 0, none⟩) (Kd.V_mono HO117.out (fun k_ hk => (⟨hk, hk.2.2.2⟩ : _ ∧ k_ ≠ gb103))) (fun _ hk => hk.2) (.bool a0_0)) (fun _ hk => hk.2) (.slice Ao53 t115.length co53)) (fun _ hk => hk.1.1), zB3 HB.out GE101.out GE102.out GE103.out⟩
set_option maxHeartbeats 8000000 in
set_option maxRecDepth 100000 in
theorem macwilliams_minus.calls (k : Nat) (a0_0 : Bool) (P0_1_ : Nat → Prop) (A0_1 : Option Addr) (c0_1 : Nat) (l0_1 : List Int) (a1_0 : Bool) (P1_1_ : Nat → Prop) (A1_1 : Option Addr) (c1_1 : Nat) (l1_1 : List Int) (r1 : Bool) (r2 : List Int) (w : World) (hs0_1 : Kd.V (Kd.int .u32) 97 w w.heap.size (fun k_ => P0_1_ k_) (.slice A0_1 l0_1.length c0_1) l0_1) (hs1_1 : Kd.V (Kd.int .u32) 97 w w.heap.size (fun k_ => P1_1_ k_) (.slice A1_1 l1_1.length c1_1) l1_1) (h : macwilliams_minus.f k a0_0 l0_1 a1_0 l1_1 = some (r1, r2)) :
    Calls Try.prog 125 #[.agg #[.bool a0_0, .slice A0_1 l0_1.length c0_1], .agg #[.bool a1_0, .slice A1_1 l1_1.length c1_1]] w fun e w' => ∃ v1_ : Value, e = .returned (.agg #[.bool r1, v1_]) ∧ Kd.V (Kd.int .u32) 97 w' w.heap.size (fun k_ => ((P0_1_ k_ ∨ P1_1_ k_) ∨ w.heap.size ≤ k_)) v1_ r2 ∧ Below w.heap.size w w' := by
 have hu113 := Try.underlying113
 have HO0_1 := Aside0.mk (show Kd.V (Kd.int .u32) 97 w w.heap.size (fun k_ => ((P0_1_ k_ ∨ P1_1_ k_) ∨ w.heap.size ≤ k_)) (.slice A0_1 l0_1.length c0_1) l0_1 from Kd.V_mono hs0_1 (fun k_ hk => .inl (.inl hk)))
 have HO1_1 := Aside0.mk (show Kd.V (Kd.int .u32) 97 w w.heap.size (fun k_ => ((P0_1_ k_ ∨ P1_1_ k_) ∨ w.heap.size ≤ k_)) (.slice A1_1 l1_1.length c1_1) l1_1 from Kd.V_mono hs1_1 (fun k_ hk => .inl (.inr hk)))
 have HB := Aside0.mk (Below.refl w.heap.size w)
 have H : ((macwilliams_plus.f k a0_0 l0_1 (!a1_0) l1_1).bind fun bt104 => (some (bt104.1, bt104.2))) = some (r1, r2) := h
 clear h
 replace H := zb H
 obtain ⟨⟨t104, t105⟩, A3, H⟩ := H
 dsimp only at H
 simp only [Option.some.injEq, Prod.mk.injEq] at H
 obtain ⟨rfl, rfl⟩ := H
 go_enter Try.func125, Try.ntmps125
 go_wp2_with (first | ((with_reducible refine gate_dst (N := 2) rfl ?_); refine box_event ?hg (N := 2) ?hd (cs := #[.bool a0_0, .slice A0_1 l0_1.length c0_1]) (t := 113) ?hr ?_; (case hd => rfl); (case hg => rfl); (case hr => first | (go_simp; done) | (go_simp; rfl)); intro gb101 hg w4 hbox hb; replace HO0_1 := yVB HO0_1 hg hb; replace HO1_1 := yVB HO1_1 hg hb; have BK101 := Aside0.mk (hbox); have GW101 := yg hg HB; have GE101 := yg hg HB; replace HB := yS HB hb; clear hb hbox hg) | ((with_reducible refine gate_dst (N := 3) rfl ?_); refine box_event ?hg (N := 3) ?hd (cs := #[.bool a1_0, .slice A1_1 l1_1.length c1_1]) (t := 113) ?hr ?_; (case hd => rfl); (case hg => rfl); (case hr => first | (go_simp; done) | (go_simp; rfl)); intro gb102 hg w5 hbox hb; replace HO0_1 := yVB HO0_1 hg hb; replace HO1_1 := yVB HO1_1 hg hb; have BK102 := Aside0.mk (hbox); have GW102 := yg1 hg HB GE101; have GE102 := yg1 hg HB GE101; replace HB := yS1 HB GE101 hb; have NB101_102 := ynl hg BK101; have NB102_101 := yng hg BK101; replace BK101 := yK BK101 hb; clear hb hbox hg) | ((with_reducible refine gate_dst (N := 4) rfl ?_); refine box_event ?hg (N := 4) ?hd (cs := #[.bool false, .slice none 0 0]) (t := 113) ?hr ?_; (case hd => rfl); (case hg => rfl); (case hr => first | (go_simp; done) | (go_simp; rfl)); intro gb103 hg w6 hbox hb; replace HO0_1 := yVB HO0_1 hg hb; replace HO1_1 := yVB HO1_1 hg hb; have BK103 := Aside0.mk (hbox); have GW103 := yg2 hg HB GE101 GE102; have GE103 := yg2 hg HB GE101 GE102; replace HB := yS2 HB GE101 GE102 hb; have NB101_103 := ynl hg BK101; have NB103_101 := yng hg BK101; replace BK101 := yK BK101 hb; have NB102_103 := ynl hg BK102; have NB103_102 := yng hg BK102; replace BK102 := yK BK102 hb; clear hb hbox hg; have hnb7 := NB101_102.out; have hnc7 := NB102_101.out; have hnb8 := NB101_103.out; have hnc8 := NB103_101.out; have hcz9_0 : w6.cell? ⟨gb101, 0, none⟩ = some (.bool a0_0) := (blk_cell BK101.out 0).trans rfl; have hcz9_1 : w6.cell? ⟨gb101, 1, none⟩ = some (.slice A0_1 l0_1.length c0_1) := (blk_cell BK101.out 1).trans rfl; have hfz9_0 := blk_frozen BK101.out 0; have hfz9_1 := blk_frozen BK101.out 1; have hnb10 := NB102_103.out; have hnc10 := NB103_102.out; have hcz11_0 : w6.cell? ⟨gb102, 0, none⟩ = some (.bool a1_0) := (blk_cell BK102.out 0).trans rfl; have hcz11_1 : w6.cell? ⟨gb102, 1, none⟩ = some (.slice A1_1 l1_1.length c1_1) := (blk_cell BK102.out 1).trans rfl; have hfz11_0 := blk_frozen BK102.out 0; have hfz11_1 := blk_frozen BK102.out 1) | ((with_reducible refine gate_callee (f := 128) rfl ?_); refine zG (some 12) Try.func128 #[.agg #[.bool a0_0, .slice A0_1 l0_1.length c0_1], .agg #[.bool (!a1_0), .slice A1_1 l1_1.length c1_1]] ?_; (with_reducible refine (macwilliams_plus.calls k a0_0 (fun k_ => (((((P0_1_ k_ ∨ P1_1_ k_) ∨ w.heap.size ≤ k_) ∧ k_ ≠ gb101) ∧ k_ ≠ gb102) ∧ k_ ≠ gb103)) _ _ l0_1 (!a1_0) (fun k_ => (((((P0_1_ k_ ∨ P1_1_ k_) ∨ w.heap.size ≤ k_) ∧ k_ ≠ gb101) ∧ k_ ≠ gb102) ∧ k_ ≠ gb103)) _ _ l1_1 t104 t105 _ ?side1 ?side2 A3.out).mono ?_); (case side1 => exact HO0_1.out); (case side2 => exact HO1_1.out); rintro e w12 ⟨v106, rfl, ho0, hb⟩; refine ⟨_, rfl, ?_⟩; replace HO0_1 := yVb HO0_1 hb; replace HO1_1 := yVb HO1_1 hb; have HO107 := Aside0.mk (Kd.V_lower (Kd.V_mono (ok' := fun k_ => ((P0_1_ k_ ∨ P1_1_ k_) ∨ w.heap.size ≤ k_) ∧ k_ ≠ gb101 ∧ k_ ≠ gb102 ∧ k_ ≠ gb103) ho0 (fun k_ hk_ => ⟨Or.elim hk_ (fun hs_ => Or.elim hs_ (fun hs_ => hs_.1.1.1) (fun hs_ => hs_.1.1.1)) (fun hn_ => (.inr (Nat.le_trans (below_size (zB3 HB.out GE101.out GE102.out GE103.out)) hn_))), Or.elim hk_ (fun hs_ => Or.elim hs_ (fun hs_ => hs_.1.1.2) (fun hs_ => hs_.1.1.2)) (fun hn_ => (Kd.freshB (g := gb101) (o := .cells #[.bool a0_0, .slice A0_1 l0_1.length c0_1] 113 (0, 0)) (by (with_reducible repeat (first | refine blk_drewN ?_ _ | refine blk_drew ?_ | refine blk_alloc ?_ _)); exact BK101.out) k_ hn_)), Or.elim hk_ (fun hs_ => Or.elim hs_ (fun hs_ => hs_.1.2) (fun hs_ => hs_.1.2)) (fun hn_ => (Kd.freshB (g := gb102) (o := .cells #[.bool a1_0, .slice A1_1 l1_1.length c1_1] 113 (0, 0)) (by (with_reducible repeat (first | refine blk_drewN ?_ _ | refine blk_drew ?_ | refine blk_alloc ?_ _)); exact BK102.out) k_ hn_)), Or.elim hk_ (fun hs_ => Or.elim hs_ (fun hs_ => hs_.2) (fun hs_ => hs_.2)) (fun hn_ => (Kd.freshB (g := gb103) (o := .cells #[.bool false, .slice none 0 0] 113 (0, 0)) (by (with_reducible repeat (first | refine blk_drewN ?_ _ | refine blk_drew ?_ | refine blk_alloc ?_ _)); exact BK103.out) k_ hn_))⟩)) (below_size (zB3 HB.out GE101.out GE102.out GE103.out))); replace BK101 := yK BK101 hb; replace BK102 := yK BK102 hb; replace BK103 := yK BK103 hb; replace HB := yS3 HB GE101 GE102 GE103 hb; (try clear hb ho0); have hcz13_0 : w12.cell? ⟨gb103, 0, none⟩ = some (.bool false) := (blk_cell BK103.out 0).trans rfl; have hcz13_1 : w12.cell? ⟨gb103, 1, none⟩ = some (.slice none 0 0) := (blk_cell BK103.out 1).trans rfl; have hfz13_0 := blk_frozen BK103.out 0; have hfz13_1 := blk_frozen BK103.out 1; obtain ⟨Ao14, co14, rfl⟩ := Kd.V_slice HO107.out))
 refine bodyPost_ret (results_cell_row rfl _ _ gb103 113 #[.bool t104, .slice Ao14 t105.length co14] (0, 0) _ rfl (by (with_reducible repeat (first | refine blk_drewN ?_ _ | refine blk_drew ?_ | refine blk_alloc ?_ _)); refine blk_put (cs := #[.bool t104, .slice none 0 0]) ?_ 1 _ rfl; (with_reducible repeat (first | refine blk_drewN ?_ _ | refine blk_drew ?_ | refine blk_alloc ?_ _)); refine blk_put (cs := #[.bool false, .slice none 0 0]) ?_ 0 _ rfl; (with_reducible repeat (first | refine blk_drewN ?_ _ | refine blk_drew ?_ | refine blk_alloc ?_ _)); exact BK103.out) Try.underlying113 rfl (by kernel_rfl)) rfl ?_
 exact ⟨_, zE, by (with_reducible repeat (first | apply Kd.V_alloc | apply Kd.V_drewN | apply Kd.V_drew)); exact Kd.V_mono (Kd.V_far (p := ⟨gb103, 1, none⟩) (Kd.V_far (p := ⟨gb103, 0, none⟩) (Kd.V_mono HO107.out (fun k_ hk => (⟨hk, hk.2.2.2⟩ : _ ∧ k_ ≠ gb103))) (fun _ hk => hk.2) (.bool t104)) (fun _ hk => hk.2) (.slice Ao14 t105.length co14)) (fun _ hk => hk.1.1), zB3 HB.out GE101.out GE102.out GE103.out⟩
def macwilliams_times.T1 : Bool × List (List Nat × List Nat) := (true, [([], []), ([0], [0]), ([], []), ([2], [2]), ([1, 3], [1, 3]), ([], []), ([5], [5]), ([], []), ([7], [7]), ([6, 8], [6, 8]), ([9], [9]), ([4, 10], [4, 10]), ([11, 10, 0, 1, 2, 3, 4, 5, 6, 7, 8, 9, 10, 11], [11])])
def macwilliams_times.B1 : List Nat := [0, 1, 0, 4, 15, 0, 32, 0, 128, 480, 992, 2047, 4095]
theorem macwilliams_times.tab1 : rtab .any (opsOf Try.f126 1) = macwilliams_times.T1 := by kernel_rfl
theorem macwilliams_times.bits1 : waitsOk macwilliams_times.T1.2 macwilliams_times.B1 = true := by kernel_rfl
set_option maxHeartbeats 8000000 in
set_option maxRecDepth 100000 in
theorem macwilliams_times.calls (k : Nat) (a0_0 : Bool) (P0_1_ : Nat → Prop) (A0_1 : Option Addr) (c0_1 : Nat) (l0_1 : List Int) (a1_0 : Bool) (P1_1_ : Nat → Prop) (A1_1 : Option Addr) (c1_1 : Nat) (l1_1 : List Int) (r1 : Bool) (r2 : List Int) (w : World) (hs0_1 : Kd.V (Kd.int .u32) 97 w w.heap.size (fun k_ => P0_1_ k_) (.slice A0_1 l0_1.length c0_1) l0_1) (hs1_1 : Kd.V (Kd.int .u32) 97 w w.heap.size (fun k_ => P1_1_ k_) (.slice A1_1 l1_1.length c1_1) l1_1) (h : macwilliams_times.f k a0_0 l0_1 a1_0 l1_1 = some (r1, r2)) :
    Calls Try.prog 126 #[.agg #[.bool a0_0, .slice A0_1 l0_1.length c0_1], .agg #[.bool a1_0, .slice A1_1 l1_1.length c1_1]] w fun e w' => ∃ v1_ : Value, e = .returned (.agg #[.bool r1, v1_]) ∧ Kd.R (Kd.int .u32) 97 w' w.heap.size (fun k_ => (w.heap.size ≤ k_)) v1_ r2 ∧ Below w.heap.size w w' := by
 have hu113 := Try.underlying113
 have HO0_1 := Aside0.mk (show Kd.V (Kd.int .u32) 97 w w.heap.size (fun k_ => ((P0_1_ k_ ∨ P1_1_ k_) ∨ w.heap.size ≤ k_)) (.slice A0_1 l0_1.length c0_1) l0_1 from Kd.V_mono hs0_1 (fun k_ hk => .inl (.inl hk)))
 have HO1_1 := Aside0.mk (show Kd.V (Kd.int .u32) 97 w w.heap.size (fun k_ => ((P0_1_ k_ ∨ P1_1_ k_) ∨ w.heap.size ≤ k_)) (.slice A1_1 l1_1.length c1_1) l1_1 from Kd.V_mono hs1_1 (fun k_ hk => .inl (.inr hk)))
 have HB := Aside0.mk (Below.refl w.heap.size w)
 have H : ((nat_Mul.f k (([l0_1, l1_1] : List (List Int)))).bind fun t107 => (some ((a0_0 != a1_0), t107))) = some (r1, r2) := h
 clear h
 obtain ⟨y104, hy104⟩ : ∃ y_ : List (List Int), y_ = (([l0_1, l1_1] : List (List Int))) := ⟨_, rfl⟩
 replace H : ((nat_Mul.f k y104).bind fun t107 => (some ((a0_0 != a1_0), t107))) = some (r1, r2) := zY hy104 H
 have Ny104 := Aside0.mk hy104
 clear hy104
 replace H := zb H
 obtain ⟨t107, A3, H⟩ := H
 simp only [Option.some.injEq, Prod.mk.injEq] at H
 obtain ⟨rfl, rfl⟩ := H
 go_enter Try.func126, Try.ntmps126
 try go_wp2_with (first | ((with_reducible refine gate_dst (N := 2) rfl ?_); refine box_event ?hg (N := 2) ?hd (cs := #[.bool a0_0, .slice A0_1 l0_1.length c0_1]) (t := 113) ?hr ?_; (case hd => rfl); (case hg => rfl); (case hr => first | (go_simp; done) | (go_simp; rfl)); intro gb101 hg w4 hbox hb; replace HO0_1 := yVB HO0_1 hg hb; replace HO1_1 := yVB HO1_1 hg hb; have BK101 := Aside0.mk (hbox); have GW101 := yg hg HB; have GE101 := yg hg HB; replace HB := yS HB hb; clear hb hbox hg) | ((with_reducible refine gate_dst (N := 3) rfl ?_); refine box_event ?hg (N := 3) ?hd (cs := #[.bool a1_0, .slice A1_1 l1_1.length c1_1]) (t := 113) ?hr ?_; (case hd => rfl); (case hg => rfl); (case hr => first | (go_simp; done) | (go_simp; rfl)); intro gb102 hg w5 hbox hb; replace HO0_1 := yVB HO0_1 hg hb; replace HO1_1 := yVB HO1_1 hg hb; have BK102 := Aside0.mk (hbox); have GW102 := yg1 hg HB GE101; have GE102 := yg1 hg HB GE101; replace HB := yS1 HB GE101 hb; have NB101_102 := ynl hg BK101; have NB102_101 := yng hg BK101; replace BK101 := yK BK101 hb; clear hb hbox hg) | ((with_reducible refine gate_dst (N := 4) rfl ?_); refine box_event ?hg (N := 4) ?hd (cs := #[.bool false, .slice none 0 0]) (t := 113) ?hr ?_; (case hd => rfl); (case hg => rfl); (case hr => first | (go_simp; done) | (go_simp; rfl)); intro gb103 hg w6 hbox hb; replace HO0_1 := yVB HO0_1 hg hb; replace HO1_1 := yVB HO1_1 hg hb; have BK103 := Aside0.mk (hbox); have GW103 := yg2 hg HB GE101 GE102; have GE103 := yg2 hg HB GE101 GE102; replace HB := yS2 HB GE101 GE102 hb; have NB101_103 := ynl hg BK101; have NB103_101 := yng hg BK101; replace BK101 := yK BK101 hb; have NB102_103 := ynl hg BK102; have NB103_102 := yng hg BK102; replace BK102 := yK BK102 hb; clear hb hbox hg))
 replace HO0_1 := Aside0.mk (Kd.V_drew HO0_1.out)
 replace HO1_1 := Aside0.mk (Kd.V_drew HO1_1.out)
 replace BK101 := Aside0.mk (blk_drew BK101.out)
 replace BK102 := Aside0.mk (blk_drew BK102.out)
 replace BK103 := Aside0.mk (blk_drew BK103.out)
 replace HB := Aside0.mk (below_drew1 HB.out)
 refine start_ (n := 13) (S := fun w' => w'.cell? ⟨gb101, 0, none⟩ = some (.bool a0_0) ∧ w'.cell? ⟨gb101, 1, none⟩ = some (.slice A0_1 l0_1.length c0_1) ∧ w'.cell? ⟨gb102, 0, none⟩ = some (.bool a1_0) ∧ w'.cell? ⟨gb102, 1, none⟩ = some (.slice A1_1 l1_1.length c1_1)) (ds := []) #[false, false, false, false, false, false, false, false, false, false, false, false, false] (by kernel_rfl) rfl rfl ⟨(blk_cell BK101.out 0).trans rfl, (blk_cell BK101.out 1).trans rfl, (blk_cell BK102.out 0).trans rfl, (blk_cell BK102.out 1).trans rfl⟩ (fun hHeld => ?_); refine with_tabW macwilliams_times.tab1 macwilliams_times.bits1 (fun HT_ HW_ => ?_)
 generalize w6.drew = w7 at HO0_1 HO1_1 BK101 BK102 BK103 HB hHeld ⊢
 refine zp (i := 0) (N := some 5) HT_ ?_
 refine zp (i := 2) (N := some 7) HT_ ?_
 refine zp (i := 5) (N := some 10) HT_ ?_
 refine zp (i := 7) (N := some 12) HT_ ?_
 refine take_ (i := 1) (N := some 6) (v := ?_) (a' := ?_) #[true, true, true, false, false, true, false, true, false, false, false, false, false] rfl rfl (take_ofW HT_.out HW_.out (by kernel_rfl)) (fun _ _ _ h => h) (Or.inl ⟨by rfl, ?_⟩) hHeld ?_ ?_
 rotate_left
 · rintro w' ⟨s0, s1, s2, s3⟩
   go_simp
   with_reducible rfl
 rotate_left
 · simp only [Act.put, List.setIfInBounds_toArray, List.set_cons_zero, List.set_cons_succ, i64_w, i32_w]
   rfl
 refine take_ (i := 3) (N := some 8) (v := ?_) (a' := ?_) #[true, true, true, true, false, true, false, true, false, false, false, false, false] rfl rfl (take_ofW HT_.out HW_.out (by kernel_rfl)) (fun _ _ _ h => h) (Or.inl ⟨by rfl, ?_⟩) hHeld ?_ ?_
 rotate_left
 · rintro w' ⟨s0, s1, s2, s3⟩
   go_simp
   with_reducible rfl
 rotate_left
 · simp only [Act.put, List.setIfInBounds_toArray, List.set_cons_zero, List.set_cons_succ, i64_w, i32_w]
   rfl
 refine zp (i := 4) (N := some 9) HT_ ?_
 refine take_ (i := 6) (N := some 11) (v := ?_) (a' := ?_) #[true, true, true, true, true, true, true, true, false, false, false, false, false] rfl rfl (take_ofW HT_.out HW_.out (by kernel_rfl)) (fun _ _ _ h => h) (Or.inl ⟨by rfl, ?_⟩) hHeld ?_ ?_
 rotate_left
 · rintro w' ⟨s0, s1, s2, s3⟩
   go_simp
   with_reducible rfl
 rotate_left
 · simp only [Act.put, List.setIfInBounds_toArray, List.set_cons_zero, List.set_cons_succ, i64_w, i32_w]
   rfl
 refine take_ (i := 8) (N := some 13) (v := ?_) (a' := ?_) #[true, true, true, true, true, true, true, true, true, false, false, false, false] rfl rfl (take_ofW HT_.out HW_.out (by kernel_rfl)) (fun _ _ _ h => h) (Or.inl ⟨by rfl, ?_⟩) hHeld ?_ ?_
 rotate_left
 · rintro w' ⟨s0, s1, s2, s3⟩
   go_simp
   with_reducible rfl
 rotate_left
 · simp only [Act.put, List.setIfInBounds_toArray, List.set_cons_zero, List.set_cons_succ, i64_w, i32_w]
   rfl
 refine one_ (i := 9) (N := some 14) #[true, true, true, true, true, true, true, true, true, true, false, false, false] rfl rfl (one_of HT_.out (by kernel_rfl)) (by decide) (fun K hK => ?_)
 refine Kd.N_lit_step (Kd.slice 97 (Kd.int .u32)) _ 29 ?hg (N' := 14) ?hd (xs := ([l0_1, l1_1] : List (List Int))) (inner := [.slice A0_1 l0_1.length c0_1, .slice A1_1 l1_1.length c1_1]) (ok := (fun k_ => ((P0_1_ k_ ∨ P1_1_ k_) ∨ w.heap.size ≤ k_) ∧ k_ ≠ gb101 ∧ k_ ≠ gb102 ∧ k_ ≠ gb103)) (okp := (fun k_ => ((P0_1_ k_ ∨ P1_1_ k_) ∨ w.heap.size ≤ k_) ∧ k_ ≠ gb101 ∧ k_ ≠ gb102 ∧ k_ ≠ gb103)) ?hr ?hp (fun _ hk => hk) ((show ∀ k_, w7.heap.size ≤ k_ → (fun k_ => ((P0_1_ k_ ∨ P1_1_ k_) ∨ w.heap.size ≤ k_) ∧ k_ ≠ gb101 ∧ k_ ≠ gb102 ∧ k_ ≠ gb103) k_ from fun k_ hk => ⟨(.inr (Nat.le_trans (below_size (zB3 HB.out GE101.out GE102.out GE103.out)) hk)), Kd.freshB (g := gb101) (o := .cells #[.bool a0_0, .slice A0_1 l0_1.length c0_1] 113 (0, 0)) (by (with_reducible repeat (first | refine blk_drewN ?_ _ | refine blk_drew ?_ | refine blk_alloc ?_ _)); exact BK101.out) k_ hk, Kd.freshB (g := gb102) (o := .cells #[.bool a1_0, .slice A1_1 l1_1.length c1_1] 113 (0, 0)) (by (with_reducible repeat (first | refine blk_drewN ?_ _ | refine blk_drew ?_ | refine blk_alloc ?_ _)); exact BK102.out) k_ hk, Kd.freshB (g := gb103) (o := .cells #[.bool false, .slice none 0 0] 113 (0, 0)) (by (with_reducible repeat (first | refine blk_drewN ?_ _ | refine blk_drew ?_ | refine blk_alloc ?_ _)); exact BK103.out) k_ hk⟩) _ (Nat.le_refl _)) (Below.refl _ _) (Nat.le_refl _) (by simp) ?_; (case hd => rfl); (case hg => rfl); (case hr => first | (go_simp; done) | (go_simp; rfl)); (case hp => exact (Reps.one (show Kd.FK (Kd.slice 97 (Kd.int .u32)) _ _ l0_1 [.slice A0_1 l0_1.length c0_1] from (Kd.FK_slice_mk (Kd.V_reads' (Kd.V_mono (ok' := (fun k_ => ((P0_1_ k_ ∨ P1_1_ k_) ∨ w.heap.size ≤ k_) ∧ k_ ≠ gb101 ∧ k_ ≠ gb102 ∧ k_ ≠ gb103)) (HO0_1.out) (fun k_ hk => by exact ⟨hk.1.1.1, ⟨hk.1.1.2, ⟨hk.1.2, hk.2⟩⟩⟩))).2.1 (Kd.V_F (Kd.V_mono (ok' := (fun k_ => ((P0_1_ k_ ∨ P1_1_ k_) ∨ w.heap.size ≤ k_) ∧ k_ ≠ gb101 ∧ k_ ≠ gb102 ∧ k_ ≠ gb103)) (HO0_1.out) (fun k_ hk => by exact ⟨hk.1.1.1, ⟨hk.1.1.2, ⟨hk.1.2, hk.2⟩⟩⟩))))) (Reps.one (show Kd.FK (Kd.slice 97 (Kd.int .u32)) _ _ l1_1 [.slice A1_1 l1_1.length c1_1] from (Kd.FK_slice_mk (Kd.V_reads' (Kd.V_mono (ok' := (fun k_ => ((P0_1_ k_ ∨ P1_1_ k_) ∨ w.heap.size ≤ k_) ∧ k_ ≠ gb101 ∧ k_ ≠ gb102 ∧ k_ ≠ gb103)) (HO1_1.out) (fun k_ hk => by exact ⟨hk.1.1.1, ⟨hk.1.1.2, ⟨hk.1.2, hk.2⟩⟩⟩))).2.1 (Kd.V_F (Kd.V_mono (ok' := (fun k_ => ((P0_1_ k_ ∨ P1_1_ k_) ∨ w.heap.size ≤ k_) ∧ k_ ≠ gb101 ∧ k_ ≠ gb102 ∧ k_ ≠ gb103)) (HO1_1.out) (fun k_ hk => by exact ⟨hk.1.1.1, ⟨hk.1.1.2, ⟨hk.1.2, hk.2⟩⟩⟩))))) (Reps.none _ _))))
 intro v105 w8 ho9 hb hg_ hnew_
 clear hg_ hnew_
 (first | rw [← Ny104.out] at ho9 | (simp only [Int.reduceToNat] at ho9; rw [← Ny104.out] at ho9))
 replace HO0_1 := Aside0.mk (Kd.V_elder' (zV HO0_1.out) (Kd.N_base ho9) hb)
 replace HO1_1 := Aside0.mk (Kd.V_elder' (zV HO1_1.out) (Kd.N_base ho9) hb)
 have HO106 := Aside0.mk (Kd.N_lower ho9 (below_size (zB3 HB.out GE101.out GE102.out GE103.out)))
 replace BK101 := yK BK101 hb
 replace BK102 := yK BK102 hb
 replace BK103 := yK BK103 hb
 replace HB := yS3 HB GE101 GE102 GE103 hb
 clear hb ho9
 obtain ⟨Ao10, co10, eo10⟩ := Kd.N_slice HO106.out
 (first | subst eo10 | (injection eo10 with f1_ f2_ f3_; have f4_ := f1_.symm; have f5_ := f3_.symm; clear f1_ f2_ f3_; subst f4_; subst f5_))
 refine hK.out _ _ ⟨(blk_cell BK101.out 0).trans rfl, (blk_cell BK101.out 1).trans rfl, (blk_cell BK102.out 0).trans rfl, (blk_cell BK102.out 1).trans rfl⟩ (fun hHeld => ?_)
 clear hK K
 refine norm_ (a' := ?_) ?_ ?_
 rotate_left
 · show Act.put _ (some 14) _ = _
   simp only [Act.put, List.setIfInBounds_toArray, List.set_cons_zero, List.set_cons_succ, i64_w, i32_w]
   rfl
 refine one_ (i := 10) (N := some 15) #[true, true, true, true, true, true, true, true, true, true, true, false, false] rfl rfl (one_of HT_.out (by kernel_rfl)) (by decide) (fun K hK => ?_)
 refine goes_ Try.func74 (by kernel_rfl) rfl #[.slice Ao10 y104.length co10] (by rfl) rfl rfl (by (try simp only [List.map_toArray, List.map_cons, List.map_nil]); first | done | rfl | (simp only [List.length_drop, List.length_take]; rfl)) ?_
 with_reducible refine (nat_Mul.calls k _ _ y104 t107 _ ?side1 ?side2 A3.out).mono ?_
 (case side1 => exact zC (Kd.N_reads' HO106.out).2.2)
 (case side2 => exact (Kd.N_reads' HO106.out).2.1)
 rintro e w11 ⟨v108, rfl, ho0, hb⟩
 refine ⟨_, rfl, ?_⟩
 replace HO0_1 := yVe HO0_1 ho0 hb
 replace HO1_1 := yVe HO1_1 ho0 hb
 replace HO106 := yNe HO106 ho0 hb
 replace ho0 := Kd.R_newM (M := fun k_ => (w.heap.size ≤ k_)) ho0 (below_size (zB3 HB.out GE101.out GE102.out GE103.out)) (fun k_ h_ => h_)
 have HO109 := yRl3 ho0 HB GE101 GE102 GE103
 replace BK101 := yK BK101 hb
 replace BK102 := yK BK102 hb
 replace BK103 := yK BK103 hb
 replace HB := yS3 HB GE101 GE102 GE103 hb
 (try clear hb)
 (try clear hb2)
 (try clear hk)
 (try clear hi)
 (try clear ho0)
 obtain ⟨Ao12, co12, eo12⟩ := Kd.R_slice HO109.out
 (first | subst eo12 | (injection eo12 with f1_ f2_ f3_; have f4_ := f1_.symm; have f5_ := f3_.symm; clear f1_ f2_ f3_; subst f4_; subst f5_))
 refine hK.out _ _ ⟨(blk_cell BK101.out 0).trans rfl, (blk_cell BK101.out 1).trans rfl, (blk_cell BK102.out 0).trans rfl, (blk_cell BK102.out 1).trans rfl⟩ (fun hHeld => ?_)
 clear hK K
 refine norm_ (a' := ?_) ?_ ?_
 rotate_left
 · show Act.put _ (some 15) _ = _
   simp only [Act.put, List.setIfInBounds_toArray, List.set_cons_zero, List.set_cons_succ, i64_w, i32_w]
   rfl
 refine zp (i := 11) (N := some 16) HT_ ?_
 refine one_ (i := 12) (N := none) #[true, true, true, true, true, true, true, true, true, true, true, true, true] rfl rfl (one_of HT_.out (by kernel_rfl)) (by decide) (fun K hK => ?_)
 have hs13 : w11.cell? ⟨gb103, 0, none⟩ = some (.bool false) := (blk_cell BK103.out 0).trans rfl
 have hfs13 := blk_frozen BK103.out 0
 have hns13_0 := NB101_103.out
 have hns13_1 := NB102_103.out
 have hms13_0 := NB103_101.out
 have hms13_1 := NB103_102.out
 have hs14 : w11.cell? ⟨gb103, 1, none⟩ = some (.slice none 0 0) := (blk_cell BK103.out 1).trans rfl
 have hfs14 := blk_frozen BK103.out 1
 have hns14_0 := NB101_103.out
 have hns14_1 := NB102_103.out
 have hms14_0 := NB103_101.out
 have hms14_1 := NB103_102.out
 refine skip_ (w1 := ?_) (by rfl) rfl ?_ ?_
 rotate_left
 · go_simp
   rfl
 refine hK.out _ _ ⟨((cell_far (p := ⟨gb103, _, none⟩) NB101_103.out _).trans (((cell_far (p := ⟨gb103, _, none⟩) NB101_103.out _).trans (hHeld.1)))), ((cell_far (p := ⟨gb103, _, none⟩) NB101_103.out _).trans (((cell_far (p := ⟨gb103, _, none⟩) NB101_103.out _).trans (hHeld.2.1)))), ((cell_far (p := ⟨gb103, _, none⟩) NB102_103.out _).trans (((cell_far (p := ⟨gb103, _, none⟩) NB102_103.out _).trans (hHeld.2.2.1)))), ((cell_far (p := ⟨gb103, _, none⟩) NB102_103.out _).trans (((cell_far (p := ⟨gb103, _, none⟩) NB102_103.out _).trans (hHeld.2.2.2))))⟩ (fun hHeld => ?_)
 clear hK K
 refine done_ (done_of HT_.out (by kernel_rfl)) ?_
 try go_wp2
 refine bodyPost_ret (results_cell_row rfl _ _ gb103 113 #[.bool (a0_0 != a1_0), .slice Ao12 t107.length co12] (0, 0) _ rfl (by (with_reducible repeat (first | refine blk_drewN ?_ _ | refine blk_drew ?_ | refine blk_alloc ?_ _)); refine blk_put (cs := #[.bool (a0_0 != a1_0), .slice none 0 0]) ?_ 1 _ rfl; (with_reducible repeat (first | refine blk_drewN ?_ _ | refine blk_drew ?_ | refine blk_alloc ?_ _)); refine blk_put (cs := #[.bool false, .slice none 0 0]) ?_ 0 _ rfl; (with_reducible repeat (first | refine blk_drewN ?_ _ | refine blk_drew ?_ | refine blk_alloc ?_ _)); exact BK103.out) Try.underlying113 rfl (by kernel_rfl)) rfl ?_
 exact ⟨_, zE, by (with_reducible repeat (first | apply Kd.R_alloc | apply Kd.R_drewN | apply Kd.R_drew)); exact Kd.R_mono (Kd.R_far (p := ⟨gb103, 1, none⟩) (Kd.R_far (p := ⟨gb103, 0, none⟩) (Kd.R_types HO109.out BK103.out (by decide)) (fun _ hk => hk.2) (.bool (a0_0 != a1_0))) (fun _ hk => hk.2) (.slice Ao12 t107.length co12)) (fun _ hk => hk.1.1), zB3 HB.out GE101.out GE102.out GE103.out⟩
def macwilliams_table.T18 : Bool × List (List Nat × List Nat) := (true, [([], []), ([], []), ([], []), ([1, 2], [1, 2]), ([3], [3]), ([], []), ([], []), ([6], [6]), ([5, 7], [5, 7]), ([8], [8]), ([4, 9], [4, 9]), ([], []), ([], []), ([], []), ([13], [13]), ([12, 14], [12, 14]), ([15], [15]), ([11, 16, 10], [11, 16]), ([10, 17, 17], [10, 17]), ([18], [18]), ([0, 19, 18], [0, 19]), ([20, 20, 0, 1, 2, 3, 4, 5, 6, 7, 8, 9, 10, 11, 12, 13, 14, 15, 16, 17, 18, 19, 20], [0, 12, 20])])
def macwilliams_table.B18 : List Nat := [0, 0, 0, 6, 14, 0, 0, 64, 224, 480, 1022, 0, 0, 0, 8192, 28672, 61440, 131070, 262142, 524286, 1048575, 2097151]
theorem macwilliams_table.tab18 : rtab .any (opsOf Try.f94 18) = macwilliams_table.T18 := by kernel_rfl
theorem macwilliams_table.bits18 : waitsOk macwilliams_table.T18.2 macwilliams_table.B18 = true := by kernel_rfl
set_option maxHeartbeats 8000000 in
set_option maxRecDepth 100000 in
theorem macwilliams_table.calls (k : Nat) (a0 : Int) (a1 : Int) (r : List (List (S113))) (w : World) (h : macwilliams_table.f k a0 a1 = some r) :
    Calls Try.prog 94 #[.int .i64 a0, .int .i64 a1] w fun e w' => ∃ v0_ : Value, e = .returned (v0_) ∧ Kd.N (Kd.slice 113 k113) 114 w' w.heap.size (fun k_ => (w.heap.size ≤ k_)) v0_ r ∧ Below w.heap.size w w' := by
 have hu113 := Try.underlying113
 have HB := Aside0.mk (Below.refl w.heap.size w)
 have H : (if 0 ≤ (wrap64 (a1 + 1)) then (if (wrap64 (a1 + 1) : Int).toNat ≤ 8796093022208 then ((some (List.replicate (wrap64 (a1 + 1) : Int).toNat z113 : List (S113))).bind fun y101 => (macwilliams_table.l0 k a0 a1 y101 (y101.length : Int) 0)) else (none)) else (none)) = some r := h
 clear h
 obtain ⟨ji3, hji3⟩ : ∃ j_ : Int, (wrap64 (a1 + 1)) = j_ := ⟨_, rfl⟩
 replace H : (if 0 ≤ (ji3) then (if (ji3 : Int).toNat ≤ 8796093022208 then ((some (List.replicate (ji3 : Int).toNat z113 : List (S113))).bind fun y101 => (macwilliams_table.l0 k a0 a1 y101 (y101.length : Int) 0)) else (none)) else (none)) = some r := by first | (rw [hji3] at H; exact H) | (simp only [hji3] at H ⊢; exact H)
 have hji3w : (IntKind.i64.wrap (a1 + 1)) = ji3 := (i64_w _).trans hji3
 replace H := zg H
 obtain ⟨c4, H⟩ := H
 have c4b0 := eq_true c4
 have c4b1 := decide_eq_true c4
 clear c4
 replace H := zg H
 obtain ⟨c5, H⟩ := H
 have c5b0 := eq_true c5
 have c5b1 := decide_eq_true c5
 clear c5
 obtain ⟨y101, hy101⟩ : ∃ y_ : List (S113), y_ = (List.replicate (ji3 : Int).toNat z113) := ⟨_, rfl⟩
 replace H : (macwilliams_table.l0 k a0 a1 y101 (y101.length : Int) 0) = some r := zY hy101 H
 have Ny101 := Aside0.mk hy101
 clear hy101
 have H' := Aside0.mk H
 clear H
 go_enter Try.func94, Try.ntmps94
 go_wp2_with (first | ((with_reducible refine gate_dst (N := 18) rfl ?_); refine Kd.N_make k113 _ 113 rfl (N' := 18) rfl 114 _ _ rfl ji3 rfl rfl Try.underlying114 (.agg #[(.bool false), (.slice none 0 0)]) 32 info113 rfl (by decide) (by omega) z113 (ok := fun k_ => w.heap.size ≤ k_) (okp := fun _ => False) (k113_mkF _ _ z113 (Nat.le_refl _) (Kd.F_nil _ _ _)) (fun _ hk => hk.elim) (Nat.le_refl _) (of_decide_eq_true zA) (Nat.le_trans (Nat.mul_le_mul_right _ (of_decide_eq_true zA : ji3.toNat ≤ 8796093022208)) (by omega)) (Below.refl _ _) (Nat.le_refl _) ?_; intro v102 w6 ho7 hb hg_ hnew_; clear hg_ hnew_; (first | rw [← Ny101.out] at ho7 | (simp only [Int.reduceToNat] at ho7; rw [← Ny101.out] at ho7)); have HO103 := Aside0.mk (Kd.N_lower (Kd.N_mono (ok' := fun k_ => (w.heap.size ≤ k_)) ho7 (fun k_ hk_ => (Nat.le_trans (below_size (zB HB.out)) hk_))) (below_size (zB HB.out))); replace HB := yS HB hb; clear hb ho7; obtain ⟨Ao8, co8, rfl⟩ := Kd.N_slice HO103.out))
 go_loopg [21] k (fun kq v21 w' => ∃ (x5_1 : List (S113)) (x21_1 : Int), v21 = .int .i64 x21_1 ∧ Aside0 (macwilliams_table.l0 kq a0 a1 x5_1 (y101.length : Int) x21_1 = some r) ∧ Aside0 (kq ≤ k) ∧ Aside0 (Kd.N k113 113 w' w.heap.size (fun k_ => (w.heap.size ≤ k_)) (.slice Ao8 y101.length co8) x5_1) ∧ Aside0 (Below w.heap.size w w'))
 case atStart => exact ⟨(y101), (0), zF, H', ⟨Nat.le_refl _⟩, ⟨zN HO103.out⟩, ⟨zB HB.out⟩⟩
 clear H'
 (try clear p2);(try clear c4);(try clear c4b0);(try clear c4b1);(try clear c5);(try clear c5b0);(try clear c5b1);(try clear p6)
 obtain ⟨x5_1, x21_1, rfl, HA, HK1, HO_5, HB⟩ := hrel
 have hl5_1 := (Kd.N_reads' HO_5.out).1
 rw [hl5_1] at HO_5
 (try simp only [hl5_1])
 cases gk with | zero => exact absurd HA.out (by simp [macwilliams_table.l0]) | succ k1 => ?_
 have H := HA.out
 clear HA
 simp only [macwilliams_table.l0] at H
 replace H := zi H
 rcases H with ⟨c9, H⟩ | ⟨c9, H⟩
 · have c9b0 := decide_eq_true c9
   (try (have c9h0 := c9b0; simp only [hl5_1] at c9h0))
   clear c9
   replace H := zb H
   obtain ⟨⟨t104, t105⟩, A10, H⟩ := H
   dsimp only at H
   replace H := zb H
   obtain ⟨t108, A11, H⟩ := H
   replace H := zb H
   obtain ⟨⟨t111, t112⟩, A12, H⟩ := H
   dsimp only at H
   obtain ⟨y115, hy115⟩ : ∃ y_ : List (List Int), y_ = (([t104, t111] : List (List Int))) := ⟨_, rfl⟩
   replace H : ((nat_Mul.f k1 y115).bind fun t118 => (if 0 ≤ x21_1 then (if x21_1 < (x5_1.length : Int) then (macwilliams_table.l0 k1 a0 a1 (x5_1.set (x21_1 : Int).toNat (⟨false, t118⟩ : S113)) (y101.length : Int) (wrap64 (x21_1 + 1))) else (none)) else (none))) = some r := zY hy115 H
   have Ny115 := Aside0.mk hy115
   clear hy115
   replace H := zb H
   obtain ⟨t118, A13, H⟩ := H
   replace H := zg H
   obtain ⟨c14, H⟩ := H
   have c14b0 := decide_eq_true c14
   clear c14
   replace H := zg H
   obtain ⟨c15, H⟩ := H
   have c15b0 := decide_eq_true c15
   (try (have c15h0 := c15b0; simp only [hl5_1] at c15h0))
   clear c15
   obtain ⟨y121, hy121⟩ : ∃ y_ : List (S113), y_ = (x5_1.set (x21_1 : Int).toNat (⟨false, t118⟩ : S113)) := ⟨_, rfl⟩
   replace H : (macwilliams_table.l0 k1 a0 a1 y121 (y101.length : Int) (wrap64 (x21_1 + 1))) = some r := zY hy121 H
   have Ny121 := Aside0.mk hy121
   clear hy121
   have H' := Aside0.mk H
   clear H
   go_wp2_with (first | ((with_reducible refine gate_callee (f := 72) rfl ?_); refine zG (some 27) Try.func72 #[.int .i64 a1, .int .i64 x21_1] ?_; (with_reducible refine (nat_Binomial.calls k1 a1 x21_1 t104 t105 _ A10.out).mono ?_); rintro e w17 ⟨v106, rfl, ho0, hb⟩; refine ⟨_, rfl, ?_⟩; replace HO_5 := yNe HO_5 ho0 hb; replace ho0 := Kd.R_newM (M := fun k_ => (w.heap.size ≤ k_)) ho0 (below_size (zB HB.out)) (fun k_ h_ => h_); have HO107 := yRl ho0 HB; replace HB := yS HB hb; (try clear hb ho0)) | ((with_reducible refine gate_callee (f := 80) rfl ?_); refine zG (some 34) Try.func80 #[.int .u64 (IntKind.u64.wrap (wrap64 (a0 - 1)))] ?_; (with_reducible refine (nat_Of.calls k1 (IntKind.u64.wrap (wrap64 (a0 - 1))) t108 _ A11.out).mono ?_); rintro e w18 ⟨v109, rfl, ho0, hb⟩; refine ⟨_, rfl, ?_⟩; replace HO_5 := yNe HO_5 ho0 hb; replace ho0 := Kd.R_newM (M := fun k_ => (w.heap.size ≤ k_)) ho0 (below_size (zB HB.out)) (fun k_ h_ => h_); replace ho0 := yn ho0 HO107; have HO110 := yRl ho0 HB; replace HO107 := yRe HO107 ho0 hb; replace HB := yS HB hb; (try clear hb ho0); obtain ⟨Ao19, co19, rfl⟩ := Kd.R_slice HO110.out) | ((with_reducible refine gate_callee (f := 85) rfl ?_); refine zG (some 36) Try.func85 #[.slice Ao19 t108.length co19, .int .i64 x21_1] ?_; (with_reducible refine (nat_Pow.calls k1 _ _ t108 x21_1 t111 t112 _ ?side1 ?side2 A12.out).mono ?_); (case side1 => exact zC (Kd.R_reads' HO110.out).2.2); (case side2 => exact (Kd.R_reads' HO110.out).2.1); rintro e w20 ⟨v113, rfl, ho0, hb⟩; refine ⟨_, rfl, ?_⟩; replace HO_5 := yNe HO_5 ho0 hb; replace ho0 := Kd.R_newM (M := fun k_ => (w.heap.size ≤ k_)) ho0 (below_size (zB HB.out)) (fun k_ h_ => h_); replace ho0 := yn ho0 HO107; replace ho0 := yn ho0 HO110; have HO114 := yRl ho0 HB; replace HO107 := yRe HO107 ho0 hb; replace HO110 := yRe HO110 ho0 hb; replace HB := yS HB hb; (try clear hb ho0); obtain ⟨Ao21, co21, rfl⟩ := Kd.R_slice HO107.out; obtain ⟨Ao22, co22, rfl⟩ := Kd.R_slice HO114.out) | ((with_reducible refine gate_dst (N := 43) rfl ?_); refine Kd.N_lit (Kd.slice 97 (Kd.int .u32)) _ 29 ?hg (N' := 43) ?hd (xs := ([t104, t111] : List (List Int))) (inner := [.slice Ao21 t104.length co21, .slice Ao22 t111.length co22]) (ok := (fun k_ => (w.heap.size ≤ k_) ∧ some k_ ≠ (.slice Ao8 x5_1.length co8 : Value).ownBlock ∧ some k_ ≠ (.slice Ao19 t108.length co19 : Value).ownBlock)) (okp := (fun k_ => (w.heap.size ≤ k_) ∧ some k_ ≠ (.slice Ao8 x5_1.length co8 : Value).ownBlock ∧ some k_ ≠ (.slice Ao19 t108.length co19 : Value).ownBlock)) ?hr ?hp (fun _ hk => hk) ((show ∀ k_, w20.heap.size ≤ k_ → (fun k_ => (w.heap.size ≤ k_) ∧ some k_ ≠ (.slice Ao8 x5_1.length co8 : Value).ownBlock ∧ some k_ ≠ (.slice Ao19 t108.length co19 : Value).ownBlock) k_ from fun k_ hk => ⟨(Nat.le_trans (below_size (zB HB.out)) hk), Kd.fresh' (Kd.N_lt (zN HO_5.out)) k_ hk, Kd.fresh' (Kd.R_lt (zR HO110.out)) k_ hk⟩) _ (Nat.le_refl _)) (Below.refl _ _) (Nat.le_refl _) (by simp) ?_; (case hd => rfl); (case hg => rfl); (case hr => first | (go_simp; done) | (go_simp; rfl)); (case hp => exact (Reps.one (show Kd.FK (Kd.slice 97 (Kd.int .u32)) _ _ t104 [.slice Ao21 t104.length co21] from (Mw.FK_of_R (Kd.R_mono (ok' := (fun k_ => (w.heap.size ≤ k_) ∧ some k_ ≠ (.slice Ao8 x5_1.length co8 : Value).ownBlock ∧ some k_ ≠ (.slice Ao19 t108.length co19 : Value).ownBlock)) (Kd.R_apart' (HO107.out) (Kd.N_typed HO_5.out) (by decide)) (fun k_ hk => by exact ⟨hk.1.1.1.1, ⟨hk.2, hk.1.1.2⟩⟩)))) (Reps.one (show Kd.FK (Kd.slice 97 (Kd.int .u32)) _ _ t111 [.slice Ao22 t111.length co22] from (Mw.FK_of_R (Kd.R_mono (ok' := (fun k_ => (w.heap.size ≤ k_) ∧ some k_ ≠ (.slice Ao8 x5_1.length co8 : Value).ownBlock ∧ some k_ ≠ (.slice Ao19 t108.length co19 : Value).ownBlock)) (Kd.R_apart' (HO114.out) (Kd.N_typed HO_5.out) (by decide)) (fun k_ hk => by exact ⟨hk.1.1.1.1, ⟨hk.2, hk.1.2⟩⟩)))) (Reps.none _ _)))); intro v116 w23 ho24 hb hg_ hnew_; clear hg_ hnew_; (first | rw [← Ny115.out] at ho24 | (simp only [Int.reduceToNat] at ho24; rw [← Ny115.out] at ho24)); replace HO_5 := Aside0.mk (Kd.N_elder' (zN HO_5.out) (Kd.N_base ho24) hb); replace HO110 := yRb HO110 hb; have HO117 := Aside0.mk (Kd.N_lower ho24 (below_size (zB HB.out))); replace HB := yS HB hb; clear HO107 HO114; clear hb ho24; obtain ⟨Ao25, co25, rfl⟩ := Kd.N_slice HO117.out) | ((with_reducible refine gate_callee (f := 74) rfl ?_); refine zG (some 44) Try.func74 #[.slice Ao25 y115.length co25] ?_; (with_reducible refine (nat_Mul.calls k1 _ _ y115 t118 _ ?side1 ?side2 A13.out).mono ?_); (case side1 => exact zC (Kd.N_reads' HO117.out).2.2); (case side2 => exact (Kd.N_reads' HO117.out).2.1); rintro e w26 ⟨v119, rfl, ho0, hb⟩; refine ⟨_, rfl, ?_⟩; replace HO_5 := yNe HO_5 ho0 hb; replace HO117 := yNe HO117 ho0 hb; replace ho0 := Kd.R_newM (M := fun k_ => (w.heap.size ≤ k_)) ho0 (below_size (zB HB.out)) (fun k_ h_ => h_); replace ho0 := yn ho0 HO110; have HO120 := yRl ho0 HB; replace HO110 := yRe HO110 ho0 hb; replace HB := yS HB hb; (try clear hb ho0); obtain ⟨Ao27, co27, rfl⟩ := Kd.R_slice HO120.out; have p16 : 0 ≤ (x21_1 : Int) := of_decide_eq_true zA; have q16 : (x21_1 : Int) < ((x5_1.length : Int) : Int) := of_decide_eq_true zA; obtain ⟨go16, co16, eo16, gb16, gl16, cl16, HG16⟩ := Kd.N_form HO_5.out (by omega); (first | cases eo16 | (injection eo16 with ea_ en_ ec_; (first | subst ea_ | (injection ea_ with ea_; subst ea_)); subst ec_; clear en_)); have GB16 := Aside0.mk gb16; have GG16 := Aside0.mk HG16; clear gb16 gl16 HG16; obtain ⟨ce16, hcl16, hM16, hcc16, hfr16⟩ := Kd.N_elem HO_5.out z113 (x21_1 : Int) p16 q16; obtain ⟨ua16_1, uc16_1, rfl, ul16_1, ge16_1⟩ := k113_openF hM16; have hx16_0 : w26.cell? ⟨go16, (x21_1 : Int).toNat * 2, none⟩ = some (.bool ((rd_T113 x5_1 x21_1).f0)) := hcc16 0 _ rfl; have hx16_1 : w26.cell? ⟨go16, (x21_1 : Int).toNat * 2 + 1, none⟩ = some (.slice ua16_1 ((rd_T113 x5_1 x21_1).f1).length uc16_1) := hcc16 1 _ rfl; have hf16_0 : w26.frozen? ⟨go16, (x21_1 : Int).toNat * 2, none⟩ = false := hfr16 0; have hf16_1 : w26.frozen? ⟨go16, (x21_1 : Int).toNat * 2 + 1, none⟩ = false := hfr16 1; clear hcl16 hcc16 hfr16 hM16; replace p16 := eq_true p16; replace q16 := eq_true q16; have n_ := Aside0.mk (Kd.N_mono (ok' := (fun k_ => (w.heap.size ≤ k_) ∧ some k_ ≠ (.slice Ao19 t108.length co19 : Value).ownBlock ∧ some k_ ≠ (.slice Ao25 y115.length co25 : Value).ownBlock ∧ some k_ ≠ (.slice Ao27 t118.length co27 : Value).ownBlock)) HO_5.out (fun k_ hk => ⟨hk.1.1.1.1.1, ⟨hk.1.1.1.2, ⟨hk.1.2, hk.2⟩⟩⟩)); clear HO_5; have HO_5 := n_; clear n_; have HX28 := Aside0.mk (show Kd.N k113 113 w26 w.heap.size (fun k_ => (w.heap.size ≤ k_) ∧ some k_ ≠ (.slice Ao19 t108.length co19 : Value).ownBlock ∧ some k_ ≠ (.slice Ao25 y115.length co25 : Value).ownBlock) (.slice (some ⟨go16, 0, none⟩) x5_1.length co8) x5_1 from (by (with_reducible repeat (first | apply Kd.N_alloc | apply Kd.N_drewN | apply Kd.N_drew)); exact Kd.N_mono HO_5.out (fun _ hk => ⟨hk.1, ⟨hk.2.1, hk.2.2.1⟩⟩))); obtain ⟨ce28, hcl28, hM28, hcc28, hfr28⟩ := Kd.N_elem HX28.out z113 (x21_1 : Int) (of_decide_eq_true zA) (by have h_ : (x21_1 : Int) < ((x5_1.length : Int) : Int) := of_decide_eq_true zA; first | exact h_ | (have e_ := (Kd.N_reads' HO_5.out).1; omega) | simpa using h_); obtain ⟨ua28_1, uc28_1, rfl, ul28_1, ge28_1⟩ := k113_openF hM28; have HP28 := Kd.N_seg HX28.out (x21_1 : Int) (of_decide_eq_true zA) (by have h_ : (x21_1 : Int) < ((x5_1.length : Int) : Int) := of_decide_eq_true zA; first | exact h_ | (have e_ := (Kd.N_reads' HO_5.out).1; omega) | simpa using h_) (seg := [.bool false, .slice Ao27 t118.length co27]) (j := 0) hcl28 hcc28 (show 2 ≤ 2 from by decide) (x' := (⟨false, t118⟩ : S113)) (k113_mkF _ _ (⟨false, t118⟩ : S113) (Kd.R_reads' (Kd.R_mono (ok' := (fun k_ => ((fun k_ => (w.heap.size ≤ k_) ∧ some k_ ≠ (.slice Ao19 t108.length co19 : Value).ownBlock ∧ some k_ ≠ (.slice Ao25 y115.length co25 : Value).ownBlock)) k_ ∧ k_ ≠ go16)) (Kd.R_apart' (Kd.R_apart' (HO120.out) (Kd.N_typed HO117.out) (by decide)) (Kd.N_typed HO_5.out) (by decide)) (fun k_ hk => by exact ⟨⟨hk.1.1.1.1, ⟨hk.1.1.2, hk.1.2⟩⟩, fun e_ => (hk.2) (by rw [e_]; rfl)⟩))).2.1 (Kd.R_F (Kd.R_mono (ok' := (fun k_ => ((fun k_ => (w.heap.size ≤ k_) ∧ some k_ ≠ (.slice Ao19 t108.length co19 : Value).ownBlock ∧ some k_ ≠ (.slice Ao25 y115.length co25 : Value).ownBlock)) k_ ∧ k_ ≠ go16)) (Kd.R_apart' (Kd.R_apart' (HO120.out) (Kd.N_typed HO117.out) (by decide)) (Kd.N_typed HO_5.out) (by decide)) (fun k_ hk => by exact ⟨⟨hk.1.1.1.1, ⟨hk.1.1.2, hk.1.2⟩⟩, fun e_ => (hk.2) (by rw [e_]; rfl)⟩)))) (fun _ hk => hk); have hx28_0 := hcc28 0 _ rfl; (try simp only [show (k113).sz = 2 from rfl, Nat.mul_one, Nat.add_zero] at hx28_0); have hf28_0 := hfr28 0; (try simp only [show (k113).sz = 2 from rfl, Nat.mul_one, Nat.add_zero] at hf28_0); have hx28_1 := hcc28 1 _ rfl; (try simp only [show (k113).sz = 2 from rfl, Nat.mul_one, Nat.add_zero] at hx28_1); have hf28_1 := hfr28 1; (try simp only [show (k113).sz = 2 from rfl, Nat.mul_one, Nat.add_zero] at hf28_1); clear hcl28 hcc28 hfr28 hM28) | ((with_reducible refine gate_store (t := 113) (p := 46) rfl ?_); refine store_event (t := 113) (p := 46) (v := ?vo_w29) (w1 := ((w26.setCell ⟨go16, (x21_1 : Int).toNat * 2, none⟩ (.bool false)).setCell ⟨go16, (x21_1 : Int).toNat * 2 + 1, none⟩ (.slice Ao27 t118.length co27))) ?hg ?ho ?hn ?hr ?_; (case ho => rfl); (case hg => rfl); (case hn => rfl); (case hr => first | (go_simp; done) | (go_simp; rfl)); intro w29 hw; have hg : w26.grownBy w29 (some go16) := (by rw [hw]; exact HP28.2); have hp_ : Kd.N k113 113 w29 w.heap.size (fun k_ => (w.heap.size ≤ k_) ∧ some k_ ≠ (.slice Ao19 t108.length co19 : Value).ownBlock ∧ some k_ ≠ (.slice Ao25 y115.length co25 : Value).ownBlock) (.slice (some ⟨go16, 0, none⟩) x5_1.length co8) y121 := (by rw [hw, Ny121.out]; exact HP28.1); clear HP28; replace HO110 := Aside0.mk (Kd.R_over' (v := (.slice (some ⟨go16, 0, none⟩) x5_1.length co8)) (zR HO110.out) (Kd.N_typed HO_5.out) (by decide) hg); replace HO_5 := Aside0.mk (hp_); replace HO117 := Aside0.mk (Kd.N_afterv (v := (.slice (some ⟨go16, 0, none⟩) x5_1.length co8)) (v1 := (.slice (some ⟨go16, 0, none⟩) x5_1.length co8)) (ok := (fun k_ => (w.heap.size ≤ k_) ∧ some k_ ≠ (.slice Ao19 t108.length co19 : Value).ownBlock ∧ some k_ ≠ (.slice Ao27 t118.length co27 : Value).ownBlock)) (by (with_reducible repeat (first | apply Kd.N_alloc | apply Kd.N_drewN | apply Kd.N_drew)); exact Kd.N_mono HO117.out (fun _ hk => ⟨⟨hk.1.1, ⟨hk.1.2.2, hk.2⟩⟩, hk.1.2.1⟩)) hg (.inl rfl)); replace HB := Aside0.mk ((by rw [hw]; exact below_set (below_set (HB.out) GB16.out) GB16.out : Below w.heap.size w w29)); clear HO120; clear hg hw hp_))
   (try simp only [← hl5_1])
   go_roundg k1
   case measure => have := HK1.out; omega
   case rel => exact ⟨(y121), (wrap64 (x21_1 + 1)), zF, H', ⟨zo1 HK1⟩, ⟨by (try simp only [hl5_1]); (with_reducible repeat (first | apply Kd.N_alloc | apply Kd.N_drewN | apply Kd.N_drew)); exact Kd.N_mono HO_5.out (fun _ hk => hk.1)⟩, ⟨zB HB.out⟩⟩
 have c9b0 := decide_eq_false c9
 (try (have c9h0 := c9b0; simp only [hl5_1] at c9h0))
 clear c9
 obtain ⟨y122, hy122⟩ : ∃ y_ : List (List (S113)), y_ = (([x5_1] : List (List (S113)))) := ⟨_, rfl⟩
 replace H : ((macwilliams_small.f k1 (wrap64 (a0 - 1))).bind fun bt125 => (macwilliams_table.l1 k1 a1 y122 a1 0 bt125.1 bt125.2)) = some r := zY hy122 H
 have Ny122 := Aside0.mk hy122
 clear hy122
 replace H := zb H
 obtain ⟨⟨t125, t126⟩, A30, H⟩ := H
 dsimp only at H
 have H' := Aside0.mk H
 clear H
 go_wp2_with (first | ((with_reducible refine gate_dst (N := 49) rfl ?_); refine Kd.N_lit (Kd.slice 113 k113) _ 114 ?hg (N' := 49) ?hd (xs := ([x5_1] : List (List (S113)))) (inner := [.slice Ao8 x5_1.length co8]) (ok := (fun k_ => (w.heap.size ≤ k_))) (okp := (fun k_ => (w.heap.size ≤ k_))) ?hr ?hp (fun _ hk => hk) ((show ∀ k_, wr.heap.size ≤ k_ → (fun k_ => (w.heap.size ≤ k_)) k_ from fun k_ hk => (Nat.le_trans (below_size (zB HB.out)) hk)) _ (Nat.le_refl _)) (Below.refl _ _) (Nat.le_refl _) (by simp) ?_; (case hd => rfl); (case hg => rfl); (case hr => first | (go_simp; done) | (go_simp; rfl)); (case hp => exact (Reps.one (show Kd.FK (Kd.slice 113 k113) _ _ x5_1 [.slice Ao8 x5_1.length co8] from (Kd.FK_slice_mk (Kd.N_reads' (Kd.N_mono (ok' := (fun k_ => (w.heap.size ≤ k_))) (HO_5.out) (fun k_ hk => by exact hk))).2.1 (Kd.N_F (Kd.N_mono (ok' := (fun k_ => (w.heap.size ≤ k_))) (HO_5.out) (fun k_ hk => by exact hk))))) (Reps.none _ _))); intro v123 w31 ho32 hb hg_ hnew_; clear hg_ hnew_; (first | rw [← Ny122.out] at ho32 | (simp only [Int.reduceToNat] at ho32; rw [← Ny122.out] at ho32)); have HO124 := Aside0.mk (Kd.N_lower ho32 (below_size (zB HB.out))); replace HB := yS HB hb; clear HO_5; clear hb ho32) | ((with_reducible refine gate_callee (f := 124) rfl ?_); refine zG (some 52) Try.func124 #[.int .i64 (wrap64 (a0 - 1))] ?_; (with_reducible refine (macwilliams_small.calls k1 (wrap64 (a0 - 1)) t125 t126 _ A30.out).mono ?_); rintro e w33 ⟨v127, rfl, ho0, hb⟩; refine ⟨_, rfl, ?_⟩; replace HO124 := yNe HO124 ho0 hb; replace ho0 := Kd.R_newM (M := fun k_ => (w.heap.size ≤ k_)) ho0 (below_size (zB HB.out)) (fun k_ h_ => h_); have HO128 := yRl ho0 HB; replace HB := yS HB hb; (try clear hb ho0)) | ((with_reducible refine gate_dst (N := 12) rfl ?_); refine box_event ?hg (N := 12) ?hd (cs := #[.bool false, .slice none 0 0]) (t := 113) ?hr ?_; (case hd => rfl); (case hg => rfl); (case hr => first | (go_simp; done) | (go_simp; rfl)); intro gb129 hg w34 hbox hb; replace HO124 := Aside0.mk (Kd.N_below (Kd.N_elderB (zN HO124.out) gb129 (Nat.le_of_eq hg.symm)) hb); replace HO128 := yRb HO128 hb; have BK129 := Aside0.mk (hbox); have GW129 := yg hg HB; have GE129 := yg hg HB; replace HB := yS HB hb; clear hb hbox hg; have hcz35_0 : w34.cell? ⟨gb129, 0, none⟩ = some (.bool false) := (blk_cell BK129.out 0).trans rfl; have hcz35_1 : w34.cell? ⟨gb129, 1, none⟩ = some (.slice none 0 0) := (blk_cell BK129.out 1).trans rfl; have hfz35_0 := blk_frozen BK129.out 0; have hfz35_1 := blk_frozen BK129.out 1; obtain ⟨Ao36, co36, rfl⟩ := Kd.R_slice HO128.out))
 go_loopg [11, 54] k1 (fun kq v11 v54 w' => ∃ (x11_2 : List (List (S113))) (x54_2 : Int), v54 = .int .i64 x54_2 ∧ Aside0 (macwilliams_table.l1 kq a1 x11_2 a1 x54_2 t125 t126 = some r) ∧ Aside0 (kq ≤ k1) ∧ Aside0 (Kd.N (Kd.slice 113 k113) 114 w' w.heap.size (fun k_ => (w.heap.size ≤ k_) ∧ some k_ ≠ ((.slice Ao36 t126.length co36) : Value).ownBlock ∧ k_ ≠ gb129) v11 x11_2) ∧ Aside0 (Kd.R (Kd.int .u32) 97 w' w.heap.size (fun k_ => (w.heap.size ≤ k_)) (.slice Ao36 t126.length co36) t126) ∧ Aside0 (w'.heap[gb129]? = some (.cells #[.bool t125, (.slice Ao36 t126.length co36)] 113 (0, 0))) ∧ Aside0 (Below w.heap.size w w'))
 case atStart => exact ⟨(y122), (0), zF, H', ⟨Nat.le_refl _⟩, ⟨by (try simp only [hl5_1]); (with_reducible repeat (first | apply Kd.N_alloc | apply Kd.N_drewN | apply Kd.N_drew)); exact Kd.N_mono (Kd.N_far (p := ⟨gb129, 1, none⟩) (Kd.N_far (p := ⟨gb129, 0, none⟩) (Kd.N_mono HO124.out (fun k_ hk => (⟨hk, hk.2⟩ : _ ∧ k_ ≠ gb129))) (fun _ hk => hk.2) (.bool t125)) (fun _ hk => hk.2) (.slice Ao36 t126.length co36)) (fun _ hk => ⟨hk.1.1.1, ⟨hk.1.1.2, hk.1.2⟩⟩)⟩, ⟨by (try simp only [hl5_1]); (with_reducible repeat (first | apply Kd.R_alloc | apply Kd.R_drewN | apply Kd.R_drew)); exact Kd.R_mono (Kd.R_far (p := ⟨gb129, 1, none⟩) (Kd.R_far (p := ⟨gb129, 0, none⟩) (Kd.R_types HO128.out BK129.out (by decide)) (fun _ hk => hk.2) (.bool t125)) (fun _ hk => hk.2) (.slice Ao36 t126.length co36)) (fun _ hk => hk.1.1)⟩, ⟨by (try simp only [hl5_1]); (with_reducible repeat (first | refine blk_drewN ?_ _ | refine blk_drew ?_ | refine blk_alloc ?_ _)); refine blk_put (cs := #[.bool t125, .slice none 0 0]) ?_ 1 _ rfl; (with_reducible repeat (first | refine blk_drewN ?_ _ | refine blk_drew ?_ | refine blk_alloc ?_ _)); refine blk_put (cs := #[.bool false, .slice none 0 0]) ?_ 0 _ rfl; (with_reducible repeat (first | refine blk_drewN ?_ _ | refine blk_drew ?_ | refine blk_alloc ?_ _)); exact BK129.out⟩, ⟨zB1 HB.out GE129.out⟩⟩
 clear H'
 (try clear c1);(try clear p1);(try clear q1);(try clear hx1);(try clear c2);(try clear p2);(try clear hx2);(try clear hf2);(try clear c4);(try clear c4b0);(try clear c4b1);(try clear c5);(try clear c5b0);(try clear c5b1);(try clear p6);(try clear c7);(try clear c8);(try clear c9);(try clear c9b0);(try clear c12);(try clear c14);(try clear c14b0);(try clear c15);(try clear c15b0);(try clear c16);(try clear p16);(try clear q16);(try clear hx16);(try clear hf16);(try clear c28);(try clear hx28);(try clear hf28);(try clear hcz35_0);(try clear hcz35_1);(try clear hfz35_0);(try clear hfz35_1);(try clear hx16_0);(try clear hx16_1);(try clear hx28_0);(try clear hx28_1)
 obtain ⟨x11_2, x54_2, rfl, HA, HK2, HO_11, HO_130001, BK129, HB⟩ := hrel
 cases gk with | zero => exact absurd HA.out (by simp [macwilliams_table.l1]) | succ k2 => ?_
 have H := HA.out
 clear HA
 simp only [macwilliams_table.l1] at H
 replace H := zi H
 rcases H with ⟨c37, H⟩ | ⟨c37, H⟩
 · have c37b0 := decide_eq_true c37
   clear c37
   obtain ⟨ji38, hji38⟩ : ∃ j_ : Int, (wrap64 ((x11_2.length : Int) - 1)) = j_ := ⟨_, rfl⟩
   replace H : (if 0 ≤ (ji38) then (if (ji38) < (x11_2.length : Int) then (if 0 < ((rd_L6 x11_2 (ji38)).length : Int) then (macwilliams_table.l2 k2 a1 x11_2 (rd_L6 x11_2 (ji38)) (([(⟨(rd_T113 (rd_L6 x11_2 (ji38)) 0).f0, (rd_T113 (rd_L6 x11_2 (ji38)) 0).f1⟩ : S113)] : List (S113))) 1 a1 x54_2 t125 t126) else (none)) else (none)) else (none)) = some r := by first | (rw [hji38] at H; exact H) | (simp only [hji38] at H ⊢; exact H)
   have hji38w : (IntKind.i64.wrap ((x11_2.length : Int) - 1)) = ji38 := (i64_w _).trans hji38
   replace H := zg H
   obtain ⟨c39, H⟩ := H
   have c39b0 := decide_eq_true c39
   clear c39
   replace H := zg H
   obtain ⟨c40, H⟩ := H
   have c40b0 := decide_eq_true c40
   (try (have c40h0 := c40b0; simp only [hl5_1] at c40h0))
   clear c40
   replace H := zg H
   obtain ⟨c41, H⟩ := H
   have c41b0 := decide_eq_true c41
   (try (have c41h0 := c41b0; simp only [hl5_1] at c41h0))
   have c41b1 : decide (0 < (rd_L6 x11_2 (ji38)).length) = true := decide_eq_true (by omega)
   (try (have c41h1 := c41b1; simp only [hl5_1] at c41h1))
   clear c41
   obtain ⟨y132, hy132⟩ : ∃ y_ : List (S113), y_ = (([(⟨(rd_T113 (rd_L6 x11_2 (ji38)) 0).f0, (rd_T113 (rd_L6 x11_2 (ji38)) 0).f1⟩ : S113)] : List (S113))) := ⟨_, rfl⟩
   replace H : (macwilliams_table.l2 k2 a1 x11_2 (rd_L6 x11_2 (ji38)) y132 1 a1 x54_2 t125 t126) = some r := zY hy132 H
   have Ny132 := Aside0.mk hy132
   clear hy132
   have H' := Aside0.mk H
   clear H
   obtain ⟨Ao42, co42, rfl⟩ := Kd.N_slice HO_11.out
   have p130 : 0 ≤ ((ji38) : Int) := of_decide_eq_true zA
   have q130 : (ji38) < (x11_2.length : Int) := of_decide_eq_true zA
   obtain ⟨ad130, A130_0, c130_0, e130, hx130_0, hl130_0, hi130_0⟩ := at_L6 (Kd.N_reads' HO_11.out).2.2 (ji38) p130 q130
   cases e130
   obtain ⟨ce130, hce130, hMe130, hcc130⟩ := Kd.N_get HO_11.out [] (ji38) p130 (by first | exact q130 | exact of_decide_eq_true zA | (have e_ := (Kd.N_reads' HO_11.out).1; omega))
   obtain ⟨ua130_0, uc130_0, rfl, ul130_0, ge130_0⟩ := Kd.FK_slice_open hMe130
   have hv130_0 := hcc130 0 _ rfl
   rw [Nat.add_zero, show ((Kd.slice 113 k113)).sz = 1 from rfl, Nat.mul_one] at hv130_0
   replace hv130_0 := Option.some.inj (hv130_0.symm.trans hx130_0)
   injection hv130_0 with hva_ hvn_ hvc_
   rw [hva_] at ge130_0
   rw [hvc_] at ul130_0
   have HL130_0 := Aside0.mk (show Kd.V k113 113 _ w.heap.size _ _ (rd_L6 x11_2 (ji38)) from Kd.V_mk ul130_0 ge130_0)
   clear hva_ hvn_ hvc_ ge130_0 ul130_0
   clear hcc130 hce130
   have HR130_0 := Aside0.mk hi130_0
   have HC130_0 := Aside0.mk hl130_0
   clear hi130_0 hl130_0
   replace p130 := eq_true p130
   replace q130 := eq_true q130
   have p131 : 0 ≤ (0 : Int) := (by omega)
   have q131 : 0 < ((rd_L6 x11_2 (ji38)).length : Int) := of_decide_eq_true zA
   obtain ⟨ad131, A131_1, c131_1, e131, hx131_0, hx131_1, hl131_1, hi131_1⟩ := at_T113 (zCr HR130_0.out) 0 p131 q131
   cases e131
   obtain ⟨ce131, hce131, hMe131, hcc131⟩ := Kd.V_get HL130_0.out z113 0 p131 (by first | exact q131 | exact of_decide_eq_true zA | (have e_ := (Kd.V_reads' HL130_0.out).1; omega))
   obtain ⟨ua131_1, uc131_1, rfl, ul131_1, ge131_1⟩ := k113_openF hMe131
   have hv131_1 := hcc131 1 _ rfl
   rw [add_field _ _ 1 (by omega)] at hv131_1
   replace hv131_1 := Option.some.inj (hv131_1.symm.trans hx131_1)
   injection hv131_1 with hva_ hvn_ hvc_
   rw [hva_] at ge131_1
   rw [hvc_] at ul131_1
   have HL131_1 := Aside0.mk (show Kd.V (Kd.int .u32) 97 _ w.heap.size _ _ ((rd_T113 (rd_L6 x11_2 (ji38)) 0).f1) from Kd.V_mk ul131_1 ge131_1)
   clear hva_ hvn_ hvc_ ge131_1 ul131_1
   clear hcc131 hce131
   have qi131 : (0 < (rd_L6 x11_2 (ji38)).length) = True := eq_true (by omega)
   (try rw [show ((0 : Int)).toNat = 0 from rfl] at hx131_0)
   (try rw [show 0 * 2 = 0 from rfl] at hx131_0)
   (try rw [Addr.add_zero'] at hx131_0)
   (try rw [show ((0 : Int)).toNat = 0 from rfl] at hx131_1)
   (try rw [show 0 * 2 = 0 from rfl] at hx131_1)
   (try rw [Addr.add_zero'] at hx131_1)
   have HR131_1 := Aside0.mk hi131_1
   have HC131_1 := Aside0.mk hl131_1
   clear hi131_1 hl131_1
   replace p131 := eq_true p131
   replace q131 := eq_true q131
   go_wp2_with (first | ((with_reducible refine gate_dst (N := 65) rfl ?_); refine Kd.N_lit k113 _ 113 ?hg (N' := 65) ?hd (xs := ([(⟨(rd_T113 (rd_L6 x11_2 (ji38)) 0).f0, (rd_T113 (rd_L6 x11_2 (ji38)) 0).f1⟩ : S113)] : List (S113))) (inner := [.bool ((rd_T113 (rd_L6 x11_2 (ji38)) 0).f0), .slice A131_1 ((rd_T113 (rd_L6 x11_2 (ji38)) 0).f1).length c131_1]) (ok := (fun k_ => (w.heap.size ≤ k_) ∧ some k_ ≠ (.slice (some ad130) x11_2.length co42 : Value).ownBlock ∧ some k_ ≠ (.slice Ao36 t126.length co36 : Value).ownBlock ∧ k_ ≠ gb129)) (okp := (fun k_ => (w.heap.size ≤ k_) ∧ some k_ ≠ (.slice (some ad130) x11_2.length co42 : Value).ownBlock ∧ some k_ ≠ (.slice Ao36 t126.length co36 : Value).ownBlock ∧ k_ ≠ gb129)) ?hr ?hp (fun _ hk => hk) ((show ∀ k_, wr.heap.size ≤ k_ → (fun k_ => (w.heap.size ≤ k_) ∧ some k_ ≠ (.slice (some ad130) x11_2.length co42 : Value).ownBlock ∧ some k_ ≠ (.slice Ao36 t126.length co36 : Value).ownBlock ∧ k_ ≠ gb129) k_ from fun k_ hk => ⟨(Nat.le_trans (below_size (zB1 HB.out GE129.out)) hk), Kd.fresh' (Kd.N_lt (zN HO_11.out)) k_ hk, Kd.fresh' (Kd.R_lt (zR HO_130001.out)) k_ hk, Kd.freshB (g := gb129) (o := .cells #[.bool t125, .slice Ao36 t126.length co36] 113 (0, 0)) (by (with_reducible repeat (first | refine blk_drewN ?_ _ | refine blk_drew ?_ | refine blk_alloc ?_ _)); exact BK129.out) k_ hk⟩) _ (Nat.le_refl _)) (Below.refl _ _) (Nat.le_refl _) (by simp) ?_; (case hd => rfl); (case hg => rfl); (case hr => first | (go_simp; done) | (go_simp; rfl)); (case hp => exact (Reps.c2 (show Kd.FK k113 _ _ (⟨(rd_T113 (rd_L6 x11_2 (ji38)) 0).f0, (rd_T113 (rd_L6 x11_2 (ji38)) 0).f1⟩ : S113) [.bool ((rd_T113 (rd_L6 x11_2 (ji38)) 0).f0), .slice A131_1 ((rd_T113 (rd_L6 x11_2 (ji38)) 0).f1).length c131_1] from (k113_mkF _ _ (⟨(rd_T113 (rd_L6 x11_2 (ji38)) 0).f0, (rd_T113 (rd_L6 x11_2 (ji38)) 0).f1⟩ : S113) (Kd.V_reads' (Kd.V_mono (ok' := (fun k_ => (w.heap.size ≤ k_) ∧ some k_ ≠ (.slice (some ad130) x11_2.length co42 : Value).ownBlock ∧ some k_ ≠ (.slice Ao36 t126.length co36 : Value).ownBlock ∧ k_ ≠ gb129)) (HL131_1.out) (fun k_ hk => by exact ⟨hk.1.1, ⟨hk.2, ⟨hk.1.2.1, hk.1.2.2⟩⟩⟩))).2.1 (Kd.V_F (Kd.V_mono (ok' := (fun k_ => (w.heap.size ≤ k_) ∧ some k_ ≠ (.slice (some ad130) x11_2.length co42 : Value).ownBlock ∧ some k_ ≠ (.slice Ao36 t126.length co36 : Value).ownBlock ∧ k_ ≠ gb129)) (HL131_1.out) (fun k_ hk => by exact ⟨hk.1.1, ⟨hk.2, ⟨hk.1.2.1, hk.1.2.2⟩⟩⟩))))) (Reps.none _ _))); intro v133 w43 ho44 hb hg_ hnew_; clear hg_ hnew_; (first | rw [← Ny132.out] at ho44 | (simp only [Int.reduceToNat] at ho44; rw [← Ny132.out] at ho44)); replace HO_11 := Aside0.mk (Kd.N_elder' (zN HO_11.out) (Kd.N_base ho44) hb); replace HO_130001 := yRb HO_130001 hb; replace HL130_0 := Aside0.mk (Kd.V_elder' (zV HL130_0.out) (Kd.N_base ho44) hb); replace HL131_1 := Aside0.mk (Kd.V_elder' (zV HL131_1.out) (Kd.N_base ho44) hb); have HO134 := Aside0.mk (Kd.N_lower ho44 (below_size (zB1 HB.out GE129.out))); replace BK129 := yK BK129 hb; replace HR130_0 := yCb HR130_0 hb; replace HR131_1 := yCb HR131_1 hb; replace HB := yS1 HB GE129 hb; clear hb ho44))
   go_loopg [14, 15] k2 (fun kq v14 v15 w' => ∃ (x14_3 : List (S113)) (x15_3 : Int), v15 = .int .i64 x15_3 ∧ Aside0 (macwilliams_table.l2 kq a1 x11_2 (rd_L6 x11_2 (ji38)) x14_3 x15_3 a1 x54_2 t125 t126 = some r) ∧ Aside0 (kq ≤ k2) ∧ Aside0 (Kd.N (Kd.slice 113 k113) 114 w' w.heap.size (fun k_ => (w.heap.size ≤ k_) ∧ some k_ ≠ (v14 : Value).ownBlock ∧ some k_ ≠ ((.slice Ao36 t126.length co36) : Value).ownBlock ∧ k_ ≠ gb129) (.slice (some ad130) x11_2.length co42) x11_2) ∧ Aside0 (Kd.V k113 113 w' w.heap.size (fun k_ => (w.heap.size ≤ k_) ∧ some k_ ≠ ((.slice (some ad130) x11_2.length co42) : Value).ownBlock ∧ some k_ ≠ (v14 : Value).ownBlock ∧ some k_ ≠ ((.slice Ao36 t126.length co36) : Value).ownBlock ∧ k_ ≠ gb129) (.slice (some ad131) (rd_L6 x11_2 (ji38)).length c130_0) (rd_L6 x11_2 (ji38))) ∧ Aside0 (Kd.N k113 113 w' w.heap.size (fun k_ => (w.heap.size ≤ k_) ∧ some k_ ≠ ((.slice (some ad130) x11_2.length co42) : Value).ownBlock ∧ some k_ ≠ ((.slice Ao36 t126.length co36) : Value).ownBlock ∧ k_ ≠ gb129) v14 x14_3) ∧ Aside0 (Kd.R (Kd.int .u32) 97 w' w.heap.size (fun k_ => (w.heap.size ≤ k_)) (.slice Ao36 t126.length co36) t126) ∧ Aside0 (w'.heap[gb129]? = some (.cells #[.bool t125, (.slice Ao36 t126.length co36)] 113 (0, 0))) ∧ Aside0 (Below w.heap.size w w'))
   case atStart => exact ⟨(y132), (1), zF, H', ⟨Nat.le_refl _⟩, ⟨by (try simp only [hl5_1]); (with_reducible repeat (first | apply Kd.N_alloc | apply Kd.N_drewN | apply Kd.N_drew)); exact Kd.N_mono HO_11.out (fun _ hk => ⟨hk.1.1, ⟨hk.2, ⟨hk.1.2.1, hk.1.2.2⟩⟩⟩)⟩, ⟨by (try simp only [hl5_1]); (with_reducible repeat (first | apply Kd.V_alloc | apply Kd.V_drewN | apply Kd.V_drew)); exact Kd.V_mono HL130_0.out (fun _ hk => ⟨hk.1.1.1, ⟨hk.1.2, ⟨hk.2, ⟨hk.1.1.2.1, hk.1.1.2.2⟩⟩⟩⟩)⟩, ⟨by (try simp only [hl5_1]); (with_reducible repeat (first | apply Kd.N_alloc | apply Kd.N_drewN | apply Kd.N_drew)); exact HO134.out⟩, ⟨by (try simp only [hl5_1]); (with_reducible repeat (first | apply Kd.R_alloc | apply Kd.R_drewN | apply Kd.R_drew)); exact HO_130001.out⟩, ⟨by (try simp only [hl5_1]); (with_reducible repeat (first | refine blk_drewN ?_ _ | refine blk_drew ?_ | refine blk_alloc ?_ _)); exact BK129.out⟩, ⟨zB1 HB.out GE129.out⟩⟩
   clear H'
   (try clear c1);(try clear p1);(try clear q1);(try clear hx1);(try clear qi1);(try clear c2);(try clear p2);(try clear hx2);(try clear hf2);(try clear c3);(try clear c4);(try clear c4b0);(try clear c4b1);(try clear c5);(try clear c5b0);(try clear c5b1);(try clear p6);(try clear c7);(try clear c8);(try clear c9);(try clear c9b0);(try clear c12);(try clear c13);(try clear p13);(try clear q13);(try clear hx13);(try clear qi13);(try clear c14);(try clear c14b0);(try clear c15);(try clear c15b0);(try clear c16);(try clear p16);(try clear q16);(try clear hx16);(try clear hf16);(try clear c28);(try clear hx28);(try clear hf28);(try clear c37);(try clear c37b0);(try clear c39);(try clear c39b0);(try clear c40);(try clear c40b0);(try clear c41);(try clear c41b0);(try clear c41b1);(try clear hcz35_0);(try clear hcz35_1);(try clear hfz35_0);(try clear hfz35_1);(try clear hx130_0);(try clear hx131_0);(try clear hx131_1);(try clear hx16_0);(try clear hx16_1);(try clear hx28_0);(try clear hx28_1);(try clear p130);(try clear p131);(try clear q130);(try clear q131)
   obtain ⟨x14_3, x15_3, rfl, HA, HK3, HO_11, HO_13, HO_14, HO_130001, BK129, HB⟩ := hrel
   cases gk with | zero => exact absurd HA.out (by simp [macwilliams_table.l2]) | succ k3 => ?_
   have H := HA.out
   clear HA
   simp only [macwilliams_table.l2] at H
   replace H := zi H
   rcases H with ⟨c45, H⟩ | ⟨c45, H⟩
   · have c45b0 := decide_eq_true c45
     clear c45
     replace H := zg H
     obtain ⟨c46, H⟩ := H
     have c46b0 := decide_eq_true c46
     clear c46
     replace H := zg H
     obtain ⟨c47, H⟩ := H
     have c47b0 := decide_eq_true c47
     (try (have c47h0 := c47b0; simp only [hl5_1] at c47h0))
     clear c47
     obtain ⟨ji48, hji48⟩ : ∃ j_ : Int, (wrap64 (x15_3 - 1)) = j_ := ⟨_, rfl⟩
     replace H : (if 0 ≤ (ji48) then (if (ji48) < ((rd_L6 x11_2 (ji38)).length : Int) then ((macwilliams_minus.f k3 ((rd_T113 (rd_L6 x11_2 (ji38)) x15_3).f0) ((rd_T113 (rd_L6 x11_2 (ji38)) x15_3).f1) ((rd_T113 (rd_L6 x11_2 (ji38)) (ji48)).f0) ((rd_T113 (rd_L6 x11_2 (ji38)) (ji48)).f1)).bind fun bt137 => (if (ji48) < (x14_3.length : Int) then ((macwilliams_times.f k3 t125 t126 ((rd_T113 x14_3 (ji48)).f0) ((rd_T113 x14_3 (ji48)).f1)).bind fun bt142 => ((macwilliams_minus.f k3 bt137.1 bt137.2 bt142.1 bt142.2).bind fun bt146 => (if x14_3.length < 4398046511104 then (macwilliams_table.l2 k3 a1 x11_2 (rd_L6 x11_2 (ji38)) (x14_3 ++ [(⟨bt146.1, bt146.2⟩ : S113)]) (wrap64 (x15_3 + 1)) a1 x54_2 t125 t126) else (none)))) else (none))) else (none)) else (none)) = some r := by first | (rw [hji48] at H; exact H) | (simp only [hji48] at H ⊢; exact H)
     have hji48w : (IntKind.i64.wrap (x15_3 - 1)) = ji48 := (i64_w _).trans hji48
     replace H := zg H
     obtain ⟨c49, H⟩ := H
     have c49b0 := decide_eq_true c49
     clear c49
     replace H := zg H
     obtain ⟨c50, H⟩ := H
     have c50b0 := decide_eq_true c50
     (try (have c50h0 := c50b0; simp only [hl5_1] at c50h0))
     clear c50
     replace H := zb H
     obtain ⟨⟨t137, t138⟩, A51, H⟩ := H
     dsimp only at H
     replace H := zg H
     obtain ⟨c52, H⟩ := H
     have c52b0 := decide_eq_true c52
     (try (have c52h0 := c52b0; simp only [hl5_1] at c52h0))
     clear c52
     replace H := zb H
     obtain ⟨⟨t142, t143⟩, A53, H⟩ := H
     dsimp only at H
     replace H := zb H
     obtain ⟨⟨t146, t147⟩, A54, H⟩ := H
     dsimp only at H
     replace H := zg H
     obtain ⟨c55, H⟩ := H
     have LMc55 := Aside0.mk c55
     clear c55
     obtain ⟨y150, hy150⟩ : ∃ y_ : List (S113), y_ = (x14_3 ++ [(⟨t146, t147⟩ : S113)]) := ⟨_, rfl⟩
     replace H : (macwilliams_table.l2 k3 a1 x11_2 (rd_L6 x11_2 (ji38)) y150 (wrap64 (x15_3 + 1)) a1 x54_2 t125 t126) = some r := zY hy150 H
     have Ny150 := Aside0.mk hy150
     clear hy150
     have H' := Aside0.mk H
     clear H
     try go_wp2
     replace HO_11 := Aside0.mk (Kd.N_drew HO_11.out)
     replace HO_13 := Aside0.mk (Kd.V_drew HO_13.out)
     replace HO_14 := Aside0.mk (Kd.N_drew HO_14.out)
     replace HO_130001 := Aside0.mk (Kd.R_drew HO_130001.out)
     replace BK129 := Aside0.mk (blk_drew BK129.out)
     replace HB := Aside0.mk (below_drew1 HB.out)
     have p135 : 0 ≤ (x15_3 : Int) := of_decide_eq_true zA
     have q135 : x15_3 < ((rd_L6 x11_2 (ji38)).length : Int) := of_decide_eq_true zA
     obtain ⟨ad135, A135_1, c135_1, e135, hx135_0, hx135_1, hl135_1, hi135_1⟩ := at_T113 (Kd.V_reads' HO_13.out).2.2 x15_3 p135 q135
     obtain rfl : ad131 = ad135 := (by injection e135)
     obtain ⟨ce135, hce135, hMe135, hcc135⟩ := Kd.V_get HO_13.out z113 x15_3 p135 (by first | exact q135 | exact of_decide_eq_true zA | (have e_ := (Kd.V_reads' HO_13.out).1; omega))
     obtain ⟨ua135_1, uc135_1, rfl, ul135_1, ge135_1⟩ := k113_openF hMe135
     have hv135_1 := hcc135 1 _ rfl
     rw [add_field _ _ 1 (by omega)] at hv135_1
     replace hv135_1 := Option.some.inj (hv135_1.symm.trans hx135_1)
     injection hv135_1 with hva_ hvn_ hvc_
     rw [hva_] at ge135_1
     rw [hvc_] at ul135_1
     have HL135_1 := Aside0.mk (show Kd.V (Kd.int .u32) 97 _ w.heap.size _ _ ((rd_T113 (rd_L6 x11_2 (ji38)) x15_3).f1) from Kd.V_mk ul135_1 ge135_1)
     clear hva_ hvn_ hvc_ ge135_1 ul135_1
     clear hcc135 hce135
     have HR135_1 := Aside0.mk hi135_1
     have HC135_1 := Aside0.mk hl135_1
     clear hi135_1 hl135_1
     replace p135 := eq_true p135
     replace q135 := eq_true q135
     have p136 : 0 ≤ ((ji48) : Int) := of_decide_eq_true zA
     have q136 : (ji48) < ((rd_L6 x11_2 (ji38)).length : Int) := of_decide_eq_true zA
     obtain ⟨ad136, A136_1, c136_1, e136, hx136_0, hx136_1, hl136_1, hi136_1⟩ := at_T113 (Kd.V_reads' HO_13.out).2.2 (ji48) p136 q136
     obtain rfl : ad131 = ad136 := (by injection e136)
     obtain ⟨ce136, hce136, hMe136, hcc136⟩ := Kd.V_get HO_13.out z113 (ji48) p136 (by first | exact q136 | exact of_decide_eq_true zA | (have e_ := (Kd.V_reads' HO_13.out).1; omega))
     obtain ⟨ua136_1, uc136_1, rfl, ul136_1, ge136_1⟩ := k113_openF hMe136
     have hv136_1 := hcc136 1 _ rfl
     rw [add_field _ _ 1 (by omega)] at hv136_1
     replace hv136_1 := Option.some.inj (hv136_1.symm.trans hx136_1)
     injection hv136_1 with hva_ hvn_ hvc_
     rw [hva_] at ge136_1
     rw [hvc_] at ul136_1
     have HL136_1 := Aside0.mk (show Kd.V (Kd.int .u32) 97 _ w.heap.size _ _ ((rd_T113 (rd_L6 x11_2 (ji38)) (ji48)).f1) from Kd.V_mk ul136_1 ge136_1)
     clear hva_ hvn_ hvc_ ge136_1 ul136_1
     clear hcc136 hce136
     have HR136_1 := Aside0.mk hi136_1
     have HC136_1 := Aside0.mk hl136_1
     clear hi136_1 hl136_1
     replace p136 := eq_true p136
     replace q136 := eq_true q136
     obtain ⟨Ao57, co57, eo57⟩ := Kd.N_slice HO_14.out
     (first | subst eo57 | (injection eo57 with f1_ f2_ f3_; have f4_ := f1_.symm; have f5_ := f3_.symm; clear f1_ f2_ f3_; subst f4_; subst f5_))
     have p141 : 0 ≤ ((ji48) : Int) := of_decide_eq_true zA
     have q141 : (ji48) < (x14_3.length : Int) := of_decide_eq_true zA
     obtain ⟨ad141, A141_1, c141_1, e141, hx141_0, hx141_1, hl141_1, hi141_1⟩ := at_T113 (Kd.N_reads' HO_14.out).2.2 (ji48) p141 q141
     cases e141
     obtain ⟨ce141, hce141, hMe141, hcc141⟩ := Kd.N_get HO_14.out z113 (ji48) p141 (by first | exact q141 | exact of_decide_eq_true zA | (have e_ := (Kd.N_reads' HO_14.out).1; omega))
     obtain ⟨ua141_1, uc141_1, rfl, ul141_1, ge141_1⟩ := k113_openF hMe141
     have hv141_1 := hcc141 1 _ rfl
     rw [add_field _ _ 1 (by omega)] at hv141_1
     replace hv141_1 := Option.some.inj (hv141_1.symm.trans hx141_1)
     injection hv141_1 with hva_ hvn_ hvc_
     rw [hva_] at ge141_1
     rw [hvc_] at ul141_1
     have HL141_1 := Aside0.mk (show Kd.V (Kd.int .u32) 97 _ w.heap.size _ _ ((rd_T113 x14_3 (ji48)).f1) from Kd.V_mk ul141_1 ge141_1)
     clear hva_ hvn_ hvc_ ge141_1 ul141_1
     clear hcc141 hce141
     have HR141_1 := Aside0.mk hi141_1
     have HC141_1 := Aside0.mk hl141_1
     clear hi141_1 hl141_1
     replace p141 := eq_true p141
     replace q141 := eq_true q141
     refine start_ (n := 22) (S := fun w' => w'.cell? ⟨gb129, 0, none⟩ = some (.bool t125) ∧ w'.cell? ⟨gb129, 1, none⟩ = some (.slice Ao36 t126.length co36) ∧ w'.cell? (ad131.add ((x15_3).toNat * 2)) = some (.bool ((rd_T113 (rd_L6 x11_2 (ji38)) x15_3).f0)) ∧ w'.cell? ⟨(ad131.add ((x15_3).toNat * 2)).block, (ad131.add ((x15_3).toNat * 2)).off + 1, none⟩ = some (.slice A135_1 ((rd_T113 (rd_L6 x11_2 (ji38)) x15_3).f1).length c135_1) ∧ w'.cell? (ad131.add (((ji48)).toNat * 2)) = some (.bool ((rd_T113 (rd_L6 x11_2 (ji38)) (ji48)).f0)) ∧ w'.cell? ⟨(ad131.add (((ji48)).toNat * 2)).block, (ad131.add (((ji48)).toNat * 2)).off + 1, none⟩ = some (.slice A136_1 ((rd_T113 (rd_L6 x11_2 (ji38)) (ji48)).f1).length c136_1) ∧ w'.cell? (ad141.add (((ji48)).toNat * 2)) = some (.bool ((rd_T113 x14_3 (ji48)).f0)) ∧ w'.cell? ⟨(ad141.add (((ji48)).toNat * 2)).block, (ad141.add (((ji48)).toNat * 2)).off + 1, none⟩ = some (.slice A141_1 ((rd_T113 x14_3 (ji48)).f1).length c141_1)) (ds := [19, 20]) #[false, false, false, false, false, false, false, false, false, false, false, false, false, false, false, false, false, false, false, false, false, false] (by kernel_rfl) rfl rfl ⟨(blk_cell BK129.out 0).trans rfl, (blk_cell BK129.out 1).trans rfl, hx135_0, hx135_1, hx136_0, hx136_1, hx141_0, hx141_1⟩ (fun hHeld => ?_); refine with_tabW macwilliams_table.tab18 macwilliams_table.bits18 (fun HT_ HW_ => ?_)
     generalize wr.drew = w56 at HO_11 HO_13 HO_14 HO_130001 BK129 HB HL135_1 HL136_1 HL141_1 HR135_1 HR136_1 HR141_1 hx135_0 hx135_1 hx136_0 hx136_1 hx141_0 hx141_1 hHeld ⊢
     refine zp (i := 0) (N := some 71) HT_ ?_
     refine zp (i := 1) (N := some 72) HT_ ?_
     refine zp (i := 2) (N := some 73) HT_ ?_
     refine zp (i := 3) (N := some 74) HT_ ?_
     refine zp (i := 5) (N := some 76) HT_ ?_
     refine zp (i := 6) (N := some 77) HT_ ?_
     refine zp (i := 7) (N := some 78) HT_ ?_
     refine zp (i := 8) (N := some 79) HT_ ?_
     refine zp (i := 12) (N := some 83) HT_ ?_
     refine zp (i := 13) (N := some 84) HT_ ?_
     refine zp (i := 14) (N := some 85) HT_ ?_
     refine zp (i := 15) (N := some 86) HT_ ?_
     refine take_ (i := 4) (N := some 75) (v := ?_) (a' := ?_) #[true, true, true, true, true, true, true, true, true, false, false, false, true, true, true, true, false, false, false, false, false, false] rfl rfl (take_ofW HT_.out HW_.out (by kernel_rfl)) (fun _ _ _ h => h) (Or.inl ⟨by rfl, ?_⟩) hHeld ?_ ?_
     rotate_left
     · rintro w' ⟨s0, s1, s2, s3, s4, s5, s6, s7⟩
       go_simp
       with_reducible rfl
     rotate_left
     · simp only [Act.put, List.setIfInBounds_toArray, List.set_cons_zero, List.set_cons_succ, i64_w, i32_w]
       rfl
     refine take_ (i := 9) (N := some 80) (v := ?_) (a' := ?_) #[true, true, true, true, true, true, true, true, true, true, false, false, true, true, true, true, false, false, false, false, false, false] rfl rfl (take_ofW HT_.out HW_.out (by kernel_rfl)) (fun _ _ _ h => h) (Or.inl ⟨by rfl, ?_⟩) hHeld ?_ ?_
     rotate_left
     · rintro w' ⟨s0, s1, s2, s3, s4, s5, s6, s7⟩
       go_simp
       with_reducible rfl
     rotate_left
     · simp only [Act.put, List.setIfInBounds_toArray, List.set_cons_zero, List.set_cons_succ, i64_w, i32_w]
       rfl
     refine take_ (i := 11) (N := some 82) (v := ?_) (a' := ?_) #[true, true, true, true, true, true, true, true, true, true, false, true, true, true, true, true, false, false, false, false, false, false] rfl rfl (take_ofW HT_.out HW_.out (by kernel_rfl)) (fun _ _ _ h => h) (Or.inl ⟨by rfl, ?_⟩) hHeld ?_ ?_
     rotate_left
     · rintro w' ⟨s0, s1, s2, s3, s4, s5, s6, s7⟩
       go_simp
       with_reducible rfl
     rotate_left
     · simp only [Act.put, List.setIfInBounds_toArray, List.set_cons_zero, List.set_cons_succ, i64_w, i32_w]
       rfl
     refine take_ (i := 16) (N := some 87) (v := ?_) (a' := ?_) #[true, true, true, true, true, true, true, true, true, true, false, true, true, true, true, true, true, false, false, false, false, false] rfl rfl (take_ofW HT_.out HW_.out (by kernel_rfl)) (fun _ _ _ h => h) (Or.inl ⟨by rfl, ?_⟩) hHeld ?_ ?_
     rotate_left
     · rintro w' ⟨s0, s1, s2, s3, s4, s5, s6, s7⟩
       go_simp
       with_reducible rfl
     rotate_left
     · simp only [Act.put, List.setIfInBounds_toArray, List.set_cons_zero, List.set_cons_succ, i64_w, i32_w]
       rfl
     refine one_ (i := 10) (N := some 81) #[true, true, true, true, true, true, true, true, true, true, true, true, true, true, true, true, true, false, false, false, false, false] rfl rfl (one_of HT_.out (by kernel_rfl)) (by decide) (fun K hK => ?_)
     refine goes_ Try.func125 (by kernel_rfl) rfl #[.agg #[.bool ((rd_T113 (rd_L6 x11_2 (ji38)) x15_3).f0), .slice A135_1 ((rd_T113 (rd_L6 x11_2 (ji38)) x15_3).f1).length c135_1], .agg #[.bool ((rd_T113 (rd_L6 x11_2 (ji38)) (ji48)).f0), .slice A136_1 ((rd_T113 (rd_L6 x11_2 (ji38)) (ji48)).f1).length c136_1]] (by rfl) rfl rfl (by (try simp only [List.map_toArray, List.map_cons, List.map_nil]); first | done | (simp only [hji38, hji48]; rfl) | rfl | (simp only [List.length_drop, List.length_take]; rfl)) ?_
     with_reducible refine (macwilliams_minus.calls k3 ((rd_T113 (rd_L6 x11_2 (ji38)) x15_3).f0) (fun k_ => ((w.heap.size ≤ k_) ∧ (some k_ ≠ (.slice (some ad130) x11_2.length co42 : Value).ownBlock ∧ (some k_ ≠ (.slice (some ad141) x14_3.length co57 : Value).ownBlock ∧ (some k_ ≠ (.slice Ao36 t126.length co36 : Value).ownBlock ∧ k_ ≠ gb129))))) _ _ ((rd_T113 (rd_L6 x11_2 (ji38)) x15_3).f1) ((rd_T113 (rd_L6 x11_2 (ji38)) (ji48)).f0) (fun k_ => ((w.heap.size ≤ k_) ∧ (some k_ ≠ (.slice (some ad130) x11_2.length co42 : Value).ownBlock ∧ (some k_ ≠ (.slice (some ad141) x14_3.length co57 : Value).ownBlock ∧ (some k_ ≠ (.slice Ao36 t126.length co36 : Value).ownBlock ∧ k_ ≠ gb129))))) _ _ ((rd_T113 (rd_L6 x11_2 (ji38)) (ji48)).f1) t137 t138 _ ?side1 ?side2 A51.out).mono ?_
     (case side1 => exact HL135_1.out)
     (case side2 => exact HL136_1.out)
     rintro e w58 ⟨v139, rfl, ho0, hb⟩
     have HS2_ := (hb.cell (World.block_lt_of_cell? _ _ (hHeld.2.2.1))).trans (hHeld.2.2.1)
     have HS3_ := (hb.cell (World.block_lt_of_cell? _ _ (hHeld.2.2.2.1))).trans (hHeld.2.2.2.1)
     have HS4_ := (hb.cell (World.block_lt_of_cell? _ _ (hHeld.2.2.2.2.1))).trans (hHeld.2.2.2.2.1)
     have HS5_ := (hb.cell (World.block_lt_of_cell? _ _ (hHeld.2.2.2.2.2.1))).trans (hHeld.2.2.2.2.2.1)
     have HS6_ := (hb.cell (World.block_lt_of_cell? _ _ (hHeld.2.2.2.2.2.2.1))).trans (hHeld.2.2.2.2.2.2.1)
     have HS7_ := (hb.cell (World.block_lt_of_cell? _ _ (hHeld.2.2.2.2.2.2.2))).trans (hHeld.2.2.2.2.2.2.2)
     refine ⟨_, rfl, ?_⟩
     replace HO_13 := yVb HO_13 hb
     replace HL135_1 := yVb HL135_1 hb
     replace HL136_1 := yVb HL136_1 hb
     replace HL141_1 := yVb HL141_1 hb
     have HO140 := Aside0.mk (Kd.V_lower (Kd.V_mono (ok' := fun k_ => (w.heap.size ≤ k_) ∧ some k_ ≠ (.slice (some ad130) x11_2.length co42 : Value).ownBlock ∧ some k_ ≠ (.slice (some ad141) x14_3.length co57 : Value).ownBlock ∧ some k_ ≠ (.slice Ao36 t126.length co36 : Value).ownBlock ∧ k_ ≠ gb129) ho0 (fun k_ hk_ => ⟨Or.elim hk_ (fun hs_ => Or.elim hs_ (fun hs_ => hs_.1) (fun hs_ => hs_.1)) (fun hn_ => (Nat.le_trans (below_size (zB1 HB.out GE129.out)) hn_)), Or.elim hk_ (fun hs_ => Or.elim hs_ (fun hs_ => hs_.2.1) (fun hs_ => hs_.2.1)) (fun hn_ => (Kd.fresh' (Kd.N_lt (zN HO_11.out)) k_ hn_)), Or.elim hk_ (fun hs_ => Or.elim hs_ (fun hs_ => hs_.2.2.1) (fun hs_ => hs_.2.2.1)) (fun hn_ => (Kd.fresh' (Kd.N_lt (zN HO_14.out)) k_ hn_)), Or.elim hk_ (fun hs_ => Or.elim hs_ (fun hs_ => hs_.2.2.2.1) (fun hs_ => hs_.2.2.2.1)) (fun hn_ => (Kd.fresh' (Kd.R_lt (zR HO_130001.out)) k_ hn_)), Or.elim hk_ (fun hs_ => Or.elim hs_ (fun hs_ => hs_.2.2.2.2) (fun hs_ => hs_.2.2.2.2)) (fun hn_ => (Kd.freshB (g := gb129) (o := .cells #[.bool t125, .slice Ao36 t126.length co36] 113 (0, 0)) (by (with_reducible repeat (first | refine blk_drewN ?_ _ | refine blk_drew ?_ | refine blk_alloc ?_ _)); exact BK129.out) k_ hn_))⟩)) (below_size (zB1 HB.out GE129.out)))
     replace HO_11 := yNb HO_11 hb
     replace HO_14 := yNb HO_14 hb
     replace HO_130001 := yRb HO_130001 hb
     replace BK129 := yK BK129 hb
     replace HR135_1 := yCb HR135_1 hb
     replace HR136_1 := yCb HR136_1 hb
     replace HR141_1 := yCb HR141_1 hb
     replace HB := yS1 HB GE129 hb
     (try clear hb)
     (try clear hb2)
     (try clear hk)
     (try clear hi)
     (try clear ho0)
     refine hK.out _ _ ⟨(blk_cell BK129.out 0).trans rfl, (blk_cell BK129.out 1).trans rfl, HS2_, HS3_, HS4_, HS5_, HS6_, HS7_⟩ (fun hHeld => ?_)
     clear hK K
     refine norm_ (a' := ?_) ?_ ?_
     rotate_left
     · show Act.put _ (some 81) _ = _
       simp only [Act.put, List.setIfInBounds_toArray, List.set_cons_zero, List.set_cons_succ, i64_w, i32_w]
       rfl
     refine one_ (i := 17) (N := some 88) #[true, true, true, true, true, true, true, true, true, true, true, true, true, true, true, true, true, true, false, false, false, false] rfl rfl (one_of HT_.out (by kernel_rfl)) (by decide) (fun K hK => ?_)
     refine goes_ Try.func126 (by kernel_rfl) rfl #[.agg #[.bool t125, .slice Ao36 t126.length co36], .agg #[.bool ((rd_T113 x14_3 (ji48)).f0), .slice A141_1 ((rd_T113 x14_3 (ji48)).f1).length c141_1]] (by rfl) rfl rfl (by (try simp only [List.map_toArray, List.map_cons, List.map_nil]); first | done | (simp only [hji48]; rfl) | rfl | (simp only [List.length_drop, List.length_take]; rfl)) ?_
     with_reducible refine (macwilliams_times.calls k3 t125 (fun k_ => some k_ = (.slice Ao36 t126.length co36 : Value).ownBlock) _ _ t126 ((rd_T113 x14_3 (ji48)).f0) (fun k_ => (((w.heap.size ≤ k_) ∧ (some k_ ≠ (.slice (some ad130) x11_2.length co42 : Value).ownBlock ∧ (some k_ ≠ (.slice Ao36 t126.length co36 : Value).ownBlock ∧ k_ ≠ gb129))) ∧ some k_ ≠ (.slice (some ad141) x14_3.length co57 : Value).ownBlock)) _ _ ((rd_T113 x14_3 (ji48)).f1) t142 t143 _ ?side1 ?side2 A53.out).mono ?_
     (case side1 => exact Kd.R_V (Kd.R_tight rfl (Kd.R_types (Kd.R_apart' (Kd.R_apart' (HO_130001.out) (Kd.N_typed HO_11.out) (by decide)) (Kd.N_typed HO_14.out) (by decide)) BK129.out (by decide))))
     (case side2 => exact HL141_1.out)
     rintro e w59 ⟨v144, rfl, ho0, hb⟩
     have HS2_ := (hb.cell (World.block_lt_of_cell? _ _ (hHeld.2.2.1))).trans (hHeld.2.2.1)
     have HS3_ := (hb.cell (World.block_lt_of_cell? _ _ (hHeld.2.2.2.1))).trans (hHeld.2.2.2.1)
     have HS4_ := (hb.cell (World.block_lt_of_cell? _ _ (hHeld.2.2.2.2.1))).trans (hHeld.2.2.2.2.1)
     have HS5_ := (hb.cell (World.block_lt_of_cell? _ _ (hHeld.2.2.2.2.2.1))).trans (hHeld.2.2.2.2.2.1)
     have HS6_ := (hb.cell (World.block_lt_of_cell? _ _ (hHeld.2.2.2.2.2.2.1))).trans (hHeld.2.2.2.2.2.2.1)
     have HS7_ := (hb.cell (World.block_lt_of_cell? _ _ (hHeld.2.2.2.2.2.2.2))).trans (hHeld.2.2.2.2.2.2.2)
     refine ⟨_, rfl, ?_⟩
     replace HO_11 := yNe HO_11 ho0 hb
     replace HO_13 := yVe HO_13 ho0 hb
     replace HO_14 := yNe HO_14 ho0 hb
     replace HL135_1 := yVe HL135_1 ho0 hb
     replace HL136_1 := yVe HL136_1 ho0 hb
     replace HL141_1 := yVe HL141_1 ho0 hb
     replace HO140 := yVe HO140 ho0 hb
     replace ho0 := Kd.R_newM (M := fun k_ => (w.heap.size ≤ k_)) (yt ho0) (below_size (zB1 HB.out GE129.out)) (fun k_ h_ => h_)
     replace ho0 := yn ho0 HO_130001
     have HO145 := yRl1 ho0 HB GE129
     replace HO_130001 := yRe HO_130001 ho0 hb
     replace BK129 := yK BK129 hb
     replace HR135_1 := yCb HR135_1 hb
     replace HR136_1 := yCb HR136_1 hb
     replace HR141_1 := yCb HR141_1 hb
     replace HB := yS1 HB GE129 hb
     (try clear hb)
     (try clear hb2)
     (try clear hk)
     (try clear hi)
     (try clear ho0)
     obtain ⟨Ao60, co60, eo60⟩ := Kd.V_slice HO140.out
     (first | subst eo60 | (injection eo60 with f1_ f2_ f3_; have f4_ := f1_.symm; have f5_ := f3_.symm; clear f1_ f2_ f3_; subst f4_; subst f5_))
     obtain ⟨Ao61, co61, eo61⟩ := Kd.R_slice HO145.out
     (first | subst eo61 | (injection eo61 with f1_ f2_ f3_; have f4_ := f1_.symm; have f5_ := f3_.symm; clear f1_ f2_ f3_; subst f4_; subst f5_))
     refine hK.out _ _ ⟨(blk_cell BK129.out 0).trans rfl, (blk_cell BK129.out 1).trans rfl, HS2_, HS3_, HS4_, HS5_, HS6_, HS7_⟩ (fun hHeld => ?_)
     clear hK K
     refine norm_ (a' := ?_) ?_ ?_
     rotate_left
     · show Act.put _ (some 88) _ = _
       simp only [Act.put, List.setIfInBounds_toArray, List.set_cons_zero, List.set_cons_succ, i64_w, i32_w]
       rfl
     refine one_ (i := 18) (N := some 89) #[true, true, true, true, true, true, true, true, true, true, true, true, true, true, true, true, true, true, true, false, false, false] rfl rfl (one_of HT_.out (by kernel_rfl)) (by decide) (fun K hK => ?_)
     refine goes_ Try.func125 (by kernel_rfl) rfl #[.agg #[.bool t137, .slice Ao60 t138.length co60], .agg #[.bool t142, .slice Ao61 t143.length co61]] (by rfl) rfl rfl (by (try simp only [List.map_toArray, List.map_cons, List.map_nil]); first | done | rfl | (simp only [List.length_drop, List.length_take]; rfl)) ?_
     with_reducible refine (macwilliams_minus.calls k3 t137 (fun k_ => (((w.heap.size ≤ k_) ∧ (some k_ ≠ (.slice (some ad130) x11_2.length co42 : Value).ownBlock ∧ (some k_ ≠ (.slice (some ad141) x14_3.length co57 : Value).ownBlock ∧ (some k_ ≠ (.slice Ao36 t126.length co36 : Value).ownBlock ∧ k_ ≠ gb129)))) ∧ some k_ ≠ (.slice Ao61 t143.length co61 : Value).ownBlock)) _ _ t138 t142 (fun k_ => some k_ = (.slice Ao61 t143.length co61 : Value).ownBlock) _ _ t143 t146 t147 _ ?side1 ?side2 A54.out).mono ?_
     (case side1 => exact HO140.out)
     (case side2 => exact Kd.R_V (Kd.R_tight rfl (Kd.R_types (Kd.R_apart' (Kd.R_apart' (HO145.out) (Kd.N_typed HO_11.out) (by decide)) (Kd.N_typed HO_14.out) (by decide)) BK129.out (by decide))))
     rintro e w62 ⟨v148, rfl, ho0, hb⟩
     have HS2_ := (hb.cell (World.block_lt_of_cell? _ _ (hHeld.2.2.1))).trans (hHeld.2.2.1)
     have HS3_ := (hb.cell (World.block_lt_of_cell? _ _ (hHeld.2.2.2.1))).trans (hHeld.2.2.2.1)
     have HS4_ := (hb.cell (World.block_lt_of_cell? _ _ (hHeld.2.2.2.2.1))).trans (hHeld.2.2.2.2.1)
     have HS5_ := (hb.cell (World.block_lt_of_cell? _ _ (hHeld.2.2.2.2.2.1))).trans (hHeld.2.2.2.2.2.1)
     have HS6_ := (hb.cell (World.block_lt_of_cell? _ _ (hHeld.2.2.2.2.2.2.1))).trans (hHeld.2.2.2.2.2.2.1)
     have HS7_ := (hb.cell (World.block_lt_of_cell? _ _ (hHeld.2.2.2.2.2.2.2))).trans (hHeld.2.2.2.2.2.2.2)
     refine ⟨_, rfl, ?_⟩
     replace HO_13 := yVb HO_13 hb
     replace HL135_1 := yVb HL135_1 hb
     replace HL136_1 := yVb HL136_1 hb
     replace HL141_1 := yVb HL141_1 hb
     replace HO140 := yVb HO140 hb
     have HO149 := Aside0.mk (Kd.V_lower (Kd.V_mono (ok' := fun k_ => (w.heap.size ≤ k_) ∧ some k_ ≠ (.slice (some ad130) x11_2.length co42 : Value).ownBlock ∧ some k_ ≠ (.slice (some ad141) x14_3.length co57 : Value).ownBlock ∧ some k_ ≠ (.slice Ao36 t126.length co36 : Value).ownBlock ∧ k_ ≠ gb129) ho0 (fun k_ hk_ => ⟨Or.elim hk_ (fun hs_ => Or.elim hs_ (fun hs_ => hs_.1.1) (fun hs_ => ((Kd.R_types (Kd.R_apart' (Kd.R_apart' (HO145.out) (Kd.N_typed HO_11.out) (by decide)) (Kd.N_typed HO_14.out) (by decide)) BK129.out (by decide)).1 k_ hs_.symm).1.1.1.1.1)) (fun hn_ => (Nat.le_trans (below_size (zB1 HB.out GE129.out)) hn_)), Or.elim hk_ (fun hs_ => Or.elim hs_ (fun hs_ => hs_.1.2.1) (fun hs_ => ((Kd.R_types (Kd.R_apart' (Kd.R_apart' (HO145.out) (Kd.N_typed HO_11.out) (by decide)) (Kd.N_typed HO_14.out) (by decide)) BK129.out (by decide)).1 k_ hs_.symm).1.1.2)) (fun hn_ => (Kd.fresh' (Kd.N_lt (zN HO_11.out)) k_ hn_)), Or.elim hk_ (fun hs_ => Or.elim hs_ (fun hs_ => hs_.1.2.2.1) (fun hs_ => ((Kd.R_types (Kd.R_apart' (Kd.R_apart' (HO145.out) (Kd.N_typed HO_11.out) (by decide)) (Kd.N_typed HO_14.out) (by decide)) BK129.out (by decide)).1 k_ hs_.symm).1.2)) (fun hn_ => (Kd.fresh' (Kd.N_lt (zN HO_14.out)) k_ hn_)), Or.elim hk_ (fun hs_ => Or.elim hs_ (fun hs_ => hs_.1.2.2.2.1) (fun hs_ => ((Kd.R_types (Kd.R_apart' (Kd.R_apart' (HO145.out) (Kd.N_typed HO_11.out) (by decide)) (Kd.N_typed HO_14.out) (by decide)) BK129.out (by decide)).1 k_ hs_.symm).1.1.1.2)) (fun hn_ => (Kd.fresh' (Kd.R_lt (zR HO_130001.out)) k_ hn_)), Or.elim hk_ (fun hs_ => Or.elim hs_ (fun hs_ => hs_.1.2.2.2.2) (fun hs_ => ((Kd.R_types (Kd.R_apart' (Kd.R_apart' (HO145.out) (Kd.N_typed HO_11.out) (by decide)) (Kd.N_typed HO_14.out) (by decide)) BK129.out (by decide)).1 k_ hs_.symm).2)) (fun hn_ => (Kd.freshB (g := gb129) (o := .cells #[.bool t125, .slice Ao36 t126.length co36] 113 (0, 0)) (by (with_reducible repeat (first | refine blk_drewN ?_ _ | refine blk_drew ?_ | refine blk_alloc ?_ _)); exact BK129.out) k_ hn_))⟩)) (below_size (zB1 HB.out GE129.out)))
     replace HO_11 := yNb HO_11 hb
     replace HO_14 := yNb HO_14 hb
     replace HO_130001 := yRb HO_130001 hb
     replace HO145 := yRb HO145 hb
     replace BK129 := yK BK129 hb
     replace HR135_1 := yCb HR135_1 hb
     replace HR136_1 := yCb HR136_1 hb
     replace HR141_1 := yCb HR141_1 hb
     replace HB := yS1 HB GE129 hb
     (try clear hb)
     (try clear hb2)
     (try clear hk)
     (try clear hi)
     (try clear ho0)
     obtain ⟨Ao64, co64, eo64⟩ := Kd.V_slice HO149.out
     (first | subst eo64 | (injection eo64 with f1_ f2_ f3_; have f4_ := f1_.symm; have f5_ := f3_.symm; clear f1_ f2_ f3_; subst f4_; subst f5_))
     refine hK.out _ _ ⟨(blk_cell BK129.out 0).trans rfl, (blk_cell BK129.out 1).trans rfl, HS2_, HS3_, HS4_, HS5_, HS6_, HS7_⟩ (fun hHeld => ?_)
     clear hK K
     refine norm_ (a' := ?_) ?_ ?_
     rotate_left
     · show Act.put _ (some 89) _ = _
       simp only [Act.put, List.setIfInBounds_toArray, List.set_cons_zero, List.set_cons_succ, i64_w, i32_w]
       rfl
     refine last_ (i := 19) (N := some 90) #[true, true, true, true, true, true, true, true, true, true, true, true, true, true, true, true, true, true, true, true, false, false] rfl rfl (one_of HT_.out (by kernel_rfl)) (by decide) (fun K hK => ?_)
     refine value_ (w1 := ?_) (v := ?_) (by rfl) rfl ?_ ?_
     rotate_left 2
     · go_simp
       constructor
       · rfl
       rfl
     refine hK.out _ _ ?_
     clear hK K
     refine norm_ (a' := ?_) ?_ ?_
     rotate_left
     · show Act.put _ (some 90) _ = _
       simp only [Act.put, List.setIfInBounds_toArray, List.set_cons_zero, List.set_cons_succ, i64_w, i32_w]
       rfl
     refine last_ (i := 20) (N := some 91) #[true, true, true, true, true, true, true, true, true, true, true, true, true, true, true, true, true, true, true, true, true, false] rfl rfl (one_of HT_.out (by kernel_rfl)) (by decide) (fun K hK => ?_)
     refine Kd.N_append_step k113 (w0 := w) w.heap.size (by rfl) (.tmp 71) (.tmp 90) 114 113 (.agg #[(.bool false), (.slice none 0 0)]) 32 rfl Try.underlying114 info113 rfl (by decide) (by omega) (.slice (some ad141) x14_3.length co57) x14_3 (⟨t146, t147⟩ : S113) [.bool t146, .slice Ao64 t147.length co64] (fun k_ => (w.heap.size ≤ k_) ∧ some k_ ≠ (.slice (some ad130) x11_2.length co42 : Value).ownBlock ∧ some k_ ≠ (.slice Ao36 t126.length co36 : Value).ownBlock ∧ k_ ≠ gb129) (fun k_ => ((fun k_ => (w.heap.size ≤ k_) ∧ some k_ ≠ (.slice (some ad130) x11_2.length co42 : Value).ownBlock ∧ some k_ ≠ (.slice Ao36 t126.length co36 : Value).ownBlock ∧ k_ ≠ gb129)) k_ ∧ some k_ ≠ (.slice (some ad141) x14_3.length co57 : Value).ownBlock) rfl rfl ?aP (fun _ hk => hk) ?aF ?aO ?aB ?aS ?aL ?_
     (case aP => exact (k113_mkF _ _ (⟨t146, t147⟩ : S113) (Kd.V_reads' (Kd.V_mono (ok' := (fun k_ => ((fun k_ => (w.heap.size ≤ k_) ∧ some k_ ≠ (.slice (some ad130) x11_2.length co42 : Value).ownBlock ∧ some k_ ≠ (.slice Ao36 t126.length co36 : Value).ownBlock ∧ k_ ≠ gb129)) k_ ∧ some k_ ≠ (.slice (some ad141) x14_3.length co57 : Value).ownBlock)) (HO149.out) (fun k_ hk => by exact ⟨⟨hk.1, ⟨hk.2.1, ⟨hk.2.2.2.1, hk.2.2.2.2⟩⟩⟩, hk.2.2.1⟩))).2.1 (Kd.V_F (Kd.V_mono (ok' := (fun k_ => ((fun k_ => (w.heap.size ≤ k_) ∧ some k_ ≠ (.slice (some ad130) x11_2.length co42 : Value).ownBlock ∧ some k_ ≠ (.slice Ao36 t126.length co36 : Value).ownBlock ∧ k_ ≠ gb129)) k_ ∧ some k_ ≠ (.slice (some ad141) x14_3.length co57 : Value).ownBlock)) (HO149.out) (fun k_ hk => by exact ⟨⟨hk.1, ⟨hk.2.1, ⟨hk.2.2.2.1, hk.2.2.2.2⟩⟩⟩, hk.2.2.1⟩)))))
     (case aB => exact (zB1 HB.out GE129.out))
     (case aF => exact (fun k_ hk => ⟨(Nat.le_trans (below_size (zB1 HB.out GE129.out)) hk), Kd.fresh' (Kd.N_lt (zN HO_11.out)) k_ hk, Kd.fresh' (Kd.R_lt (zR HO_130001.out)) k_ hk, Kd.freshB (g := gb129) (o := .cells #[.bool t125, .slice Ao36 t126.length co36] 113 (0, 0)) (by (with_reducible repeat (first | refine blk_drewN ?_ _ | refine blk_drew ?_ | refine blk_alloc ?_ _)); exact BK129.out) k_ hk⟩))
     (case aO => exact (by (with_reducible repeat (first | apply Kd.N_alloc | apply Kd.N_drewN | apply Kd.N_drew)); exact Kd.N_mono HO_14.out (fun _ hk => ⟨hk.1.1, ⟨hk.1.2.1, ⟨hk.1.2.2.1, hk.1.2.2.2⟩⟩⟩)))
     (case aS => exact (below_size (zB1 HB.out GE129.out)))
     (case aL => have := LMc55.out; omega)
     intro v151 w63 ho hb hg hat
     rw [← Ny150.out] at ho
     replace HO_11 := Aside0.mk (Kd.N_afterv (ok := (fun k_ => (w.heap.size ≤ k_) ∧ some k_ ≠ (.slice Ao36 t126.length co36 : Value).ownBlock ∧ some k_ ≠ (.slice Ao61 t143.length co61 : Value).ownBlock ∧ k_ ≠ gb129)) (by (with_reducible repeat (first | apply Kd.N_alloc | apply Kd.N_drewN | apply Kd.N_drew)); exact Kd.N_mono HO_11.out (fun _ hk => ⟨⟨hk.1.1, ⟨hk.1.2.2.1, ⟨hk.2, hk.1.2.2.2⟩⟩⟩, hk.1.2.1⟩)) hg hat)
     replace HO_13 := Aside0.mk (Kd.V_afterv (ok := (fun k_ => (w.heap.size ≤ k_) ∧ some k_ ≠ (.slice (some ad130) x11_2.length co42 : Value).ownBlock ∧ some k_ ≠ (.slice Ao36 t126.length co36 : Value).ownBlock ∧ some k_ ≠ (.slice Ao61 t143.length co61 : Value).ownBlock ∧ k_ ≠ gb129)) (by (with_reducible repeat (first | apply Kd.V_alloc | apply Kd.V_drewN | apply Kd.V_drew)); exact Kd.V_mono HO_13.out (fun _ hk => ⟨⟨hk.1.1, ⟨hk.1.2.1, ⟨hk.1.2.2.2.1, ⟨hk.2, hk.1.2.2.2.2⟩⟩⟩⟩, hk.1.2.2.1⟩)) hg hat)
     replace HO_130001 := Aside0.mk (Kd.R_over' (zR HO_130001.out) (Kd.N_typed (zN HO_14.out)) (by decide) hg)
     replace BK129 := Aside0.mk (blk_grown (g := gb129) (o := .cells #[.bool t125, .slice Ao36 t126.length co36] 113 (0, 0)) (by (with_reducible repeat (first | refine blk_drewN ?_ _ | refine blk_drew ?_ | refine blk_alloc ?_ _)); exact BK129.out) hg (Kd.N_away HO_14.out (fun _ hk => hk.1.2.2.2)))
     replace HL135_1 := Aside0.mk (Kd.V_afterv (ok := (fun k_ => (w.heap.size ≤ k_) ∧ some k_ ≠ (.slice (some ad130) x11_2.length co42 : Value).ownBlock ∧ some k_ ≠ (.slice Ao36 t126.length co36 : Value).ownBlock ∧ some k_ ≠ (.slice Ao61 t143.length co61 : Value).ownBlock ∧ k_ ≠ gb129)) (by (with_reducible repeat (first | apply Kd.V_alloc | apply Kd.V_drewN | apply Kd.V_drew)); exact Kd.V_mono HL135_1.out (fun _ hk => ⟨⟨hk.1.1, ⟨hk.1.2.1, ⟨hk.1.2.2.2.1, ⟨hk.2, hk.1.2.2.2.2⟩⟩⟩⟩, hk.1.2.2.1⟩)) hg hat)
     replace HL136_1 := Aside0.mk (Kd.V_afterv (ok := (fun k_ => (w.heap.size ≤ k_) ∧ some k_ ≠ (.slice (some ad130) x11_2.length co42 : Value).ownBlock ∧ some k_ ≠ (.slice Ao36 t126.length co36 : Value).ownBlock ∧ some k_ ≠ (.slice Ao61 t143.length co61 : Value).ownBlock ∧ k_ ≠ gb129)) (by (with_reducible repeat (first | apply Kd.V_alloc | apply Kd.V_drewN | apply Kd.V_drew)); exact Kd.V_mono HL136_1.out (fun _ hk => ⟨⟨hk.1.1, ⟨hk.1.2.1, ⟨hk.1.2.2.2.1, ⟨hk.2, hk.1.2.2.2.2⟩⟩⟩⟩, hk.1.2.2.1⟩)) hg hat)
     replace HL141_1 := Aside0.mk (Kd.V_afterv (ok := (fun k_ => (w.heap.size ≤ k_) ∧ some k_ ≠ (.slice (some ad130) x11_2.length co42 : Value).ownBlock ∧ some k_ ≠ (.slice Ao36 t126.length co36 : Value).ownBlock ∧ some k_ ≠ (.slice Ao61 t143.length co61 : Value).ownBlock ∧ k_ ≠ gb129)) (by (with_reducible repeat (first | apply Kd.V_alloc | apply Kd.V_drewN | apply Kd.V_drew)); exact Kd.V_mono HL141_1.out (fun _ hk => ⟨⟨hk.1.1.1, ⟨hk.1.1.2.1, ⟨hk.1.1.2.2.1, ⟨hk.2, hk.1.1.2.2.2⟩⟩⟩⟩, hk.1.2⟩)) hg hat)
     replace HO140 := Aside0.mk (Kd.V_afterv (ok := (fun k_ => (w.heap.size ≤ k_) ∧ some k_ ≠ (.slice (some ad130) x11_2.length co42 : Value).ownBlock ∧ some k_ ≠ (.slice Ao36 t126.length co36 : Value).ownBlock ∧ some k_ ≠ (.slice Ao61 t143.length co61 : Value).ownBlock ∧ k_ ≠ gb129)) (by (with_reducible repeat (first | apply Kd.V_alloc | apply Kd.V_drewN | apply Kd.V_drew)); exact Kd.V_mono HO140.out (fun _ hk => ⟨⟨hk.1.1, ⟨hk.1.2.1, ⟨hk.1.2.2.2.1, ⟨hk.2, hk.1.2.2.2.2⟩⟩⟩⟩, hk.1.2.2.1⟩)) hg hat)
     replace HO145 := Aside0.mk (Kd.R_over' (zR HO145.out) (Kd.N_typed (zN HO_14.out)) (by decide) hg)
     replace HO149 := Aside0.mk (Kd.V_afterv (ok := (fun k_ => (w.heap.size ≤ k_) ∧ some k_ ≠ (.slice (some ad130) x11_2.length co42 : Value).ownBlock ∧ some k_ ≠ (.slice Ao36 t126.length co36 : Value).ownBlock ∧ k_ ≠ gb129)) (by (with_reducible repeat (first | apply Kd.V_alloc | apply Kd.V_drewN | apply Kd.V_drew)); exact Kd.V_mono HO149.out (fun _ hk => ⟨⟨hk.1, ⟨hk.2.1, ⟨hk.2.2.2.1, hk.2.2.2.2⟩⟩⟩, hk.2.2.1⟩)) hg hat)
     replace HB := Aside0.mk (hb)
     have HO152 := Aside0.mk (ho)
     clear HO_14
     clear ho hb hg hat
     refine hK.out _ _ ?_
     clear hK K
     refine norm_ (a' := ?_) ?_ ?_
     rotate_left
     · show Act.put _ (some 91) _ = _
       simp only [Act.put, List.setIfInBounds_toArray, List.set_cons_zero, List.set_cons_succ, i64_w, i32_w]
       rfl
     refine zp (i := 21) (N := some 14) HT_ ?_
     refine done_ (done_of HT_.out (by kernel_rfl)) ?_
     try go_wp2
     go_roundg k3
     case measure => have := HK1.out; have := HK2.out; have := HK3.out; omega
     case rel => exact ⟨(y150), (wrap64 (x15_3 + 1)), zF, H', ⟨by have := HK1.out; have := HK2.out; have := HK3.out; omega⟩, ⟨by (try simp only [hl5_1]); (with_reducible repeat (first | apply Kd.N_alloc | apply Kd.N_drewN | apply Kd.N_drew)); exact Kd.N_mono HO_11.out (fun _ hk => ⟨hk.1.1, ⟨hk.2, ⟨hk.1.2.1, hk.1.2.2.2⟩⟩⟩)⟩, ⟨by (try simp only [hl5_1]); (with_reducible repeat (first | apply Kd.V_alloc | apply Kd.V_drewN | apply Kd.V_drew)); exact Kd.V_mono HO_13.out (fun _ hk => ⟨hk.1.1, ⟨hk.1.2.1, ⟨hk.2, ⟨hk.1.2.2.1, hk.1.2.2.2.2⟩⟩⟩⟩)⟩, ⟨by (try simp only [hl5_1]); (with_reducible repeat (first | apply Kd.N_alloc | apply Kd.N_drewN | apply Kd.N_drew)); exact HO152.out⟩, ⟨by (try simp only [hl5_1]); (with_reducible repeat (first | apply Kd.R_alloc | apply Kd.R_drewN | apply Kd.R_drew)); exact Kd.R_mono HO_130001.out (fun _ hk => hk.1)⟩, ⟨by (try simp only [hl5_1]); (with_reducible repeat (first | refine blk_drewN ?_ _ | refine blk_drew ?_ | refine blk_alloc ?_ _)); exact BK129.out⟩, ⟨zB1 HB.out GE129.out⟩⟩
   have c45b0 := decide_eq_false c45
   clear c45
   replace H := zg H
   obtain ⟨c65, H⟩ := H
   have LMc65 := Aside0.mk c65
   clear c65
   obtain ⟨y153, hy153⟩ : ∃ y_ : List (List (S113)), y_ = (x11_2 ++ [x14_3]) := ⟨_, rfl⟩
   replace H : (macwilliams_table.l1 k3 a1 y153 a1 (wrap64 (x54_2 + 1)) t125 t126) = some r := zY hy153 H
   have Ny153 := Aside0.mk hy153
   clear hy153
   have H' := Aside0.mk H
   clear H
   obtain ⟨Ao67, co67, rfl⟩ := Kd.N_slice HO_14.out
   go_wp2_with (first | ((with_reducible refine gate_builtin (b := .append) (xs := #[.tmp 92, .tmp 94]) rfl ?_); at_builtin; refine Kd.N_append (Kd.slice 113 k113) (w0 := w) w.heap.size rfl (.tmp 92) (.tmp 94) 115 114 (.slice none 0 0) 24 rfl Try.underlying115 info114 rfl (by decide) (by omega) (.slice (some ad130) x11_2.length co42) x11_2 x14_3 [.slice Ao67 x14_3.length co67] (fun k_ => (w.heap.size ≤ k_) ∧ some k_ ≠ (.slice Ao36 t126.length co36 : Value).ownBlock ∧ k_ ≠ gb129) (fun k_ => ((fun k_ => (w.heap.size ≤ k_) ∧ some k_ ≠ (.slice Ao36 t126.length co36 : Value).ownBlock ∧ k_ ≠ gb129)) k_ ∧ some k_ ≠ (.slice (some ad130) x11_2.length co42 : Value).ownBlock) rfl rfl ?aP (fun _ hk => hk) ?aF ?aO ?aB ?aS ?aL ?_; (case aP => exact (Kd.FK_slice_mk (Kd.N_reads' (Kd.N_mono (ok' := (fun k_ => ((fun k_ => (w.heap.size ≤ k_) ∧ some k_ ≠ (.slice Ao36 t126.length co36 : Value).ownBlock ∧ k_ ≠ gb129)) k_ ∧ some k_ ≠ (.slice (some ad130) x11_2.length co42 : Value).ownBlock)) (HO_14.out) (fun k_ hk => by exact ⟨⟨hk.1, ⟨hk.2.2.1, hk.2.2.2⟩⟩, hk.2.1⟩))).2.1 (Kd.N_F (Kd.N_mono (ok' := (fun k_ => ((fun k_ => (w.heap.size ≤ k_) ∧ some k_ ≠ (.slice Ao36 t126.length co36 : Value).ownBlock ∧ k_ ≠ gb129)) k_ ∧ some k_ ≠ (.slice (some ad130) x11_2.length co42 : Value).ownBlock)) (HO_14.out) (fun k_ hk => by exact ⟨⟨hk.1, ⟨hk.2.2.1, hk.2.2.2⟩⟩, hk.2.1⟩))))); (case aB => exact (zB1 HB.out GE129.out)); (case aF => exact (fun k_ hk => ⟨(Nat.le_trans (below_size (zB1 HB.out GE129.out)) hk), Kd.fresh' (Kd.R_lt (zR HO_130001.out)) k_ hk, Kd.freshB (g := gb129) (o := .cells #[.bool t125, .slice Ao36 t126.length co36] 113 (0, 0)) (by (with_reducible repeat (first | refine blk_drewN ?_ _ | refine blk_drew ?_ | refine blk_alloc ?_ _)); exact BK129.out) k_ hk⟩)); (case aO => exact (by (with_reducible repeat (first | apply Kd.N_alloc | apply Kd.N_drewN | apply Kd.N_drew)); exact Kd.N_mono HO_11.out (fun _ hk => ⟨hk.1, ⟨hk.2.2.1, hk.2.2.2⟩⟩))); (case aS => exact (below_size (zB1 HB.out GE129.out))); (case aL => have := LMc65.out; omega); intro v154 w66 ho hb hg hat; rw [← Ny153.out] at ho; replace HO_13 := Aside0.mk (Kd.V_afterv (ok := (fun k_ => (w.heap.size ≤ k_) ∧ some k_ ≠ (.slice Ao67 x14_3.length co67 : Value).ownBlock ∧ some k_ ≠ (.slice Ao36 t126.length co36 : Value).ownBlock ∧ k_ ≠ gb129)) (by (with_reducible repeat (first | apply Kd.V_alloc | apply Kd.V_drewN | apply Kd.V_drew)); exact Kd.V_mono HO_13.out (fun _ hk => ⟨⟨hk.1, ⟨hk.2.2.1, ⟨hk.2.2.2.1, hk.2.2.2.2⟩⟩⟩, hk.2.1⟩)) hg hat); replace HO_130001 := Aside0.mk (Kd.R_over' (zR HO_130001.out) (Kd.N_typed (zN HO_11.out)) (by decide) hg); replace BK129 := Aside0.mk (blk_grown (g := gb129) (o := .cells #[.bool t125, .slice Ao36 t126.length co36] 113 (0, 0)) (by (with_reducible repeat (first | refine blk_drewN ?_ _ | refine blk_drew ?_ | refine blk_alloc ?_ _)); exact BK129.out) hg (Kd.N_ne HO_11.out BK129.out (by decide))); replace HB := Aside0.mk (hb); have HO155 := Aside0.mk (ho); clear HO_11 HO_14; clear ho hb hg hat))
   go_roundg k3
   case measure => have := HK1.out; have := HK2.out; have := HK3.out; omega
   case rel => exact ⟨(y153), (wrap64 (x54_2 + 1)), zF, H', ⟨by have := HK1.out; have := HK2.out; have := HK3.out; omega⟩, ⟨by (try simp only [hl5_1]); (with_reducible repeat (first | apply Kd.N_alloc | apply Kd.N_drewN | apply Kd.N_drew)); exact HO155.out⟩, ⟨by (try simp only [hl5_1]); (with_reducible repeat (first | apply Kd.R_alloc | apply Kd.R_drewN | apply Kd.R_drew)); exact HO_130001.out⟩, ⟨by (try simp only [hl5_1]); (with_reducible repeat (first | refine blk_drewN ?_ _ | refine blk_drew ?_ | refine blk_alloc ?_ _)); exact BK129.out⟩, ⟨zB1 HB.out GE129.out⟩⟩
 have c37b0 := decide_eq_false c37
 clear c37
 obtain rfl := Option.some.inj H
 go_wp2
 go_ret
 exact ⟨_, by first | rfl | (simp [errW_none, errW_some] <;> rfl) | (simp only [← hji3]; first | rfl | (simp [errW_none, errW_some] <;> rfl)) | (simp [*, errW_none, errW_some] <;> rfl), by (with_reducible repeat (first | apply Kd.N_alloc | apply Kd.N_drewN | apply Kd.N_drew)); exact Kd.N_mono HO_11.out (fun _ hk => hk.1), zB1 HB.out GE129.out⟩
theorem nat_long.calls (A0 : Option Addr) (c0 : Nat) (l0 : List Int) (A1 : Option Addr) (c1 : Nat) (l1 : List Int) (r1 : List Int) (r2 : List Int) (w : World) (hr0 : Kd.C (Kd.int .u32) w A0 l0.length l0) (hc0 : l0.length ≤ c0) (hr1 : Kd.C (Kd.int .u32) w A1 l1.length l1) (hc1 : l1.length ≤ c1) (h : nat_long.f l0 l1 = some (r1, r2)) :
    Calls Try.prog 129 #[.slice A0 l0.length c0, .slice A1 l1.length c1] w fun e w' => ∃ v0_ v1_ : Value, e = .returned (.tuple #[v0_, v1_]) ∧ Kd.R (Kd.int .u32) 97 w' w.heap.size (fun k_ => some k_ ≠ (v1_ : Value).ownBlock) v0_ r1 ∧ Kd.R (Kd.int .u32) 97 w' w.heap.size (fun k_ => some k_ ≠ (v0_ : Value).ownBlock) v1_ r2 ∧ Below w.heap.size w w' := by
 exact absurd h (by simp [nat_long.f])
set_option maxHeartbeats 8000000 in
set_option maxRecDepth 100000 in
theorem nat_DivMod.calls (k : Nat) (P0_ : Nat → Prop) (A0 : Option Addr) (c0 : Nat) (l0 : List Int) (P1_ : Nat → Prop) (A1 : Option Addr) (c1 : Nat) (l1 : List Int) (r1 : List Int) (r2 : List Int) (r3 : Int) (w : World) (hs0 : Kd.V (Kd.int .u32) 97 w w.heap.size (fun k_ => P0_ k_) (.slice A0 l0.length c0) l0) (hs1 : Kd.V (Kd.int .u32) 97 w w.heap.size (fun k_ => P1_ k_) (.slice A1 l1.length c1) l1) (h : nat_DivMod.f k l0 l1 = some (r1, r2, r3)) :
    Calls Try.prog 105 #[.slice A0 l0.length c0, .slice A1 l1.length c1] w fun e w' => ∃ v0_ v1_ : Value, e = .returned (.tuple #[v0_, v1_, .int .i64 r3]) ∧ Kd.V (Kd.int .u32) 97 w' w.heap.size (fun k_ => ((P0_ k_ ∨ P1_ k_) ∨ w.heap.size ≤ k_) ∧ some k_ ≠ (v1_ : Value).ownBlock) v0_ r1 ∧ Kd.R (Kd.int .u32) 97 w' w.heap.size (fun k_ => (w.heap.size ≤ k_)) v1_ r2 ∧ Below w.heap.size w w' := by
 have HO0 := Aside0.mk (show Kd.V (Kd.int .u32) 97 w w.heap.size (fun k_ => ((P0_ k_ ∨ P1_ k_) ∨ w.heap.size ≤ k_)) (.slice A0 l0.length c0) l0 from Kd.V_mono hs0 (fun k_ hk => .inl (.inl hk)))
 have HO1 := Aside0.mk (show Kd.V (Kd.int .u32) 97 w w.heap.size (fun k_ => ((P0_ k_ ∨ P1_ k_) ∨ w.heap.size ≤ k_)) (.slice A1 l1.length c1) l1 from Kd.V_mono hs1 (fun k_ hk => .inl (.inr hk)))
 have HB := Aside0.mk (Below.refl w.heap.size w)
 have H : ((nat_short.f k l0).bind fun t101 => ((nat_short.f k l1).bind fun t104 => (if (t104.length : Int) = 0 then (some (([] : List Int), ([] : List Int), 7)) else ((nat_Cmp.f k t101 t104).bind fun t107 => (if t107 < 0 then ((nat_Trim.f k t101).bind fun t108 => (some (([] : List Int), t108, 0))) else (if (t104.length : Int) = 1 then (if 0 < (t104.length : Int) then ((nat_digit.f k t101 (rd t104 0)).bind fun bt112 => ((nat_Of.f k (IntKind.u64.wrap (bt112.2))).bind fun t116 => (some (bt112.1, t116, 0)))) else (none)) else ((nat_long.f t101 t104).bind fun bt119 => ((nat_Trim.f k bt119.1).bind fun t125 => ((nat_Trim.f k bt119.2).bind fun t128 => (some (t125, t128, 0))))))))))) = some (r1, r2, r3) := h
 clear h
 replace H := zb H
 obtain ⟨t101, A3, H⟩ := H
 replace H := zb H
 obtain ⟨t104, A4, H⟩ := H
 replace H := zi H
 rcases H with ⟨c5, H⟩ | ⟨c5, H⟩
 · have c5b0 := beq_iff_eq.mpr c5
   have c5b1 := bne_eq_false_iff_eq.mpr c5
   clear c5
   simp only [Option.some.injEq, Prod.mk.injEq] at H
   obtain ⟨rfl, rfl, rfl⟩ := H
   go_enter Try.func105, Try.ntmps105
   go_wp2_with (first | ((with_reducible refine gate_callee (f := 118) rfl ?_); refine zG (some 12) Try.func118 #[.slice A0 l0.length c0] ?_; (with_reducible refine (nat_short.calls k (fun k_ => ((P0_ k_ ∨ P1_ k_) ∨ w.heap.size ≤ k_)) _ _ l0 t101 _ ?side1 A3.out).mono ?_); (case side1 => exact HO0.out); rintro e w6 ⟨v102, rfl, ho0, hb⟩; refine ⟨_, rfl, ?_⟩; replace HO0 := yVb HO0 hb; replace HO1 := yVb HO1 hb; have HO103 := Aside0.mk (Kd.V_lower (Kd.V_mono (ok' := fun k_ => ((P0_ k_ ∨ P1_ k_) ∨ w.heap.size ≤ k_)) ho0 (fun k_ hk_ => Or.elim hk_ (fun hs_ => hs_) (fun hn_ => (.inr (Nat.le_trans (below_size (zB HB.out)) hn_))))) (below_size (zB HB.out))); replace HB := yS HB hb; (try clear hb ho0)) | ((with_reducible refine gate_callee (f := 118) rfl ?_); refine zG (some 14) Try.func118 #[.slice A1 l1.length c1] ?_; (with_reducible refine (nat_short.calls k (fun k_ => ((P0_ k_ ∨ P1_ k_) ∨ w.heap.size ≤ k_)) _ _ l1 t104 _ ?side1 A4.out).mono ?_); (case side1 => exact HO1.out); rintro e w7 ⟨v105, rfl, ho0, hb⟩; refine ⟨_, rfl, ?_⟩; replace HO0 := yVb HO0 hb; replace HO1 := yVb HO1 hb; replace HO103 := yVb HO103 hb; have HO106 := Aside0.mk (Kd.V_lower (Kd.V_mono (ok' := fun k_ => ((P0_ k_ ∨ P1_ k_) ∨ w.heap.size ≤ k_)) ho0 (fun k_ hk_ => Or.elim hk_ (fun hs_ => hs_) (fun hn_ => (.inr (Nat.le_trans (below_size (zB HB.out)) hn_))))) (below_size (zB HB.out))); replace HB := yS HB hb; (try clear hb ho0); obtain ⟨Ao8, co8, rfl⟩ := Kd.V_slice HO106.out))
   go_ret3
   exact ⟨_, _, zE, by exact Kd.V_nil _ _ _ _ _, z0, zB HB.out⟩
 have c5b0 := beq_eq_false_iff_ne.mpr c5
 have c5b1 := bne_iff_ne.mpr c5
 have c5b2 : ¬ (t104 = []) := fun h_ => c5 (by rw [h_]; rfl)
 replace H := zb H
 obtain ⟨t107, A9, H⟩ := H
 replace H := zi H
 rcases H with ⟨c10, H⟩ | ⟨c10, H⟩
 · have c10b0 := decide_eq_true c10
   clear c10
   replace H := zb H
   obtain ⟨t108, A11, H⟩ := H
   simp only [Option.some.injEq, Prod.mk.injEq] at H
   obtain ⟨rfl, rfl, rfl⟩ := H
   go_enter Try.func105, Try.ntmps105
   go_wp2_with (first | ((with_reducible refine gate_callee (f := 118) rfl ?_); refine zG (some 12) Try.func118 #[.slice A0 l0.length c0] ?_; (with_reducible refine (nat_short.calls k (fun k_ => ((P0_ k_ ∨ P1_ k_) ∨ w.heap.size ≤ k_)) _ _ l0 t101 _ ?side1 A3.out).mono ?_); (case side1 => exact HO0.out); rintro e w12 ⟨v102, rfl, ho0, hb⟩; refine ⟨_, rfl, ?_⟩; replace HO0 := yVb HO0 hb; replace HO1 := yVb HO1 hb; have HO103 := Aside0.mk (Kd.V_lower (Kd.V_mono (ok' := fun k_ => ((P0_ k_ ∨ P1_ k_) ∨ w.heap.size ≤ k_)) ho0 (fun k_ hk_ => Or.elim hk_ (fun hs_ => hs_) (fun hn_ => (.inr (Nat.le_trans (below_size (zB HB.out)) hn_))))) (below_size (zB HB.out))); replace HB := yS HB hb; (try clear hb ho0)) | ((with_reducible refine gate_callee (f := 118) rfl ?_); refine zG (some 14) Try.func118 #[.slice A1 l1.length c1] ?_; (with_reducible refine (nat_short.calls k (fun k_ => ((P0_ k_ ∨ P1_ k_) ∨ w.heap.size ≤ k_)) _ _ l1 t104 _ ?side1 A4.out).mono ?_); (case side1 => exact HO1.out); rintro e w13 ⟨v105, rfl, ho0, hb⟩; refine ⟨_, rfl, ?_⟩; replace HO0 := yVb HO0 hb; replace HO1 := yVb HO1 hb; replace HO103 := yVb HO103 hb; have HO106 := Aside0.mk (Kd.V_lower (Kd.V_mono (ok' := fun k_ => ((P0_ k_ ∨ P1_ k_) ∨ w.heap.size ≤ k_)) ho0 (fun k_ hk_ => Or.elim hk_ (fun hs_ => hs_) (fun hn_ => (.inr (Nat.le_trans (below_size (zB HB.out)) hn_))))) (below_size (zB HB.out))); replace HB := yS HB hb; (try clear hb ho0); obtain ⟨Ao14, co14, rfl⟩ := Kd.V_slice HO106.out; obtain ⟨Ao15, co15, rfl⟩ := Kd.V_slice HO103.out) | ((with_reducible refine gate_callee (f := 79) rfl ?_); refine zG (some 22) Try.func79 #[.slice Ao15 t101.length co15, .slice Ao14 t104.length co14] ?_; (with_reducible refine (nat_Cmp.calls k _ _ t101 _ _ t104 t107 _ ?side1 ?side2 ?side3 ?side4 A9.out).mono ?_); (case side1 => exact zC (Kd.V_reads' HO103.out).2.2); (case side2 => exact (Kd.V_reads' HO103.out).2.1); (case side3 => exact zC (Kd.V_reads' HO106.out).2.2); (case side4 => exact (Kd.V_reads' HO106.out).2.1); rintro e w16 ⟨rfl, hb⟩; refine ⟨_, rfl, ?_⟩; replace HO0 := yVb HO0 hb; replace HO1 := yVb HO1 hb; replace HO103 := yVb HO103 hb; replace HO106 := yVb HO106 hb; replace HB := yS HB hb; (try clear hb); (try clear hb2); (try clear hk); (try clear hi)) | ((with_reducible refine gate_callee (f := 103) rfl ?_); refine zG (some 25) Try.func103 #[.slice Ao15 t101.length co15] ?_; (with_reducible refine (nat_Trim.calls k _ _ t101 t108 _ ?side1 ?side2 A11.out).mono ?_); (case side1 => exact zC (Kd.V_reads' HO103.out).2.2); (case side2 => exact (Kd.V_reads' HO103.out).2.1); rintro e w17 ⟨v109, rfl, ho0, hb⟩; refine ⟨_, rfl, ?_⟩; replace HO0 := yVe HO0 ho0 hb; replace HO1 := yVe HO1 ho0 hb; replace HO103 := yVe HO103 ho0 hb; replace HO106 := yVe HO106 ho0 hb; replace ho0 := Kd.R_newM (M := fun k_ => (w.heap.size ≤ k_)) ho0 (below_size (zB HB.out)) (fun k_ h_ => h_); have HO110 := yRl ho0 HB; replace HB := yS HB hb; (try clear hb ho0)))
   go_ret3
   exact ⟨_, _, zE, by exact Kd.V_nil _ _ _ _ _, by (with_reducible repeat (first | apply Kd.R_alloc | apply Kd.R_drewN | apply Kd.R_drew)); exact Kd.R_mono HO110.out (fun _ hk => hk.1), zB HB.out⟩
 have c10b0 := decide_eq_false c10
 clear c10
 replace H := zi H
 rcases H with ⟨c18, H⟩ | ⟨c18, H⟩
 · have c18b0 := beq_iff_eq.mpr c18
   have c18b1 := bne_eq_false_iff_eq.mpr c18
   clear c18
   replace H := zg H
   obtain ⟨c19, H⟩ := H
   have c19b0 := decide_eq_true c19
   have c19b1 : decide (0 < t104.length) = true := decide_eq_true (by omega)
   clear c19
   replace H := zb H
   obtain ⟨⟨t112, t115⟩, A20, H⟩ := H
   dsimp only at H
   replace H := zb H
   obtain ⟨t116, A21, H⟩ := H
   simp only [Option.some.injEq, Prod.mk.injEq] at H
   obtain ⟨rfl, rfl, rfl⟩ := H
   go_enter Try.func105, Try.ntmps105
   go_wp2_with (first | ((with_reducible refine gate_callee (f := 118) rfl ?_); refine zG (some 12) Try.func118 #[.slice A0 l0.length c0] ?_; (with_reducible refine (nat_short.calls k (fun k_ => ((P0_ k_ ∨ P1_ k_) ∨ w.heap.size ≤ k_)) _ _ l0 t101 _ ?side1 A3.out).mono ?_); (case side1 => exact HO0.out); rintro e w22 ⟨v102, rfl, ho0, hb⟩; refine ⟨_, rfl, ?_⟩; replace HO0 := yVb HO0 hb; replace HO1 := yVb HO1 hb; have HO103 := Aside0.mk (Kd.V_lower (Kd.V_mono (ok' := fun k_ => ((P0_ k_ ∨ P1_ k_) ∨ w.heap.size ≤ k_)) ho0 (fun k_ hk_ => Or.elim hk_ (fun hs_ => hs_) (fun hn_ => (.inr (Nat.le_trans (below_size (zB HB.out)) hn_))))) (below_size (zB HB.out))); replace HB := yS HB hb; (try clear hb ho0)) | ((with_reducible refine gate_callee (f := 118) rfl ?_); refine zG (some 14) Try.func118 #[.slice A1 l1.length c1] ?_; (with_reducible refine (nat_short.calls k (fun k_ => ((P0_ k_ ∨ P1_ k_) ∨ w.heap.size ≤ k_)) _ _ l1 t104 _ ?side1 A4.out).mono ?_); (case side1 => exact HO1.out); rintro e w23 ⟨v105, rfl, ho0, hb⟩; refine ⟨_, rfl, ?_⟩; replace HO0 := yVb HO0 hb; replace HO1 := yVb HO1 hb; replace HO103 := yVb HO103 hb; have HO106 := Aside0.mk (Kd.V_lower (Kd.V_mono (ok' := fun k_ => ((P0_ k_ ∨ P1_ k_) ∨ w.heap.size ≤ k_)) ho0 (fun k_ hk_ => Or.elim hk_ (fun hs_ => hs_) (fun hn_ => (.inr (Nat.le_trans (below_size (zB HB.out)) hn_))))) (below_size (zB HB.out))); replace HB := yS HB hb; (try clear hb ho0); obtain ⟨Ao24, co24, rfl⟩ := Kd.V_slice HO106.out; obtain ⟨Ao25, co25, rfl⟩ := Kd.V_slice HO103.out) | ((with_reducible refine gate_callee (f := 79) rfl ?_); refine zG (some 22) Try.func79 #[.slice Ao25 t101.length co25, .slice Ao24 t104.length co24] ?_; (with_reducible refine (nat_Cmp.calls k _ _ t101 _ _ t104 t107 _ ?side1 ?side2 ?side3 ?side4 A9.out).mono ?_); (case side1 => exact zC (Kd.V_reads' HO103.out).2.2); (case side2 => exact (Kd.V_reads' HO103.out).2.1); (case side3 => exact zC (Kd.V_reads' HO106.out).2.2); (case side4 => exact (Kd.V_reads' HO106.out).2.1); rintro e w26 ⟨rfl, hb⟩; refine ⟨_, rfl, ?_⟩; replace HO0 := yVb HO0 hb; replace HO1 := yVb HO1 hb; replace HO103 := yVb HO103 hb; replace HO106 := yVb HO106 hb; replace HB := yS HB hb; (try clear hb); (try clear hb2); (try clear hk); (try clear hi); have p111 : 0 ≤ (0 : Int) := (by omega); have q111 : 0 < (t104.length : Int) := of_decide_eq_true zA; obtain ⟨ad111, e111, hx111_0⟩ := Kd.at_int (Kd.V_reads' HO106.out).2.2 0 p111 q111; cases e111; have qi111 : (0 < t104.length) = True := eq_true (by omega); (try rw [show ((0 : Int)).toNat = 0 from rfl] at hx111_0); (try rw [Addr.add_zero'] at hx111_0); replace p111 := eq_true p111; replace q111 := eq_true q111) | ((with_reducible refine gate_callee (f := 115) rfl ?_); refine zG (some 35) Try.func115 #[.slice Ao25 t101.length co25, .int .u32 (rd t104 0)] ?_; (with_reducible refine (nat_digit.calls k _ _ t101 (rd t104 0) t112 t115 _ ?side1 ?side2 A20.out).mono ?_); (case side1 => exact zC (Kd.V_reads' HO103.out).2.2); (case side2 => exact (Kd.V_reads' HO103.out).2.1); rintro e w27 ⟨v113, rfl, ho0, hb⟩; refine ⟨_, rfl, ?_⟩; replace HO0 := yVb HO0 hb; replace HO1 := yVb HO1 hb; replace HO103 := yVb HO103 hb; replace HO106 := yVb HO106 hb; have HO114 := Aside0.mk (Kd.V_lower (Kd.V_mono (ok' := fun k_ => ((P0_ k_ ∨ P1_ k_) ∨ w.heap.size ≤ k_)) ho0 (fun k_ hk_ => (.inr (Nat.le_trans (below_size (zB HB.out)) hk_)))) (below_size (zB HB.out))); replace HB := yS HB hb; (try clear hb ho0)) | ((with_reducible refine gate_callee (f := 80) rfl ?_); refine zG (some 41) Try.func80 #[.int .u64 (IntKind.u64.wrap (t115))] ?_; (with_reducible refine (nat_Of.calls k (IntKind.u64.wrap (t115)) t116 _ A21.out).mono ?_); rintro e w28 ⟨v117, rfl, ho0, hb⟩; refine ⟨_, rfl, ?_⟩; replace HO0 := yVe HO0 ho0 hb; replace HO1 := yVe HO1 ho0 hb; replace HO103 := yVe HO103 ho0 hb; replace HO106 := yVe HO106 ho0 hb; replace HO114 := yVe HO114 ho0 hb; replace ho0 := Kd.R_newM (M := fun k_ => (w.heap.size ≤ k_)) ho0 (below_size (zB HB.out)) (fun k_ h_ => h_); have HO118 := yRl ho0 HB; replace HB := yS HB hb; (try clear hb ho0)))
   go_ret3
   exact ⟨_, _, zE, zV HO114.out, by (with_reducible repeat (first | apply Kd.R_alloc | apply Kd.R_drewN | apply Kd.R_drew)); exact Kd.R_mono HO118.out (fun _ hk => hk.1), zB HB.out⟩
 have c18b0 := beq_eq_false_iff_ne.mpr c18
 have c18b1 := bne_iff_ne.mpr c18
 replace H := zb H
 obtain ⟨⟨t119, t120⟩, A29, H⟩ := H
 dsimp only at H
 replace H := zb H
 obtain ⟨t125, A30, H⟩ := H
 replace H := zb H
 obtain ⟨t128, A31, H⟩ := H
 simp only [Option.some.injEq, Prod.mk.injEq] at H
 obtain ⟨rfl, rfl, rfl⟩ := H
 go_enter Try.func105, Try.ntmps105
 go_wp2_with (first | ((with_reducible refine gate_callee (f := 118) rfl ?_); refine zG (some 12) Try.func118 #[.slice A0 l0.length c0] ?_; (with_reducible refine (nat_short.calls k (fun k_ => ((P0_ k_ ∨ P1_ k_) ∨ w.heap.size ≤ k_)) _ _ l0 t101 _ ?side1 A3.out).mono ?_); (case side1 => exact HO0.out); rintro e w32 ⟨v102, rfl, ho0, hb⟩; refine ⟨_, rfl, ?_⟩; replace HO0 := yVb HO0 hb; replace HO1 := yVb HO1 hb; have HO103 := Aside0.mk (Kd.V_lower (Kd.V_mono (ok' := fun k_ => ((P0_ k_ ∨ P1_ k_) ∨ w.heap.size ≤ k_)) ho0 (fun k_ hk_ => Or.elim hk_ (fun hs_ => hs_) (fun hn_ => (.inr (Nat.le_trans (below_size (zB HB.out)) hn_))))) (below_size (zB HB.out))); replace HB := yS HB hb; (try clear hb ho0)) | ((with_reducible refine gate_callee (f := 118) rfl ?_); refine zG (some 14) Try.func118 #[.slice A1 l1.length c1] ?_; (with_reducible refine (nat_short.calls k (fun k_ => ((P0_ k_ ∨ P1_ k_) ∨ w.heap.size ≤ k_)) _ _ l1 t104 _ ?side1 A4.out).mono ?_); (case side1 => exact HO1.out); rintro e w33 ⟨v105, rfl, ho0, hb⟩; refine ⟨_, rfl, ?_⟩; replace HO0 := yVb HO0 hb; replace HO1 := yVb HO1 hb; replace HO103 := yVb HO103 hb; have HO106 := Aside0.mk (Kd.V_lower (Kd.V_mono (ok' := fun k_ => ((P0_ k_ ∨ P1_ k_) ∨ w.heap.size ≤ k_)) ho0 (fun k_ hk_ => Or.elim hk_ (fun hs_ => hs_) (fun hn_ => (.inr (Nat.le_trans (below_size (zB HB.out)) hn_))))) (below_size (zB HB.out))); replace HB := yS HB hb; (try clear hb ho0); obtain ⟨Ao34, co34, rfl⟩ := Kd.V_slice HO106.out; obtain ⟨Ao35, co35, rfl⟩ := Kd.V_slice HO103.out) | ((with_reducible refine gate_callee (f := 79) rfl ?_); refine zG (some 22) Try.func79 #[.slice Ao35 t101.length co35, .slice Ao34 t104.length co34] ?_; (with_reducible refine (nat_Cmp.calls k _ _ t101 _ _ t104 t107 _ ?side1 ?side2 ?side3 ?side4 A9.out).mono ?_); (case side1 => exact zC (Kd.V_reads' HO103.out).2.2); (case side2 => exact (Kd.V_reads' HO103.out).2.1); (case side3 => exact zC (Kd.V_reads' HO106.out).2.2); (case side4 => exact (Kd.V_reads' HO106.out).2.1); rintro e w36 ⟨rfl, hb⟩; refine ⟨_, rfl, ?_⟩; replace HO0 := yVb HO0 hb; replace HO1 := yVb HO1 hb; replace HO103 := yVb HO103 hb; replace HO106 := yVb HO106 hb; replace HB := yS HB hb; (try clear hb); (try clear hb2); (try clear hk); (try clear hi)) | ((with_reducible refine gate_callee (f := 129) rfl ?_); refine zG (some 45) Try.func129 #[.slice Ao35 t101.length co35, .slice Ao34 t104.length co34] ?_; (with_reducible refine (nat_long.calls _ _ t101 _ _ t104 t119 t120 _ ?side1 ?side2 ?side3 ?side4 A29.out).mono ?_); (case side1 => exact zC (Kd.V_reads' HO103.out).2.2); (case side2 => exact (Kd.V_reads' HO103.out).2.1); (case side3 => exact zC (Kd.V_reads' HO106.out).2.2); (case side4 => exact (Kd.V_reads' HO106.out).2.1); rintro e w37 ⟨v121, v123, rfl, ho0, ho1, hb⟩; refine ⟨_, rfl, ?_⟩; replace HO0 := yVt HO0 hb ho0 ho1; replace HO1 := yVt HO1 hb ho0 ho1; replace HO103 := yVt HO103 hb ho0 ho1; replace HO106 := yVt HO106 hb ho0 ho1; replace ho0 := Kd.R_newM (M := fun k_ => (w.heap.size ≤ k_)) ho0 (below_size (zB HB.out)) (fun k_ h_ => h_); have HO122 := yRl ho0 HB; replace ho1 := Kd.R_newM (M := fun k_ => (w.heap.size ≤ k_)) ho1 (below_size (zB HB.out)) (fun k_ h_ => h_); have HO124 := yRl ho1 HB; replace HB := yS HB hb; (try clear hb ho0); (try clear ho1); obtain ⟨Ao38, co38, rfl⟩ := Kd.R_slice HO122.out) | ((with_reducible refine gate_callee (f := 103) rfl ?_); refine zG (some 49) Try.func103 #[.slice Ao38 t119.length co38] ?_; (with_reducible refine (nat_Trim.calls k _ _ t119 t125 _ ?side1 ?side2 A30.out).mono ?_); (case side1 => exact zC (Kd.R_reads' HO122.out).2.2); (case side2 => exact (Kd.R_reads' HO122.out).2.1); rintro e w39 ⟨v126, rfl, ho0, hb⟩; refine ⟨_, rfl, ?_⟩; replace HO0 := yVe HO0 ho0 hb; replace HO1 := yVe HO1 ho0 hb; replace HO103 := yVe HO103 ho0 hb; replace HO106 := yVe HO106 ho0 hb; replace ho0 := Kd.R_newM (M := fun k_ => (w.heap.size ≤ k_)) ho0 (below_size (zB HB.out)) (fun k_ h_ => h_); replace ho0 := yn ho0 HO122; replace ho0 := yn ho0 HO124; have HO127 := yRl ho0 HB; replace HO122 := yRe HO122 ho0 hb; replace HO124 := yRe HO124 ho0 hb; replace HB := yS HB hb; (try clear hb ho0); obtain ⟨Ao40, co40, rfl⟩ := Kd.R_slice HO124.out) | ((with_reducible refine gate_callee (f := 103) rfl ?_); refine zG (some 51) Try.func103 #[.slice Ao40 t120.length co40] ?_; (with_reducible refine (nat_Trim.calls k _ _ t120 t128 _ ?side1 ?side2 A31.out).mono ?_); (case side1 => exact zC (Kd.R_reads' HO124.out).2.2); (case side2 => exact (Kd.R_reads' HO124.out).2.1); rintro e w41 ⟨v129, rfl, ho0, hb⟩; refine ⟨_, rfl, ?_⟩; replace HO0 := yVe HO0 ho0 hb; replace HO1 := yVe HO1 ho0 hb; replace HO103 := yVe HO103 ho0 hb; replace HO106 := yVe HO106 ho0 hb; replace ho0 := Kd.R_newM (M := fun k_ => (w.heap.size ≤ k_)) ho0 (below_size (zB HB.out)) (fun k_ h_ => h_); replace ho0 := yn ho0 HO122; replace ho0 := yn ho0 HO124; replace ho0 := yn ho0 HO127; have HO130 := yRl ho0 HB; replace HO122 := yRe HO122 ho0 hb; replace HO124 := yRe HO124 ho0 hb; replace HO127 := yRe HO127 ho0 hb; replace HB := yS HB hb; (try clear hb ho0)))
 go_ret3
 exact ⟨_, _, zE, Kd.V_mono (ok := fun k_ => (w.heap.size ≤ k_) ∧ some k_ ≠ (v129 : Value).ownBlock) (Kd.R_V (by (with_reducible repeat (first | apply Kd.R_alloc | apply Kd.R_drewN | apply Kd.R_drew)); exact Kd.R_mono HO127.out (fun _ hk => ⟨hk.1.1.1.1, hk.2⟩))) (fun k_ hk => by first | exact ⟨(.inr (hk.1)), hk.2⟩ | exact (.inr (hk))), by (with_reducible repeat (first | apply Kd.R_alloc | apply Kd.R_drewN | apply Kd.R_drew)); exact Kd.R_mono HO130.out (fun _ hk => hk.1.1.1.1), zB HB.out⟩
set_option maxHeartbeats 8000000 in
set_option maxRecDepth 100000 in
theorem nat_Gcd.calls (k : Nat) (A0 : Option Addr) (c0 : Nat) (l0 : List Int) (A1 : Option Addr) (c1 : Nat) (l1 : List Int) (r : List Int) (w : World) (hr0 : Kd.C (Kd.int .u32) w A0 l0.length l0) (hc0 : l0.length ≤ c0) (hr1 : Kd.C (Kd.int .u32) w A1 l1.length l1) (hc1 : l1.length ≤ c1) (h : nat_Gcd.f k l0 l1 = some r) :
    Calls Try.prog 108 #[.slice A0 l0.length c0, .slice A1 l1.length c1] w fun e w' => ∃ v0_ : Value, e = .returned (v0_) ∧ Kd.R (Kd.int .u32) 97 w' w.heap.size (fun _ => True) v0_ r ∧ Below w.heap.size w w' := by
 have HR0 := Aside0.mk hr0
 have HC0 := Aside0.mk hc0
 clear hr0 hc0
 have HR1 := Aside0.mk hr1
 have HC1 := Aside0.mk hc1
 clear hr1 hc1
 have HB := Aside0.mk (Below.refl w.heap.size w)
 have H : ((nat_short.f k l0).bind fun t101 => ((nat_short.f k l1).bind fun t104 => (nat_Gcd.l0 k t101 t104))) = some r := h
 clear h
 replace H := zb H
 obtain ⟨t101, A3, H⟩ := H
 replace H := zb H
 obtain ⟨t104, A4, H⟩ := H
 have H' := Aside0.mk H
 clear H
 go_enter Try.func108, Try.ntmps108
 go_wp2_with (first | ((with_reducible refine gate_callee (f := 118) rfl ?_); refine zG (some 9) Try.func118 #[.slice A0 l0.length c0] ?_; (with_reducible refine (nat_short.calls k (fun k_ => k_ < w.heap.size) _ _ l0 t101 _ ?side1 A3.out).mono ?_); (case side1 => exact Kd.V_mk HC0.out (Kd.F_below (Kd.C_F (Kd.heap_int .u32) HR0.out) (zB HB.out))); rintro e w5 ⟨v102, rfl, ho0, hb⟩; refine ⟨_, rfl, ?_⟩; have HO103 := yVm ho0 HB; replace HB := yS HB hb; (try clear hb ho0)) | ((with_reducible refine gate_callee (f := 118) rfl ?_); refine zG (some 11) Try.func118 #[.slice A1 l1.length c1] ?_; (with_reducible refine (nat_short.calls k (fun k_ => k_ < w.heap.size) _ _ l1 t104 _ ?side1 A4.out).mono ?_); (case side1 => exact Kd.V_mk HC1.out (Kd.F_below (Kd.C_F (Kd.heap_int .u32) HR1.out) (zB HB.out))); rintro e w6 ⟨v105, rfl, ho0, hb⟩; refine ⟨_, rfl, ?_⟩; replace HO103 := yVb HO103 hb; have HO106 := yVm ho0 HB; replace HB := yS HB hb; (try clear hb ho0)))
 go_loopg [0, 1] k (fun kq v0 v1 w' => ∃ (x0_1 : List Int) (x1_1 : List Int), Aside0 (nat_Gcd.l0 kq x0_1 x1_1 = some r) ∧ Aside0 (kq ≤ k) ∧ Aside0 (Kd.V (Kd.int .u32) 97 w' w.heap.size (fun _ => True) v0 x0_1) ∧ Aside0 (Kd.V (Kd.int .u32) 97 w' w.heap.size (fun _ => True) v1 x1_1) ∧ Aside0 (Below w.heap.size w w'))
 case atStart => exact ⟨(t101), (t104), H', ⟨Nat.le_refl _⟩, ⟨zV HO103.out⟩, ⟨zV HO106.out⟩, ⟨zB HB.out⟩⟩
 clear H'
 (try clear c1);(try clear p2)
 obtain ⟨x0_1, x1_1, HA, HK1, HO_0, HO_1, HB⟩ := hrel
 cases gk with | zero => exact absurd HA.out (by simp [nat_Gcd.l0]) | succ k1 => ?_
 have H := HA.out
 clear HA
 simp only [nat_Gcd.l0] at H
 replace H := zi H
 rcases H with ⟨c7, H⟩ | ⟨c7, H⟩
 · have c7b0 : decide (0 < (x1_1.length : Int)) = true := decide_eq_true c7
   have c7b1 : decide (0 < x1_1.length) = true := decide_eq_true (by omega)
   clear c7
   replace H := zb H
   obtain ⟨⟨t107, t110, t113⟩, A8, H⟩ := H
   dsimp only at H
   have H' := Aside0.mk H
   clear H
   obtain ⟨Ao9, co9, rfl⟩ := Kd.V_slice HO_1.out
   obtain ⟨Ao10, co10, rfl⟩ := Kd.V_slice HO_0.out
   go_wp2_with (first | ((with_reducible refine gate_callee (f := 105) rfl ?_); refine zG (some 18) Try.func105 #[.slice Ao10 x0_1.length co10, .slice Ao9 x1_1.length co9] ?_; (with_reducible refine (nat_DivMod.calls k1 (fun k_ => True) _ _ x0_1 (fun k_ => True) _ _ x1_1 t107 t110 t113 _ ?side1 ?side2 A8.out).mono ?_); (case side1 => exact HO_0.out); (case side2 => exact HO_1.out); rintro e w11 ⟨v108, v111, rfl, ho0, ho1, hb⟩; refine ⟨_, rfl, ?_⟩; replace HO_0 := yVe HO_0 ho1 hb; replace HO_1 := yVe HO_1 ho1 hb; have HO109 := Aside0.mk (Kd.V_lower (Kd.V_mono (ok' := fun k_ => some k_ ≠ (v111 : Value).ownBlock) ho0 (fun k_ hk_ => hk_.2)) (below_size (zB HB.out))); have HO112 := yRm ho1 HB; replace HB := yS HB hb; (try clear hb ho0); (try clear ho1)))
   go_roundg k1
   case measure => have := HK1.out; omega
   case rel => exact ⟨(x1_1), (t110), H', ⟨zo1 HK1⟩, ⟨by (with_reducible repeat (first | apply Kd.V_alloc | apply Kd.V_drewN | apply Kd.V_drew)); exact Kd.V_mono HO_1.out (fun _ hk => trivial)⟩, ⟨Kd.R_V (zR HO112.out)⟩, ⟨zB HB.out⟩⟩
 have c7b0 : decide (0 < (x1_1.length : Int)) = false := decide_eq_false c7
 have c7b1 : decide (0 < x1_1.length) = false := decide_eq_false (by omega)
 clear c7
 replace H := zb H
 obtain ⟨t114, A12, H⟩ := H
 obtain rfl := Option.some.inj H
 obtain ⟨Ao13, co13, rfl⟩ := Kd.V_slice HO_1.out
 obtain ⟨Ao14, co14, rfl⟩ := Kd.V_slice HO_0.out
 go_wp2_with (first | ((with_reducible refine gate_callee (f := 103) rfl ?_); refine zG (some 25) Try.func103 #[.slice Ao14 x0_1.length co14] ?_; (with_reducible refine (nat_Trim.calls k1 _ _ x0_1 t114 _ ?side1 ?side2 A12.out).mono ?_); (case side1 => exact zC (Kd.V_reads' HO_0.out).2.2); (case side2 => exact (Kd.V_reads' HO_0.out).2.1); rintro e w15 ⟨v115, rfl, ho0, hb⟩; refine ⟨_, rfl, ?_⟩; replace HO_0 := yVe HO_0 ho0 hb; replace HO_1 := yVe HO_1 ho0 hb; have HO116 := yRl ho0 HB; replace HB := yS HB hb; (try clear hb ho0)))
 go_ret
 exact ⟨_, zE, zR HO116.out, zB HB.out⟩
set_option maxHeartbeats 8000000 in
set_option maxRecDepth 100000 in
theorem rational_one.calls  (r : List Int) (w : World) (h : rational_one.f  = some r) :
    Calls Try.prog 141 #[] w fun e w' => ∃ v0_ : Value, e = .returned (v0_) ∧ Kd.R (Kd.int .u32) 97 w' w.heap.size (fun _ => True) v0_ r ∧ Below w.heap.size w w' := by
 have HB := Aside0.mk (Below.refl w.heap.size w)
 have H : (some (([1] : List Int))) = some r := h
 clear h
 obtain ⟨y101, hy101⟩ : ∃ y_ : List Int, y_ = (([1] : List Int)) := ⟨_, rfl⟩
 replace H : (some y101) = some r := zY hy101 H
 have Ny101 := Aside0.mk hy101
 clear hy101
 obtain rfl := Option.some.inj H
 go_enter Try.func141, Try.ntmps141
 go_wp2_with (first | ((with_reducible refine gate_dst (N := 1) rfl ?_); refine Kd.R_lit (Kd.int .u32) _ 97 ?hg (N := 1) ?hd (xs := ([1] : List Int)) (inner := [.int .u32 1]) (ok := fun _ => True) (okp := fun _ => True) ?hr ?hp (fun _ hk => hk) trivial (Below.refl _ _) (Nat.le_refl _) (by simp) ?_; (case hd => rfl); (case hg => rfl); (case hr => first | (go_simp; done) | (go_simp; rfl)); (case hp => exact (Reps.one (show Kd.M (Kd.int .u32) _ _ _ 1 [.int .u32 1] from rfl) (Reps.none _ _))); intro v102 w1 ho2 hb hg_ hnew_; clear hg_ hnew_; (first | rw [← Ny101.out] at ho2 | (simp only [Int.reduceToNat] at ho2; rw [← Ny101.out] at ho2)); have HO103 := yRl ho2 HB; replace HB := yS HB hb; clear hb ho2))
 go_ret
 exact ⟨_, zE, zR HO103.out, zB HB.out⟩
set_option maxHeartbeats 8000000 in
set_option maxRecDepth 100000 in
theorem rational_canonical.calls (k : Nat) (a0 : Bool) (P1_ : Nat → Prop) (A1 : Option Addr) (c1 : Nat) (l1 : List Int) (P2_ : Nat → Prop) (A2 : Option Addr) (c2 : Nat) (l2 : List Int) (r1 : Bool) (r2 : List Int) (r3 : List Int) (w : World) (hs1 : Kd.V (Kd.int .u32) 97 w w.heap.size (fun k_ => P1_ k_) (.slice A1 l1.length c1) l1) (hs2 : Kd.V (Kd.int .u32) 97 w w.heap.size (fun k_ => P2_ k_) (.slice A2 l2.length c2) l2) (h : rational_canonical.f k a0 l1 l2 = some (r1, r2, r3)) :
    Calls Try.prog 131 #[.bool a0, .slice A1 l1.length c1, .slice A2 l2.length c2] w fun e w' => ∃ v1_ v2_ : Value, e = .returned (.agg #[.bool r1, v1_, v2_]) ∧ Kd.V (Kd.int .u32) 97 w' w.heap.size (fun k_ => ((P1_ k_ ∨ P2_ k_) ∨ w.heap.size ≤ k_)) v1_ r2 ∧ Kd.V (Kd.int .u32) 97 w' w.heap.size (fun k_ => ((P1_ k_ ∨ P2_ k_) ∨ w.heap.size ≤ k_)) v2_ r3 ∧ Below w.heap.size w w' := by
 have hu60 := Try.underlying60
 have HO1 := Aside0.mk (show Kd.V (Kd.int .u32) 97 w w.heap.size (fun k_ => ((P1_ k_ ∨ P2_ k_) ∨ w.heap.size ≤ k_)) (.slice A1 l1.length c1) l1 from Kd.V_mono hs1 (fun k_ hk => .inl (.inl hk)))
 have HO2 := Aside0.mk (show Kd.V (Kd.int .u32) 97 w w.heap.size (fun k_ => ((P1_ k_ ∨ P2_ k_) ∨ w.heap.size ≤ k_)) (.slice A2 l2.length c2) l2 from Kd.V_mono hs2 (fun k_ hk => .inl (.inr hk)))
 have HB := Aside0.mk (Below.refl w.heap.size w)
 have H : ((nat_Bits.f k l1).bind fun t102 => (if t102 = 0 then (rational_canonical.j0 k a0 l1 l2 true) else ((nat_Bits.f k l2).bind fun t103 => (rational_canonical.j0 k a0 l1 l2 (t103 == 0))))) = some (r1, r2, r3) := h
 clear h
 have HC4 := Aside0.mk H
 clear H
 go_enter Try.func131, Try.ntmps131
 go_upto_region 1 with (first | ((with_reducible refine gate_dst (N := 6) rfl ?_); refine box_event ?hg (N := 6) ?hd (cs := #[.bool false, .slice none 0 0, .slice none 0 0]) (t := 60) ?hr ?_; (case hd => rfl); (case hg => rfl); (case hr => first | (go_simp; done) | (go_simp; rfl)); intro gb101 hg w5 hbox hb; replace HO1 := yVB HO1 hg hb; replace HO2 := yVB HO2 hg hb; have BK101 := Aside0.mk (hbox); have GW101 := yg hg HB; have GE101 := yg hg HB; replace HB := yS HB hb; clear hb hbox hg))
 (try simp only [Act.put, List.setIfInBounds_toArray, List.set_cons_zero, List.set_cons_succ])
 go_cut [15] (fun v15 wc => ∃ (kq : Nat) (x15_3 : Bool), v15 = .bool x15_3 ∧ Aside0 (rational_canonical.j0 kq a0 l1 l2 x15_3 = some (r1, r2, r3)) ∧ Aside0 (kq ≤ k) ∧ Aside0 (Kd.V (Kd.int .u32) 97 wc w.heap.size (fun k_ => ((P1_ k_ ∨ P2_ k_) ∨ w.heap.size ≤ k_) ∧ k_ ≠ gb101) (.slice A1 l1.length c1) l1) ∧ Aside0 (Kd.V (Kd.int .u32) 97 wc w.heap.size (fun k_ => ((P1_ k_ ∨ P2_ k_) ∨ w.heap.size ≤ k_) ∧ k_ ≠ gb101) (.slice A2 l2.length c2) l2) ∧ Aside0 (wc.heap[gb101]? = some (.cells #[.bool false, (.slice none 0 0), (.slice none 0 0)] 60 (0, 0))) ∧ Aside0 (Below w.heap.size w wc))
 case first =>
  have H := HC4.out
  clear HC4
  replace H := zb H
  obtain ⟨t102, A6, H⟩ := H
  replace H := zi H
  rcases H with ⟨c7, H⟩ | ⟨c7, H⟩
  · have c7b0 := beq_iff_eq.mpr c7
    have c7b1 := bne_eq_false_iff_eq.mpr c7
    clear c7
    (first | rw [c7b0] | (simp only [i64_w, i32_w]; rw [c7b0]) | rw [c7b1] | skip)
    have H' := Aside0.mk H
    clear H
    go_wp2_with (first | ((with_reducible refine gate_callee (f := 87) rfl ?_); refine zG (some 9) Try.func87 #[.slice A1 l1.length c1] ?_; (with_reducible refine (nat_Bits.calls k _ _ l1 t102 _ ?side1 ?side2 A6.out).mono ?_); (case side1 => exact zC (Kd.V_reads' HO1.out).2.2); (case side2 => exact (Kd.V_reads' HO1.out).2.1); rintro e w8 ⟨rfl, hb⟩; refine ⟨_, rfl, ?_⟩; replace HO1 := yVb HO1 hb; replace HO2 := yVb HO2 hb; replace BK101 := yK BK101 hb; replace HB := yS1 HB GE101 hb; (try clear hb); (try clear hb2); (try clear hk); (try clear hi)))
    go_meet
    case rel => exact ⟨_, (true), zF, H', ⟨zO⟩, ⟨zV HO1.out⟩, ⟨zV HO2.out⟩, ⟨by (with_reducible repeat (first | refine blk_drewN ?_ _ | refine blk_drew ?_ | refine blk_alloc ?_ _)); exact BK101.out⟩, ⟨zB1 HB.out GE101.out⟩⟩
  have c7b0 := beq_eq_false_iff_ne.mpr c7
  have c7b1 := bne_iff_ne.mpr c7
  (first | rw [c7b0] | (simp only [i64_w, i32_w]; rw [c7b0]) | rw [c7b1] | skip)
  replace H := zb H
  obtain ⟨t103, A9, H⟩ := H
  have H' := Aside0.mk H
  clear H
  go_wp2_with (first | ((with_reducible refine gate_callee (f := 87) rfl ?_); refine zG (some 9) Try.func87 #[.slice A1 l1.length c1] ?_; (with_reducible refine (nat_Bits.calls k _ _ l1 t102 _ ?side1 ?side2 A6.out).mono ?_); (case side1 => exact zC (Kd.V_reads' HO1.out).2.2); (case side2 => exact (Kd.V_reads' HO1.out).2.1); rintro e w10 ⟨rfl, hb⟩; refine ⟨_, rfl, ?_⟩; replace HO1 := yVb HO1 hb; replace HO2 := yVb HO2 hb; replace BK101 := yK BK101 hb; replace HB := yS1 HB GE101 hb; (try clear hb); (try clear hb2); (try clear hk); (try clear hi)) | (go_at_call 87; (with_reducible refine (nat_Bits.calls k _ _ l2 t103 _ ?side1 ?side2 A9.out).mono ?_); (case side1 => exact zC (Kd.V_reads' HO2.out).2.2); (case side2 => exact (Kd.V_reads' HO2.out).2.1); rintro e w11 ⟨rfl, hb⟩; replace HO1 := yVb HO1 hb; replace HO2 := yVb HO2 hb; replace BK101 := yK BK101 hb; replace HB := yS1 HB GE101 hb; (try clear hb); (try clear hb2); (try clear hk); (try clear hi)))
  go_meet
  case rel => exact ⟨_, ((t103 == 0)), zF, H', ⟨zO⟩, ⟨zV HO1.out⟩, ⟨zV HO2.out⟩, ⟨by (with_reducible repeat (first | refine blk_drewN ?_ _ | refine blk_drew ?_ | refine blk_alloc ?_ _)); exact BK101.out⟩, ⟨zB1 HB.out GE101.out⟩⟩
 clear HC4
 (try clear c1);(try clear c2);(try clear p2);(try clear c7);(try clear c7b0);(try clear c7b1);(try clear c8)
 obtain ⟨kq, x15_3, rfl, HA, HJ3, HO_1, HO_2, BK101, HB⟩ := hcut
 cases kq with | zero => exact absurd HA.out (by simp [rational_canonical.j0]) | succ kj3 => ?_
 have H := HA.out
 clear HA
 simp only [rational_canonical.j0] at H
 by_cases c12 : x15_3 = true
 · subst c12
   rw [if_pos rfl] at H
   replace H := zb H
   obtain ⟨t104, A13, H⟩ := H
   simp only [Option.some.injEq, Prod.mk.injEq] at H
   obtain ⟨rfl, rfl, rfl⟩ := H
   go_wp2_with (first | ((with_reducible refine gate_callee (f := 141) rfl ?_); refine zG (some 16) Try.func141 #[] ?_; (with_reducible refine (rational_one.calls  t104 _ A13.out).mono ?_); rintro e w14 ⟨v105, rfl, ho0, hb⟩; refine ⟨_, rfl, ?_⟩; replace HO_1 := yVe HO_1 ho0 hb; replace HO_2 := yVe HO_2 ho0 hb; replace ho0 := Kd.R_newM (M := fun k_ => (w.heap.size ≤ k_)) ho0 (below_size (zB1 HB.out GE101.out)) (fun k_ h_ => h_); have HO106 := yRl1 ho0 HB GE101; replace BK101 := yK BK101 hb; replace HB := yS1 HB GE101 hb; (try clear hb ho0); obtain ⟨Ao15, co15, rfl⟩ := Kd.R_slice HO106.out; have hcz16_0 : w14.cell? ⟨gb101, 0, none⟩ = some (.bool false) := (blk_cell BK101.out 0).trans rfl; have hcz16_1 : w14.cell? ⟨gb101, 1, none⟩ = some (.slice none 0 0) := (blk_cell BK101.out 1).trans rfl; have hcz16_2 : w14.cell? ⟨gb101, 2, none⟩ = some (.slice none 0 0) := (blk_cell BK101.out 2).trans rfl; have hfz16_0 := blk_frozen BK101.out 0; have hfz16_1 := blk_frozen BK101.out 1; have hfz16_2 := blk_frozen BK101.out 2))
   refine bodyPost_ret (results_cell_row rfl _ _ gb101 60 #[.bool false, .slice none 0 0, .slice Ao15 t104.length co15] (0, 0) _ rfl (by (with_reducible repeat (first | refine blk_drewN ?_ _ | refine blk_drew ?_ | refine blk_alloc ?_ _)); refine blk_put (cs := #[.bool false, .slice none 0 0, .slice none 0 0]) ?_ 2 _ rfl; (with_reducible repeat (first | refine blk_drewN ?_ _ | refine blk_drew ?_ | refine blk_alloc ?_ _)); refine blk_put (cs := #[.bool false, .slice none 0 0, .slice none 0 0]) ?_ 1 _ rfl; (with_reducible repeat (first | refine blk_drewN ?_ _ | refine blk_drew ?_ | refine blk_alloc ?_ _)); refine blk_put (cs := #[.bool false, .slice none 0 0, .slice none 0 0]) ?_ 0 _ rfl; (with_reducible repeat (first | refine blk_drewN ?_ _ | refine blk_drew ?_ | refine blk_alloc ?_ _)); exact BK101.out) Try.underlying60 rfl (by kernel_rfl)) rfl ?_
   exact ⟨_, _, zE, by exact Kd.V_nil _ _ _ _ _, Kd.V_mono (Kd.R_V (by (with_reducible repeat (first | apply Kd.R_alloc | apply Kd.R_drewN | apply Kd.R_drew)); exact yf HO106.out BK101.out (fun _ hk => hk.1.1))) (fun k_ hk => by first | exact ⟨(.inr (hk.1)), hk.2⟩ | exact (.inr (hk))), zB1 HB.out GE101.out⟩
 replace c12 := Bool.eq_false_iff.mpr c12
 subst c12
 rw [if_neg Bool.false_ne_true] at H
 replace H := zb H
 obtain ⟨t107, A17, H⟩ := H
 replace H := zb H
 obtain ⟨⟨t110, t113, t116⟩, A18, H⟩ := H
 dsimp only at H
 replace H := zb H
 obtain ⟨⟨t117, t120, t123⟩, A19, H⟩ := H
 dsimp only at H
 simp only [Option.some.injEq, Prod.mk.injEq] at H
 obtain ⟨rfl, rfl, rfl⟩ := H
 go_wp2_with (first | ((with_reducible refine gate_callee (f := 108) rfl ?_); refine zG (some 20) Try.func108 #[.slice A1 l1.length c1, .slice A2 l2.length c2] ?_; (with_reducible refine (nat_Gcd.calls kj3 _ _ l1 _ _ l2 t107 _ ?side1 ?side2 ?side3 ?side4 A17.out).mono ?_); (case side1 => exact zC (Kd.V_reads' HO_1.out).2.2); (case side2 => exact (Kd.V_reads' HO_1.out).2.1); (case side3 => exact zC (Kd.V_reads' HO_2.out).2.2); (case side4 => exact (Kd.V_reads' HO_2.out).2.1); rintro e w20 ⟨v108, rfl, ho0, hb⟩; refine ⟨_, rfl, ?_⟩; replace HO_1 := yVe HO_1 ho0 hb; replace HO_2 := yVe HO_2 ho0 hb; replace ho0 := Kd.R_newM (M := fun k_ => (w.heap.size ≤ k_)) ho0 (below_size (zB1 HB.out GE101.out)) (fun k_ h_ => h_); have HO109 := yRl1 ho0 HB GE101; replace BK101 := yK BK101 hb; replace HB := yS1 HB GE101 hb; (try clear hb ho0); obtain ⟨Ao21, co21, rfl⟩ := Kd.R_slice HO109.out) | ((with_reducible refine gate_callee (f := 105) rfl ?_); refine zG (some 24) Try.func105 #[.slice A1 l1.length c1, .slice Ao21 t107.length co21] ?_; (with_reducible refine (nat_DivMod.calls kj3 (fun k_ => ((((P1_ k_ ∨ P2_ k_) ∨ w.heap.size ≤ k_) ∧ k_ ≠ gb101) ∧ some k_ ≠ (.slice Ao21 t107.length co21 : Value).ownBlock)) _ _ l1 (fun k_ => some k_ = (.slice Ao21 t107.length co21 : Value).ownBlock) _ _ t107 t110 t113 t116 _ ?side1 ?side2 A18.out).mono ?_); (case side1 => exact HO_1.out); (case side2 => exact Kd.R_V (Kd.R_tight rfl (Kd.R_types (HO109.out) BK101.out (by decide)))); rintro e w22 ⟨v111, v114, rfl, ho0, ho1, hb⟩; refine ⟨_, rfl, ?_⟩; replace HO_1 := yVe HO_1 ho1 hb; replace HO_2 := yVe HO_2 ho1 hb; have HO112 := Aside0.mk (Kd.V_lower (Kd.V_mono (ok' := fun k_ => ((P1_ k_ ∨ P2_ k_) ∨ w.heap.size ≤ k_) ∧ some k_ ≠ (v114 : Value).ownBlock ∧ k_ ≠ gb101) ho0 (fun k_ hk_ => ⟨Or.elim hk_.1 (fun hs_ => Or.elim hs_ (fun hs_ => hs_.1.1) (fun hs_ => (.inr (((Kd.R_types (HO109.out) BK101.out (by decide)).1 k_ hs_.symm).1.1)))) (fun hn_ => (.inr (Nat.le_trans (below_size (zB1 HB.out GE101.out)) hn_))), hk_.2, Or.elim hk_.1 (fun hs_ => Or.elim hs_ (fun hs_ => hs_.1.2) (fun hs_ => ((Kd.R_types (HO109.out) BK101.out (by decide)).1 k_ hs_.symm).2)) (fun hn_ => (Kd.freshB (g := gb101) (o := .cells #[.bool false, .slice none 0 0, .slice none 0 0] 60 (0, 0)) (by (with_reducible repeat (first | refine blk_drewN ?_ _ | refine blk_drew ?_ | refine blk_alloc ?_ _)); exact BK101.out) k_ hn_))⟩)) (below_size (zB1 HB.out GE101.out))); replace ho1 := Kd.R_newM (M := fun k_ => (w.heap.size ≤ k_)) (yt ho1) (below_size (zB1 HB.out GE101.out)) (fun k_ h_ => h_); replace ho1 := yn ho1 HO109; have HO115 := yRl1 ho1 HB GE101; replace HO109 := yRe HO109 ho1 hb; replace BK101 := yK BK101 hb; replace HB := yS1 HB GE101 hb; (try clear hb ho0); (try clear ho1)) | ((with_reducible refine gate_callee (f := 105) rfl ?_); refine zG (some 31) Try.func105 #[.slice A2 l2.length c2, .slice Ao21 t107.length co21] ?_; (with_reducible refine (nat_DivMod.calls kj3 (fun k_ => (((((P1_ k_ ∨ P2_ k_) ∨ w.heap.size ≤ k_) ∧ k_ ≠ gb101) ∧ some k_ ≠ (.slice Ao21 t107.length co21 : Value).ownBlock) ∧ some k_ ≠ (v114 : Value).ownBlock)) _ _ l2 (fun k_ => some k_ = (.slice Ao21 t107.length co21 : Value).ownBlock) _ _ t107 t117 t120 t123 _ ?side1 ?side2 A19.out).mono ?_); (case side1 => exact HO_2.out); (case side2 => exact Kd.R_V (Kd.R_tight rfl (Kd.R_types (HO109.out) BK101.out (by decide)))); rintro e w23 ⟨v118, v121, rfl, ho0, ho1, hb⟩; refine ⟨_, rfl, ?_⟩; replace HO_1 := yVe HO_1 ho1 hb; replace HO_2 := yVe HO_2 ho1 hb; replace HO112 := yVe HO112 ho1 hb; have HO119 := Aside0.mk (Kd.V_lower (Kd.V_mono (ok' := fun k_ => ((P1_ k_ ∨ P2_ k_) ∨ w.heap.size ≤ k_) ∧ some k_ ≠ (v121 : Value).ownBlock ∧ some k_ ≠ (v114 : Value).ownBlock ∧ k_ ≠ gb101) ho0 (fun k_ hk_ => ⟨Or.elim hk_.1 (fun hs_ => Or.elim hs_ (fun hs_ => hs_.1.1.1) (fun hs_ => (.inr (((Kd.R_types (HO109.out) BK101.out (by decide)).1 k_ hs_.symm).1.1.1)))) (fun hn_ => (.inr (Nat.le_trans (below_size (zB1 HB.out GE101.out)) hn_))), hk_.2, Or.elim hk_.1 (fun hs_ => Or.elim hs_ (fun hs_ => hs_.2) (fun hs_ => ((Kd.R_types (HO109.out) BK101.out (by decide)).1 k_ hs_.symm).1.2)) (fun hn_ => (Kd.fresh' (Kd.R_lt (zR HO115.out)) k_ hn_)), Or.elim hk_.1 (fun hs_ => Or.elim hs_ (fun hs_ => hs_.1.1.2) (fun hs_ => ((Kd.R_types (HO109.out) BK101.out (by decide)).1 k_ hs_.symm).2)) (fun hn_ => (Kd.freshB (g := gb101) (o := .cells #[.bool false, .slice none 0 0, .slice none 0 0] 60 (0, 0)) (by (with_reducible repeat (first | refine blk_drewN ?_ _ | refine blk_drew ?_ | refine blk_alloc ?_ _)); exact BK101.out) k_ hn_))⟩)) (below_size (zB1 HB.out GE101.out))); replace ho1 := Kd.R_newM (M := fun k_ => (w.heap.size ≤ k_)) (yt ho1) (below_size (zB1 HB.out GE101.out)) (fun k_ h_ => h_); replace ho1 := yn ho1 HO109; replace ho1 := yn ho1 HO115; have HO122 := yRl1 ho1 HB GE101; replace HO109 := yRe HO109 ho1 hb; replace HO115 := yRe HO115 ho1 hb; replace BK101 := yK BK101 hb; replace HB := yS1 HB GE101 hb; (try clear hb ho0); (try clear ho1); obtain ⟨Ao24, co24, rfl⟩ := Kd.V_slice HO119.out; obtain ⟨Ao25, co25, rfl⟩ := Kd.V_slice HO112.out; have hcz26_0 : w23.cell? ⟨gb101, 0, none⟩ = some (.bool false) := (blk_cell BK101.out 0).trans rfl; have hcz26_1 : w23.cell? ⟨gb101, 1, none⟩ = some (.slice none 0 0) := (blk_cell BK101.out 1).trans rfl; have hcz26_2 : w23.cell? ⟨gb101, 2, none⟩ = some (.slice none 0 0) := (blk_cell BK101.out 2).trans rfl; have hfz26_0 := blk_frozen BK101.out 0; have hfz26_1 := blk_frozen BK101.out 1; have hfz26_2 := blk_frozen BK101.out 2))
 refine bodyPost_ret (results_cell_row rfl _ _ gb101 60 #[.bool a0, .slice Ao25 t110.length co25, .slice Ao24 t117.length co24] (0, 0) _ rfl (by (with_reducible repeat (first | refine blk_drewN ?_ _ | refine blk_drew ?_ | refine blk_alloc ?_ _)); refine blk_put (cs := #[.bool a0, .slice Ao25 t110.length co25, .slice none 0 0]) ?_ 2 _ rfl; (with_reducible repeat (first | refine blk_drewN ?_ _ | refine blk_drew ?_ | refine blk_alloc ?_ _)); refine blk_put (cs := #[.bool a0, .slice none 0 0, .slice none 0 0]) ?_ 1 _ rfl; (with_reducible repeat (first | refine blk_drewN ?_ _ | refine blk_drew ?_ | refine blk_alloc ?_ _)); refine blk_put (cs := #[.bool false, .slice none 0 0, .slice none 0 0]) ?_ 0 _ rfl; (with_reducible repeat (first | refine blk_drewN ?_ _ | refine blk_drew ?_ | refine blk_alloc ?_ _)); exact BK101.out) Try.underlying60 rfl (by kernel_rfl)) rfl ?_
 exact ⟨_, _, zE, by (with_reducible repeat (first | apply Kd.V_alloc | apply Kd.V_drewN | apply Kd.V_drew)); exact Kd.V_mono (Kd.V_far (p := ⟨gb101, 2, none⟩) (Kd.V_far (p := ⟨gb101, 1, none⟩) (Kd.V_far (p := ⟨gb101, 0, none⟩) (Kd.V_mono HO112.out (fun k_ hk => (⟨hk, hk.1.2.2⟩ : _ ∧ k_ ≠ gb101))) (fun _ hk => hk.2) (.bool a0)) (fun _ hk => hk.2) (.slice Ao25 t110.length co25)) (fun _ hk => hk.2) (.slice Ao24 t117.length co24)) (fun _ hk => hk.1.1.1), by (with_reducible repeat (first | apply Kd.V_alloc | apply Kd.V_drewN | apply Kd.V_drew)); exact Kd.V_mono (Kd.V_far (p := ⟨gb101, 2, none⟩) (Kd.V_far (p := ⟨gb101, 1, none⟩) (Kd.V_far (p := ⟨gb101, 0, none⟩) (Kd.V_mono HO119.out (fun k_ hk => (⟨hk, hk.2.2.2⟩ : _ ∧ k_ ≠ gb101))) (fun _ hk => hk.2) (.bool a0)) (fun _ hk => hk.2) (.slice Ao25 t110.length co25)) (fun _ hk => hk.2) (.slice Ao24 t117.length co24)) (fun _ hk => hk.1.1), zB1 HB.out GE101.out⟩
set_option maxHeartbeats 8000000 in
set_option maxRecDepth 100000 in
theorem rational_Trim.calls (k : Nat) (a0_0 : Bool) (P0_1_ : Nat → Prop) (A0_1 : Option Addr) (c0_1 : Nat) (l0_1 : List Int) (P0_2_ : Nat → Prop) (A0_2 : Option Addr) (c0_2 : Nat) (l0_2 : List Int) (r1 : Bool) (r2 : List Int) (r3 : List Int) (w : World) (hs0_1 : Kd.V (Kd.int .u32) 97 w w.heap.size (fun k_ => P0_1_ k_) (.slice A0_1 l0_1.length c0_1) l0_1) (hs0_2 : Kd.V (Kd.int .u32) 97 w w.heap.size (fun k_ => P0_2_ k_) (.slice A0_2 l0_2.length c0_2) l0_2) (h : rational_Trim.f k a0_0 l0_1 l0_2 = some (r1, r2, r3)) :
    Calls Try.prog 107 #[.agg #[.bool a0_0, .slice A0_1 l0_1.length c0_1, .slice A0_2 l0_2.length c0_2]] w fun e w' => ∃ v1_ v2_ : Value, e = .returned (.agg #[.bool r1, v1_, v2_]) ∧ Kd.V (Kd.int .u32) 97 w' w.heap.size (fun k_ => ((P0_1_ k_ ∨ P0_2_ k_) ∨ w.heap.size ≤ k_)) v1_ r2 ∧ Kd.V (Kd.int .u32) 97 w' w.heap.size (fun k_ => ((P0_1_ k_ ∨ P0_2_ k_) ∨ w.heap.size ≤ k_)) v2_ r3 ∧ Below w.heap.size w w' := by
 have hu60 := Try.underlying60
 have HO0_1 := Aside0.mk (show Kd.V (Kd.int .u32) 97 w w.heap.size (fun k_ => ((P0_1_ k_ ∨ P0_2_ k_) ∨ w.heap.size ≤ k_)) (.slice A0_1 l0_1.length c0_1) l0_1 from Kd.V_mono hs0_1 (fun k_ hk => .inl (.inl hk)))
 have HO0_2 := Aside0.mk (show Kd.V (Kd.int .u32) 97 w w.heap.size (fun k_ => ((P0_1_ k_ ∨ P0_2_ k_) ∨ w.heap.size ≤ k_)) (.slice A0_2 l0_2.length c0_2) l0_2 from Kd.V_mono hs0_2 (fun k_ hk => .inl (.inr hk)))
 have HB := Aside0.mk (Below.refl w.heap.size w)
 have H : ((rational_canonical.f k a0_0 l0_1 l0_2).bind fun bt103 => (some (bt103.1, bt103.2.1, bt103.2.2))) = some (r1, r2, r3) := h
 clear h
 replace H := zb H
 obtain ⟨⟨t103, t104, t107⟩, A2, H⟩ := H
 dsimp only at H
 simp only [Option.some.injEq, Prod.mk.injEq] at H
 obtain ⟨rfl, rfl, rfl⟩ := H
 go_enter Try.func107, Try.ntmps107
 go_wp2_with (first | ((with_reducible refine gate_dst (N := 1) rfl ?_); refine box_event ?hg (N := 1) ?hd (cs := #[.bool a0_0, .slice A0_1 l0_1.length c0_1, .slice A0_2 l0_2.length c0_2]) (t := 60) ?hr ?_; (case hd => rfl); (case hg => rfl); (case hr => first | (go_simp; done) | (go_simp; rfl)); intro gb101 hg w3 hbox hb; replace HO0_1 := yVB HO0_1 hg hb; replace HO0_2 := yVB HO0_2 hg hb; have BK101 := Aside0.mk (hbox); have GW101 := yg hg HB; have GE101 := yg hg HB; replace HB := yS HB hb; clear hb hbox hg) | ((with_reducible refine gate_dst (N := 2) rfl ?_); refine box_event ?hg (N := 2) ?hd (cs := #[.bool false, .slice none 0 0, .slice none 0 0]) (t := 60) ?hr ?_; (case hd => rfl); (case hg => rfl); (case hr => first | (go_simp; done) | (go_simp; rfl)); intro gb102 hg w4 hbox hb; replace HO0_1 := yVB HO0_1 hg hb; replace HO0_2 := yVB HO0_2 hg hb; have BK102 := Aside0.mk (hbox); have GW102 := yg1 hg HB GE101; have GE102 := yg1 hg HB GE101; replace HB := yS1 HB GE101 hb; have NB101_102 := ynl hg BK101; have NB102_101 := yng hg BK101; replace BK101 := yK BK101 hb; clear hb hbox hg; have hnb5 := NB101_102.out; have hnc5 := NB102_101.out; have hcz6_0 : w4.cell? ⟨gb101, 0, none⟩ = some (.bool a0_0) := (blk_cell BK101.out 0).trans rfl; have hcz6_1 : w4.cell? ⟨gb101, 1, none⟩ = some (.slice A0_1 l0_1.length c0_1) := (blk_cell BK101.out 1).trans rfl; have hcz6_2 : w4.cell? ⟨gb101, 2, none⟩ = some (.slice A0_2 l0_2.length c0_2) := (blk_cell BK101.out 2).trans rfl; have hfz6_0 := blk_frozen BK101.out 0; have hfz6_1 := blk_frozen BK101.out 1; have hfz6_2 := blk_frozen BK101.out 2) | ((with_reducible refine gate_callee (f := 131) rfl ?_); refine zG (some 9) Try.func131 #[.bool a0_0, .slice A0_1 l0_1.length c0_1, .slice A0_2 l0_2.length c0_2] ?_; (with_reducible refine (rational_canonical.calls k a0_0 (fun k_ => ((((P0_1_ k_ ∨ P0_2_ k_) ∨ w.heap.size ≤ k_) ∧ k_ ≠ gb101) ∧ k_ ≠ gb102)) _ _ l0_1 (fun k_ => ((((P0_1_ k_ ∨ P0_2_ k_) ∨ w.heap.size ≤ k_) ∧ k_ ≠ gb101) ∧ k_ ≠ gb102)) _ _ l0_2 t103 t104 t107 _ ?side1 ?side2 A2.out).mono ?_); (case side1 => exact HO0_1.out); (case side2 => exact HO0_2.out); rintro e w7 ⟨v105, v108, rfl, ho0, ho1, hb⟩; refine ⟨_, rfl, ?_⟩; replace HO0_1 := yVb HO0_1 hb; replace HO0_2 := yVb HO0_2 hb; have HO106 := Aside0.mk (Kd.V_lower (Kd.V_mono (ok' := fun k_ => ((P0_1_ k_ ∨ P0_2_ k_) ∨ w.heap.size ≤ k_) ∧ k_ ≠ gb101 ∧ k_ ≠ gb102) ho0 (fun k_ hk_ => ⟨Or.elim hk_ (fun hs_ => Or.elim hs_ (fun hs_ => hs_.1.1) (fun hs_ => hs_.1.1)) (fun hn_ => (.inr (Nat.le_trans (below_size (zB2 HB.out GE101.out GE102.out)) hn_))), Or.elim hk_ (fun hs_ => Or.elim hs_ (fun hs_ => hs_.1.2) (fun hs_ => hs_.1.2)) (fun hn_ => (Kd.freshB (g := gb101) (o := .cells #[.bool a0_0, .slice A0_1 l0_1.length c0_1, .slice A0_2 l0_2.length c0_2] 60 (0, 0)) (by (with_reducible repeat (first | refine blk_drewN ?_ _ | refine blk_drew ?_ | refine blk_alloc ?_ _)); exact BK101.out) k_ hn_)), Or.elim hk_ (fun hs_ => Or.elim hs_ (fun hs_ => hs_.2) (fun hs_ => hs_.2)) (fun hn_ => (Kd.freshB (g := gb102) (o := .cells #[.bool false, .slice none 0 0, .slice none 0 0] 60 (0, 0)) (by (with_reducible repeat (first | refine blk_drewN ?_ _ | refine blk_drew ?_ | refine blk_alloc ?_ _)); exact BK102.out) k_ hn_))⟩)) (below_size (zB2 HB.out GE101.out GE102.out))); have HO109 := Aside0.mk (Kd.V_lower (Kd.V_mono (ok' := fun k_ => ((P0_1_ k_ ∨ P0_2_ k_) ∨ w.heap.size ≤ k_) ∧ k_ ≠ gb101 ∧ k_ ≠ gb102) ho1 (fun k_ hk_ => ⟨Or.elim hk_ (fun hs_ => Or.elim hs_ (fun hs_ => hs_.1.1) (fun hs_ => hs_.1.1)) (fun hn_ => (.inr (Nat.le_trans (below_size (zB2 HB.out GE101.out GE102.out)) hn_))), Or.elim hk_ (fun hs_ => Or.elim hs_ (fun hs_ => hs_.1.2) (fun hs_ => hs_.1.2)) (fun hn_ => (Kd.freshB (g := gb101) (o := .cells #[.bool a0_0, .slice A0_1 l0_1.length c0_1, .slice A0_2 l0_2.length c0_2] 60 (0, 0)) (by (with_reducible repeat (first | refine blk_drewN ?_ _ | refine blk_drew ?_ | refine blk_alloc ?_ _)); exact BK101.out) k_ hn_)), Or.elim hk_ (fun hs_ => Or.elim hs_ (fun hs_ => hs_.2) (fun hs_ => hs_.2)) (fun hn_ => (Kd.freshB (g := gb102) (o := .cells #[.bool false, .slice none 0 0, .slice none 0 0] 60 (0, 0)) (by (with_reducible repeat (first | refine blk_drewN ?_ _ | refine blk_drew ?_ | refine blk_alloc ?_ _)); exact BK102.out) k_ hn_))⟩)) (below_size (zB2 HB.out GE101.out GE102.out))); replace BK101 := yK BK101 hb; replace BK102 := yK BK102 hb; replace HB := yS2 HB GE101 GE102 hb; (try clear hb ho0); (try clear ho1); have hcz8_0 : w7.cell? ⟨gb102, 0, none⟩ = some (.bool false) := (blk_cell BK102.out 0).trans rfl; have hcz8_1 : w7.cell? ⟨gb102, 1, none⟩ = some (.slice none 0 0) := (blk_cell BK102.out 1).trans rfl; have hcz8_2 : w7.cell? ⟨gb102, 2, none⟩ = some (.slice none 0 0) := (blk_cell BK102.out 2).trans rfl; have hfz8_0 := blk_frozen BK102.out 0; have hfz8_1 := blk_frozen BK102.out 1; have hfz8_2 := blk_frozen BK102.out 2; obtain ⟨Ao9, co9, rfl⟩ := Kd.V_slice HO106.out; obtain ⟨Ao10, co10, rfl⟩ := Kd.V_slice HO109.out))
 refine bodyPost_ret (results_cell_row rfl _ _ gb102 60 #[.bool t103, .slice Ao9 t104.length co9, .slice Ao10 t107.length co10] (0, 0) _ rfl (by (with_reducible repeat (first | refine blk_drewN ?_ _ | refine blk_drew ?_ | refine blk_alloc ?_ _)); refine blk_put (cs := #[.bool t103, .slice Ao9 t104.length co9, .slice none 0 0]) ?_ 2 _ rfl; (with_reducible repeat (first | refine blk_drewN ?_ _ | refine blk_drew ?_ | refine blk_alloc ?_ _)); refine blk_put (cs := #[.bool t103, .slice none 0 0, .slice none 0 0]) ?_ 1 _ rfl; (with_reducible repeat (first | refine blk_drewN ?_ _ | refine blk_drew ?_ | refine blk_alloc ?_ _)); refine blk_put (cs := #[.bool false, .slice none 0 0, .slice none 0 0]) ?_ 0 _ rfl; (with_reducible repeat (first | refine blk_drewN ?_ _ | refine blk_drew ?_ | refine blk_alloc ?_ _)); exact BK102.out) Try.underlying60 rfl (by kernel_rfl)) rfl ?_
 exact ⟨_, _, zE, by (with_reducible repeat (first | apply Kd.V_alloc | apply Kd.V_drewN | apply Kd.V_drew)); exact Kd.V_mono (Kd.V_far (p := ⟨gb102, 2, none⟩) (Kd.V_far (p := ⟨gb102, 1, none⟩) (Kd.V_far (p := ⟨gb102, 0, none⟩) (Kd.V_mono HO106.out (fun k_ hk => (⟨hk, hk.2.2⟩ : _ ∧ k_ ≠ gb102))) (fun _ hk => hk.2) (.bool t103)) (fun _ hk => hk.2) (.slice Ao9 t104.length co9)) (fun _ hk => hk.2) (.slice Ao10 t107.length co10)) (fun _ hk => hk.1.1), by (with_reducible repeat (first | apply Kd.V_alloc | apply Kd.V_drewN | apply Kd.V_drew)); exact Kd.V_mono (Kd.V_far (p := ⟨gb102, 2, none⟩) (Kd.V_far (p := ⟨gb102, 1, none⟩) (Kd.V_far (p := ⟨gb102, 0, none⟩) (Kd.V_mono HO109.out (fun k_ hk => (⟨hk, hk.2.2⟩ : _ ∧ k_ ≠ gb102))) (fun _ hk => hk.2) (.bool t103)) (fun _ hk => hk.2) (.slice Ao9 t104.length co9)) (fun _ hk => hk.2) (.slice Ao10 t107.length co10)) (fun _ hk => hk.1.1), zB2 HB.out GE101.out GE102.out⟩
set_option maxHeartbeats 8000000 in
set_option maxRecDepth 100000 in
theorem macwilliams_ratio.calls (k : Nat) (a0_0 : Bool) (P0_1_ : Nat → Prop) (A0_1 : Option Addr) (c0_1 : Nat) (l0_1 : List Int) (P1_ : Nat → Prop) (A1 : Option Addr) (c1 : Nat) (l1 : List Int) (r1 : Bool) (r2 : List Int) (r3 : List Int) (w : World) (hs0_1 : Kd.V (Kd.int .u32) 97 w w.heap.size (fun k_ => P0_1_ k_) (.slice A0_1 l0_1.length c0_1) l0_1) (hs1 : Kd.V (Kd.int .u32) 97 w w.heap.size (fun k_ => P1_ k_) (.slice A1 l1.length c1) l1) (h : macwilliams_ratio.f k a0_0 l0_1 l1 = some (r1, r2, r3)) :
    Calls Try.prog 93 #[.agg #[.bool a0_0, .slice A0_1 l0_1.length c0_1], .slice A1 l1.length c1] w fun e w' => ∃ v1_ v2_ : Value, e = .returned (.agg #[.bool r1, v1_, v2_]) ∧ Kd.V (Kd.int .u32) 97 w' w.heap.size (fun k_ => ((P0_1_ k_ ∨ P1_ k_) ∨ w.heap.size ≤ k_)) v1_ r2 ∧ Kd.V (Kd.int .u32) 97 w' w.heap.size (fun k_ => ((P0_1_ k_ ∨ P1_ k_) ∨ w.heap.size ≤ k_)) v2_ r3 ∧ Below w.heap.size w w' := by
 have hu113 := Try.underlying113
 have hu60 := Try.underlying60
 have HO0_1 := Aside0.mk (show Kd.V (Kd.int .u32) 97 w w.heap.size (fun k_ => ((P0_1_ k_ ∨ P1_ k_) ∨ w.heap.size ≤ k_)) (.slice A0_1 l0_1.length c0_1) l0_1 from Kd.V_mono hs0_1 (fun k_ hk => .inl (.inl hk)))
 have HO1 := Aside0.mk (show Kd.V (Kd.int .u32) 97 w w.heap.size (fun k_ => ((P0_1_ k_ ∨ P1_ k_) ∨ w.heap.size ≤ k_)) (.slice A1 l1.length c1) l1 from Kd.V_mono hs1 (fun k_ hk => .inl (.inr hk)))
 have HB := Aside0.mk (Below.refl w.heap.size w)
 have H : ((rational_Trim.f k a0_0 l0_1 l1).bind fun bt103 => (some (bt103.1, bt103.2.1, bt103.2.2))) = some (r1, r2, r3) := h
 clear h
 replace H := zb H
 obtain ⟨⟨t103, t104, t107⟩, A3, H⟩ := H
 dsimp only at H
 simp only [Option.some.injEq, Prod.mk.injEq] at H
 obtain ⟨rfl, rfl, rfl⟩ := H
 go_enter Try.func93, Try.ntmps93
 go_wp2_with (first | ((with_reducible refine gate_dst (N := 2) rfl ?_); refine box_event ?hg (N := 2) ?hd (cs := #[.bool a0_0, .slice A0_1 l0_1.length c0_1]) (t := 113) ?hr ?_; (case hd => rfl); (case hg => rfl); (case hr => first | (go_simp; done) | (go_simp; rfl)); intro gb101 hg w4 hbox hb; replace HO0_1 := yVB HO0_1 hg hb; replace HO1 := yVB HO1 hg hb; have BK101 := Aside0.mk (hbox); have GW101 := yg hg HB; have GE101 := yg hg HB; replace HB := yS HB hb; clear hb hbox hg) | ((with_reducible refine gate_dst (N := 4) rfl ?_); refine box_event ?hg (N := 4) ?hd (cs := #[.bool false, .slice none 0 0, .slice none 0 0]) (t := 60) ?hr ?_; (case hd => rfl); (case hg => rfl); (case hr => first | (go_simp; done) | (go_simp; rfl)); intro gb102 hg w5 hbox hb; replace HO0_1 := yVB HO0_1 hg hb; replace HO1 := yVB HO1 hg hb; have BK102 := Aside0.mk (hbox); have GW102 := yg1 hg HB GE101; have GE102 := yg1 hg HB GE101; replace HB := yS1 HB GE101 hb; have NB101_102 := ynl hg BK101; have NB102_101 := yng hg BK101; replace BK101 := yK BK101 hb; clear hb hbox hg; have hnb6 := NB101_102.out; have hnc6 := NB102_101.out; have hcz7_0 : w5.cell? ⟨gb101, 0, none⟩ = some (.bool a0_0) := (blk_cell BK101.out 0).trans rfl; have hcz7_1 : w5.cell? ⟨gb101, 1, none⟩ = some (.slice A0_1 l0_1.length c0_1) := (blk_cell BK101.out 1).trans rfl; have hfz7_0 := blk_frozen BK101.out 0; have hfz7_1 := blk_frozen BK101.out 1) | ((with_reducible refine gate_callee (f := 107) rfl ?_); refine zG (some 11) Try.func107 #[.agg #[.bool a0_0, .slice A0_1 l0_1.length c0_1, .slice A1 l1.length c1]] ?_; (with_reducible refine (rational_Trim.calls k a0_0 (fun k_ => ((((P0_1_ k_ ∨ P1_ k_) ∨ w.heap.size ≤ k_) ∧ k_ ≠ gb101) ∧ k_ ≠ gb102)) _ _ l0_1 (fun k_ => ((((P0_1_ k_ ∨ P1_ k_) ∨ w.heap.size ≤ k_) ∧ k_ ≠ gb101) ∧ k_ ≠ gb102)) _ _ l1 t103 t104 t107 _ ?side1 ?side2 A3.out).mono ?_); (case side1 => exact HO0_1.out); (case side2 => exact HO1.out); rintro e w8 ⟨v105, v108, rfl, ho0, ho1, hb⟩; refine ⟨_, rfl, ?_⟩; replace HO0_1 := yVb HO0_1 hb; replace HO1 := yVb HO1 hb; have HO106 := Aside0.mk (Kd.V_lower (Kd.V_mono (ok' := fun k_ => ((P0_1_ k_ ∨ P1_ k_) ∨ w.heap.size ≤ k_) ∧ k_ ≠ gb101 ∧ k_ ≠ gb102) ho0 (fun k_ hk_ => ⟨Or.elim hk_ (fun hs_ => Or.elim hs_ (fun hs_ => hs_.1.1) (fun hs_ => hs_.1.1)) (fun hn_ => (.inr (Nat.le_trans (below_size (zB2 HB.out GE101.out GE102.out)) hn_))), Or.elim hk_ (fun hs_ => Or.elim hs_ (fun hs_ => hs_.1.2) (fun hs_ => hs_.1.2)) (fun hn_ => (Kd.freshB (g := gb101) (o := .cells #[.bool a0_0, .slice A0_1 l0_1.length c0_1] 113 (0, 0)) (by (with_reducible repeat (first | refine blk_drewN ?_ _ | refine blk_drew ?_ | refine blk_alloc ?_ _)); exact BK101.out) k_ hn_)), Or.elim hk_ (fun hs_ => Or.elim hs_ (fun hs_ => hs_.2) (fun hs_ => hs_.2)) (fun hn_ => (Kd.freshB (g := gb102) (o := .cells #[.bool false, .slice none 0 0, .slice none 0 0] 60 (0, 0)) (by (with_reducible repeat (first | refine blk_drewN ?_ _ | refine blk_drew ?_ | refine blk_alloc ?_ _)); exact BK102.out) k_ hn_))⟩)) (below_size (zB2 HB.out GE101.out GE102.out))); have HO109 := Aside0.mk (Kd.V_lower (Kd.V_mono (ok' := fun k_ => ((P0_1_ k_ ∨ P1_ k_) ∨ w.heap.size ≤ k_) ∧ k_ ≠ gb101 ∧ k_ ≠ gb102) ho1 (fun k_ hk_ => ⟨Or.elim hk_ (fun hs_ => Or.elim hs_ (fun hs_ => hs_.1.1) (fun hs_ => hs_.1.1)) (fun hn_ => (.inr (Nat.le_trans (below_size (zB2 HB.out GE101.out GE102.out)) hn_))), Or.elim hk_ (fun hs_ => Or.elim hs_ (fun hs_ => hs_.1.2) (fun hs_ => hs_.1.2)) (fun hn_ => (Kd.freshB (g := gb101) (o := .cells #[.bool a0_0, .slice A0_1 l0_1.length c0_1] 113 (0, 0)) (by (with_reducible repeat (first | refine blk_drewN ?_ _ | refine blk_drew ?_ | refine blk_alloc ?_ _)); exact BK101.out) k_ hn_)), Or.elim hk_ (fun hs_ => Or.elim hs_ (fun hs_ => hs_.2) (fun hs_ => hs_.2)) (fun hn_ => (Kd.freshB (g := gb102) (o := .cells #[.bool false, .slice none 0 0, .slice none 0 0] 60 (0, 0)) (by (with_reducible repeat (first | refine blk_drewN ?_ _ | refine blk_drew ?_ | refine blk_alloc ?_ _)); exact BK102.out) k_ hn_))⟩)) (below_size (zB2 HB.out GE101.out GE102.out))); replace BK101 := yK BK101 hb; replace BK102 := yK BK102 hb; replace HB := yS2 HB GE101 GE102 hb; (try clear hb ho0); (try clear ho1); have hcz9_0 : w8.cell? ⟨gb102, 0, none⟩ = some (.bool false) := (blk_cell BK102.out 0).trans rfl; have hcz9_1 : w8.cell? ⟨gb102, 1, none⟩ = some (.slice none 0 0) := (blk_cell BK102.out 1).trans rfl; have hcz9_2 : w8.cell? ⟨gb102, 2, none⟩ = some (.slice none 0 0) := (blk_cell BK102.out 2).trans rfl; have hfz9_0 := blk_frozen BK102.out 0; have hfz9_1 := blk_frozen BK102.out 1; have hfz9_2 := blk_frozen BK102.out 2; obtain ⟨Ao10, co10, rfl⟩ := Kd.V_slice HO106.out; obtain ⟨Ao11, co11, rfl⟩ := Kd.V_slice HO109.out))
 refine bodyPost_ret (results_cell_row rfl _ _ gb102 60 #[.bool t103, .slice Ao10 t104.length co10, .slice Ao11 t107.length co11] (0, 0) _ rfl (by (with_reducible repeat (first | refine blk_drewN ?_ _ | refine blk_drew ?_ | refine blk_alloc ?_ _)); refine blk_put (cs := #[.bool t103, .slice Ao10 t104.length co10, .slice none 0 0]) ?_ 2 _ rfl; (with_reducible repeat (first | refine blk_drewN ?_ _ | refine blk_drew ?_ | refine blk_alloc ?_ _)); refine blk_put (cs := #[.bool t103, .slice none 0 0, .slice none 0 0]) ?_ 1 _ rfl; (with_reducible repeat (first | refine blk_drewN ?_ _ | refine blk_drew ?_ | refine blk_alloc ?_ _)); refine blk_put (cs := #[.bool false, .slice none 0 0, .slice none 0 0]) ?_ 0 _ rfl; (with_reducible repeat (first | refine blk_drewN ?_ _ | refine blk_drew ?_ | refine blk_alloc ?_ _)); exact BK102.out) Try.underlying60 rfl (by kernel_rfl)) rfl ?_
 exact ⟨_, _, zE, by (with_reducible repeat (first | apply Kd.V_alloc | apply Kd.V_drewN | apply Kd.V_drew)); exact Kd.V_mono (Kd.V_far (p := ⟨gb102, 2, none⟩) (Kd.V_far (p := ⟨gb102, 1, none⟩) (Kd.V_far (p := ⟨gb102, 0, none⟩) (Kd.V_mono HO106.out (fun k_ hk => (⟨hk, hk.2.2⟩ : _ ∧ k_ ≠ gb102))) (fun _ hk => hk.2) (.bool t103)) (fun _ hk => hk.2) (.slice Ao10 t104.length co10)) (fun _ hk => hk.2) (.slice Ao11 t107.length co11)) (fun _ hk => hk.1.1), by (with_reducible repeat (first | apply Kd.V_alloc | apply Kd.V_drewN | apply Kd.V_drew)); exact Kd.V_mono (Kd.V_far (p := ⟨gb102, 2, none⟩) (Kd.V_far (p := ⟨gb102, 1, none⟩) (Kd.V_far (p := ⟨gb102, 0, none⟩) (Kd.V_mono HO109.out (fun k_ hk => (⟨hk, hk.2.2⟩ : _ ∧ k_ ≠ gb102))) (fun _ hk => hk.2) (.bool t103)) (fun _ hk => hk.2) (.slice Ao10 t104.length co10)) (fun _ hk => hk.2) (.slice Ao11 t107.length co11)) (fun _ hk => hk.1.1), zB2 HB.out GE101.out GE102.out⟩
set_option maxHeartbeats 8000000 in
set_option maxRecDepth 100000 in
theorem macwilliams_Krawtchouk.calls (k : Nat) (a0 : Int) (a1 : Int) (a2 : Int) (a3 : Int) (r1 : Bool) (r2 : List Int) (r3 : List Int) (r4 : Int) (w : World) (h : macwilliams_Krawtchouk.f k a0 a1 a2 a3 = some (r1, r2, r3, r4)) :
    Calls Try.prog 42 #[.int .i64 a0, .int .i64 a1, .int .i64 a2, .int .i64 a3] w fun e w' => ∃ v1_ v2_ : Value, e = .returned (.tuple #[.agg #[.bool r1, v1_, v2_], .int .i64 r4]) ∧ Kd.V (Kd.int .u32) 97 w' w.heap.size (fun k_ => (w.heap.size ≤ k_)) v1_ r2 ∧ Kd.V (Kd.int .u32) 97 w' w.heap.size (fun k_ => (w.heap.size ≤ k_)) v2_ r3 ∧ Below w.heap.size w w' := by
 have hu60 := Try.underlying60
 have hu113 := Try.underlying113
 have HB := Aside0.mk (Below.refl w.heap.size w)
 have H : (if a0 < 2 then (macwilliams_Krawtchouk.j0 k a0 a1 a2 a3 true) else (if a0 > 256 then (macwilliams_Krawtchouk.j0 k a0 a1 a2 a3 true) else (if a1 < 0 then (macwilliams_Krawtchouk.j0 k a0 a1 a2 a3 true) else (if a1 > 64 then (macwilliams_Krawtchouk.j0 k a0 a1 a2 a3 true) else (if a2 < 0 then (macwilliams_Krawtchouk.j0 k a0 a1 a2 a3 true) else (if a2 > a1 then (macwilliams_Krawtchouk.j0 k a0 a1 a2 a3 true) else (if a3 < 0 then (macwilliams_Krawtchouk.j0 k a0 a1 a2 a3 true) else (macwilliams_Krawtchouk.j0 k a0 a1 a2 a3 (decide (a3 > a1)))))))))) = some (r1, r2, r3, r4) := h
 clear h
 have HC5 := Aside0.mk H
 clear H
 go_enter Try.func42, Try.ntmps42
 go_upto_region 1 with (first | ((with_reducible refine gate_dst (N := 8) rfl ?_); refine box_event ?hg (N := 8) ?hd (cs := #[.bool false, .slice none 0 0, .slice none 0 0]) (t := 60) ?hr ?_; (case hd => rfl); (case hg => rfl); (case hr => first | (go_simp; done) | (go_simp; rfl)); intro gb101 hg w6 hbox hb; have BK101 := Aside0.mk (hbox); have GW101 := yg hg HB; have GE101 := yg hg HB; replace HB := yS HB hb; clear hb hbox hg))
 (try simp only [Act.put, List.setIfInBounds_toArray, List.set_cons_zero, List.set_cons_succ])
 go_cut [41] (fun v41 wc => ∃ (kq : Nat) (x41_4 : Bool), v41 = .bool x41_4 ∧ Aside0 (macwilliams_Krawtchouk.j0 kq a0 a1 a2 a3 x41_4 = some (r1, r2, r3, r4)) ∧ Aside0 (kq ≤ k) ∧ Aside0 (wc.heap[gb101]? = some (.cells #[.bool false, (.slice none 0 0), (.slice none 0 0)] 60 (0, 0))) ∧ Aside0 (Below w.heap.size w wc))
 case first =>
  have H := HC5.out
  clear HC5
  replace H := zi H
  rcases H with ⟨c7, H⟩ | ⟨c7, H⟩
  · have c7b0 := decide_eq_true c7
    clear c7
    (first | rw [c7b0] | (simp only [i64_w, i32_w]; rw [c7b0]) | rw [c7b1] | skip)
    have H' := Aside0.mk H
    clear H
    go_wp2
    go_meet
    case rel => exact ⟨_, (true), zF, H', ⟨zO⟩, ⟨by (with_reducible repeat (first | refine blk_drewN ?_ _ | refine blk_drew ?_ | refine blk_alloc ?_ _)); exact BK101.out⟩, ⟨zB1 HB.out GE101.out⟩⟩
  have c7b0 := decide_eq_false c7
  clear c7
  (first | rw [c7b0] | (simp only [i64_w, i32_w]; rw [c7b0]) | rw [c7b1] | skip)
  replace H := zi H
  rcases H with ⟨c8, H⟩ | ⟨c8, H⟩
  · have c8b0 : decide (256 < a0) = true := decide_eq_true c8
    clear c8
    have H' := Aside0.mk H
    clear H
    go_wp2
    go_meet
    case rel => exact ⟨_, (true), zF, H', ⟨zO⟩, ⟨by (with_reducible repeat (first | refine blk_drewN ?_ _ | refine blk_drew ?_ | refine blk_alloc ?_ _)); exact BK101.out⟩, ⟨zB1 HB.out GE101.out⟩⟩
  have c8b0 : decide (256 < a0) = false := decide_eq_false c8
  clear c8
  replace H := zi H
  rcases H with ⟨c9, H⟩ | ⟨c9, H⟩
  · have c9b0 := decide_eq_true c9
    clear c9
    have H' := Aside0.mk H
    clear H
    go_wp2
    go_meet
    case rel => exact ⟨_, (true), zF, H', ⟨zO⟩, ⟨by (with_reducible repeat (first | refine blk_drewN ?_ _ | refine blk_drew ?_ | refine blk_alloc ?_ _)); exact BK101.out⟩, ⟨zB1 HB.out GE101.out⟩⟩
  have c9b0 := decide_eq_false c9
  clear c9
  replace H := zi H
  rcases H with ⟨c10, H⟩ | ⟨c10, H⟩
  · have c10b0 : decide (64 < a1) = true := decide_eq_true c10
    clear c10
    have H' := Aside0.mk H
    clear H
    go_wp2
    go_meet
    case rel => exact ⟨_, (true), zF, H', ⟨zO⟩, ⟨by (with_reducible repeat (first | refine blk_drewN ?_ _ | refine blk_drew ?_ | refine blk_alloc ?_ _)); exact BK101.out⟩, ⟨zB1 HB.out GE101.out⟩⟩
  have c10b0 : decide (64 < a1) = false := decide_eq_false c10
  clear c10
  replace H := zi H
  rcases H with ⟨c11, H⟩ | ⟨c11, H⟩
  · have c11b0 := decide_eq_true c11
    clear c11
    have H' := Aside0.mk H
    clear H
    go_wp2
    go_meet
    case rel => exact ⟨_, (true), zF, H', ⟨zO⟩, ⟨by (with_reducible repeat (first | refine blk_drewN ?_ _ | refine blk_drew ?_ | refine blk_alloc ?_ _)); exact BK101.out⟩, ⟨zB1 HB.out GE101.out⟩⟩
  have c11b0 := decide_eq_false c11
  clear c11
  replace H := zi H
  rcases H with ⟨c12, H⟩ | ⟨c12, H⟩
  · have c12b0 : decide (a1 < a2) = true := decide_eq_true c12
    clear c12
    have H' := Aside0.mk H
    clear H
    go_wp2
    go_meet
    case rel => exact ⟨_, (true), zF, H', ⟨zO⟩, ⟨by (with_reducible repeat (first | refine blk_drewN ?_ _ | refine blk_drew ?_ | refine blk_alloc ?_ _)); exact BK101.out⟩, ⟨zB1 HB.out GE101.out⟩⟩
  have c12b0 : decide (a1 < a2) = false := decide_eq_false c12
  clear c12
  replace H := zi H
  rcases H with ⟨c13, H⟩ | ⟨c13, H⟩
  · have c13b0 := decide_eq_true c13
    clear c13
    have H' := Aside0.mk H
    clear H
    go_wp2
    go_meet
    case rel => exact ⟨_, (true), zF, H', ⟨zO⟩, ⟨by (with_reducible repeat (first | refine blk_drewN ?_ _ | refine blk_drew ?_ | refine blk_alloc ?_ _)); exact BK101.out⟩, ⟨zB1 HB.out GE101.out⟩⟩
  have c13b0 := decide_eq_false c13
  clear c13
  have H' := Aside0.mk H
  clear H
  go_wp2
  go_meet
  case rel => exact ⟨_, (decide (a3 > a1)), zF, H', ⟨zO⟩, ⟨by (with_reducible repeat (first | refine blk_drewN ?_ _ | refine blk_drew ?_ | refine blk_alloc ?_ _)); exact BK101.out⟩, ⟨zB1 HB.out GE101.out⟩⟩
 clear HC5
 (try clear c1);(try clear p2);(try clear c4);(try clear c7);(try clear c7b0);(try clear c7b1);(try clear c8);(try clear c8b0);(try clear c9);(try clear c9b0);(try clear c10);(try clear c10b0);(try clear c11);(try clear c11b0);(try clear c12);(try clear c12b0);(try clear c13);(try clear c13b0)
 obtain ⟨kq, x41_4, rfl, HA, HJ4, BK101, HB⟩ := hcut
 cases kq with | zero => exact absurd HA.out (by simp [macwilliams_Krawtchouk.j0]) | succ kj4 => ?_
 have H := HA.out
 clear HA
 simp only [macwilliams_Krawtchouk.j0] at H
 by_cases c14 : x41_4 = true
 · subst c14
   rw [if_pos rfl] at H
   simp only [Option.some.injEq, Prod.mk.injEq] at H
   obtain ⟨rfl, rfl, rfl, rfl⟩ := H
   have hcz15_0 : wc.cell? ⟨gb101, 0, none⟩ = some (.bool false) := (blk_cell BK101.out 0).trans rfl
   have hcz15_1 : wc.cell? ⟨gb101, 1, none⟩ = some (.slice none 0 0) := (blk_cell BK101.out 1).trans rfl
   have hcz15_2 : wc.cell? ⟨gb101, 2, none⟩ = some (.slice none 0 0) := (blk_cell BK101.out 2).trans rfl
   have hfz15_0 := blk_frozen BK101.out 0
   have hfz15_1 := blk_frozen BK101.out 1
   have hfz15_2 := blk_frozen BK101.out 2
   go_wp2
   refine bodyPost_ret (results_ct rfl _ _ gb101 60 #[.bool false, .slice none 0 0, .slice none 0 0] (0, 0) _ rfl (by (with_reducible repeat (first | refine blk_drewN ?_ _ | refine blk_drew ?_ | refine blk_alloc ?_ _)); refine blk_put (cs := #[.bool false, .slice none 0 0, .slice none 0 0]) ?_ 2 _ rfl; (with_reducible repeat (first | refine blk_drewN ?_ _ | refine blk_drew ?_ | refine blk_alloc ?_ _)); refine blk_put (cs := #[.bool false, .slice none 0 0, .slice none 0 0]) ?_ 1 _ rfl; (with_reducible repeat (first | refine blk_drewN ?_ _ | refine blk_drew ?_ | refine blk_alloc ?_ _)); refine blk_put (cs := #[.bool false, .slice none 0 0, .slice none 0 0]) ?_ 0 _ rfl; (with_reducible repeat (first | refine blk_drewN ?_ _ | refine blk_drew ?_ | refine blk_alloc ?_ _)); exact BK101.out) Try.underlying60 rfl (by kernel_rfl)) rfl ?_
   exact ⟨_, _, zE, by exact Kd.V_nil _ _ _ _ _, by exact Kd.V_nil _ _ _ _ _, zB1 HB.out GE101.out⟩
 replace c14 := Bool.eq_false_iff.mpr c14
 subst c14
 rw [if_neg Bool.false_ne_true] at H
 replace H := zb H
 obtain ⟨t102, A16, H⟩ := H
 replace H := zg H
 obtain ⟨c17, H⟩ := H
 have c17b0 := decide_eq_true c17
 clear c17
 replace H := zg H
 obtain ⟨c18, H⟩ := H
 have c18b0 := decide_eq_true c18
 clear c18
 replace H := zg H
 obtain ⟨c19, H⟩ := H
 have c19b0 := decide_eq_true c19
 clear c19
 replace H := zg H
 obtain ⟨c20, H⟩ := H
 have c20b0 := decide_eq_true c20
 clear c20
 obtain ⟨y107, hy107⟩ : ∃ y_ : List Int, y_ = (([1] : List Int)) := ⟨_, rfl⟩
 replace H : ((macwilliams_ratio.f kj4 ((rd_T113 (rd_L6 t102 a3) a2).f0) ((rd_T113 (rd_L6 t102 a3) a2).f1) y107).bind fun bt110 => (some (bt110.1, bt110.2.1, bt110.2.2, 0))) = some (r1, r2, r3, r4) := zY hy107 H
 have Ny107 := Aside0.mk hy107
 clear hy107
 replace H := zb H
 obtain ⟨⟨t110, t111, t114⟩, A21, H⟩ := H
 dsimp only at H
 simp only [Option.some.injEq, Prod.mk.injEq] at H
 obtain ⟨rfl, rfl, rfl, rfl⟩ := H
 go_wp2_with (first | ((with_reducible refine gate_callee (f := 94) rfl ?_); refine zG (some 45) Try.func94 #[.int .i64 a0, .int .i64 a1] ?_; (with_reducible refine (macwilliams_table.calls kj4 a0 a1 t102 _ A16.out).mono ?_); rintro e w22 ⟨v103, rfl, ho0, hb⟩; refine ⟨_, rfl, ?_⟩; have HO104 := Aside0.mk (Kd.N_lower (Kd.N_mono (ok' := fun k_ => (w.heap.size ≤ k_) ∧ k_ ≠ gb101) ho0 (fun k_ hk_ => ⟨(Nat.le_trans (below_size (zB1 HB.out GE101.out)) hk_), (Kd.freshB (g := gb101) (o := .cells #[.bool false, .slice none 0 0, .slice none 0 0] 60 (0, 0)) (by (with_reducible repeat (first | refine blk_drewN ?_ _ | refine blk_drew ?_ | refine blk_alloc ?_ _)); exact BK101.out) k_ hk_)⟩)) (below_size (zB1 HB.out GE101.out))); replace BK101 := yK BK101 hb; replace HB := yS1 HB GE101 hb; (try clear hb ho0); obtain ⟨Ao23, co23, rfl⟩ := Kd.N_slice HO104.out; have p105 : 0 ≤ (a3 : Int) := of_decide_eq_true zA; have q105 : a3 < (t102.length : Int) := of_decide_eq_true zA; obtain ⟨ad105, A105_0, c105_0, e105, hx105_0, hl105_0, hi105_0⟩ := at_L6 (Kd.N_reads' HO104.out).2.2 a3 p105 q105; cases e105; obtain ⟨ce105, hce105, hMe105, hcc105⟩ := Kd.N_get HO104.out [] a3 p105 (by first | exact q105 | exact of_decide_eq_true zA | (have e_ := (Kd.N_reads' HO104.out).1; omega)); obtain ⟨ua105_0, uc105_0, rfl, ul105_0, ge105_0⟩ := Kd.FK_slice_open hMe105; have hv105_0 := hcc105 0 _ rfl; rw [Nat.add_zero, show ((Kd.slice 113 k113)).sz = 1 from rfl, Nat.mul_one] at hv105_0; replace hv105_0 := Option.some.inj (hv105_0.symm.trans hx105_0); injection hv105_0 with hva_ hvn_ hvc_; rw [hva_] at ge105_0; rw [hvc_] at ul105_0; have HL105_0 := Aside0.mk (show Kd.V k113 113 _ w.heap.size _ _ (rd_L6 t102 a3) from Kd.V_mk ul105_0 ge105_0); clear hva_ hvn_ hvc_ ge105_0 ul105_0; clear hcc105 hce105; have HR105_0 := Aside0.mk hi105_0; have HC105_0 := Aside0.mk hl105_0; clear hi105_0 hl105_0; replace p105 := eq_true p105; replace q105 := eq_true q105; have p106 : 0 ≤ (a2 : Int) := of_decide_eq_true zA; have q106 : a2 < ((rd_L6 t102 a3).length : Int) := of_decide_eq_true zA; obtain ⟨ad106, A106_1, c106_1, e106, hx106_0, hx106_1, hl106_1, hi106_1⟩ := at_T113 (zCr HR105_0.out) a2 p106 q106; cases e106; obtain ⟨ce106, hce106, hMe106, hcc106⟩ := Kd.V_get HL105_0.out z113 a2 p106 (by first | exact q106 | exact of_decide_eq_true zA | (have e_ := (Kd.V_reads' HL105_0.out).1; omega)); obtain ⟨ua106_1, uc106_1, rfl, ul106_1, ge106_1⟩ := k113_openF hMe106; have hv106_1 := hcc106 1 _ rfl; rw [add_field _ _ 1 (by omega)] at hv106_1; replace hv106_1 := Option.some.inj (hv106_1.symm.trans hx106_1); injection hv106_1 with hva_ hvn_ hvc_; rw [hva_] at ge106_1; rw [hvc_] at ul106_1; have HL106_1 := Aside0.mk (show Kd.V (Kd.int .u32) 97 _ w.heap.size _ _ ((rd_T113 (rd_L6 t102 a3) a2).f1) from Kd.V_mk ul106_1 ge106_1); clear hva_ hvn_ hvc_ ge106_1 ul106_1; clear hcc106 hce106; have HR106_1 := Aside0.mk hi106_1; have HC106_1 := Aside0.mk hl106_1; clear hi106_1 hl106_1; replace p106 := eq_true p106; replace q106 := eq_true q106) | ((with_reducible refine gate_dst (N := 52) rfl ?_); refine Kd.R_lit (Kd.int .u32) _ 97 ?hg (N := 52) ?hd (xs := ([1] : List Int)) (inner := [.int .u32 1]) (ok := fun _ => True) (okp := fun _ => True) ?hr ?hp (fun _ hk => hk) trivial (Below.refl _ _) (Nat.le_refl _) (by simp) ?_; (case hd => rfl); (case hg => rfl); (case hr => first | (go_simp; done) | (go_simp; rfl)); (case hp => exact (Reps.one (show Kd.M (Kd.int .u32) _ _ _ 1 [.int .u32 1] from rfl) (Reps.none _ _))); intro v108 w24 ho25 hb hg_ hnew_; clear hg_ hnew_; (first | rw [← Ny107.out] at ho25 | (simp only [Int.reduceToNat] at ho25; rw [← Ny107.out] at ho25)); replace HO104 := yNe HO104 ho25 hb; replace HL105_0 := yVe HL105_0 ho25 hb; replace HL106_1 := yVe HL106_1 ho25 hb; replace ho25 := Kd.R_newM (M := fun k_ => (w.heap.size ≤ k_)) ho25 (below_size (zB1 HB.out GE101.out)) (fun k_ h_ => h_); have HO109 := yRl1 ho25 HB GE101; replace BK101 := yK BK101 hb; replace HR105_0 := yCb HR105_0 hb; replace HR106_1 := yCb HR106_1 hb; replace HB := yS1 HB GE101 hb; clear hb ho25; obtain ⟨Ao26, co26, rfl⟩ := Kd.R_slice HO109.out) | ((with_reducible refine gate_callee (f := 93) rfl ?_); refine zG (some 53) Try.func93 #[.agg #[.bool ((rd_T113 (rd_L6 t102 a3) a2).f0), .slice A106_1 ((rd_T113 (rd_L6 t102 a3) a2).f1).length c106_1], .slice Ao26 y107.length co26] ?_; (with_reducible refine (macwilliams_ratio.calls kj4 ((rd_T113 (rd_L6 t102 a3) a2).f0) (fun k_ => ((((w.heap.size ≤ k_) ∧ k_ ≠ gb101) ∧ some k_ ≠ (.slice (some ad105) t102.length co23 : Value).ownBlock) ∧ some k_ ≠ (.slice Ao26 y107.length co26 : Value).ownBlock)) _ _ ((rd_T113 (rd_L6 t102 a3) a2).f1) (fun k_ => some k_ = (.slice Ao26 y107.length co26 : Value).ownBlock) _ _ y107 t110 t111 t114 _ ?side1 ?side2 A21.out).mono ?_); (case side1 => exact HL106_1.out); (case side2 => exact Kd.R_V (Kd.R_tight rfl (Kd.R_types (Kd.R_apart' (HO109.out) (Kd.N_typed HO104.out) (by decide)) BK101.out (by decide)))); rintro e w27 ⟨v112, v115, rfl, ho0, ho1, hb⟩; refine ⟨_, rfl, ?_⟩; replace HL105_0 := yVb HL105_0 hb; replace HL106_1 := yVb HL106_1 hb; have HO113 := Aside0.mk (Kd.V_lower (Kd.V_mono (ok' := fun k_ => (w.heap.size ≤ k_) ∧ some k_ ≠ (.slice (some ad105) t102.length co23 : Value).ownBlock ∧ k_ ≠ gb101) ho0 (fun k_ hk_ => ⟨Or.elim hk_ (fun hs_ => Or.elim hs_ (fun hs_ => hs_.1.1.1) (fun hs_ => ((Kd.R_types (Kd.R_apart' (HO109.out) (Kd.N_typed HO104.out) (by decide)) BK101.out (by decide)).1 k_ hs_.symm).1.1.1)) (fun hn_ => (Nat.le_trans (below_size (zB1 HB.out GE101.out)) hn_)), Or.elim hk_ (fun hs_ => Or.elim hs_ (fun hs_ => hs_.1.2) (fun hs_ => ((Kd.R_types (Kd.R_apart' (HO109.out) (Kd.N_typed HO104.out) (by decide)) BK101.out (by decide)).1 k_ hs_.symm).1.2)) (fun hn_ => (Kd.fresh' (Kd.N_lt (zN HO104.out)) k_ hn_)), Or.elim hk_ (fun hs_ => Or.elim hs_ (fun hs_ => hs_.1.1.2) (fun hs_ => ((Kd.R_types (Kd.R_apart' (HO109.out) (Kd.N_typed HO104.out) (by decide)) BK101.out (by decide)).1 k_ hs_.symm).2)) (fun hn_ => (Kd.freshB (g := gb101) (o := .cells #[.bool false, .slice none 0 0, .slice none 0 0] 60 (0, 0)) (by (with_reducible repeat (first | refine blk_drewN ?_ _ | refine blk_drew ?_ | refine blk_alloc ?_ _)); exact BK101.out) k_ hn_))⟩)) (below_size (zB1 HB.out GE101.out))); have HO116 := Aside0.mk (Kd.V_lower (Kd.V_mono (ok' := fun k_ => (w.heap.size ≤ k_) ∧ some k_ ≠ (.slice (some ad105) t102.length co23 : Value).ownBlock ∧ k_ ≠ gb101) ho1 (fun k_ hk_ => ⟨Or.elim hk_ (fun hs_ => Or.elim hs_ (fun hs_ => hs_.1.1.1) (fun hs_ => ((Kd.R_types (Kd.R_apart' (HO109.out) (Kd.N_typed HO104.out) (by decide)) BK101.out (by decide)).1 k_ hs_.symm).1.1.1)) (fun hn_ => (Nat.le_trans (below_size (zB1 HB.out GE101.out)) hn_)), Or.elim hk_ (fun hs_ => Or.elim hs_ (fun hs_ => hs_.1.2) (fun hs_ => ((Kd.R_types (Kd.R_apart' (HO109.out) (Kd.N_typed HO104.out) (by decide)) BK101.out (by decide)).1 k_ hs_.symm).1.2)) (fun hn_ => (Kd.fresh' (Kd.N_lt (zN HO104.out)) k_ hn_)), Or.elim hk_ (fun hs_ => Or.elim hs_ (fun hs_ => hs_.1.1.2) (fun hs_ => ((Kd.R_types (Kd.R_apart' (HO109.out) (Kd.N_typed HO104.out) (by decide)) BK101.out (by decide)).1 k_ hs_.symm).2)) (fun hn_ => (Kd.freshB (g := gb101) (o := .cells #[.bool false, .slice none 0 0, .slice none 0 0] 60 (0, 0)) (by (with_reducible repeat (first | refine blk_drewN ?_ _ | refine blk_drew ?_ | refine blk_alloc ?_ _)); exact BK101.out) k_ hn_))⟩)) (below_size (zB1 HB.out GE101.out))); replace HO104 := yNb HO104 hb; replace HO109 := yRb HO109 hb; replace BK101 := yK BK101 hb; replace HR105_0 := yCb HR105_0 hb; replace HR106_1 := yCb HR106_1 hb; replace HB := yS1 HB GE101 hb; (try clear hb ho0); (try clear ho1); have hcz28_0 : w27.cell? ⟨gb101, 0, none⟩ = some (.bool false) := (blk_cell BK101.out 0).trans rfl; have hcz28_1 : w27.cell? ⟨gb101, 1, none⟩ = some (.slice none 0 0) := (blk_cell BK101.out 1).trans rfl; have hcz28_2 : w27.cell? ⟨gb101, 2, none⟩ = some (.slice none 0 0) := (blk_cell BK101.out 2).trans rfl; have hfz28_0 := blk_frozen BK101.out 0; have hfz28_1 := blk_frozen BK101.out 1; have hfz28_2 := blk_frozen BK101.out 2; obtain ⟨Ao29, co29, rfl⟩ := Kd.V_slice HO113.out; obtain ⟨Ao30, co30, rfl⟩ := Kd.V_slice HO116.out))
 refine bodyPost_ret (results_ct rfl _ _ gb101 60 #[.bool t110, .slice Ao29 t111.length co29, .slice Ao30 t114.length co30] (0, 0) _ rfl (by (with_reducible repeat (first | refine blk_drewN ?_ _ | refine blk_drew ?_ | refine blk_alloc ?_ _)); refine blk_put (cs := #[.bool t110, .slice Ao29 t111.length co29, .slice none 0 0]) ?_ 2 _ rfl; (with_reducible repeat (first | refine blk_drewN ?_ _ | refine blk_drew ?_ | refine blk_alloc ?_ _)); refine blk_put (cs := #[.bool t110, .slice none 0 0, .slice none 0 0]) ?_ 1 _ rfl; (with_reducible repeat (first | refine blk_drewN ?_ _ | refine blk_drew ?_ | refine blk_alloc ?_ _)); refine blk_put (cs := #[.bool false, .slice none 0 0, .slice none 0 0]) ?_ 0 _ rfl; (with_reducible repeat (first | refine blk_drewN ?_ _ | refine blk_drew ?_ | refine blk_alloc ?_ _)); exact BK101.out) Try.underlying60 rfl (by kernel_rfl)) rfl ?_
 exact ⟨_, _, zE, by (with_reducible repeat (first | apply Kd.V_alloc | apply Kd.V_drewN | apply Kd.V_drew)); exact Kd.V_mono (Kd.V_far (p := ⟨gb101, 2, none⟩) (Kd.V_far (p := ⟨gb101, 1, none⟩) (Kd.V_far (p := ⟨gb101, 0, none⟩) (Kd.V_mono HO113.out (fun k_ hk => (⟨hk, hk.2.2⟩ : _ ∧ k_ ≠ gb101))) (fun _ hk => hk.2) (.bool t110)) (fun _ hk => hk.2) (.slice Ao29 t111.length co29)) (fun _ hk => hk.2) (.slice Ao30 t114.length co30)) (fun _ hk => hk.1.1), by (with_reducible repeat (first | apply Kd.V_alloc | apply Kd.V_drewN | apply Kd.V_drew)); exact Kd.V_mono (Kd.V_far (p := ⟨gb101, 2, none⟩) (Kd.V_far (p := ⟨gb101, 1, none⟩) (Kd.V_far (p := ⟨gb101, 0, none⟩) (Kd.V_mono HO116.out (fun k_ hk => (⟨hk, hk.2.2⟩ : _ ∧ k_ ≠ gb101))) (fun _ hk => hk.2) (.bool t110)) (fun _ hk => hk.2) (.slice Ao29 t111.length co29)) (fun _ hk => hk.2) (.slice Ao30 t114.length co30)) (fun _ hk => hk.1.1), zB1 HB.out GE101.out⟩
set_option maxHeartbeats 8000000 in
set_option maxRecDepth 100000 in
theorem codewrightref02_Is.calls (k : Nat) (a0_0 : Bool) (A0_1 : Option Addr) (c0_1 : Nat) (l0_1 : List Int) (A0_2 : Option Addr) (c0_2 : Nat) (l0_2 : List Int) (r : Bool) (w : World) (hr0_1 : Kd.C (Kd.int .u32) w A0_1 l0_1.length l0_1) (hc0_1 : l0_1.length ≤ c0_1) (hr0_2 : Kd.C (Kd.int .u32) w A0_2 l0_2.length l0_2) (hc0_2 : l0_2.length ≤ c0_2) (h : codewrightref02_Is.f k a0_0 l0_1 l0_2 = some r) :
    Calls Try.prog 98 #[.agg #[.bool a0_0, .slice A0_1 l0_1.length c0_1, .slice A0_2 l0_2.length c0_2]] w fun e w' => e = .returned (.bool r) ∧ Below w.heap.size w w' := by
 have hu60 := Try.underlying60
 have HR0_1 := Aside0.mk hr0_1
 have HC0_1 := Aside0.mk hc0_1
 clear hr0_1 hc0_1
 have HR0_2 := Aside0.mk hr0_2
 have HC0_2 := Aside0.mk hc0_2
 clear hr0_2 hc0_2
 have HB := Aside0.mk (Below.refl w.heap.size w)
 have H : ((codewrightref02_Trim.f k a0_0 l0_1 l0_2).bind fun bt102 => ((codewrightref02_Same.f k a0_0 l0_1 l0_2 bt102.1 bt102.2.1 bt102.2.2).bind fun t109 => (some t109))) = some r := h
 clear h
 replace H := zb H
 obtain ⟨⟨t102, t103, t106⟩, A2, H⟩ := H
 dsimp only at H
 replace H := zb H
 obtain ⟨t109, A3, H⟩ := H
 obtain rfl := Option.some.inj H
 go_enter Try.func98, Try.ntmps98
 try go_wp2_with (first | ((with_reducible refine gate_dst (N := 1) rfl ?_); refine box_event ?hg (N := 1) ?hd (cs := #[.bool a0_0, .slice A0_1 l0_1.length c0_1, .slice A0_2 l0_2.length c0_2]) (t := 60) ?hr ?_; (case hd => rfl); (case hg => rfl); (case hr => first | (go_simp; done) | (go_simp; rfl)); intro gb101 hg w4 hbox hb; have BK101 := Aside0.mk (hbox); have GW101 := yg hg HB; have GE101 := yg hg HB; replace HB := yS HB hb; clear hb hbox hg))
 replace BK101 := Aside0.mk (blk_drew BK101.out)
 replace HB := Aside0.mk (below_drew1 HB.out)
 refine start_ (n := 5) (S := fun w' => w'.cell? ⟨gb101, 0, none⟩ = some (.bool a0_0) ∧ w'.cell? ⟨gb101, 1, none⟩ = some (.slice A0_1 l0_1.length c0_1) ∧ w'.cell? ⟨gb101, 2, none⟩ = some (.slice A0_2 l0_2.length c0_2)) (ds := []) #[false, false, false, false, false] (by kernel_rfl) rfl rfl ⟨(blk_cell BK101.out 0).trans rfl, (blk_cell BK101.out 1).trans rfl, (blk_cell BK101.out 2).trans rfl⟩ (fun hHeld => ?_)
 generalize w4.drew = w5 at BK101 HB hHeld ⊢
 refine take_ (i := 0) (N := some 3) (v := ?_) (a' := ?_) #[true, false, false, false, false] rfl rfl (by kernel_rfl) (fun _ _ _ h => h) (Or.inl ⟨by rfl, ?_⟩) hHeld ?_ ?_
 rotate_left
 · rintro w' ⟨s0, s1, s2⟩
   go_simp
   with_reducible rfl
 rotate_left
 · simp only [Act.put, List.setIfInBounds_toArray, List.set_cons_zero, List.set_cons_succ, i64_w, i32_w]
   rfl
 refine take_ (i := 1) (N := some 4) (v := ?_) (a' := ?_) #[true, true, false, false, false] rfl rfl (by kernel_rfl) (fun _ _ _ h => h) (Or.inl ⟨by rfl, ?_⟩) hHeld ?_ ?_
 rotate_left
 · rintro w' ⟨s0, s1, s2⟩
   go_simp
   with_reducible rfl
 rotate_left
 · simp only [Act.put, List.setIfInBounds_toArray, List.set_cons_zero, List.set_cons_succ, i64_w, i32_w]
   rfl
 refine one_ (i := 2) (N := some 5) #[true, true, true, false, false] rfl rfl (by kernel_rfl) (by decide) (fun K hK => ?_)
 refine goes_ Try.func99 (by kernel_rfl) rfl #[.agg #[.bool a0_0, .slice A0_1 l0_1.length c0_1, .slice A0_2 l0_2.length c0_2]] (by rfl) rfl rfl (by (try simp only [List.map_toArray, List.map_cons, List.map_nil]); first | done | rfl | (simp only [List.length_drop, List.length_take]; rfl)) ?_
 with_reducible refine (codewrightref02_Trim.calls k a0_0 _ _ l0_1 _ _ l0_2 t102 t103 t106 _ ?side1 ?side2 ?side3 ?side4 A2.out).mono ?_
 (case side1 => exact zC (Kd.C_below HR0_1.out HB.out))
 (case side2 => exact HC0_1.out)
 (case side3 => exact zC (Kd.C_below HR0_2.out HB.out))
 (case side4 => exact HC0_2.out)
 rintro e w6 ⟨v104, v107, rfl, ho0, ho1, hb⟩
 refine ⟨_, rfl, ?_⟩
 have HO105 := yRl1 ho0 HB GE101
 have HO108 := yRl1 ho1 HB GE101
 replace BK101 := yK BK101 hb
 replace HB := yS1 HB GE101 hb
 (try clear hb)
 (try clear hb2)
 (try clear hk)
 (try clear hi)
 (try clear ho0)
 (try clear ho1)
 obtain ⟨Ao7, co7, eo7⟩ := Kd.R_slice HO105.out
 (first | subst eo7 | (injection eo7 with f1_ f2_ f3_; have f4_ := f1_.symm; have f5_ := f3_.symm; clear f1_ f2_ f3_; subst f4_; subst f5_))
 obtain ⟨Ao8, co8, eo8⟩ := Kd.R_slice HO108.out
 (first | subst eo8 | (injection eo8 with f1_ f2_ f3_; have f4_ := f1_.symm; have f5_ := f3_.symm; clear f1_ f2_ f3_; subst f4_; subst f5_))
 refine hK.out _ _ ⟨(blk_cell BK101.out 0).trans rfl, (blk_cell BK101.out 1).trans rfl, (blk_cell BK101.out 2).trans rfl⟩ (fun hHeld => ?_)
 clear hK K
 refine norm_ (a' := ?_) ?_ ?_
 rotate_left
 · show Act.put _ (some 5) _ = _
   simp only [Act.put, List.setIfInBounds_toArray, List.set_cons_zero, List.set_cons_succ, i64_w, i32_w]
   rfl
 refine one_ (i := 3) (N := some 6) #[true, true, true, true, false] rfl rfl (by kernel_rfl) (by decide) (fun K hK => ?_)
 refine goes_ Try.func45 (by kernel_rfl) rfl #[.agg #[.bool a0_0, .slice A0_1 l0_1.length c0_1, .slice A0_2 l0_2.length c0_2], .agg #[.bool t102, .slice Ao7 t103.length co7, .slice Ao8 t106.length co8]] (by rfl) rfl rfl (by (try simp only [List.map_toArray, List.map_cons, List.map_nil]); first | done | rfl | (simp only [List.length_drop, List.length_take]; rfl)) ?_
 with_reducible refine (codewrightref02_Same.calls k a0_0 _ _ l0_1 _ _ l0_2 t102 _ _ t103 _ _ t106 t109 _ ?side1 ?side2 ?side3 ?side4 ?side5 ?side6 ?side7 ?side8 A3.out).mono ?_
 (case side1 => exact zC (Kd.C_below HR0_1.out HB.out))
 (case side2 => exact HC0_1.out)
 (case side3 => exact zC (Kd.C_below HR0_2.out HB.out))
 (case side4 => exact HC0_2.out)
 (case side5 => exact zC (Kd.R_reads' HO105.out).2.2)
 (case side6 => exact (Kd.R_reads' HO105.out).2.1)
 (case side7 => exact zC (Kd.R_reads' HO108.out).2.2)
 (case side8 => exact (Kd.R_reads' HO108.out).2.1)
 rintro e w9 ⟨rfl, hb⟩
 refine ⟨_, rfl, ?_⟩
 replace HO105 := yRb HO105 hb
 replace HO108 := yRb HO108 hb
 replace BK101 := yK BK101 hb
 replace HB := yS1 HB GE101 hb
 (try clear hb)
 (try clear hb2)
 (try clear hk)
 (try clear hi)
 refine hK.out _ _ ⟨(blk_cell BK101.out 0).trans rfl, (blk_cell BK101.out 1).trans rfl, (blk_cell BK101.out 2).trans rfl⟩ (fun hHeld => ?_)
 clear hK K
 refine norm_ (a' := ?_) ?_ ?_
 rotate_left
 · show Act.put _ (some 6) _ = _
   simp only [Act.put, List.setIfInBounds_toArray, List.set_cons_zero, List.set_cons_succ, i64_w, i32_w]
   rfl
 refine pure_ (i := 4) (N := some 2) (v := ?_) (a' := ?_) #[true, true, true, true, true] rfl rfl (by kernel_rfl) (fun _ _ _ h => h) (Or.inl ⟨by rfl, ?_⟩) ?_ ?_
 rotate_left
 · intro w'
   go_simp
   with_reducible rfl
 rotate_left
 · simp only [Act.put, List.setIfInBounds_toArray, List.set_cons_zero, List.set_cons_succ, i64_w, i32_w]
   rfl
 refine done_ (by kernel_rfl) ?_
 try go_wp2
 go_ret
 exact ⟨zE, zB1 HB.out GE101.out⟩
def codewrightlaw24_k.T2 : Bool × List (List Nat × List Nat) := (true, [([], []), ([], []), ([1], [1]), ([2], [2]), ([3], [3]), ([4, 3, 3], [3, 4]), ([3, 5], [3, 5]), ([0, 5, 0], [0]), ([6, 7, 0, 1, 2, 3, 4, 5, 6, 7], [6])])
def codewrightlaw24_k.B2 : List Nat := [0, 0, 2, 6, 14, 30, 62, 63, 255]
theorem codewrightlaw24_k.tab2 : rtab .any (opsOf Try.f49 2) = codewrightlaw24_k.T2 := by kernel_rfl
theorem codewrightlaw24_k.bits2 : waitsOk codewrightlaw24_k.T2.2 codewrightlaw24_k.B2 = true := by kernel_rfl
set_option maxHeartbeats 8000000 in
set_option maxRecDepth 100000 in
theorem codewrightlaw24_k.calls (k : Nat) (a0 : Int) (a1 : Int) (a2 : Int) (a3 : Int) (r1 : Bool) (r2 : List Int) (r3 : List Int) (r4 : Bool) (w : World) (h : codewrightlaw24_k.f k a0 a1 a2 a3 = some (r1, r2, r3, r4)) :
    Calls Try.prog 49 #[.int .i64 a0, .int .i64 a1, .int .i64 a2, .int .i64 a3] w fun e w' => ∃ v1_ v2_ : Value, e = .returned (.tuple #[.agg #[.bool r1, v1_, v2_], .bool r4]) ∧ Kd.V (Kd.int .u32) 97 w' w.heap.size (fun k_ => (w.heap.size ≤ k_)) v1_ r2 ∧ Kd.V (Kd.int .u32) 97 w' w.heap.size (fun k_ => (w.heap.size ≤ k_)) v2_ r3 ∧ Below w.heap.size w w' := by
 have hu60 := Try.underlying60
 have HB := Aside0.mk (Below.refl w.heap.size w)
 have H : ((macwilliams_Krawtchouk.f k a0 a1 a2 a3).bind fun bt102 => (if bt102.2.2.2 = 0 then ((codewrightref02_Is.f k bt102.1 bt102.2.1 bt102.2.2.1).bind fun t111 => (some (bt102.1, bt102.2.1, bt102.2.2.1, t111))) else (some (bt102.1, bt102.2.1, bt102.2.2.1, false)))) = some (r1, r2, r3, r4) := h
 clear h
 replace H := zb H
 obtain ⟨⟨t102, t103, t106, t109⟩, A5, H⟩ := H
 dsimp only at H
 replace H := zi H
 rcases H with ⟨c6, H⟩ | ⟨c6, H⟩
 · have c6b0 := beq_iff_eq.mpr c6
   have c6b1 := bne_eq_false_iff_eq.mpr c6
   clear c6
   replace H := zb H
   obtain ⟨t111, A7, H⟩ := H
   simp only [Option.some.injEq, Prod.mk.injEq] at H
   obtain ⟨rfl, rfl, rfl, rfl⟩ := H
   go_enter Try.func49, Try.ntmps49
   try go_wp2_with (first | ((with_reducible refine gate_dst (N := 8) rfl ?_); refine box_event ?hg (N := 8) ?hd (cs := #[.bool false, .slice none 0 0, .slice none 0 0]) (t := 60) ?hr ?_; (case hd => rfl); (case hg => rfl); (case hr => first | (go_simp; done) | (go_simp; rfl)); intro gb101 hg w8 hbox hb; have BK101 := Aside0.mk (hbox); have GW101 := yg hg HB; have GE101 := yg hg HB; replace HB := yS HB hb; clear hb hbox hg) | ((with_reducible refine gate_callee (f := 42) rfl ?_); refine zG (some 17) Try.func42 #[.int .i64 a0, .int .i64 a1, .int .i64 a2, .int .i64 a3] ?_; (with_reducible refine (macwilliams_Krawtchouk.calls k a0 a1 a2 a3 t102 t103 t106 t109 _ A5.out).mono ?_); rintro e w9 ⟨v104, v107, rfl, ho0, ho1, hb⟩; refine ⟨_, rfl, ?_⟩; have HO105 := Aside0.mk (Kd.V_lower (Kd.V_mono (ok' := fun k_ => (w.heap.size ≤ k_) ∧ k_ ≠ gb101) ho0 (fun k_ hk_ => ⟨(Nat.le_trans (below_size (zB1 HB.out GE101.out)) hk_), (Kd.freshB (g := gb101) (o := .cells #[.bool false, .slice none 0 0, .slice none 0 0] 60 (0, 0)) (by (with_reducible repeat (first | refine blk_drewN ?_ _ | refine blk_drew ?_ | refine blk_alloc ?_ _)); exact BK101.out) k_ hk_)⟩)) (below_size (zB1 HB.out GE101.out))); have HO108 := Aside0.mk (Kd.V_lower (Kd.V_mono (ok' := fun k_ => (w.heap.size ≤ k_) ∧ k_ ≠ gb101) ho1 (fun k_ hk_ => ⟨(Nat.le_trans (below_size (zB1 HB.out GE101.out)) hk_), (Kd.freshB (g := gb101) (o := .cells #[.bool false, .slice none 0 0, .slice none 0 0] 60 (0, 0)) (by (with_reducible repeat (first | refine blk_drewN ?_ _ | refine blk_drew ?_ | refine blk_alloc ?_ _)); exact BK101.out) k_ hk_)⟩)) (below_size (zB1 HB.out GE101.out))); replace BK101 := yK BK101 hb; replace HB := yS1 HB GE101 hb; (try clear hb ho0); (try clear ho1)) | ((with_reducible refine gate_dst (N := 10) rfl ?_); refine box_event ?hg (N := 10) ?hd (cs := #[.bool false, .slice none 0 0, .slice none 0 0]) (t := 60) ?hr ?_; (case hd => rfl); (case hg => rfl); (case hr => first | (go_simp; done) | (go_simp; rfl)); intro gb110 hg w10 hbox hb; replace HO105 := yVB HO105 hg hb; replace HO108 := yVB HO108 hg hb; have BK110 := Aside0.mk (hbox); have GW110 := yg1 hg HB GE101; have GE110 := yg1 hg HB GE101; replace HB := yS1 HB GE101 hb; have NB101_110 := ynl hg BK101; have NB110_101 := yng hg BK101; replace BK101 := yK BK101 hb; clear hb hbox hg; have hnb11 := NB110_101.out; have hnc11 := NB101_110.out; have hcz12_0 : w10.cell? ⟨gb110, 0, none⟩ = some (.bool false) := (blk_cell BK110.out 0).trans rfl; have hcz12_1 : w10.cell? ⟨gb110, 1, none⟩ = some (.slice none 0 0) := (blk_cell BK110.out 1).trans rfl; have hcz12_2 : w10.cell? ⟨gb110, 2, none⟩ = some (.slice none 0 0) := (blk_cell BK110.out 2).trans rfl; have hfz12_0 := blk_frozen BK110.out 0; have hfz12_1 := blk_frozen BK110.out 1; have hfz12_2 := blk_frozen BK110.out 2; obtain ⟨Ao13, co13, rfl⟩ := Kd.V_slice HO105.out; obtain ⟨Ao14, co14, rfl⟩ := Kd.V_slice HO108.out))
   have n0_ : Aside0 (Kd.V (Kd.int .u32) 97 (((w10.setCell ⟨gb110, 0, none⟩ (.bool t102)).setCell ⟨gb110, 1, none⟩ (.slice Ao13 t103.length co13)).setCell ⟨gb110, 2, none⟩ (.slice Ao14 t106.length co14)) w.heap.size (fun k_ => (w.heap.size ≤ k_) ∧ k_ ≠ gb101 ∧ k_ ≠ gb110) (.slice Ao13 t103.length co13) t103) := ⟨by (with_reducible repeat (first | apply Kd.V_alloc | apply Kd.V_drewN | apply Kd.V_drew)); exact Kd.V_mono (Kd.V_far (p := ⟨gb110, 2, none⟩) (Kd.V_far (p := ⟨gb110, 1, none⟩) (Kd.V_far (p := ⟨gb110, 0, none⟩) (Kd.V_mono HO105.out (fun k_ hk => (⟨hk, hk.2⟩ : _ ∧ k_ ≠ gb110))) (fun _ hk => hk.2) (.bool t102)) (fun _ hk => hk.2) (.slice Ao13 t103.length co13)) (fun _ hk => hk.2) (.slice Ao14 t106.length co14)) (fun _ hk => ⟨hk.1.1.1, ⟨hk.1.1.2, hk.1.2⟩⟩)⟩
   have n1_ : Aside0 (Kd.V (Kd.int .u32) 97 (((w10.setCell ⟨gb110, 0, none⟩ (.bool t102)).setCell ⟨gb110, 1, none⟩ (.slice Ao13 t103.length co13)).setCell ⟨gb110, 2, none⟩ (.slice Ao14 t106.length co14)) w.heap.size (fun k_ => (w.heap.size ≤ k_) ∧ k_ ≠ gb101 ∧ k_ ≠ gb110) (.slice Ao14 t106.length co14) t106) := ⟨by (with_reducible repeat (first | apply Kd.V_alloc | apply Kd.V_drewN | apply Kd.V_drew)); exact Kd.V_mono (Kd.V_far (p := ⟨gb110, 2, none⟩) (Kd.V_far (p := ⟨gb110, 1, none⟩) (Kd.V_far (p := ⟨gb110, 0, none⟩) (Kd.V_mono HO108.out (fun k_ hk => (⟨hk, hk.2⟩ : _ ∧ k_ ≠ gb110))) (fun _ hk => hk.2) (.bool t102)) (fun _ hk => hk.2) (.slice Ao13 t103.length co13)) (fun _ hk => hk.2) (.slice Ao14 t106.length co14)) (fun _ hk => ⟨hk.1.1.1, ⟨hk.1.1.2, hk.1.2⟩⟩)⟩
   have n2_ : Aside0 ((((w10.setCell ⟨gb110, 0, none⟩ (.bool t102)).setCell ⟨gb110, 1, none⟩ (.slice Ao13 t103.length co13)).setCell ⟨gb110, 2, none⟩ (.slice Ao14 t106.length co14)).heap[gb101]? = some (.cells #[.bool false, .slice none 0 0, .slice none 0 0] 60 (0, 0))) := ⟨by (with_reducible repeat (first | refine blk_drewN ?_ _ | refine blk_drew ?_ | refine blk_alloc ?_ _)); refine blk_far ?_ NB101_110.out _; (with_reducible repeat (first | refine blk_drewN ?_ _ | refine blk_drew ?_ | refine blk_alloc ?_ _)); refine blk_far ?_ NB101_110.out _; (with_reducible repeat (first | refine blk_drewN ?_ _ | refine blk_drew ?_ | refine blk_alloc ?_ _)); refine blk_far ?_ NB101_110.out _; (with_reducible repeat (first | refine blk_drewN ?_ _ | refine blk_drew ?_ | refine blk_alloc ?_ _)); exact BK101.out⟩
   have n3_ : Aside0 ((((w10.setCell ⟨gb110, 0, none⟩ (.bool t102)).setCell ⟨gb110, 1, none⟩ (.slice Ao13 t103.length co13)).setCell ⟨gb110, 2, none⟩ (.slice Ao14 t106.length co14)).heap[gb110]? = some (.cells #[.bool t102, .slice Ao13 t103.length co13, .slice Ao14 t106.length co14] 60 (0, 0))) := ⟨by (with_reducible repeat (first | refine blk_drewN ?_ _ | refine blk_drew ?_ | refine blk_alloc ?_ _)); refine blk_put (cs := #[.bool t102, .slice Ao13 t103.length co13, .slice none 0 0]) ?_ 2 _ rfl; (with_reducible repeat (first | refine blk_drewN ?_ _ | refine blk_drew ?_ | refine blk_alloc ?_ _)); refine blk_put (cs := #[.bool t102, .slice none 0 0, .slice none 0 0]) ?_ 1 _ rfl; (with_reducible repeat (first | refine blk_drewN ?_ _ | refine blk_drew ?_ | refine blk_alloc ?_ _)); refine blk_put (cs := #[.bool false, .slice none 0 0, .slice none 0 0]) ?_ 0 _ rfl; (with_reducible repeat (first | refine blk_drewN ?_ _ | refine blk_drew ?_ | refine blk_alloc ?_ _)); exact BK110.out⟩
   have n4_ : Aside0 (Below w.heap.size w (((w10.setCell ⟨gb110, 0, none⟩ (.bool t102)).setCell ⟨gb110, 1, none⟩ (.slice Ao13 t103.length co13)).setCell ⟨gb110, 2, none⟩ (.slice Ao14 t106.length co14))) := ⟨zB2 HB.out GE101.out GE110.out⟩
   (try clear HO105)
   (try clear HO108)
   (try clear BK101)
   (try clear BK110)
   (try clear HB)
   generalize (((w10.setCell ⟨gb110, 0, none⟩ (.bool t102)).setCell ⟨gb110, 1, none⟩ (.slice Ao13 t103.length co13)).setCell ⟨gb110, 2, none⟩ (.slice Ao14 t106.length co14)) = w15 at n0_ n1_ n2_ n3_ n4_ ⊢
   have HO105 := n0_
   have HO108 := n1_
   have BK101 := n2_
   have BK110 := n3_
   have HB := n4_
   clear n0_ n1_ n2_ n3_ n4_
   replace HO105 := Aside0.mk (Kd.V_drew HO105.out)
   replace HO108 := Aside0.mk (Kd.V_drew HO108.out)
   replace BK101 := Aside0.mk (blk_drew BK101.out)
   replace BK110 := Aside0.mk (blk_drew BK110.out)
   replace HB := Aside0.mk (below_drew1 HB.out)
   refine start_ (n := 9) (S := fun w' => w'.cell? ⟨gb110, 0, none⟩ = some (.bool t102) ∧ w'.cell? ⟨gb110, 1, none⟩ = some (.slice Ao13 t103.length co13) ∧ w'.cell? ⟨gb110, 2, none⟩ = some (.slice Ao14 t106.length co14)) (ds := []) #[false, false, false, false, false, false, false, false, false] (by kernel_rfl) rfl rfl ⟨(blk_cell BK110.out 0).trans rfl, (blk_cell BK110.out 1).trans rfl, (blk_cell BK110.out 2).trans rfl⟩ (fun hHeld => ?_); refine with_tabW codewrightlaw24_k.tab2 codewrightlaw24_k.bits2 (fun HT_ HW_ => ?_)
   generalize w15.drew = w16 at HO105 HO108 BK101 BK110 HB hHeld ⊢
   refine zp (i := 1) (N := some 21) HT_ ?_
   refine zp (i := 2) (N := some 22) HT_ ?_
   refine zp (i := 3) (N := some 23) HT_ ?_
   refine take_ (i := 0) (N := some 20) (v := ?_) (a' := ?_) #[true, true, true, true, false, false, false, false, false] rfl rfl (take_ofW HT_.out HW_.out (by kernel_rfl)) (fun _ _ _ h => h) (Or.inl ⟨by rfl, ?_⟩) hHeld ?_ ?_
   rotate_left
   · rintro w' ⟨s0, s1, s2⟩
     go_simp
     with_reducible rfl
   rotate_left
   · simp only [Act.put, List.setIfInBounds_toArray, List.set_cons_zero, List.set_cons_succ, i64_w, i32_w]
     rfl
   refine take_ (i := 4) (N := some 24) (v := ?_) (a' := ?_) #[true, true, true, true, true, false, false, false, false] rfl rfl (take_ofW HT_.out HW_.out (by kernel_rfl)) (fun _ _ _ h => h) (Or.inl ⟨by rfl, ?_⟩) hHeld ?_ ?_
   rotate_left
   · rintro w' ⟨s0, s1, s2⟩
     go_simp
     with_reducible rfl
   rotate_left
   · simp only [Act.put, List.setIfInBounds_toArray, List.set_cons_zero, List.set_cons_succ, i64_w, i32_w]
     rfl
   refine one_ (i := 5) (N := some 25) #[true, true, true, true, true, true, false, false, false] rfl rfl (one_of HT_.out (by kernel_rfl)) (by decide) (fun K hK => ?_)
   refine goes_ Try.func98 (by kernel_rfl) rfl #[.agg #[.bool t102, .slice Ao13 t103.length co13, .slice Ao14 t106.length co14]] (by rfl) rfl rfl (by (try simp only [List.map_toArray, List.map_cons, List.map_nil]); first | done | rfl | (simp only [List.length_drop, List.length_take]; rfl)) ?_
   with_reducible refine (codewrightref02_Is.calls k t102 _ _ t103 _ _ t106 t111 _ ?side1 ?side2 ?side3 ?side4 A7.out).mono ?_
   (case side1 => exact zC (Kd.V_reads' HO105.out).2.2)
   (case side2 => exact (Kd.V_reads' HO105.out).2.1)
   (case side3 => exact zC (Kd.V_reads' HO108.out).2.2)
   (case side4 => exact (Kd.V_reads' HO108.out).2.1)
   rintro e w17 ⟨rfl, hb⟩
   refine ⟨_, rfl, ?_⟩
   replace HO105 := yVb HO105 hb
   replace HO108 := yVb HO108 hb
   replace BK101 := yK BK101 hb
   replace BK110 := yK BK110 hb
   replace HB := yS2 HB GE101 GE110 hb
   (try clear hb)
   (try clear hb2)
   (try clear hk)
   (try clear hi)
   refine hK.out _ _ ⟨(blk_cell BK110.out 0).trans rfl, (blk_cell BK110.out 1).trans rfl, (blk_cell BK110.out 2).trans rfl⟩ (fun hHeld => ?_)
   clear hK K
   refine norm_ (a' := ?_) ?_ ?_
   rotate_left
   · show Act.put _ (some 25) _ = _
     simp only [Act.put, List.setIfInBounds_toArray, List.set_cons_zero, List.set_cons_succ, i64_w, i32_w]
     rfl
   refine zp (i := 6) (N := some 26) HT_ ?_
   refine one_ (i := 7) (N := none) #[true, true, true, true, true, true, true, true, false] rfl rfl (one_of HT_.out (by kernel_rfl)) (by decide) (fun K hK => ?_)
   have hs18 : w17.cell? ⟨gb101, 0, none⟩ = some (.bool false) := (blk_cell BK101.out 0).trans rfl
   have hfs18 := blk_frozen BK101.out 0
   have hns18_1 := NB110_101.out
   have hms18_1 := NB101_110.out
   have hs19 : w17.cell? ⟨gb101, 1, none⟩ = some (.slice none 0 0) := (blk_cell BK101.out 1).trans rfl
   have hfs19 := blk_frozen BK101.out 1
   have hns19_1 := NB110_101.out
   have hms19_1 := NB101_110.out
   have hs20 : w17.cell? ⟨gb101, 2, none⟩ = some (.slice none 0 0) := (blk_cell BK101.out 2).trans rfl
   have hfs20 := blk_frozen BK101.out 2
   have hns20_1 := NB110_101.out
   have hms20_1 := NB101_110.out
   refine skip_ (w1 := ?_) (by rfl) rfl ?_ ?_
   rotate_left
   · go_simp
     rfl
   refine hK.out _ _ ⟨((cell_far (p := ⟨gb101, _, none⟩) NB110_101.out _).trans (((cell_far (p := ⟨gb101, _, none⟩) NB110_101.out _).trans (((cell_far (p := ⟨gb101, _, none⟩) NB110_101.out _).trans (hHeld.1)))))), ((cell_far (p := ⟨gb101, _, none⟩) NB110_101.out _).trans (((cell_far (p := ⟨gb101, _, none⟩) NB110_101.out _).trans (((cell_far (p := ⟨gb101, _, none⟩) NB110_101.out _).trans (hHeld.2.1)))))), ((cell_far (p := ⟨gb101, _, none⟩) NB110_101.out _).trans (((cell_far (p := ⟨gb101, _, none⟩) NB110_101.out _).trans (((cell_far (p := ⟨gb101, _, none⟩) NB110_101.out _).trans (hHeld.2.2))))))⟩ (fun hHeld => ?_)
   clear hK K
   refine zp (i := 8) (N := some 9) HT_ ?_
   refine done_ (done_of HT_.out (by kernel_rfl)) ?_
   try go_wp2
   refine bodyPost_ret (results_ct rfl _ _ gb101 60 #[.bool t102, .slice Ao13 t103.length co13, .slice Ao14 t106.length co14] (0, 0) _ rfl (by (with_reducible repeat (first | refine blk_drewN ?_ _ | refine blk_drew ?_ | refine blk_alloc ?_ _)); refine blk_put (cs := #[.bool t102, .slice Ao13 t103.length co13, .slice none 0 0]) ?_ 2 _ rfl; (with_reducible repeat (first | refine blk_drewN ?_ _ | refine blk_drew ?_ | refine blk_alloc ?_ _)); refine blk_put (cs := #[.bool t102, .slice none 0 0, .slice none 0 0]) ?_ 1 _ rfl; (with_reducible repeat (first | refine blk_drewN ?_ _ | refine blk_drew ?_ | refine blk_alloc ?_ _)); refine blk_put (cs := #[.bool false, .slice none 0 0, .slice none 0 0]) ?_ 0 _ rfl; (with_reducible repeat (first | refine blk_drewN ?_ _ | refine blk_drew ?_ | refine blk_alloc ?_ _)); exact BK101.out) Try.underlying60 rfl (by kernel_rfl)) rfl ?_
   exact ⟨_, _, zE, by (with_reducible repeat (first | apply Kd.V_alloc | apply Kd.V_drewN | apply Kd.V_drew)); exact Kd.V_mono (Kd.V_far (p := ⟨gb101, 2, none⟩) (Kd.V_far (p := ⟨gb101, 1, none⟩) (Kd.V_far (p := ⟨gb101, 0, none⟩) (Kd.V_mono HO105.out (fun k_ hk => (⟨hk, hk.2.1⟩ : _ ∧ k_ ≠ gb101))) (fun _ hk => hk.2) (.bool t102)) (fun _ hk => hk.2) (.slice Ao13 t103.length co13)) (fun _ hk => hk.2) (.slice Ao14 t106.length co14)) (fun _ hk => hk.1.1), by (with_reducible repeat (first | apply Kd.V_alloc | apply Kd.V_drewN | apply Kd.V_drew)); exact Kd.V_mono (Kd.V_far (p := ⟨gb101, 2, none⟩) (Kd.V_far (p := ⟨gb101, 1, none⟩) (Kd.V_far (p := ⟨gb101, 0, none⟩) (Kd.V_mono HO108.out (fun k_ hk => (⟨hk, hk.2.1⟩ : _ ∧ k_ ≠ gb101))) (fun _ hk => hk.2) (.bool t102)) (fun _ hk => hk.2) (.slice Ao13 t103.length co13)) (fun _ hk => hk.2) (.slice Ao14 t106.length co14)) (fun _ hk => hk.1.1), zB2 HB.out GE101.out GE110.out⟩
 have c6b0 := beq_eq_false_iff_ne.mpr c6
 have c6b1 := bne_iff_ne.mpr c6
 simp only [Option.some.injEq, Prod.mk.injEq] at H
 obtain ⟨rfl, rfl, rfl, rfl⟩ := H
 go_enter Try.func49, Try.ntmps49
 try go_wp2_with (first | ((with_reducible refine gate_dst (N := 8) rfl ?_); refine box_event ?hg (N := 8) ?hd (cs := #[.bool false, .slice none 0 0, .slice none 0 0]) (t := 60) ?hr ?_; (case hd => rfl); (case hg => rfl); (case hr => first | (go_simp; done) | (go_simp; rfl)); intro gb101 hg w21 hbox hb; have BK101 := Aside0.mk (hbox); have GW101 := yg hg HB; have GE101 := yg hg HB; replace HB := yS HB hb; clear hb hbox hg) | ((with_reducible refine gate_callee (f := 42) rfl ?_); refine zG (some 17) Try.func42 #[.int .i64 a0, .int .i64 a1, .int .i64 a2, .int .i64 a3] ?_; (with_reducible refine (macwilliams_Krawtchouk.calls k a0 a1 a2 a3 t102 t103 t106 t109 _ A5.out).mono ?_); rintro e w22 ⟨v104, v107, rfl, ho0, ho1, hb⟩; refine ⟨_, rfl, ?_⟩; have HO105 := Aside0.mk (Kd.V_lower (Kd.V_mono (ok' := fun k_ => (w.heap.size ≤ k_) ∧ k_ ≠ gb101) ho0 (fun k_ hk_ => ⟨(Nat.le_trans (below_size (zB1 HB.out GE101.out)) hk_), (Kd.freshB (g := gb101) (o := .cells #[.bool false, .slice none 0 0, .slice none 0 0] 60 (0, 0)) (by (with_reducible repeat (first | refine blk_drewN ?_ _ | refine blk_drew ?_ | refine blk_alloc ?_ _)); exact BK101.out) k_ hk_)⟩)) (below_size (zB1 HB.out GE101.out))); have HO108 := Aside0.mk (Kd.V_lower (Kd.V_mono (ok' := fun k_ => (w.heap.size ≤ k_) ∧ k_ ≠ gb101) ho1 (fun k_ hk_ => ⟨(Nat.le_trans (below_size (zB1 HB.out GE101.out)) hk_), (Kd.freshB (g := gb101) (o := .cells #[.bool false, .slice none 0 0, .slice none 0 0] 60 (0, 0)) (by (with_reducible repeat (first | refine blk_drewN ?_ _ | refine blk_drew ?_ | refine blk_alloc ?_ _)); exact BK101.out) k_ hk_)⟩)) (below_size (zB1 HB.out GE101.out))); replace BK101 := yK BK101 hb; replace HB := yS1 HB GE101 hb; (try clear hb ho0); (try clear ho1)) | ((with_reducible refine gate_dst (N := 10) rfl ?_); refine box_event ?hg (N := 10) ?hd (cs := #[.bool false, .slice none 0 0, .slice none 0 0]) (t := 60) ?hr ?_; (case hd => rfl); (case hg => rfl); (case hr => first | (go_simp; done) | (go_simp; rfl)); intro gb110 hg w23 hbox hb; replace HO105 := yVB HO105 hg hb; replace HO108 := yVB HO108 hg hb; have BK110 := Aside0.mk (hbox); have GW110 := yg1 hg HB GE101; have GE110 := yg1 hg HB GE101; replace HB := yS1 HB GE101 hb; have NB101_110 := ynl hg BK101; have NB110_101 := yng hg BK101; replace BK101 := yK BK101 hb; clear hb hbox hg; have hnb24 := NB110_101.out; have hnc24 := NB101_110.out; have hcz25_0 : w23.cell? ⟨gb110, 0, none⟩ = some (.bool false) := (blk_cell BK110.out 0).trans rfl; have hcz25_1 : w23.cell? ⟨gb110, 1, none⟩ = some (.slice none 0 0) := (blk_cell BK110.out 1).trans rfl; have hcz25_2 : w23.cell? ⟨gb110, 2, none⟩ = some (.slice none 0 0) := (blk_cell BK110.out 2).trans rfl; have hfz25_0 := blk_frozen BK110.out 0; have hfz25_1 := blk_frozen BK110.out 1; have hfz25_2 := blk_frozen BK110.out 2; obtain ⟨Ao26, co26, rfl⟩ := Kd.V_slice HO105.out; obtain ⟨Ao27, co27, rfl⟩ := Kd.V_slice HO108.out))
 have n0_ : Aside0 (Kd.V (Kd.int .u32) 97 (((w23.setCell ⟨gb110, 0, none⟩ (.bool t102)).setCell ⟨gb110, 1, none⟩ (.slice Ao26 t103.length co26)).setCell ⟨gb110, 2, none⟩ (.slice Ao27 t106.length co27)) w.heap.size (fun k_ => (w.heap.size ≤ k_) ∧ k_ ≠ gb101 ∧ k_ ≠ gb110) (.slice Ao26 t103.length co26) t103) := ⟨by (with_reducible repeat (first | apply Kd.V_alloc | apply Kd.V_drewN | apply Kd.V_drew)); exact Kd.V_mono (Kd.V_far (p := ⟨gb110, 2, none⟩) (Kd.V_far (p := ⟨gb110, 1, none⟩) (Kd.V_far (p := ⟨gb110, 0, none⟩) (Kd.V_mono HO105.out (fun k_ hk => (⟨hk, hk.2⟩ : _ ∧ k_ ≠ gb110))) (fun _ hk => hk.2) (.bool t102)) (fun _ hk => hk.2) (.slice Ao26 t103.length co26)) (fun _ hk => hk.2) (.slice Ao27 t106.length co27)) (fun _ hk => ⟨hk.1.1.1, ⟨hk.1.1.2, hk.1.2⟩⟩)⟩
 have n1_ : Aside0 (Kd.V (Kd.int .u32) 97 (((w23.setCell ⟨gb110, 0, none⟩ (.bool t102)).setCell ⟨gb110, 1, none⟩ (.slice Ao26 t103.length co26)).setCell ⟨gb110, 2, none⟩ (.slice Ao27 t106.length co27)) w.heap.size (fun k_ => (w.heap.size ≤ k_) ∧ k_ ≠ gb101 ∧ k_ ≠ gb110) (.slice Ao27 t106.length co27) t106) := ⟨by (with_reducible repeat (first | apply Kd.V_alloc | apply Kd.V_drewN | apply Kd.V_drew)); exact Kd.V_mono (Kd.V_far (p := ⟨gb110, 2, none⟩) (Kd.V_far (p := ⟨gb110, 1, none⟩) (Kd.V_far (p := ⟨gb110, 0, none⟩) (Kd.V_mono HO108.out (fun k_ hk => (⟨hk, hk.2⟩ : _ ∧ k_ ≠ gb110))) (fun _ hk => hk.2) (.bool t102)) (fun _ hk => hk.2) (.slice Ao26 t103.length co26)) (fun _ hk => hk.2) (.slice Ao27 t106.length co27)) (fun _ hk => ⟨hk.1.1.1, ⟨hk.1.1.2, hk.1.2⟩⟩)⟩
 have n2_ : Aside0 ((((w23.setCell ⟨gb110, 0, none⟩ (.bool t102)).setCell ⟨gb110, 1, none⟩ (.slice Ao26 t103.length co26)).setCell ⟨gb110, 2, none⟩ (.slice Ao27 t106.length co27)).heap[gb101]? = some (.cells #[.bool false, .slice none 0 0, .slice none 0 0] 60 (0, 0))) := ⟨by (with_reducible repeat (first | refine blk_drewN ?_ _ | refine blk_drew ?_ | refine blk_alloc ?_ _)); refine blk_far ?_ NB101_110.out _; (with_reducible repeat (first | refine blk_drewN ?_ _ | refine blk_drew ?_ | refine blk_alloc ?_ _)); refine blk_far ?_ NB101_110.out _; (with_reducible repeat (first | refine blk_drewN ?_ _ | refine blk_drew ?_ | refine blk_alloc ?_ _)); refine blk_far ?_ NB101_110.out _; (with_reducible repeat (first | refine blk_drewN ?_ _ | refine blk_drew ?_ | refine blk_alloc ?_ _)); exact BK101.out⟩
 have n3_ : Aside0 ((((w23.setCell ⟨gb110, 0, none⟩ (.bool t102)).setCell ⟨gb110, 1, none⟩ (.slice Ao26 t103.length co26)).setCell ⟨gb110, 2, none⟩ (.slice Ao27 t106.length co27)).heap[gb110]? = some (.cells #[.bool t102, .slice Ao26 t103.length co26, .slice Ao27 t106.length co27] 60 (0, 0))) := ⟨by (with_reducible repeat (first | refine blk_drewN ?_ _ | refine blk_drew ?_ | refine blk_alloc ?_ _)); refine blk_put (cs := #[.bool t102, .slice Ao26 t103.length co26, .slice none 0 0]) ?_ 2 _ rfl; (with_reducible repeat (first | refine blk_drewN ?_ _ | refine blk_drew ?_ | refine blk_alloc ?_ _)); refine blk_put (cs := #[.bool t102, .slice none 0 0, .slice none 0 0]) ?_ 1 _ rfl; (with_reducible repeat (first | refine blk_drewN ?_ _ | refine blk_drew ?_ | refine blk_alloc ?_ _)); refine blk_put (cs := #[.bool false, .slice none 0 0, .slice none 0 0]) ?_ 0 _ rfl; (with_reducible repeat (first | refine blk_drewN ?_ _ | refine blk_drew ?_ | refine blk_alloc ?_ _)); exact BK110.out⟩
 have n4_ : Aside0 (Below w.heap.size w (((w23.setCell ⟨gb110, 0, none⟩ (.bool t102)).setCell ⟨gb110, 1, none⟩ (.slice Ao26 t103.length co26)).setCell ⟨gb110, 2, none⟩ (.slice Ao27 t106.length co27))) := ⟨zB2 HB.out GE101.out GE110.out⟩
 (try clear HO105)
 (try clear HO108)
 (try clear BK101)
 (try clear BK110)
 (try clear HB)
 generalize (((w23.setCell ⟨gb110, 0, none⟩ (.bool t102)).setCell ⟨gb110, 1, none⟩ (.slice Ao26 t103.length co26)).setCell ⟨gb110, 2, none⟩ (.slice Ao27 t106.length co27)) = w28 at n0_ n1_ n2_ n3_ n4_ ⊢
 have HO105 := n0_
 have HO108 := n1_
 have BK101 := n2_
 have BK110 := n3_
 have HB := n4_
 clear n0_ n1_ n2_ n3_ n4_
 replace HO105 := Aside0.mk (Kd.V_drew HO105.out)
 replace HO108 := Aside0.mk (Kd.V_drew HO108.out)
 replace BK101 := Aside0.mk (blk_drew BK101.out)
 replace BK110 := Aside0.mk (blk_drew BK110.out)
 replace HB := Aside0.mk (below_drew1 HB.out)
 refine start_ (n := 9) (S := fun w' => w'.cell? ⟨gb110, 0, none⟩ = some (.bool t102) ∧ w'.cell? ⟨gb110, 1, none⟩ = some (.slice Ao26 t103.length co26) ∧ w'.cell? ⟨gb110, 2, none⟩ = some (.slice Ao27 t106.length co27)) (ds := []) #[false, false, false, false, false, false, false, false, false] (by kernel_rfl) rfl rfl ⟨(blk_cell BK110.out 0).trans rfl, (blk_cell BK110.out 1).trans rfl, (blk_cell BK110.out 2).trans rfl⟩ (fun hHeld => ?_); refine with_tabW codewrightlaw24_k.tab2 codewrightlaw24_k.bits2 (fun HT_ HW_ => ?_)
 generalize w28.drew = w29 at HO105 HO108 BK101 BK110 HB hHeld ⊢
 refine zp (i := 1) (N := some 21) HT_ ?_
 refine zp (i := 2) (N := some 22) HT_ ?_
 refine zp (i := 3) (N := some 23) HT_ ?_
 refine pure_ (i := 4) (N := some 24) (v := undef) (a' := ?_) #[false, true, true, true, true, false, false, false, false] rfl rfl (any_of HT_.out (by kernel_rfl)) (fun _ _ _ h => h) (Or.inr ⟨by rfl, rfl⟩) ?_ ?_
 rotate_left
 · simp only [Act.put, List.setIfInBounds_toArray, List.set_cons_zero, List.set_cons_succ, i64_w, i32_w]
   rfl
 refine pure_ (i := 5) (N := some 25) (v := undef) (a' := ?_) #[false, true, true, true, true, true, false, false, false] rfl rfl (any_of HT_.out (by kernel_rfl)) (fun _ _ _ h => h) (Or.inr ⟨by rfl, rfl⟩) ?_ ?_
 rotate_left
 · simp only [Act.put, List.setIfInBounds_toArray, List.set_cons_zero, List.set_cons_succ, i64_w, i32_w]
   rfl
 refine zp (i := 6) (N := some 26) HT_ ?_
 refine take_ (i := 0) (N := some 20) (v := ?_) (a' := ?_) #[true, true, true, true, true, true, true, false, false] rfl rfl (take_ofW HT_.out HW_.out (by kernel_rfl)) (fun _ _ _ h => h) (Or.inl ⟨by rfl, ?_⟩) hHeld ?_ ?_
 rotate_left
 · rintro w' ⟨s0, s1, s2⟩
   go_simp
   with_reducible rfl
 rotate_left
 · simp only [Act.put, List.setIfInBounds_toArray, List.set_cons_zero, List.set_cons_succ, i64_w, i32_w]
   rfl
 refine one_ (i := 7) (N := none) #[true, true, true, true, true, true, true, true, false] rfl rfl (one_of HT_.out (by kernel_rfl)) (by decide) (fun K hK => ?_)
 have hs30 : w29.cell? ⟨gb101, 0, none⟩ = some (.bool false) := (blk_cell BK101.out 0).trans rfl
 have hfs30 := blk_frozen BK101.out 0
 have hns30_1 := NB110_101.out
 have hms30_1 := NB101_110.out
 have hs31 : w29.cell? ⟨gb101, 1, none⟩ = some (.slice none 0 0) := (blk_cell BK101.out 1).trans rfl
 have hfs31 := blk_frozen BK101.out 1
 have hns31_1 := NB110_101.out
 have hms31_1 := NB101_110.out
 have hs32 : w29.cell? ⟨gb101, 2, none⟩ = some (.slice none 0 0) := (blk_cell BK101.out 2).trans rfl
 have hfs32 := blk_frozen BK101.out 2
 have hns32_1 := NB110_101.out
 have hms32_1 := NB101_110.out
 refine skip_ (w1 := ?_) (by rfl) rfl ?_ ?_
 rotate_left
 · go_simp
   rfl
 refine hK.out _ _ ⟨((cell_far (p := ⟨gb101, _, none⟩) NB110_101.out _).trans (((cell_far (p := ⟨gb101, _, none⟩) NB110_101.out _).trans (((cell_far (p := ⟨gb101, _, none⟩) NB110_101.out _).trans (hHeld.1)))))), ((cell_far (p := ⟨gb101, _, none⟩) NB110_101.out _).trans (((cell_far (p := ⟨gb101, _, none⟩) NB110_101.out _).trans (((cell_far (p := ⟨gb101, _, none⟩) NB110_101.out _).trans (hHeld.2.1)))))), ((cell_far (p := ⟨gb101, _, none⟩) NB110_101.out _).trans (((cell_far (p := ⟨gb101, _, none⟩) NB110_101.out _).trans (((cell_far (p := ⟨gb101, _, none⟩) NB110_101.out _).trans (hHeld.2.2))))))⟩ (fun hHeld => ?_)
 clear hK K
 refine zp (i := 8) (N := some 9) HT_ ?_
 refine done_ (done_of HT_.out (by kernel_rfl)) ?_
 try go_wp2
 refine bodyPost_ret (results_ct rfl _ _ gb101 60 #[.bool t102, .slice Ao26 t103.length co26, .slice Ao27 t106.length co27] (0, 0) _ rfl (by (with_reducible repeat (first | refine blk_drewN ?_ _ | refine blk_drew ?_ | refine blk_alloc ?_ _)); refine blk_put (cs := #[.bool t102, .slice Ao26 t103.length co26, .slice none 0 0]) ?_ 2 _ rfl; (with_reducible repeat (first | refine blk_drewN ?_ _ | refine blk_drew ?_ | refine blk_alloc ?_ _)); refine blk_put (cs := #[.bool t102, .slice none 0 0, .slice none 0 0]) ?_ 1 _ rfl; (with_reducible repeat (first | refine blk_drewN ?_ _ | refine blk_drew ?_ | refine blk_alloc ?_ _)); refine blk_put (cs := #[.bool false, .slice none 0 0, .slice none 0 0]) ?_ 0 _ rfl; (with_reducible repeat (first | refine blk_drewN ?_ _ | refine blk_drew ?_ | refine blk_alloc ?_ _)); exact BK101.out) Try.underlying60 rfl (by kernel_rfl)) rfl ?_
 exact ⟨_, _, zE, by (with_reducible repeat (first | apply Kd.V_alloc | apply Kd.V_drewN | apply Kd.V_drew)); exact Kd.V_mono (Kd.V_far (p := ⟨gb101, 2, none⟩) (Kd.V_far (p := ⟨gb101, 1, none⟩) (Kd.V_far (p := ⟨gb101, 0, none⟩) (Kd.V_mono HO105.out (fun k_ hk => (⟨hk, hk.2.1⟩ : _ ∧ k_ ≠ gb101))) (fun _ hk => hk.2) (.bool t102)) (fun _ hk => hk.2) (.slice Ao26 t103.length co26)) (fun _ hk => hk.2) (.slice Ao27 t106.length co27)) (fun _ hk => hk.1.1), by (with_reducible repeat (first | apply Kd.V_alloc | apply Kd.V_drewN | apply Kd.V_drew)); exact Kd.V_mono (Kd.V_far (p := ⟨gb101, 2, none⟩) (Kd.V_far (p := ⟨gb101, 1, none⟩) (Kd.V_far (p := ⟨gb101, 0, none⟩) (Kd.V_mono HO108.out (fun k_ hk => (⟨hk, hk.2.1⟩ : _ ∧ k_ ≠ gb101))) (fun _ hk => hk.2) (.bool t102)) (fun _ hk => hk.2) (.slice Ao26 t103.length co26)) (fun _ hk => hk.2) (.slice Ao27 t106.length co27)) (fun _ hk => hk.1.1), zB2 HB.out GE101.out GE110.out⟩
set_option maxHeartbeats 8000000 in
set_option maxRecDepth 100000 in
theorem codewrightref01_small.calls (k : Nat) (A0 : Option Addr) (c0 : Nat) (l0 : List Int) (a1 : Int) (a2 : Int) (r : List Int) (w : World) (hr0 : Kd.C (Kd.int .u32) w A0 l0.length l0) (hc0 : l0.length ≤ c0) (h : codewrightref01_small.f k l0 a1 a2 = some r) :
    Calls Try.prog 120 #[.slice A0 l0.length c0, .int .i64 a1, .int .i64 a2] w fun e w' => ∃ v0_ : Value, e = .returned (v0_) ∧ Kd.R (Kd.int .u32) 97 w' w.heap.size (fun _ => True) v0_ r ∧ Below w.heap.size w w' := by
 have HR0 := Aside0.mk hr0
 have HC0 := Aside0.mk hc0
 clear hr0 hc0
 have HB := Aside0.mk (Below.refl w.heap.size w)
 have H : ((codewrightref01_Of.f k (IntKind.u64.wrap (a1))).bind fun t101 => ((codewrightref01_Mul.f k l0 t101).bind fun t104 => (if 0 ≤ (t104.length : Int) then (if ((t104.length : Int) : Int).toNat ≤ 70368744177664 then (codewrightref01_small.l0 k t104 a2 (List.replicate ((t104.length : Int) : Int).toNat 0) 0 (wrap64 ((t104.length : Int) - 1))) else (none)) else (none)))) = some r := h
 clear h
 replace H := zb H
 obtain ⟨t101, A4, H⟩ := H
 replace H := zb H
 obtain ⟨t104, A5, H⟩ := H
 replace H := zg H
 obtain ⟨c6, H⟩ := H
 have c6b0 := eq_true c6
 have c6b1 := decide_eq_true c6
 clear c6
 replace H := zg H
 obtain ⟨c7, H⟩ := H
 have c7b0 := eq_true c7
 have c7b1 := decide_eq_true c7
 clear c7
 obtain ⟨y107, hy107⟩ : ∃ y_ : List Int, y_ = (List.replicate ((t104.length : Int) : Int).toNat 0) := ⟨_, rfl⟩
 replace H : (codewrightref01_small.l0 k t104 a2 y107 0 (wrap64 ((t104.length : Int) - 1))) = some r := zY hy107 H
 have Ny107 := Aside0.mk hy107
 clear hy107
 have H' := Aside0.mk H
 clear H
 go_enter Try.func120, Try.ntmps120
 go_wp2_with (first | ((with_reducible refine gate_callee (f := 23) rfl ?_); refine zG (some 14) Try.func23 #[.int .u64 (IntKind.u64.wrap (a1))] ?_; (with_reducible refine (codewrightref01_Of.calls k (IntKind.u64.wrap (a1)) t101 _ A4.out).mono ?_); rintro e w8 ⟨v102, rfl, ho0, hb⟩; refine ⟨_, rfl, ?_⟩; have HO103 := yRl ho0 HB; replace HB := yS HB hb; (try clear hb ho0); obtain ⟨Ao9, co9, rfl⟩ := Kd.R_slice HO103.out) | ((with_reducible refine gate_callee (f := 26) rfl ?_); refine zG (some 15) Try.func26 #[.slice A0 l0.length c0, .slice Ao9 t101.length co9] ?_; (with_reducible refine (codewrightref01_Mul.calls k _ _ l0 _ _ t101 t104 _ ?side1 ?side2 ?side3 ?side4 A5.out).mono ?_); (case side1 => exact zC (Kd.C_below HR0.out HB.out)); (case side2 => exact HC0.out); (case side3 => exact zC (Kd.R_reads' HO103.out).2.2); (case side4 => exact (Kd.R_reads' HO103.out).2.1); rintro e w10 ⟨v105, rfl, ho0, hb⟩; refine ⟨_, rfl, ?_⟩; replace ho0 := yn ho0 HO103; have HO106 := yRl ho0 HB; replace HO103 := yRe HO103 ho0 hb; replace HB := yS HB hb; (try clear hb ho0); obtain ⟨Ao11, co11, rfl⟩ := Kd.R_slice HO106.out) | ((with_reducible refine gate_dst (N := 18) rfl ?_); refine Kd.R_make (Kd.int .u32) _ 97 rfl (N := 18) rfl 29 _ _ rfl (t104.length : Int) rfl rfl Try.underlying29 (.int .u32 0) 4 info97 rfl (by decide) (by omega) 0 (ok := fun _ => True) (okp := fun _ => True) rfl (fun _ hk => hk) trivial (of_decide_eq_true zA) (Nat.le_trans (Nat.mul_le_mul_right _ (of_decide_eq_true zA : (t104.length : Int).toNat ≤ 70368744177664)) (by omega)) (Below.refl _ _) (Nat.le_refl _) ?_; intro v108 w12 ho13 hb hg_ hnew_; clear hg_ hnew_; (first | rw [← Ny107.out] at ho13 | (simp only [Int.reduceToNat] at ho13; rw [← Ny107.out] at ho13)); replace ho13 := yn ho13 HO103; replace ho13 := yn ho13 HO106; have HO109 := yRl ho13 HB; replace HO103 := yRe HO103 ho13 hb; replace HO106 := yRe HO106 ho13 hb; replace HB := yS HB hb; clear hb ho13))
 go_loopg [8, 9] k (fun kq v8 v9 w' => ∃ (x7_1 : List Int) (x8_1 : Int) (x9_1 : Int), v8 = .int .u64 x8_1 ∧ v9 = .int .i64 x9_1 ∧ Aside0 (codewrightref01_small.l0 kq t104 a2 x7_1 x8_1 x9_1 = some r) ∧ Aside0 (kq ≤ k) ∧ Aside0 (Kd.R (Kd.int .u32) 97 w' w.heap.size (fun k_ => some k_ ≠ (v108 : Value).ownBlock) (.slice Ao11 t104.length co11) t104) ∧ Aside0 (Kd.R (Kd.int .u32) 97 w' w.heap.size (fun k_ => some k_ ≠ ((.slice Ao11 t104.length co11) : Value).ownBlock) v108 x7_1) ∧ Aside0 (Below w.heap.size w w'))
 case atStart => exact ⟨(y107), (0), (wrap64 ((t104.length : Int) - 1)), zF, zF, H', ⟨Nat.le_refl _⟩, ⟨by (with_reducible repeat (first | apply Kd.R_alloc | apply Kd.R_drewN | apply Kd.R_drew)); exact Kd.R_mono HO106.out (fun _ hk => hk.2)⟩, ⟨by (with_reducible repeat (first | apply Kd.R_alloc | apply Kd.R_drewN | apply Kd.R_drew)); exact Kd.R_mono HO109.out (fun _ hk => hk.2)⟩, ⟨zB HB.out⟩⟩
 clear H'
 (try clear c1);(try clear c2);(try clear p2);(try clear c6);(try clear c6b0);(try clear c6b1);(try clear p6);(try clear c7);(try clear c7b0);(try clear c7b1);(try clear c12)
 obtain ⟨x7_1, x8_1, x9_1, rfl, rfl, HA, HK1, HO_0, HO_7, HB⟩ := hrel
 cases gk with | zero => exact absurd HA.out (by simp [codewrightref01_small.l0]) | succ k1 => ?_
 have H := HA.out
 clear HA
 simp only [codewrightref01_small.l0] at H
 replace H := zi H
 rcases H with ⟨c14, H⟩ | ⟨c14, H⟩
 · have c14b0 : decide (0 ≤ x9_1) = true := decide_eq_true c14
   clear c14
   replace H := zg H
   obtain ⟨c15, H⟩ := H
   have c15b0 := decide_eq_true c15
   clear c15
   replace H := zg H
   obtain ⟨c16, H⟩ := H
   have c16b0 := decide_eq_true c16
   clear c16
   replace H := zh H
   obtain ⟨c17, H⟩ := H
   have c17b0 := beq_eq_false_iff_ne.mpr c17
   have c17b1 := bne_iff_ne.mpr c17
   replace H := zg H
   obtain ⟨c18, H⟩ := H
   have c18b0 := decide_eq_true c18
   clear c18
   obtain ⟨y111, hy111⟩ : ∃ y_ : List Int, y_ = (x7_1.set (x9_1 : Int).toNat ((IntKind.u64.wrap (Int.tdiv (IntKind.u64.wrap ((IntKind.u64.wrap (x8_1 * 4294967296)) + (IntKind.u64.wrap (rd t104 x9_1)))) (IntKind.u64.wrap (a2)))) % 4294967296)) := ⟨_, rfl⟩
   replace H : (codewrightref01_small.l0 k1 t104 a2 y111 (Int.tmod (IntKind.u64.wrap ((IntKind.u64.wrap (x8_1 * 4294967296)) + (IntKind.u64.wrap (rd t104 x9_1)))) (IntKind.u64.wrap (a2))) (wrap64 (x9_1 - 1))) = some r := zY hy111 H
   have Ny111 := Aside0.mk hy111
   clear hy111
   have H' := Aside0.mk H
   clear H
   have p110 : 0 ≤ (x9_1 : Int) := of_decide_eq_true zA
   have q110 : x9_1 < (t104.length : Int) := of_decide_eq_true zA
   obtain ⟨ad110, e110, hx110_0⟩ := Kd.at_int (Kd.R_reads' HO_0.out).2.2 x9_1 p110 q110
   cases e110
   replace p110 := eq_true p110
   replace q110 := eq_true q110
   have p19 : 0 ≤ (x9_1 : Int) := of_decide_eq_true zA
   have q19 : (x9_1 : Int) < ((x7_1.length : Int) : Int) := of_decide_eq_true zA
   obtain ⟨go19, co19, eo19, gb19, gl19, cl19, HG19⟩ := Kd.R_form HO_7.out (by omega)
   (first | cases eo19 | (injection eo19 with ea_ en_ ec_; (first | subst ea_ | (injection ea_ with ea_; subst ea_)); subst ec_; clear en_))
   have GB19 := Aside0.mk gb19
   have GG19 := Aside0.mk HG19
   clear gb19 gl19 HG19
   obtain ⟨hx19_0, hf19_0⟩ := Kd.R_celln 0 HO_7.out (x9_1 : Int) p19 q19
   replace p19 := eq_true p19
   replace q19 := eq_true q19
   have HP20 := Kd.R_putg HO_7.out (x9_1 : Int) ((IntKind.u64.wrap (Int.tdiv (IntKind.u64.wrap ((IntKind.u64.wrap (x8_1 * 4294967296)) + (IntKind.u64.wrap (rd t104 x9_1)))) (IntKind.u64.wrap (a2)))) % 4294967296)
   go_wp2_with (first | ((with_reducible refine gate_store (t := 97) (p := 41) rfl ?_); refine store_event (t := 97) (p := 41) (v := ?vo_w21) (w1 := (wr.setCell ⟨go19, (x9_1 : Int).toNat, none⟩ (.int .u32 ((IntKind.u64.wrap (Int.tdiv (IntKind.u64.wrap ((IntKind.u64.wrap (x8_1 * 4294967296)) + (IntKind.u64.wrap (rd t104 x9_1)))) (IntKind.u64.wrap (a2)))) % 4294967296)))) ?hg ?ho ?hn ?hr ?_; (case ho => rfl); (case hg => rfl); (case hn => rfl); (case hr => first | (go_simp; done) | (go_simp; rfl)); intro w21 hw; have hg : wr.grownBy w21 (some go19) := (by rw [hw]; exact HP20.2); have hp_ : Kd.R (Kd.int .u32) 97 w21 w.heap.size (fun k_ => some k_ ≠ (.slice (some ad110) t104.length co11 : Value).ownBlock) (.slice (some ⟨go19, 0, none⟩) x7_1.length co19) y111 := (by rw [hw, Ny111.out]; exact HP20.1); clear HP20; replace HO_0 := Aside0.mk (Kd.R_after (v := (.slice (some ⟨go19, 0, none⟩) x7_1.length co19)) (v1 := (.slice (some ⟨go19, 0, none⟩) x7_1.length co19)) (ok := (fun _ => True)) (by (with_reducible repeat (first | apply Kd.R_alloc | apply Kd.R_drewN | apply Kd.R_drew)); exact Kd.R_mono HO_0.out (fun _ hk => ⟨trivial, hk⟩)) hg (.inl rfl)); replace HO_7 := Aside0.mk (hp_); replace HB := Aside0.mk ((by rw [hw]; exact below_set (HB.out) GB19.out : Below w.heap.size w w21)); clear hg hw hp_))
   go_roundg k1
   case measure => have := HK1.out; omega
   case rel => exact ⟨(y111), (Int.tmod (IntKind.u64.wrap ((IntKind.u64.wrap (x8_1 * 4294967296)) + (IntKind.u64.wrap (rd t104 x9_1)))) (IntKind.u64.wrap (a2))), (wrap64 (x9_1 - 1)), zF, zF, H', ⟨zo1 HK1⟩, ⟨by (with_reducible repeat (first | apply Kd.R_alloc | apply Kd.R_drewN | apply Kd.R_drew)); exact Kd.R_mono HO_0.out (fun _ hk => hk.2)⟩, ⟨zR HO_7.out⟩, ⟨zB HB.out⟩⟩
 have c14b0 : decide (0 ≤ x9_1) = false := decide_eq_false c14
 clear c14
 replace H := zb H
 obtain ⟨t112, A22, H⟩ := H
 obtain rfl := Option.some.inj H
 obtain ⟨Ao23, co23, rfl⟩ := Kd.R_slice HO_7.out
 go_wp2_with (first | ((with_reducible refine gate_callee (f := 75) rfl ?_); refine zG (some 47) Try.func75 #[.slice Ao23 x7_1.length co23] ?_; (with_reducible refine (codewrightref01_Trim.calls k1 _ _ x7_1 t112 _ ?side1 ?side2 A22.out).mono ?_); (case side1 => exact zC (Kd.R_reads' HO_7.out).2.2); (case side2 => exact (Kd.R_reads' HO_7.out).2.1); rintro e w24 ⟨v113, rfl, ho0, hb⟩; refine ⟨_, rfl, ?_⟩; replace ho0 := yn ho0 HO_0; replace ho0 := yn ho0 HO_7; have HO114 := yRl ho0 HB; replace HO_0 := yRe HO_0 ho0 hb; replace HO_7 := yRe HO_7 ho0 hb; replace HB := yS HB hb; (try clear hb ho0)))
 go_ret
 exact ⟨_, zE, by (with_reducible repeat (first | apply Kd.R_alloc | apply Kd.R_drewN | apply Kd.R_drew)); exact Kd.R_mono HO114.out (fun _ hk => trivial), zB HB.out⟩
set_option maxHeartbeats 8000000 in
set_option maxRecDepth 100000 in
theorem codewrightref01_Choose.calls (k : Nat) (a0 : Int) (a1 : Int) (r : List Int) (w : World) (h : codewrightref01_Choose.f k a0 a1 = some r) :
    Calls Try.prog 78 #[.int .i64 a0, .int .i64 a1] w fun e w' => ∃ v0_ : Value, e = .returned (v0_) ∧ Kd.R (Kd.int .u32) 97 w' w.heap.size (fun _ => True) v0_ r ∧ Below w.heap.size w w' := by
 have HB := Aside0.mk (Below.refl w.heap.size w)
 have H : (if a1 < 0 then (codewrightref01_Choose.j0 k a0 a1 true) else (codewrightref01_Choose.j0 k a0 a1 (decide (a1 > a0)))) = some r := h
 clear h
 have HC3 := Aside0.mk H
 clear H
 go_enter Try.func78, Try.ntmps78
 go_upto_region 1 with (fail)
 go_cut [13] (fun v13 wc => ∃ (kq : Nat) (x13_2 : Bool), v13 = .bool x13_2 ∧ Aside0 (codewrightref01_Choose.j0 kq a0 a1 x13_2 = some r) ∧ Aside0 (kq ≤ k) ∧ Aside0 (Below w.heap.size w wc))
 case first =>
  have H := HC3.out
  clear HC3
  replace H := zi H
  rcases H with ⟨c4, H⟩ | ⟨c4, H⟩
  · have c4b0 := decide_eq_true c4
    clear c4
    (first | rw [c4b0] | (simp only [i64_w, i32_w]; rw [c4b0]) | rw [c4b1] | skip)
    have H' := Aside0.mk H
    clear H
    go_wp2
    go_meet
    case rel => exact ⟨_, (true), zF, H', ⟨zO⟩, ⟨zB HB.out⟩⟩
  have c4b0 := decide_eq_false c4
  clear c4
  (first | rw [c4b0] | (simp only [i64_w, i32_w]; rw [c4b0]) | rw [c4b1] | skip)
  have H' := Aside0.mk H
  clear H
  go_wp2
  go_meet
  case rel => exact ⟨_, (decide (a1 > a0)), zF, H', ⟨zO⟩, ⟨zB HB.out⟩⟩
 clear HC3
 (try clear p2);(try clear c4);(try clear c4b0);(try clear c4b1)
 obtain ⟨kq, x13_2, rfl, HA, HJ2, HB⟩ := hcut
 cases kq with | zero => exact absurd HA.out (by simp [codewrightref01_Choose.j0]) | succ kj2 => ?_
 have H := HA.out
 clear HA
 simp only [codewrightref01_Choose.j0] at H
 by_cases c5 : x13_2 = true
 · subst c5
   rw [if_pos rfl] at H
   obtain ⟨y101, hy101⟩ : ∃ y_ : List Int, y_ = (([] : List Int)) := ⟨_, rfl⟩
   replace H : (some y101) = some r := zY hy101 H
   have Ny101 := Aside0.mk hy101
   clear hy101
   obtain rfl := Option.some.inj H
   go_wp2_with (first | ((with_reducible refine gate_dst (N := 14) rfl ?_); refine Kd.R_lit (Kd.int .u32) _ 97 ?hg (N := 14) ?hd (xs := ([] : List Int)) (inner := []) (ok := fun _ => True) (okp := fun _ => True) ?hr ?hp (fun _ hk => hk) trivial (Below.refl _ _) (Nat.le_refl _) (by simp) ?_; (case hd => rfl); (case hg => rfl); (case hr => first | (go_simp; done) | (go_simp; rfl)); (case hp => exact (Reps.none _ _)); intro v102 w6 ho7 hb hg_ hnew_; clear hg_ hnew_; (first | rw [← Ny101.out] at ho7 | (simp only [Int.reduceToNat] at ho7; rw [← Ny101.out] at ho7)); have HO103 := yRl ho7 HB; replace HB := yS HB hb; clear hb ho7))
   go_ret
   exact ⟨_, zE, zR HO103.out, zB HB.out⟩
 replace c5 := Bool.eq_false_iff.mpr c5
 subst c5
 rw [if_neg Bool.false_ne_true] at H
 obtain ⟨y104, hy104⟩ : ∃ y_ : List Int, y_ = (([1] : List Int)) := ⟨_, rfl⟩
 replace H : (codewrightref01_Choose.l0 kj2 a0 a1 y104 0) = some r := zY hy104 H
 have Ny104 := Aside0.mk hy104
 clear hy104
 have H' := Aside0.mk H
 clear H
 go_wp2_with (first | ((with_reducible refine gate_dst (N := 15) rfl ?_); refine Kd.R_lit (Kd.int .u32) _ 97 ?hg (N := 15) ?hd (xs := ([1] : List Int)) (inner := [.int .u32 1]) (ok := fun _ => True) (okp := fun _ => True) ?hr ?hp (fun _ hk => hk) trivial (Below.refl _ _) (Nat.le_refl _) (by simp) ?_; (case hd => rfl); (case hg => rfl); (case hr => first | (go_simp; done) | (go_simp; rfl)); (case hp => exact (Reps.one (show Kd.M (Kd.int .u32) _ _ _ 1 [.int .u32 1] from rfl) (Reps.none _ _))); intro v105 w8 ho9 hb hg_ hnew_; clear hg_ hnew_; (first | rw [← Ny104.out] at ho9 | (simp only [Int.reduceToNat] at ho9; rw [← Ny104.out] at ho9)); have HO106 := yRl ho9 HB; replace HB := yS HB hb; clear hb ho9))
 go_loopg [5, 6] kj2 (fun kq v5 v6 w' => ∃ (x5_2 : List Int) (x6_2 : Int), v6 = .int .i64 x6_2 ∧ Aside0 (codewrightref01_Choose.l0 kq a0 a1 x5_2 x6_2 = some r) ∧ Aside0 (kq ≤ kj2) ∧ Aside0 (Kd.R (Kd.int .u32) 97 w' w.heap.size (fun _ => True) v5 x5_2) ∧ Aside0 (Below w.heap.size w w'))
 case atStart => exact ⟨(y104), (0), zF, H', ⟨Nat.le_refl _⟩, ⟨zR HO106.out⟩, ⟨zB HB.out⟩⟩
 clear H'
 (try clear p2);(try clear c4);(try clear c4b0);(try clear c4b1);(try clear c5);(try clear c7)
 obtain ⟨x5_2, x6_2, rfl, HA, HK2, HO_5, HB⟩ := hrel
 cases gk with | zero => exact absurd HA.out (by simp [codewrightref01_Choose.l0]) | succ k2 => ?_
 have H := HA.out
 clear HA
 simp only [codewrightref01_Choose.l0] at H
 replace H := zi H
 rcases H with ⟨c10, H⟩ | ⟨c10, H⟩
 · have c10b0 := decide_eq_true c10
   clear c10
   replace H := zb H
   obtain ⟨t107, A11, H⟩ := H
   have H' := Aside0.mk H
   clear H
   obtain ⟨Ao12, co12, rfl⟩ := Kd.R_slice HO_5.out
   go_wp2_with (first | ((with_reducible refine gate_callee (f := 120) rfl ?_); refine zG (some 27) Try.func120 #[.slice Ao12 x5_2.length co12, .int .i64 (wrap64 (a0 - x6_2)), .int .i64 (wrap64 (x6_2 + 1))] ?_; (with_reducible refine (codewrightref01_small.calls k2 _ _ x5_2 (wrap64 (a0 - x6_2)) (wrap64 (x6_2 + 1)) t107 _ ?side1 ?side2 A11.out).mono ?_); (case side1 => exact zC (Kd.R_reads' HO_5.out).2.2); (case side2 => exact (Kd.R_reads' HO_5.out).2.1); rintro e w13 ⟨v108, rfl, ho0, hb⟩; refine ⟨_, rfl, ?_⟩; replace ho0 := yn ho0 HO_5; have HO109 := yRl ho0 HB; replace HO_5 := yRe HO_5 ho0 hb; replace HB := yS HB hb; (try clear hb ho0)))
   go_roundg k2
   case measure => have := HJ2.out; have := HK2.out; omega
   case rel => exact ⟨(t107), (wrap64 (x6_2 + 1)), zF, H', ⟨zo2 HJ2 HK2⟩, ⟨by (with_reducible repeat (first | apply Kd.R_alloc | apply Kd.R_drewN | apply Kd.R_drew)); exact Kd.R_mono HO109.out (fun _ hk => trivial)⟩, ⟨zB HB.out⟩⟩
 have c10b0 := decide_eq_false c10
 clear c10
 obtain rfl := Option.some.inj H
 go_wp2
 go_ret
 exact ⟨_, zE, zR HO_5.out, zB HB.out⟩
set_option maxHeartbeats 8000000 in
set_option maxRecDepth 100000 in
theorem codewrightref02_Nat.calls (k : Nat) (A0 : Option Addr) (c0 : Nat) (l0 : List Int) (r1 : Bool) (r2 : List Int) (r3 : List Int) (w : World) (hr0 : Kd.C (Kd.int .u32) w A0 l0.length l0) (hc0 : l0.length ≤ c0) (h : codewrightref02_Nat.f k l0 = some (r1, r2, r3)) :
    Calls Try.prog 95 #[.slice A0 l0.length c0] w fun e w' => ∃ v1_ v2_ : Value, e = .returned (.agg #[.bool r1, v1_, v2_]) ∧ Kd.R (Kd.int .u32) 97 w' w.heap.size (fun k_ => some k_ ≠ (v2_ : Value).ownBlock) v1_ r2 ∧ Kd.R (Kd.int .u32) 97 w' w.heap.size (fun k_ => some k_ ≠ (v1_ : Value).ownBlock) v2_ r3 ∧ Below w.heap.size w w' := by
 have hu60 := Try.underlying60
 have HR0 := Aside0.mk hr0
 have HC0 := Aside0.mk hc0
 clear hr0 hc0
 have HB := Aside0.mk (Below.refl w.heap.size w)
 have H : ((codewrightref02_Make.f k false l0 (([1] : List Int))).bind fun bt105 => (some (bt105.1, bt105.2.1, bt105.2.2))) = some (r1, r2, r3) := h
 clear h
 obtain ⟨y102, hy102⟩ : ∃ y_ : List Int, y_ = (([1] : List Int)) := ⟨_, rfl⟩
 replace H : ((codewrightref02_Make.f k false l0 y102).bind fun bt105 => (some (bt105.1, bt105.2.1, bt105.2.2))) = some (r1, r2, r3) := zY hy102 H
 have Ny102 := Aside0.mk hy102
 clear hy102
 replace H := zb H
 obtain ⟨⟨t105, t106, t109⟩, A2, H⟩ := H
 dsimp only at H
 simp only [Option.some.injEq, Prod.mk.injEq] at H
 obtain ⟨rfl, rfl, rfl⟩ := H
 go_enter Try.func95, Try.ntmps95
 go_wp2_with (first | ((with_reducible refine gate_dst (N := 2) rfl ?_); refine box_event ?hg (N := 2) ?hd (cs := #[.bool false, .slice none 0 0, .slice none 0 0]) (t := 60) ?hr ?_; (case hd => rfl); (case hg => rfl); (case hr => first | (go_simp; done) | (go_simp; rfl)); intro gb101 hg w3 hbox hb; have BK101 := Aside0.mk (hbox); have GW101 := yg hg HB; have GE101 := yg hg HB; replace HB := yS HB hb; clear hb hbox hg) | ((with_reducible refine gate_dst (N := 4) rfl ?_); refine Kd.R_lit (Kd.int .u32) _ 97 ?hg (N := 4) ?hd (xs := ([1] : List Int)) (inner := [.int .u32 1]) (ok := fun _ => True) (okp := fun _ => True) ?hr ?hp (fun _ hk => hk) trivial (Below.refl _ _) (Nat.le_refl _) (by simp) ?_; (case hd => rfl); (case hg => rfl); (case hr => first | (go_simp; done) | (go_simp; rfl)); (case hp => exact (Reps.one (show Kd.M (Kd.int .u32) _ _ _ 1 [.int .u32 1] from rfl) (Reps.none _ _))); intro v103 w4 ho5 hb hg_ hnew_; clear hg_ hnew_; (first | rw [← Ny102.out] at ho5 | (simp only [Int.reduceToNat] at ho5; rw [← Ny102.out] at ho5)); have HO104 := yRl1 ho5 HB GE101; replace BK101 := yK BK101 hb; replace HB := yS1 HB GE101 hb; clear hb ho5; obtain ⟨Ao6, co6, rfl⟩ := Kd.R_slice HO104.out) | ((with_reducible refine gate_callee (f := 90) rfl ?_); refine zG (some 5) Try.func90 #[.bool false, .slice A0 l0.length c0, .slice Ao6 y102.length co6] ?_; (with_reducible refine (codewrightref02_Make.calls k false _ _ l0 _ _ y102 t105 t106 t109 _ ?side1 ?side2 ?side3 ?side4 A2.out).mono ?_); (case side1 => exact zC (Kd.C_below HR0.out HB.out)); (case side2 => exact HC0.out); (case side3 => exact zC (Kd.R_reads' HO104.out).2.2); (case side4 => exact (Kd.R_reads' HO104.out).2.1); rintro e w7 ⟨v107, v110, rfl, ho0, ho1, hb⟩; refine ⟨_, rfl, ?_⟩; replace ho0 := yn ho0 HO104; have HO108 := yRl1 ho0 HB GE101; replace ho1 := yn ho1 HO104; have HO111 := yRl1 ho1 HB GE101; replace HO104 := yRt HO104 hb ho0 ho1; replace BK101 := yK BK101 hb; replace HB := yS1 HB GE101 hb; (try clear hb ho0); (try clear ho1); have hcz8_0 : w7.cell? ⟨gb101, 0, none⟩ = some (.bool false) := (blk_cell BK101.out 0).trans rfl; have hcz8_1 : w7.cell? ⟨gb101, 1, none⟩ = some (.slice none 0 0) := (blk_cell BK101.out 1).trans rfl; have hcz8_2 : w7.cell? ⟨gb101, 2, none⟩ = some (.slice none 0 0) := (blk_cell BK101.out 2).trans rfl; have hfz8_0 := blk_frozen BK101.out 0; have hfz8_1 := blk_frozen BK101.out 1; have hfz8_2 := blk_frozen BK101.out 2; obtain ⟨Ao9, co9, rfl⟩ := Kd.R_slice HO108.out; obtain ⟨Ao10, co10, rfl⟩ := Kd.R_slice HO111.out))
 refine bodyPost_ret (results_cell_row rfl _ _ gb101 60 #[.bool t105, .slice Ao9 t106.length co9, .slice Ao10 t109.length co10] (0, 0) _ rfl (by (with_reducible repeat (first | refine blk_drewN ?_ _ | refine blk_drew ?_ | refine blk_alloc ?_ _)); refine blk_put (cs := #[.bool t105, .slice Ao9 t106.length co9, .slice none 0 0]) ?_ 2 _ rfl; (with_reducible repeat (first | refine blk_drewN ?_ _ | refine blk_drew ?_ | refine blk_alloc ?_ _)); refine blk_put (cs := #[.bool t105, .slice none 0 0, .slice none 0 0]) ?_ 1 _ rfl; (with_reducible repeat (first | refine blk_drewN ?_ _ | refine blk_drew ?_ | refine blk_alloc ?_ _)); refine blk_put (cs := #[.bool false, .slice none 0 0, .slice none 0 0]) ?_ 0 _ rfl; (with_reducible repeat (first | refine blk_drewN ?_ _ | refine blk_drew ?_ | refine blk_alloc ?_ _)); exact BK101.out) Try.underlying60 rfl (by kernel_rfl)) rfl ?_
 exact ⟨_, _, zE, by (with_reducible repeat (first | apply Kd.R_alloc | apply Kd.R_drewN | apply Kd.R_drew)); exact yf HO108.out BK101.out (fun _ hk => hk.1.1), by (with_reducible repeat (first | apply Kd.R_alloc | apply Kd.R_drewN | apply Kd.R_drew)); exact yf HO111.out BK101.out (fun _ hk => hk.1.1), zB1 HB.out GE101.out⟩
end Go.Proofs.Ytifkbghnmhineaa.PAll
