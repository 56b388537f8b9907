/- What functions of the program do and come to, for the statement MacwilliamsInverts, part 2. Conditions: as each theorem says. -/
import Derived.Test.YtifkbghnmhineaaQInverts1

namespace Go.Proofs.Ytifkbghnmhineaa.PAll
open Go.RowKit Go.Proofs.YtifkbghnmhineaaW.PrintWords Go.Proofs.YtifkbghnmhineaaW.PrintLast Go.Proofs.YtifkbghnmhineaaW.PrintMore
attribute [local go_sem] max2_int min2_int max_two min_two max_three min_three max_four min_four
set_option linter.unusedVariables false
set_option linter.unusedSimpArgs false
def mw_plus.T2 : Bool × List (List Nat × List Nat) := (true, [([], []), ([0], [0]), ([], []), ([2], [2]), ([], []), ([4], [4]), ([3, 5], [3, 5]), ([6], [6]), ([1, 7], [1, 7]), ([8, 7, 0, 1, 2, 3, 4, 5, 6, 7, 8], [8])])
def mw_plus.B2 : List Nat := [0, 1, 0, 4, 0, 16, 60, 124, 255, 511]
theorem mw_plus.tab2 : rtab .any (opsOf Try.f128 2) = mw_plus.T2 := by kernel_rfl
theorem mw_plus.bits2 : waitsOk mw_plus.T2.2 mw_plus.B2 = true := by kernel_rfl
set_option maxHeartbeats 8000000 in
set_option maxRecDepth 100000 in
theorem mw_plus.calls (k : Nat) (a0_0 : Bool) (P0_1_ : Nat → Prop) (A0_1 : Option Addr) (c0_1 : Nat) (l0_1 : List Int) (a1_0 : Bool) (P1_1_ : Nat → Prop) (A1_1 : Option Addr) (c1_1 : Nat) (l1_1 : List Int) (r1 : Bool) (r2 : List Int) (w : World) (hs0_1 : Kd.V (Kd.int .u32) 97 w w.heap.size (fun k_ => P0_1_ k_) (.slice A0_1 l0_1.length c0_1) l0_1) (hs1_1 : Kd.V (Kd.int .u32) 97 w w.heap.size (fun k_ => P1_1_ k_) (.slice A1_1 l1_1.length c1_1) l1_1) (h : mw_plus.f k a0_0 l0_1 a1_0 l1_1 = some (r1, r2)) :
    Calls Try.prog 128 #[.agg #[.bool a0_0, .slice A0_1 l0_1.length c0_1], .agg #[.bool a1_0, .slice A1_1 l1_1.length c1_1]] w fun e w' => ∃ v1_ : Value, e = .returned (.agg #[.bool r1, v1_]) ∧ Kd.V (Kd.int .u32) 97 w' w.heap.size (fun k_ => ((P0_1_ k_ ∨ P1_1_ k_) ∨ w.heap.size ≤ k_)) v1_ r2 ∧ Below w.heap.size w w' := by
 have hu113 := Try.underlying113
 have HO0_1 := Aside0.mk (show Kd.V (Kd.int .u32) 97 w w.heap.size (fun k_ => ((P0_1_ k_ ∨ P1_1_ k_) ∨ w.heap.size ≤ k_)) (.slice A0_1 l0_1.length c0_1) l0_1 from Kd.V_mono hs0_1 (fun k_ hk => .inl (.inl hk)))
 have HO1_1 := Aside0.mk (show Kd.V (Kd.int .u32) 97 w w.heap.size (fun k_ => ((P0_1_ k_ ∨ P1_1_ k_) ∨ w.heap.size ≤ k_)) (.slice A1_1 l1_1.length c1_1) l1_1 from Kd.V_mono hs1_1 (fun k_ hk => .inl (.inr hk)))
 have HB := Aside0.mk (Below.refl w.heap.size w)
 have H : (if (a0_0 == a1_0) = true then ((nat_Add.f k (([l0_1, l1_1] : List (List Int)))).bind fun t107 => (some (a0_0, t107))) else ((nat_Cmp.f k l0_1 l1_1).bind fun t110 => (if t110 < 0 then ((nat_Sub.f k l1_1 l0_1).bind fun bt111 => (some (a1_0, bt111.1))) else ((nat_Sub.f k l0_1 l1_1).bind fun bt115 => (some (a0_0, bt115.1)))))) = some (r1, r2) := h
 clear h
 replace H := zi H
 rcases H with ⟨c3, H⟩ | ⟨c3, H⟩
 · have c3b0 : (a0_0 == a1_0) = true := c3
   (try (have c3b1 : decide (a0_0 = a1_0) = true := by simpa using c3))
   (try (have c3b2 : (a0_0 == a1_0) = true := by simpa using c3))
   clear c3
   obtain ⟨y104, hy104⟩ : ∃ y_ : List (List Int), y_ = (([l0_1, l1_1] : List (List Int))) := ⟨_, rfl⟩
   replace H : ((nat_Add.f k y104).bind fun t107 => (some (a0_0, t107))) = some (r1, r2) := zY hy104 H
   have Ny104 := Aside0.mk hy104
   clear hy104
   replace H := zb H
   obtain ⟨t107, A4, H⟩ := H
   simp only [Option.some.injEq, Prod.mk.injEq] at H
   obtain ⟨rfl, rfl⟩ := H
   go_enter Try.func128, Try.ntmps128
   try go_wp2_with (first | ((with_reducible refine gate_dst (N := 2) rfl ?_); refine box_event ?hg (N := 2) ?hd (cs := #[.bool a0_0, .slice A0_1 l0_1.length c0_1]) (t := 113) ?hr ?_; (case hd => rfl); (case hg => rfl); (case hr => first | (go_simp; done) | (go_simp; rfl)); intro gb101 hg w5 hbox hb; replace HO0_1 := yVB HO0_1 hg hb; replace HO1_1 := yVB HO1_1 hg hb; have BK101 := Aside0.mk (hbox); have GW101 := yg hg HB; have GE101 := yg hg HB; replace HB := yS HB hb; clear hb hbox hg) | ((with_reducible refine gate_dst (N := 3) rfl ?_); refine box_event ?hg (N := 3) ?hd (cs := #[.bool a1_0, .slice A1_1 l1_1.length c1_1]) (t := 113) ?hr ?_; (case hd => rfl); (case hg => rfl); (case hr => first | (go_simp; done) | (go_simp; rfl)); intro gb102 hg w6 hbox hb; replace HO0_1 := yVB HO0_1 hg hb; replace HO1_1 := yVB HO1_1 hg hb; have BK102 := Aside0.mk (hbox); have GW102 := yg1 hg HB GE101; have GE102 := yg1 hg HB GE101; replace HB := yS1 HB GE101 hb; have NB101_102 := ynl hg BK101; have NB102_101 := yng hg BK101; replace BK101 := yK BK101 hb; clear hb hbox hg) | ((with_reducible refine gate_dst (N := 4) rfl ?_); refine box_event ?hg (N := 4) ?hd (cs := #[.bool false, .slice none 0 0]) (t := 113) ?hr ?_; (case hd => rfl); (case hg => rfl); (case hr => first | (go_simp; done) | (go_simp; rfl)); intro gb103 hg w7 hbox hb; replace HO0_1 := yVB HO0_1 hg hb; replace HO1_1 := yVB HO1_1 hg hb; have BK103 := Aside0.mk (hbox); have GW103 := yg2 hg HB GE101 GE102; have GE103 := yg2 hg HB GE101 GE102; replace HB := yS2 HB GE101 GE102 hb; have NB101_103 := ynl hg BK101; have NB103_101 := yng hg BK101; replace BK101 := yK BK101 hb; have NB102_103 := ynl hg BK102; have NB103_102 := yng hg BK102; replace BK102 := yK BK102 hb; clear hb hbox hg; have hnb8 := NB101_102.out; have hnc8 := NB102_101.out; have hnb9 := NB101_103.out; have hnc9 := NB103_101.out; obtain ⟨hcz10_0, hcz10_1, hfz10_0, hfz10_1⟩ := zz2 BK101; have hnb11 := NB102_103.out; have hnc11 := NB103_102.out; obtain ⟨hcz12_0, hcz12_1, hfz12_0, hfz12_1⟩ := zz2 BK102))
   replace HO0_1 := Aside0.mk (Kd.V_drew HO0_1.out)
   replace HO1_1 := Aside0.mk (Kd.V_drew HO1_1.out)
   replace BK101 := Aside0.mk (blk_drew BK101.out)
   replace BK102 := Aside0.mk (blk_drew BK102.out)
   replace BK103 := Aside0.mk (blk_drew BK103.out)
   replace HB := Aside0.mk (below_drew1 HB.out)
   refine start_ (n := 10) (S := fun w' => w'.cell? ⟨gb101, 0, none⟩ = some (.bool a0_0) ∧ w'.cell? ⟨gb101, 1, none⟩ = some (.slice A0_1 l0_1.length c0_1) ∧ w'.cell? ⟨gb102, 0, none⟩ = some (.bool a1_0) ∧ w'.cell? ⟨gb102, 1, none⟩ = some (.slice A1_1 l1_1.length c1_1)) (ds := []) #[false, false, false, false, false, false, false, false, false, false] (by kernel_rfl) rfl rfl ⟨(blk_cell BK101.out 0).trans rfl, (blk_cell BK101.out 1).trans rfl, (blk_cell BK102.out 0).trans rfl, (blk_cell BK102.out 1).trans rfl⟩ (fun hHeld => ?_); refine with_tabW mw_plus.tab2 mw_plus.bits2 (fun HT_ HW_ => ?_)
   generalize w7.drew = w13 at HO0_1 HO1_1 BK101 BK102 BK103 HB hHeld ⊢
   refine zp (i := 0) (N := some 12) HT_ ?_
   refine zp (i := 2) (N := some 14) HT_ ?_
   refine zp (i := 4) (N := some 16) HT_ ?_
   refine take_ (i := 1) (N := some 13) (v := ?_) (a' := ?_) #[true, true, true, false, true, false, false, false, false, false] rfl rfl (take_ofW HT_.out HW_.out (by kernel_rfl)) (fun _ _ _ h => h) (Or.inl ⟨by rfl, ?_⟩) hHeld ?_ ?_
   rotate_left
   · rintro w' ⟨s0, s1, s2, s3⟩
     go_simp
     with_reducible rfl
   rotate_left
   · simp only [Act.put, List.setIfInBounds_toArray, List.set_cons_zero, List.set_cons_succ, i64_w, i32_w]
     rfl
   refine take_ (i := 3) (N := some 15) (v := ?_) (a' := ?_) #[true, true, true, true, true, false, false, false, false, false] rfl rfl (take_ofW HT_.out HW_.out (by kernel_rfl)) (fun _ _ _ h => h) (Or.inl ⟨by rfl, ?_⟩) hHeld ?_ ?_
   rotate_left
   · rintro w' ⟨s0, s1, s2, s3⟩
     go_simp
     with_reducible rfl
   rotate_left
   · simp only [Act.put, List.setIfInBounds_toArray, List.set_cons_zero, List.set_cons_succ, i64_w, i32_w]
     rfl
   refine take_ (i := 5) (N := some 17) (v := ?_) (a' := ?_) #[true, true, true, true, true, true, false, false, false, false] rfl rfl (take_ofW HT_.out HW_.out (by kernel_rfl)) (fun _ _ _ h => h) (Or.inl ⟨by rfl, ?_⟩) hHeld ?_ ?_
   rotate_left
   · rintro w' ⟨s0, s1, s2, s3⟩
     go_simp
     with_reducible rfl
   rotate_left
   · simp only [Act.put, List.setIfInBounds_toArray, List.set_cons_zero, List.set_cons_succ, i64_w, i32_w]
     rfl
   refine one_ (i := 6) (N := some 18) #[true, true, true, true, true, true, true, false, false, false] rfl rfl (one_of HT_.out (by kernel_rfl)) (by decide) (fun K hK => ?_)
   refine Kd.N_lit_step (Kd.slice 97 (Kd.int .u32)) _ 29 ?hg (N' := 18) ?hd (xs := ([l0_1, l1_1] : List (List Int))) (inner := [.slice A0_1 l0_1.length c0_1, .slice A1_1 l1_1.length c1_1]) (ok := (fun k_ => ((P0_1_ k_ ∨ P1_1_ k_) ∨ w.heap.size ≤ k_) ∧ k_ ≠ gb101 ∧ k_ ≠ gb102 ∧ k_ ≠ gb103)) (okp := (fun k_ => ((P0_1_ k_ ∨ P1_1_ k_) ∨ w.heap.size ≤ k_) ∧ k_ ≠ gb101 ∧ k_ ≠ gb102 ∧ k_ ≠ gb103)) ?hr ?hp (fun _ hk => hk) ((show ∀ k_, w13.heap.size ≤ k_ → (fun k_ => ((P0_1_ k_ ∨ P1_1_ k_) ∨ w.heap.size ≤ k_) ∧ k_ ≠ gb101 ∧ k_ ≠ gb102 ∧ k_ ≠ gb103) k_ from fun k_ hk => ⟨(.inr (Nat.le_trans (below_size (zB3 HB.out GE101.out GE102.out GE103.out)) hk)), Kd.freshB (g := gb101) (o := .cells #[.bool a0_0, .slice A0_1 l0_1.length c0_1] 113 (0, 0)) (by (with_reducible repeat (first | refine blk_drewN ?_ _ | refine blk_drew ?_ | refine blk_alloc ?_ _)); exact BK101.out) k_ hk, Kd.freshB (g := gb102) (o := .cells #[.bool a1_0, .slice A1_1 l1_1.length c1_1] 113 (0, 0)) (by (with_reducible repeat (first | refine blk_drewN ?_ _ | refine blk_drew ?_ | refine blk_alloc ?_ _)); exact BK102.out) k_ hk, Kd.freshB (g := gb103) (o := .cells #[.bool false, .slice none 0 0] 113 (0, 0)) (by (with_reducible repeat (first | refine blk_drewN ?_ _ | refine blk_drew ?_ | refine blk_alloc ?_ _)); exact BK103.out) k_ hk⟩) _ (Nat.le_refl _)) (Below.refl _ _) (Nat.le_refl _) (by simp) ?_; (case hd => rfl); (case hg => rfl); (case hr => first | (go_simp; done) | (go_simp; rfl)); (case hp => exact (Reps.one (show Kd.FK (Kd.slice 97 (Kd.int .u32)) _ _ l0_1 [.slice A0_1 l0_1.length c0_1] from (Kd.FK_slice_mk (Kd.V_reads' (Kd.V_mono (ok' := (fun k_ => ((P0_1_ k_ ∨ P1_1_ k_) ∨ w.heap.size ≤ k_) ∧ k_ ≠ gb101 ∧ k_ ≠ gb102 ∧ k_ ≠ gb103)) (HO0_1.out) (fun k_ hk => by exact ⟨hk.1.1.1, ⟨hk.1.1.2, ⟨hk.1.2, hk.2⟩⟩⟩))).2.1 (Kd.V_F (Kd.V_mono (ok' := (fun k_ => ((P0_1_ k_ ∨ P1_1_ k_) ∨ w.heap.size ≤ k_) ∧ k_ ≠ gb101 ∧ k_ ≠ gb102 ∧ k_ ≠ gb103)) (HO0_1.out) (fun k_ hk => by exact ⟨hk.1.1.1, ⟨hk.1.1.2, ⟨hk.1.2, hk.2⟩⟩⟩))))) (Reps.one (show Kd.FK (Kd.slice 97 (Kd.int .u32)) _ _ l1_1 [.slice A1_1 l1_1.length c1_1] from (Kd.FK_slice_mk (Kd.V_reads' (Kd.V_mono (ok' := (fun k_ => ((P0_1_ k_ ∨ P1_1_ k_) ∨ w.heap.size ≤ k_) ∧ k_ ≠ gb101 ∧ k_ ≠ gb102 ∧ k_ ≠ gb103)) (HO1_1.out) (fun k_ hk => by exact ⟨hk.1.1.1, ⟨hk.1.1.2, ⟨hk.1.2, hk.2⟩⟩⟩))).2.1 (Kd.V_F (Kd.V_mono (ok' := (fun k_ => ((P0_1_ k_ ∨ P1_1_ k_) ∨ w.heap.size ≤ k_) ∧ k_ ≠ gb101 ∧ k_ ≠ gb102 ∧ k_ ≠ gb103)) (HO1_1.out) (fun k_ hk => by exact ⟨hk.1.1.1, ⟨hk.1.1.2, ⟨hk.1.2, hk.2⟩⟩⟩))))) (Reps.none _ _))))
   intro v105 w14 ho15 hb hg_ hnew_
   clear hg_ hnew_
   (first | rw [← Ny104.out] at ho15 | (simp only [Int.reduceToNat] at ho15; rw [← Ny104.out] at ho15))
   replace HO0_1 := Aside0.mk (Kd.V_elder' (zV HO0_1.out) (Kd.N_base ho15) hb)
   replace HO1_1 := Aside0.mk (Kd.V_elder' (zV HO1_1.out) (Kd.N_base ho15) hb)
   have HO106 := Aside0.mk (Kd.N_lower ho15 (below_size (zB3 HB.out GE101.out GE102.out GE103.out)))
   replace BK101 := yK BK101 hb
   replace BK102 := yK BK102 hb
   replace BK103 := yK BK103 hb
   replace HB := yS3 HB GE101 GE102 GE103 hb
   clear hb ho15
   obtain ⟨Ao16, co16, eo16⟩ := Kd.N_slice HO106.out
   (first | subst eo16 | (injection eo16 with f1_ f2_ f3_; have f4_ := f1_.symm; have f5_ := f3_.symm; clear f1_ f2_ f3_; subst f4_; subst f5_))
   refine hK.out _ _ ⟨(blk_cell BK101.out 0).trans rfl, (blk_cell BK101.out 1).trans rfl, (blk_cell BK102.out 0).trans rfl, (blk_cell BK102.out 1).trans rfl⟩ (fun hHeld => ?_)
   clear hK K
   refine norm_ (a' := ?_) ?_ ?_
   rotate_left
   · show Act.put _ (some 18) _ = _
     simp only [Act.put, List.setIfInBounds_toArray, List.set_cons_zero, List.set_cons_succ, i64_w, i32_w]
     rfl
   refine one_ (i := 7) (N := some 19) #[true, true, true, true, true, true, true, true, false, false] rfl rfl (one_of HT_.out (by kernel_rfl)) (by decide) (fun K hK => ?_)
   refine goes_ Try.func73 (by kernel_rfl) rfl #[.slice Ao16 y104.length co16] (by rfl) rfl rfl (by (try simp only [List.map_toArray, List.map_cons, List.map_nil]); first | done | rfl | (simp only [List.length_drop, List.length_take]; rfl)) ?_
   with_reducible refine (nat_Add.calls k _ _ y104 t107 _ ?side1 ?side2 A4.out).mono ?_
   (case side1 => exact zC (Kd.N_reads' HO106.out).2.2)
   (case side2 => exact (Kd.N_reads' HO106.out).2.1)
   rintro e w17 ⟨v108, rfl, ho0, hb⟩
   refine ⟨_, rfl, ?_⟩
   replace HO0_1 := yVe HO0_1 ho0 hb
   replace HO1_1 := yVe HO1_1 ho0 hb
   replace HO106 := yNe HO106 ho0 hb
   replace ho0 := Kd.R_newM (M := fun k_ => (w.heap.size ≤ k_)) ho0 (below_size (zB3 HB.out GE101.out GE102.out GE103.out)) (fun k_ h_ => h_)
   have HO109 := yRl3 ho0 HB GE101 GE102 GE103
   replace BK101 := yK BK101 hb
   replace BK102 := yK BK102 hb
   replace BK103 := yK BK103 hb
   replace HB := yS3 HB GE101 GE102 GE103 hb
   (try clear hb)
   (try clear ho0)
   obtain ⟨Ao18, co18, eo18⟩ := Kd.R_slice HO109.out
   (first | subst eo18 | (injection eo18 with f1_ f2_ f3_; have f4_ := f1_.symm; have f5_ := f3_.symm; clear f1_ f2_ f3_; subst f4_; subst f5_))
   refine hK.out _ _ ⟨(blk_cell BK101.out 0).trans rfl, (blk_cell BK101.out 1).trans rfl, (blk_cell BK102.out 0).trans rfl, (blk_cell BK102.out 1).trans rfl⟩ (fun hHeld => ?_)
   clear hK K
   refine norm_ (a' := ?_) ?_ ?_
   rotate_left
   · show Act.put _ (some 19) _ = _
     simp only [Act.put, List.setIfInBounds_toArray, List.set_cons_zero, List.set_cons_succ, i64_w, i32_w]
     rfl
   refine zp (i := 8) (N := some 20) HT_ ?_
   refine one_ (i := 9) (N := none) #[true, true, true, true, true, true, true, true, true, true] rfl rfl (one_of HT_.out (by kernel_rfl)) (by decide) (fun K hK => ?_)
   have hs19 : w17.cell? ⟨gb103, 0, none⟩ = some (.bool false) := (blk_cell BK103.out 0).trans rfl
   have hfs19 := blk_frozen BK103.out 0
   have hns19_0 := NB101_103.out
   have hns19_1 := NB102_103.out
   have hms19_0 := NB103_101.out
   have hms19_1 := NB103_102.out
   have hs20 : w17.cell? ⟨gb103, 1, none⟩ = some (.slice none 0 0) := (blk_cell BK103.out 1).trans rfl
   have hfs20 := blk_frozen BK103.out 1
   have hns20_0 := NB101_103.out
   have hns20_1 := NB102_103.out
   have hms20_0 := NB103_101.out
   have hms20_1 := NB103_102.out
   refine skip_ (w1 := ?_) (by rfl) rfl ?_ ?_
   rotate_left
   · go_simp
     rfl
   refine hK.out _ _ ⟨((cell_far (p := ⟨gb103, _, none⟩) NB101_103.out _).trans (((cell_far (p := ⟨gb103, _, none⟩) NB101_103.out _).trans (hHeld.1)))), ((cell_far (p := ⟨gb103, _, none⟩) NB101_103.out _).trans (((cell_far (p := ⟨gb103, _, none⟩) NB101_103.out _).trans (hHeld.2.1)))), ((cell_far (p := ⟨gb103, _, none⟩) NB102_103.out _).trans (((cell_far (p := ⟨gb103, _, none⟩) NB102_103.out _).trans (hHeld.2.2.1)))), ((cell_far (p := ⟨gb103, _, none⟩) NB102_103.out _).trans (((cell_far (p := ⟨gb103, _, none⟩) NB102_103.out _).trans (hHeld.2.2.2))))⟩ (fun hHeld => ?_)
   clear hK K
   refine done_ (done_of HT_.out (by kernel_rfl)) ?_
   try go_wp2
   refine bodyPost_ret (results_cell_row rfl _ _ gb103 113 #[.bool a0_0, .slice Ao18 t107.length co18] (0, 0) _ rfl (zP2 BK103.out) Try.underlying113 rfl (by kernel_rfl)) rfl ?_
   exact ⟨_, zE, Kd.V_mono (Kd.R_V (by (with_reducible repeat (first | apply Kd.R_alloc | apply Kd.R_drewN | apply Kd.R_drew)); exact Kd.R_mono (Kd.R_far (p := ⟨gb103, 1, none⟩) (Kd.R_far (p := ⟨gb103, 0, none⟩) (Kd.R_types HO109.out BK103.out (by decide)) (fun _ hk => hk.2) (.bool a0_0)) (fun _ hk => hk.2) (.slice Ao18 t107.length co18)) (fun _ hk => hk.1.1))) (fun k_ hk => by first | exact ⟨(.inr (hk.1)), hk.2⟩ | exact (.inr (hk))), zB3 HB.out GE101.out GE102.out GE103.out⟩
 have c3b0 : (a0_0 == a1_0) = false := by simpa using c3
 (try (have c3b1 : decide (a0_0 = a1_0) = false := by simpa using c3))
 (try (have c3b2 : (a0_0 == a1_0) = false := by simpa using c3))
 (try (have c3b3 : ¬ (a0_0 = a1_0) := by simpa using c3))
 clear c3
 replace H := zb H
 obtain ⟨t110, A21, H⟩ := H
 replace H := zid H
 rcases H with ⟨c22b0, H⟩ | ⟨c22b0, H⟩
 · replace H := zb H
   obtain ⟨⟨t111, t114⟩, A23, H⟩ := H
   dsimp only at H
   simp only [Option.some.injEq, Prod.mk.injEq] at H
   obtain ⟨rfl, rfl⟩ := H
   go_enter Try.func128, Try.ntmps128
   go_wp2_with (first | ((with_reducible refine gate_dst (N := 2) rfl ?_); refine box_event ?hg (N := 2) ?hd (cs := #[.bool a0_0, .slice A0_1 l0_1.length c0_1]) (t := 113) ?hr ?_; (case hd => rfl); (case hg => rfl); (case hr => first | (go_simp; done) | (go_simp; rfl)); intro gb101 hg w24 hbox hb; replace HO0_1 := yVB HO0_1 hg hb; replace HO1_1 := yVB HO1_1 hg hb; have BK101 := Aside0.mk (hbox); have GW101 := yg hg HB; have GE101 := yg hg HB; replace HB := yS HB hb; clear hb hbox hg) | ((with_reducible refine gate_dst (N := 3) rfl ?_); refine box_event ?hg (N := 3) ?hd (cs := #[.bool a1_0, .slice A1_1 l1_1.length c1_1]) (t := 113) ?hr ?_; (case hd => rfl); (case hg => rfl); (case hr => first | (go_simp; done) | (go_simp; rfl)); intro gb102 hg w25 hbox hb; replace HO0_1 := yVB HO0_1 hg hb; replace HO1_1 := yVB HO1_1 hg hb; have BK102 := Aside0.mk (hbox); have GW102 := yg1 hg HB GE101; have GE102 := yg1 hg HB GE101; replace HB := yS1 HB GE101 hb; have NB101_102 := ynl hg BK101; have NB102_101 := yng hg BK101; replace BK101 := yK BK101 hb; clear hb hbox hg) | ((with_reducible refine gate_dst (N := 4) rfl ?_); refine box_event ?hg (N := 4) ?hd (cs := #[.bool false, .slice none 0 0]) (t := 113) ?hr ?_; (case hd => rfl); (case hg => rfl); (case hr => first | (go_simp; done) | (go_simp; rfl)); intro gb103 hg w26 hbox hb; replace HO0_1 := yVB HO0_1 hg hb; replace HO1_1 := yVB HO1_1 hg hb; have BK103 := Aside0.mk (hbox); have GW103 := yg2 hg HB GE101 GE102; have GE103 := yg2 hg HB GE101 GE102; replace HB := yS2 HB GE101 GE102 hb; have NB101_103 := ynl hg BK101; have NB103_101 := yng hg BK101; replace BK101 := yK BK101 hb; have NB102_103 := ynl hg BK102; have NB103_102 := yng hg BK102; replace BK102 := yK BK102 hb; clear hb hbox hg; have hnb27 := NB101_102.out; have hnc27 := NB102_101.out; have hnb28 := NB101_103.out; have hnc28 := NB103_101.out; obtain ⟨hcz29_0, hcz29_1, hfz29_0, hfz29_1⟩ := zz2 BK101; have hnb30 := NB102_103.out; have hnc30 := NB103_102.out; obtain ⟨hcz31_0, hcz31_1, hfz31_0, hfz31_1⟩ := zz2 BK102) | ((with_reducible refine gC 79 ?_); refine zG (some 25) Try.func79 #[.slice A0_1 l0_1.length c0_1, .slice A1_1 l1_1.length c1_1] ?_; (with_reducible refine (nat_Cmp.calls k _ _ l0_1 _ _ l1_1 t110 _ ?side1 ?side2 ?side3 ?side4 A21.out).mono ?_); (case side1 => exact zC (Kd.V_reads' HO0_1.out).2.2); (case side2 => exact (Kd.V_reads' HO0_1.out).2.1); (case side3 => exact zC (Kd.V_reads' HO1_1.out).2.2); (case side4 => exact (Kd.V_reads' HO1_1.out).2.1); rintro e w32 ⟨rfl, hb⟩; refine ⟨_, rfl, ?_⟩; replace HO0_1 := yVb HO0_1 hb; replace HO1_1 := yVb HO1_1 hb; replace BK101 := yK BK101 hb; replace BK102 := yK BK102 hb; replace BK103 := yK BK103 hb; replace HB := yS3 HB GE101 GE102 GE103 hb; (try clear hb); (try clear hb2); (try clear hk); (try clear hi); obtain ⟨hcz33_0, hcz33_1, hfz33_0, hfz33_1⟩ := zz2 BK102; obtain ⟨hcz34_0, hcz34_1, hfz34_0, hfz34_1⟩ := zz2 BK101) | ((with_reducible refine gC 137 ?_); refine zG (some 34) Try.func137 #[.slice A1_1 l1_1.length c1_1, .slice A0_1 l0_1.length c0_1] ?_; (with_reducible refine (nat_Sub.calls k _ _ l1_1 _ _ l0_1 t111 t114 _ ?side1 ?side2 ?side3 ?side4 A23.out).mono ?_); (case side1 => refine (Kd.V_reads' (e := 97) (base := w.heap.size) (ok := fun k_ => (((((P0_1_ k_ ∨ P1_1_ k_) ∨ w.heap.size ≤ k_) ∧ k_ ≠ gb101) ∧ k_ ≠ gb102) ∧ k_ ≠ gb103)) (n := l1_1.length) (c := c1_1) ?_).2.2; exact (by (with_reducible repeat (first | apply Kd.V_alloc | apply Kd.V_drewN | apply Kd.V_drew)); exact (Kd.V_mono (Kd.V_mono (Kd.V_far (p := ⟨gb102, 1, none⟩) (Kd.V_far (p := ⟨gb102, 0, none⟩) (Kd.V_far (p := ⟨gb101, 1, none⟩) (Kd.V_far (p := ⟨gb101, 0, none⟩) (Kd.V_mono (Kd.V_mono HO1_1.out (fun k_ hk => (⟨hk, hk.1.1.2⟩ : _ ∧ k_ ≠ gb101))) (fun k_ hk => (⟨hk, hk.1.1.2⟩ : _ ∧ k_ ≠ gb102))) (fun _ hk => hk.1.2) (.bool a1_0)) (fun _ hk => hk.1.2) (.slice A1_1 l1_1.length c1_1)) (fun _ hk => hk.2) (.bool a0_0)) (fun _ hk => hk.2) (.slice A0_1 l0_1.length c0_1)) (fun _ h_ => h_.1)) (fun _ h_ => h_.1)))); (case side2 => exact (Kd.V_reads' HO1_1.out).2.1); (case side3 => refine (Kd.V_reads' (e := 97) (base := w.heap.size) (ok := fun k_ => (((((P0_1_ k_ ∨ P1_1_ k_) ∨ w.heap.size ≤ k_) ∧ k_ ≠ gb101) ∧ k_ ≠ gb102) ∧ k_ ≠ gb103)) (n := l0_1.length) (c := c0_1) ?_).2.2; exact (by (with_reducible repeat (first | apply Kd.V_alloc | apply Kd.V_drewN | apply Kd.V_drew)); exact (Kd.V_mono (Kd.V_mono (Kd.V_far (p := ⟨gb102, 1, none⟩) (Kd.V_far (p := ⟨gb102, 0, none⟩) (Kd.V_far (p := ⟨gb101, 1, none⟩) (Kd.V_far (p := ⟨gb101, 0, none⟩) (Kd.V_mono (Kd.V_mono HO0_1.out (fun k_ hk => (⟨hk, hk.1.1.2⟩ : _ ∧ k_ ≠ gb101))) (fun k_ hk => (⟨hk, hk.1.1.2⟩ : _ ∧ k_ ≠ gb102))) (fun _ hk => hk.1.2) (.bool a1_0)) (fun _ hk => hk.1.2) (.slice A1_1 l1_1.length c1_1)) (fun _ hk => hk.2) (.bool a0_0)) (fun _ hk => hk.2) (.slice A0_1 l0_1.length c0_1)) (fun _ h_ => h_.1)) (fun _ h_ => h_.1)))); (case side4 => exact (Kd.V_reads' HO0_1.out).2.1); rintro e w35 ⟨v112, rfl, ho0, hb⟩; refine ⟨_, rfl, ?_⟩; replace HO0_1 := Aside0.mk (Kd.V_below (by (with_reducible repeat (first | apply Kd.V_alloc | apply Kd.V_drewN | apply Kd.V_drew)); exact (Kd.V_mono (Kd.V_mono (Kd.V_far (p := ⟨gb102, 1, none⟩) (Kd.V_far (p := ⟨gb102, 0, none⟩) (Kd.V_far (p := ⟨gb101, 1, none⟩) (Kd.V_far (p := ⟨gb101, 0, none⟩) (Kd.V_mono (Kd.V_mono HO0_1.out (fun k_ hk => (⟨hk, hk.1.1.2⟩ : _ ∧ k_ ≠ gb101))) (fun k_ hk => (⟨hk, hk.1.1.2⟩ : _ ∧ k_ ≠ gb102))) (fun _ hk => hk.1.2) (.bool a1_0)) (fun _ hk => hk.1.2) (.slice A1_1 l1_1.length c1_1)) (fun _ hk => hk.2) (.bool a0_0)) (fun _ hk => hk.2) (.slice A0_1 l0_1.length c0_1)) (fun _ h_ => h_.1)) (fun _ h_ => h_.1))) hb); replace HO1_1 := Aside0.mk (Kd.V_below (by (with_reducible repeat (first | apply Kd.V_alloc | apply Kd.V_drewN | apply Kd.V_drew)); exact (Kd.V_mono (Kd.V_mono (Kd.V_far (p := ⟨gb102, 1, none⟩) (Kd.V_far (p := ⟨gb102, 0, none⟩) (Kd.V_far (p := ⟨gb101, 1, none⟩) (Kd.V_far (p := ⟨gb101, 0, none⟩) (Kd.V_mono (Kd.V_mono HO1_1.out (fun k_ hk => (⟨hk, hk.1.1.2⟩ : _ ∧ k_ ≠ gb101))) (fun k_ hk => (⟨hk, hk.1.1.2⟩ : _ ∧ k_ ≠ gb102))) (fun _ hk => hk.1.2) (.bool a1_0)) (fun _ hk => hk.1.2) (.slice A1_1 l1_1.length c1_1)) (fun _ hk => hk.2) (.bool a0_0)) (fun _ hk => hk.2) (.slice A0_1 l0_1.length c0_1)) (fun _ h_ => h_.1)) (fun _ h_ => h_.1))) hb); have HO113 := Aside0.mk (Kd.V_lower (Kd.V_mono (ok' := fun k_ => ((P0_1_ k_ ∨ P1_1_ k_) ∨ w.heap.size ≤ k_) ∧ k_ ≠ gb101 ∧ k_ ≠ gb102 ∧ k_ ≠ gb103) ho0 (fun k_ hk_ => ⟨(.inr (Nat.le_trans (below_size (zB3 HB.out GE101.out GE102.out GE103.out)) hk_)), (Kd.freshB (g := gb101) (o := .cells #[.bool a1_0, .slice A1_1 l1_1.length c1_1] 113 (0, 0)) (by (with_reducible repeat (first | refine blk_drewN ?_ _ | refine blk_drew ?_ | refine blk_alloc ?_ _)); refine blk_far ?_ NB101_102.out _; (with_reducible repeat (first | refine blk_drewN ?_ _ | refine blk_drew ?_ | refine blk_alloc ?_ _)); refine blk_far ?_ NB101_102.out _; (with_reducible repeat (first | refine blk_drewN ?_ _ | refine blk_drew ?_ | refine blk_alloc ?_ _)); refine blk_put (cs := #[.bool a1_0, .slice A0_1 l0_1.length c0_1]) ?_ 1 _ rfl; (with_reducible repeat (first | refine blk_drewN ?_ _ | refine blk_drew ?_ | refine blk_alloc ?_ _)); refine blk_put (cs := #[.bool a0_0, .slice A0_1 l0_1.length c0_1]) ?_ 0 _ rfl; (with_reducible repeat (first | refine blk_drewN ?_ _ | refine blk_drew ?_ | refine blk_alloc ?_ _)); exact BK101.out) k_ hk_), (Kd.freshB (g := gb102) (o := .cells #[.bool a0_0, .slice A0_1 l0_1.length c0_1] 113 (0, 0)) (by (with_reducible repeat (first | refine blk_drewN ?_ _ | refine blk_drew ?_ | refine blk_alloc ?_ _)); refine blk_put (cs := #[.bool a0_0, .slice A1_1 l1_1.length c1_1]) ?_ 1 _ rfl; (with_reducible repeat (first | refine blk_drewN ?_ _ | refine blk_drew ?_ | refine blk_alloc ?_ _)); refine blk_put (cs := #[.bool a1_0, .slice A1_1 l1_1.length c1_1]) ?_ 0 _ rfl; (with_reducible repeat (first | refine blk_drewN ?_ _ | refine blk_drew ?_ | refine blk_alloc ?_ _)); refine blk_far ?_ NB102_101.out _; (with_reducible repeat (first | refine blk_drewN ?_ _ | refine blk_drew ?_ | refine blk_alloc ?_ _)); refine blk_far ?_ NB102_101.out _; (with_reducible repeat (first | refine blk_drewN ?_ _ | refine blk_drew ?_ | refine blk_alloc ?_ _)); exact BK102.out) k_ hk_), (Kd.freshB (g := gb103) (o := .cells #[.bool false, .slice none 0 0] 113 (0, 0)) (by (with_reducible repeat (first | refine blk_drewN ?_ _ | refine blk_drew ?_ | refine blk_alloc ?_ _)); refine blk_far ?_ NB103_102.out _; (with_reducible repeat (first | refine blk_drewN ?_ _ | refine blk_drew ?_ | refine blk_alloc ?_ _)); refine blk_far ?_ NB103_102.out _; (with_reducible repeat (first | refine blk_drewN ?_ _ | refine blk_drew ?_ | refine blk_alloc ?_ _)); refine blk_far ?_ NB103_101.out _; (with_reducible repeat (first | refine blk_drewN ?_ _ | refine blk_drew ?_ | refine blk_alloc ?_ _)); refine blk_far ?_ NB103_101.out _; (with_reducible repeat (first | refine blk_drewN ?_ _ | refine blk_drew ?_ | refine blk_alloc ?_ _)); exact BK103.out) k_ hk_)⟩)) (below_size (zB3 HB.out GE101.out GE102.out GE103.out))); replace BK101 := Aside0.mk (blk_below (g := gb101) (o := .cells #[.bool a1_0, .slice A1_1 l1_1.length c1_1] 113 (0, 0)) (by (with_reducible repeat (first | refine blk_drewN ?_ _ | refine blk_drew ?_ | refine blk_alloc ?_ _)); refine blk_far ?_ NB101_102.out _; (with_reducible repeat (first | refine blk_drewN ?_ _ | refine blk_drew ?_ | refine blk_alloc ?_ _)); refine blk_far ?_ NB101_102.out _; (with_reducible repeat (first | refine blk_drewN ?_ _ | refine blk_drew ?_ | refine blk_alloc ?_ _)); refine blk_put (cs := #[.bool a1_0, .slice A0_1 l0_1.length c0_1]) ?_ 1 _ rfl; (with_reducible repeat (first | refine blk_drewN ?_ _ | refine blk_drew ?_ | refine blk_alloc ?_ _)); refine blk_put (cs := #[.bool a0_0, .slice A0_1 l0_1.length c0_1]) ?_ 0 _ rfl; (with_reducible repeat (first | refine blk_drewN ?_ _ | refine blk_drew ?_ | refine blk_alloc ?_ _)); exact BK101.out) hb); replace BK102 := Aside0.mk (blk_below (g := gb102) (o := .cells #[.bool a0_0, .slice A0_1 l0_1.length c0_1] 113 (0, 0)) (by (with_reducible repeat (first | refine blk_drewN ?_ _ | refine blk_drew ?_ | refine blk_alloc ?_ _)); refine blk_put (cs := #[.bool a0_0, .slice A1_1 l1_1.length c1_1]) ?_ 1 _ rfl; (with_reducible repeat (first | refine blk_drewN ?_ _ | refine blk_drew ?_ | refine blk_alloc ?_ _)); refine blk_put (cs := #[.bool a1_0, .slice A1_1 l1_1.length c1_1]) ?_ 0 _ rfl; (with_reducible repeat (first | refine blk_drewN ?_ _ | refine blk_drew ?_ | refine blk_alloc ?_ _)); refine blk_far ?_ NB102_101.out _; (with_reducible repeat (first | refine blk_drewN ?_ _ | refine blk_drew ?_ | refine blk_alloc ?_ _)); refine blk_far ?_ NB102_101.out _; (with_reducible repeat (first | refine blk_drewN ?_ _ | refine blk_drew ?_ | refine blk_alloc ?_ _)); exact BK102.out) hb); replace BK103 := Aside0.mk (blk_below (g := gb103) (o := .cells #[.bool false, .slice none 0 0] 113 (0, 0)) (by (with_reducible repeat (first | refine blk_drewN ?_ _ | refine blk_drew ?_ | refine blk_alloc ?_ _)); refine blk_far ?_ NB103_102.out _; (with_reducible repeat (first | refine blk_drewN ?_ _ | refine blk_drew ?_ | refine blk_alloc ?_ _)); refine blk_far ?_ NB103_102.out _; (with_reducible repeat (first | refine blk_drewN ?_ _ | refine blk_drew ?_ | refine blk_alloc ?_ _)); refine blk_far ?_ NB103_101.out _; (with_reducible repeat (first | refine blk_drewN ?_ _ | refine blk_drew ?_ | refine blk_alloc ?_ _)); refine blk_far ?_ NB103_101.out _; (with_reducible repeat (first | refine blk_drewN ?_ _ | refine blk_drew ?_ | refine blk_alloc ?_ _)); exact BK103.out) hb); replace HB := yS3 HB GE101 GE102 GE103 hb; (try clear hb ho0); obtain ⟨hcz36_0, hcz36_1, hfz36_0, hfz36_1⟩ := zz2 BK101; obtain ⟨Ao37, co37, rfl⟩ := Kd.V_slice HO113.out; obtain ⟨hcz38_0, hcz38_1, hfz38_0, hfz38_1⟩ := zz2 BK103))
   refine bodyPost_ret (results_cell_row rfl _ _ gb103 113 #[.bool a1_0, .slice Ao37 t111.length co37] (0, 0) _ rfl (zP2 BK103.out) Try.underlying113 rfl (by kernel_rfl)) rfl ?_
   exact ⟨_, zE, by (with_reducible repeat (first | apply Kd.V_alloc | apply Kd.V_drewN | apply Kd.V_drew)); exact Kd.V_mono (Kd.V_far (p := ⟨gb103, 1, none⟩) (Kd.V_far (p := ⟨gb103, 0, none⟩) (Kd.V_mono HO113.out (fun k_ hk => (⟨hk, hk.2.2.2⟩ : _ ∧ k_ ≠ gb103))) (fun _ hk => hk.2) (.bool a1_0)) (fun _ hk => hk.2) (.slice Ao37 t111.length co37)) (fun _ hk => hk.1.1), zB3 HB.out GE101.out GE102.out GE103.out⟩
 replace H := zb H
 obtain ⟨⟨t115, t118⟩, A39, H⟩ := H
 dsimp only at H
 simp only [Option.some.injEq, Prod.mk.injEq] at H
 obtain ⟨rfl, rfl⟩ := H
 go_enter Try.func128, Try.ntmps128
 go_wp2_with (first | ((with_reducible refine gate_dst (N := 2) rfl ?_); refine box_event ?hg (N := 2) ?hd (cs := #[.bool a0_0, .slice A0_1 l0_1.length c0_1]) (t := 113) ?hr ?_; (case hd => rfl); (case hg => rfl); (case hr => first | (go_simp; done) | (go_simp; rfl)); intro gb101 hg w40 hbox hb; replace HO0_1 := yVB HO0_1 hg hb; replace HO1_1 := yVB HO1_1 hg hb; have BK101 := Aside0.mk (hbox); have GW101 := yg hg HB; have GE101 := yg hg HB; replace HB := yS HB hb; clear hb hbox hg) | ((with_reducible refine gate_dst (N := 3) rfl ?_); refine box_event ?hg (N := 3) ?hd (cs := #[.bool a1_0, .slice A1_1 l1_1.length c1_1]) (t := 113) ?hr ?_; (case hd => rfl); (case hg => rfl); (case hr => first | (go_simp; done) | (go_simp; rfl)); intro gb102 hg w41 hbox hb; replace HO0_1 := yVB HO0_1 hg hb; replace HO1_1 := yVB HO1_1 hg hb; have BK102 := Aside0.mk (hbox); have GW102 := yg1 hg HB GE101; have GE102 := yg1 hg HB GE101; replace HB := yS1 HB GE101 hb; have NB101_102 := ynl hg BK101; have NB102_101 := yng hg BK101; replace BK101 := yK BK101 hb; clear hb hbox hg) | ((with_reducible refine gate_dst (N := 4) rfl ?_); refine box_event ?hg (N := 4) ?hd (cs := #[.bool false, .slice none 0 0]) (t := 113) ?hr ?_; (case hd => rfl); (case hg => rfl); (case hr => first | (go_simp; done) | (go_simp; rfl)); intro gb103 hg w42 hbox hb; replace HO0_1 := yVB HO0_1 hg hb; replace HO1_1 := yVB HO1_1 hg hb; have BK103 := Aside0.mk (hbox); have GW103 := yg2 hg HB GE101 GE102; have GE103 := yg2 hg HB GE101 GE102; replace HB := yS2 HB GE101 GE102 hb; have NB101_103 := ynl hg BK101; have NB103_101 := yng hg BK101; replace BK101 := yK BK101 hb; have NB102_103 := ynl hg BK102; have NB103_102 := yng hg BK102; replace BK102 := yK BK102 hb; clear hb hbox hg; have hnb43 := NB101_102.out; have hnc43 := NB102_101.out; have hnb44 := NB101_103.out; have hnc44 := NB103_101.out; obtain ⟨hcz45_0, hcz45_1, hfz45_0, hfz45_1⟩ := zz2 BK101; have hnb46 := NB102_103.out; have hnc46 := NB103_102.out; obtain ⟨hcz47_0, hcz47_1, hfz47_0, hfz47_1⟩ := zz2 BK102) | ((with_reducible refine gC 79 ?_); refine zG (some 25) Try.func79 #[.slice A0_1 l0_1.length c0_1, .slice A1_1 l1_1.length c1_1] ?_; (with_reducible refine (nat_Cmp.calls k _ _ l0_1 _ _ l1_1 t110 _ ?side1 ?side2 ?side3 ?side4 A21.out).mono ?_); (case side1 => exact zC (Kd.V_reads' HO0_1.out).2.2); (case side2 => exact (Kd.V_reads' HO0_1.out).2.1); (case side3 => exact zC (Kd.V_reads' HO1_1.out).2.2); (case side4 => exact (Kd.V_reads' HO1_1.out).2.1); rintro e w48 ⟨rfl, hb⟩; refine ⟨_, rfl, ?_⟩; replace HO0_1 := yVb HO0_1 hb; replace HO1_1 := yVb HO1_1 hb; replace BK101 := yK BK101 hb; replace BK102 := yK BK102 hb; replace BK103 := yK BK103 hb; replace HB := yS3 HB GE101 GE102 GE103 hb; (try clear hb); (try clear hb2); (try clear hk); (try clear hi); obtain ⟨hcz49_0, hcz49_1, hfz49_0, hfz49_1⟩ := zz2 BK101; obtain ⟨hcz50_0, hcz50_1, hfz50_0, hfz50_1⟩ := zz2 BK102) | ((with_reducible refine gC 137 ?_); refine zG (some 34) Try.func137 #[.slice A0_1 l0_1.length c0_1, .slice A1_1 l1_1.length c1_1] ?_; (with_reducible refine (nat_Sub.calls k _ _ l0_1 _ _ l1_1 t115 t118 _ ?side1 ?side2 ?side3 ?side4 A39.out).mono ?_); (case side1 => exact zC (Kd.V_reads' HO0_1.out).2.2); (case side2 => exact (Kd.V_reads' HO0_1.out).2.1); (case side3 => exact zC (Kd.V_reads' HO1_1.out).2.2); (case side4 => exact (Kd.V_reads' HO1_1.out).2.1); rintro e w51 ⟨v116, rfl, ho0, hb⟩; refine ⟨_, rfl, ?_⟩; replace HO0_1 := yVb HO0_1 hb; replace HO1_1 := yVb HO1_1 hb; have HO117 := Aside0.mk (Kd.V_lower (Kd.V_mono (ok' := fun k_ => ((P0_1_ k_ ∨ P1_1_ k_) ∨ w.heap.size ≤ k_) ∧ k_ ≠ gb101 ∧ k_ ≠ gb102 ∧ k_ ≠ gb103) ho0 (fun k_ hk_ => ⟨(.inr (Nat.le_trans (below_size (zB3 HB.out GE101.out GE102.out GE103.out)) hk_)), (Kd.freshB (g := gb101) (o := .cells #[.bool a0_0, .slice A0_1 l0_1.length c0_1] 113 (0, 0)) (by (with_reducible repeat (first | refine blk_drewN ?_ _ | refine blk_drew ?_ | refine blk_alloc ?_ _)); exact BK101.out) k_ hk_), (Kd.freshB (g := gb102) (o := .cells #[.bool a1_0, .slice A1_1 l1_1.length c1_1] 113 (0, 0)) (by (with_reducible repeat (first | refine blk_drewN ?_ _ | refine blk_drew ?_ | refine blk_alloc ?_ _)); exact BK102.out) k_ hk_), (Kd.freshB (g := gb103) (o := .cells #[.bool false, .slice none 0 0] 113 (0, 0)) (by (with_reducible repeat (first | refine blk_drewN ?_ _ | refine blk_drew ?_ | refine blk_alloc ?_ _)); exact BK103.out) k_ hk_)⟩)) (below_size (zB3 HB.out GE101.out GE102.out GE103.out))); replace BK101 := yK BK101 hb; replace BK102 := yK BK102 hb; replace BK103 := yK BK103 hb; replace HB := yS3 HB GE101 GE102 GE103 hb; (try clear hb ho0); obtain ⟨hcz52_0, hcz52_1, hfz52_0, hfz52_1⟩ := zz2 BK101; obtain ⟨Ao53, co53, rfl⟩ := Kd.V_slice HO117.out; obtain ⟨hcz54_0, hcz54_1, hfz54_0, hfz54_1⟩ := zz2 BK103))
 refine bodyPost_ret (results_cell_row rfl _ _ gb103 113 #[.bool a0_0, .slice Ao53 t115.length co53] (0, 0) _ rfl (zP2 BK103.out) Try.underlying113 rfl (by kernel_rfl)) rfl ?_
 exact ⟨_, zE, by (with_reducible repeat (first | apply Kd.V_alloc | apply Kd.V_drewN | apply Kd.V_drew)); exact Kd.V_mono (Kd.V_far (p := ⟨gb103, 1, none⟩) (Kd.V_far (p := ⟨gb103, 0, none⟩) (Kd.V_mono HO117.out (fun k_ hk => (⟨hk, hk.2.2.2⟩ : _ ∧ k_ ≠ gb103))) (fun _ hk => hk.2) (.bool a0_0)) (fun _ hk => hk.2) (.slice Ao53 t115.length co53)) (fun _ hk => hk.1.1), zB3 HB.out GE101.out GE102.out GE103.out⟩
def mw_times.T1 : Bool × List (List Nat × List Nat) := (true, [([], []), ([0], [0]), ([], []), ([2], [2]), ([1, 3], [1, 3]), ([], []), ([5], [5]), ([], []), ([7], [7]), ([6, 8], [6, 8]), ([9], [9]), ([4, 10], [4, 10]), ([11, 10, 0, 1, 2, 3, 4, 5, 6, 7, 8, 9, 10, 11], [11])])
def mw_times.B1 : List Nat := [0, 1, 0, 4, 15, 0, 32, 0, 128, 480, 992, 2047, 4095]
theorem mw_times.tab1 : rtab .any (opsOf Try.f126 1) = mw_times.T1 := by kernel_rfl
theorem mw_times.bits1 : waitsOk mw_times.T1.2 mw_times.B1 = true := by kernel_rfl
set_option maxHeartbeats 8000000 in
set_option maxRecDepth 100000 in
theorem mw_times.calls (k : Nat) (a0_0 : Bool) (P0_1_ : Nat → Prop) (A0_1 : Option Addr) (c0_1 : Nat) (l0_1 : List Int) (a1_0 : Bool) (P1_1_ : Nat → Prop) (A1_1 : Option Addr) (c1_1 : Nat) (l1_1 : List Int) (r1 : Bool) (r2 : List Int) (w : World) (hs0_1 : Kd.V (Kd.int .u32) 97 w w.heap.size (fun k_ => P0_1_ k_) (.slice A0_1 l0_1.length c0_1) l0_1) (hs1_1 : Kd.V (Kd.int .u32) 97 w w.heap.size (fun k_ => P1_1_ k_) (.slice A1_1 l1_1.length c1_1) l1_1) (h : mw_times.f k a0_0 l0_1 a1_0 l1_1 = some (r1, r2)) :
    Calls Try.prog 126 #[.agg #[.bool a0_0, .slice A0_1 l0_1.length c0_1], .agg #[.bool a1_0, .slice A1_1 l1_1.length c1_1]] w fun e w' => ∃ v1_ : Value, e = .returned (.agg #[.bool r1, v1_]) ∧ Kd.R (Kd.int .u32) 97 w' w.heap.size (fun k_ => (w.heap.size ≤ k_)) v1_ r2 ∧ Below w.heap.size w w' := by
 have hu113 := Try.underlying113
 have HO0_1 := Aside0.mk (show Kd.V (Kd.int .u32) 97 w w.heap.size (fun k_ => ((P0_1_ k_ ∨ P1_1_ k_) ∨ w.heap.size ≤ k_)) (.slice A0_1 l0_1.length c0_1) l0_1 from Kd.V_mono hs0_1 (fun k_ hk => .inl (.inl hk)))
 have HO1_1 := Aside0.mk (show Kd.V (Kd.int .u32) 97 w w.heap.size (fun k_ => ((P0_1_ k_ ∨ P1_1_ k_) ∨ w.heap.size ≤ k_)) (.slice A1_1 l1_1.length c1_1) l1_1 from Kd.V_mono hs1_1 (fun k_ hk => .inl (.inr hk)))
 have HB := Aside0.mk (Below.refl w.heap.size w)
 have H : ((nat_Mul.f k (([l0_1, l1_1] : List (List Int)))).bind fun t107 => (some ((a0_0 != a1_0), t107))) = some (r1, r2) := h
 clear h
 obtain ⟨y104, hy104⟩ : ∃ y_ : List (List Int), y_ = (([l0_1, l1_1] : List (List Int))) := ⟨_, rfl⟩
 replace H : ((nat_Mul.f k y104).bind fun t107 => (some ((a0_0 != a1_0), t107))) = some (r1, r2) := zY hy104 H
 have Ny104 := Aside0.mk hy104
 clear hy104
 replace H := zb H
 obtain ⟨t107, A3, H⟩ := H
 simp only [Option.some.injEq, Prod.mk.injEq] at H
 obtain ⟨rfl, rfl⟩ := H
 go_enter Try.func126, Try.ntmps126
 try go_wp2_with (first | ((with_reducible refine gate_dst (N := 2) rfl ?_); refine box_event ?hg (N := 2) ?hd (cs := #[.bool a0_0, .slice A0_1 l0_1.length c0_1]) (t := 113) ?hr ?_; (case hd => rfl); (case hg => rfl); (case hr => first | (go_simp; done) | (go_simp; rfl)); intro gb101 hg w4 hbox hb; replace HO0_1 := yVB HO0_1 hg hb; replace HO1_1 := yVB HO1_1 hg hb; have BK101 := Aside0.mk (hbox); have GW101 := yg hg HB; have GE101 := yg hg HB; replace HB := yS HB hb; clear hb hbox hg) | ((with_reducible refine gate_dst (N := 3) rfl ?_); refine box_event ?hg (N := 3) ?hd (cs := #[.bool a1_0, .slice A1_1 l1_1.length c1_1]) (t := 113) ?hr ?_; (case hd => rfl); (case hg => rfl); (case hr => first | (go_simp; done) | (go_simp; rfl)); intro gb102 hg w5 hbox hb; replace HO0_1 := yVB HO0_1 hg hb; replace HO1_1 := yVB HO1_1 hg hb; have BK102 := Aside0.mk (hbox); have GW102 := yg1 hg HB GE101; have GE102 := yg1 hg HB GE101; replace HB := yS1 HB GE101 hb; have NB101_102 := ynl hg BK101; have NB102_101 := yng hg BK101; replace BK101 := yK BK101 hb; clear hb hbox hg) | ((with_reducible refine gate_dst (N := 4) rfl ?_); refine box_event ?hg (N := 4) ?hd (cs := #[.bool false, .slice none 0 0]) (t := 113) ?hr ?_; (case hd => rfl); (case hg => rfl); (case hr => first | (go_simp; done) | (go_simp; rfl)); intro gb103 hg w6 hbox hb; replace HO0_1 := yVB HO0_1 hg hb; replace HO1_1 := yVB HO1_1 hg hb; have BK103 := Aside0.mk (hbox); have GW103 := yg2 hg HB GE101 GE102; have GE103 := yg2 hg HB GE101 GE102; replace HB := yS2 HB GE101 GE102 hb; have NB101_103 := ynl hg BK101; have NB103_101 := yng hg BK101; replace BK101 := yK BK101 hb; have NB102_103 := ynl hg BK102; have NB103_102 := yng hg BK102; replace BK102 := yK BK102 hb; clear hb hbox hg))
 replace HO0_1 := Aside0.mk (Kd.V_drew HO0_1.out)
 replace HO1_1 := Aside0.mk (Kd.V_drew HO1_1.out)
 replace BK101 := Aside0.mk (blk_drew BK101.out)
 replace BK102 := Aside0.mk (blk_drew BK102.out)
 replace BK103 := Aside0.mk (blk_drew BK103.out)
 replace HB := Aside0.mk (below_drew1 HB.out)
 refine start_ (n := 13) (S := fun w' => w'.cell? ⟨gb101, 0, none⟩ = some (.bool a0_0) ∧ w'.cell? ⟨gb101, 1, none⟩ = some (.slice A0_1 l0_1.length c0_1) ∧ w'.cell? ⟨gb102, 0, none⟩ = some (.bool a1_0) ∧ w'.cell? ⟨gb102, 1, none⟩ = some (.slice A1_1 l1_1.length c1_1)) (ds := []) #[false, false, false, false, false, false, false, false, false, false, false, false, false] (by kernel_rfl) rfl rfl ⟨(blk_cell BK101.out 0).trans rfl, (blk_cell BK101.out 1).trans rfl, (blk_cell BK102.out 0).trans rfl, (blk_cell BK102.out 1).trans rfl⟩ (fun hHeld => ?_); refine with_tabW mw_times.tab1 mw_times.bits1 (fun HT_ HW_ => ?_)
 generalize w6.drew = w7 at HO0_1 HO1_1 BK101 BK102 BK103 HB hHeld ⊢
 refine zp (i := 0) (N := some 5) HT_ ?_
 refine zp (i := 2) (N := some 7) HT_ ?_
 refine zp (i := 5) (N := some 10) HT_ ?_
 refine zp (i := 7) (N := some 12) HT_ ?_
 refine take_ (i := 1) (N := some 6) (v := ?_) (a' := ?_) #[true, true, true, false, false, true, false, true, false, false, false, false, false] rfl rfl (take_ofW HT_.out HW_.out (by kernel_rfl)) (fun _ _ _ h => h) (Or.inl ⟨by rfl, ?_⟩) hHeld ?_ ?_
 rotate_left
 · rintro w' ⟨s0, s1, s2, s3⟩
   go_simp
   with_reducible rfl
 rotate_left
 · simp only [Act.put, List.setIfInBounds_toArray, List.set_cons_zero, List.set_cons_succ, i64_w, i32_w]
   rfl
 refine take_ (i := 3) (N := some 8) (v := ?_) (a' := ?_) #[true, true, true, true, false, true, false, true, false, false, false, false, false] rfl rfl (take_ofW HT_.out HW_.out (by kernel_rfl)) (fun _ _ _ h => h) (Or.inl ⟨by rfl, ?_⟩) hHeld ?_ ?_
 rotate_left
 · rintro w' ⟨s0, s1, s2, s3⟩
   go_simp
   with_reducible rfl
 rotate_left
 · simp only [Act.put, List.setIfInBounds_toArray, List.set_cons_zero, List.set_cons_succ, i64_w, i32_w]
   rfl
 refine zp (i := 4) (N := some 9) HT_ ?_
 refine take_ (i := 6) (N := some 11) (v := ?_) (a' := ?_) #[true, true, true, true, true, true, true, true, false, false, false, false, false] rfl rfl (take_ofW HT_.out HW_.out (by kernel_rfl)) (fun _ _ _ h => h) (Or.inl ⟨by rfl, ?_⟩) hHeld ?_ ?_
 rotate_left
 · rintro w' ⟨s0, s1, s2, s3⟩
   go_simp
   with_reducible rfl
 rotate_left
 · simp only [Act.put, List.setIfInBounds_toArray, List.set_cons_zero, List.set_cons_succ, i64_w, i32_w]
   rfl
 refine take_ (i := 8) (N := some 13) (v := ?_) (a' := ?_) #[true, true, true, true, true, true, true, true, true, false, false, false, false] rfl rfl (take_ofW HT_.out HW_.out (by kernel_rfl)) (fun _ _ _ h => h) (Or.inl ⟨by rfl, ?_⟩) hHeld ?_ ?_
 rotate_left
 · rintro w' ⟨s0, s1, s2, s3⟩
   go_simp
   with_reducible rfl
 rotate_left
 · simp only [Act.put, List.setIfInBounds_toArray, List.set_cons_zero, List.set_cons_succ, i64_w, i32_w]
   rfl
 refine one_ (i := 9) (N := some 14) #[true, true, true, true, true, true, true, true, true, true, false, false, false] rfl rfl (one_of HT_.out (by kernel_rfl)) (by decide) (fun K hK => ?_)
 refine Kd.N_lit_step (Kd.slice 97 (Kd.int .u32)) _ 29 ?hg (N' := 14) ?hd (xs := ([l0_1, l1_1] : List (List Int))) (inner := [.slice A0_1 l0_1.length c0_1, .slice A1_1 l1_1.length c1_1]) (ok := (fun k_ => ((P0_1_ k_ ∨ P1_1_ k_) ∨ w.heap.size ≤ k_) ∧ k_ ≠ gb101 ∧ k_ ≠ gb102 ∧ k_ ≠ gb103)) (okp := (fun k_ => ((P0_1_ k_ ∨ P1_1_ k_) ∨ w.heap.size ≤ k_) ∧ k_ ≠ gb101 ∧ k_ ≠ gb102 ∧ k_ ≠ gb103)) ?hr ?hp (fun _ hk => hk) ((show ∀ k_, w7.heap.size ≤ k_ → (fun k_ => ((P0_1_ k_ ∨ P1_1_ k_) ∨ w.heap.size ≤ k_) ∧ k_ ≠ gb101 ∧ k_ ≠ gb102 ∧ k_ ≠ gb103) k_ from fun k_ hk => ⟨(.inr (Nat.le_trans (below_size (zB3 HB.out GE101.out GE102.out GE103.out)) hk)), Kd.freshB (g := gb101) (o := .cells #[.bool a0_0, .slice A0_1 l0_1.length c0_1] 113 (0, 0)) (by (with_reducible repeat (first | refine blk_drewN ?_ _ | refine blk_drew ?_ | refine blk_alloc ?_ _)); exact BK101.out) k_ hk, Kd.freshB (g := gb102) (o := .cells #[.bool a1_0, .slice A1_1 l1_1.length c1_1] 113 (0, 0)) (by (with_reducible repeat (first | refine blk_drewN ?_ _ | refine blk_drew ?_ | refine blk_alloc ?_ _)); exact BK102.out) k_ hk, Kd.freshB (g := gb103) (o := .cells #[.bool false, .slice none 0 0] 113 (0, 0)) (by (with_reducible repeat (first | refine blk_drewN ?_ _ | refine blk_drew ?_ | refine blk_alloc ?_ _)); exact BK103.out) k_ hk⟩) _ (Nat.le_refl _)) (Below.refl _ _) (Nat.le_refl _) (by simp) ?_; (case hd => rfl); (case hg => rfl); (case hr => first | (go_simp; done) | (go_simp; rfl)); (case hp => exact (Reps.one (show Kd.FK (Kd.slice 97 (Kd.int .u32)) _ _ l0_1 [.slice A0_1 l0_1.length c0_1] from (Kd.FK_slice_mk (Kd.V_reads' (Kd.V_mono (ok' := (fun k_ => ((P0_1_ k_ ∨ P1_1_ k_) ∨ w.heap.size ≤ k_) ∧ k_ ≠ gb101 ∧ k_ ≠ gb102 ∧ k_ ≠ gb103)) (HO0_1.out) (fun k_ hk => by exact ⟨hk.1.1.1, ⟨hk.1.1.2, ⟨hk.1.2, hk.2⟩⟩⟩))).2.1 (Kd.V_F (Kd.V_mono (ok' := (fun k_ => ((P0_1_ k_ ∨ P1_1_ k_) ∨ w.heap.size ≤ k_) ∧ k_ ≠ gb101 ∧ k_ ≠ gb102 ∧ k_ ≠ gb103)) (HO0_1.out) (fun k_ hk => by exact ⟨hk.1.1.1, ⟨hk.1.1.2, ⟨hk.1.2, hk.2⟩⟩⟩))))) (Reps.one (show Kd.FK (Kd.slice 97 (Kd.int .u32)) _ _ l1_1 [.slice A1_1 l1_1.length c1_1] from (Kd.FK_slice_mk (Kd.V_reads' (Kd.V_mono (ok' := (fun k_ => ((P0_1_ k_ ∨ P1_1_ k_) ∨ w.heap.size ≤ k_) ∧ k_ ≠ gb101 ∧ k_ ≠ gb102 ∧ k_ ≠ gb103)) (HO1_1.out) (fun k_ hk => by exact ⟨hk.1.1.1, ⟨hk.1.1.2, ⟨hk.1.2, hk.2⟩⟩⟩))).2.1 (Kd.V_F (Kd.V_mono (ok' := (fun k_ => ((P0_1_ k_ ∨ P1_1_ k_) ∨ w.heap.size ≤ k_) ∧ k_ ≠ gb101 ∧ k_ ≠ gb102 ∧ k_ ≠ gb103)) (HO1_1.out) (fun k_ hk => by exact ⟨hk.1.1.1, ⟨hk.1.1.2, ⟨hk.1.2, hk.2⟩⟩⟩))))) (Reps.none _ _))))
 intro v105 w8 ho9 hb hg_ hnew_
 clear hg_ hnew_
 (first | rw [← Ny104.out] at ho9 | (simp only [Int.reduceToNat] at ho9; rw [← Ny104.out] at ho9))
 replace HO0_1 := Aside0.mk (Kd.V_elder' (zV HO0_1.out) (Kd.N_base ho9) hb)
 replace HO1_1 := Aside0.mk (Kd.V_elder' (zV HO1_1.out) (Kd.N_base ho9) hb)
 have HO106 := Aside0.mk (Kd.N_lower ho9 (below_size (zB3 HB.out GE101.out GE102.out GE103.out)))
 replace BK101 := yK BK101 hb
 replace BK102 := yK BK102 hb
 replace BK103 := yK BK103 hb
 replace HB := yS3 HB GE101 GE102 GE103 hb
 clear hb ho9
 obtain ⟨Ao10, co10, eo10⟩ := Kd.N_slice HO106.out
 (first | subst eo10 | (injection eo10 with f1_ f2_ f3_; have f4_ := f1_.symm; have f5_ := f3_.symm; clear f1_ f2_ f3_; subst f4_; subst f5_))
 refine hK.out _ _ ⟨(blk_cell BK101.out 0).trans rfl, (blk_cell BK101.out 1).trans rfl, (blk_cell BK102.out 0).trans rfl, (blk_cell BK102.out 1).trans rfl⟩ (fun hHeld => ?_)
 clear hK K
 refine norm_ (a' := ?_) ?_ ?_
 rotate_left
 · show Act.put _ (some 14) _ = _
   simp only [Act.put, List.setIfInBounds_toArray, List.set_cons_zero, List.set_cons_succ, i64_w, i32_w]
   rfl
 refine one_ (i := 10) (N := some 15) #[true, true, true, true, true, true, true, true, true, true, true, false, false] rfl rfl (one_of HT_.out (by kernel_rfl)) (by decide) (fun K hK => ?_)
 refine goes_ Try.func74 (by kernel_rfl) rfl #[.slice Ao10 y104.length co10] (by rfl) rfl rfl (by (try simp only [List.map_toArray, List.map_cons, List.map_nil]); first | done | rfl | (simp only [List.length_drop, List.length_take]; rfl)) ?_
 with_reducible refine (nat_Mul.calls k _ _ y104 t107 _ ?side1 ?side2 A3.out).mono ?_
 (case side1 => exact zC (Kd.N_reads' HO106.out).2.2)
 (case side2 => exact (Kd.N_reads' HO106.out).2.1)
 rintro e w11 ⟨v108, rfl, ho0, hb⟩
 refine ⟨_, rfl, ?_⟩
 replace HO0_1 := yVe HO0_1 ho0 hb
 replace HO1_1 := yVe HO1_1 ho0 hb
 replace HO106 := yNe HO106 ho0 hb
 replace ho0 := Kd.R_newM (M := fun k_ => (w.heap.size ≤ k_)) ho0 (below_size (zB3 HB.out GE101.out GE102.out GE103.out)) (fun k_ h_ => h_)
 have HO109 := yRl3 ho0 HB GE101 GE102 GE103
 replace BK101 := yK BK101 hb
 replace BK102 := yK BK102 hb
 replace BK103 := yK BK103 hb
 replace HB := yS3 HB GE101 GE102 GE103 hb
 (try clear hb)
 (try clear ho0)
 obtain ⟨Ao12, co12, eo12⟩ := Kd.R_slice HO109.out
 (first | subst eo12 | (injection eo12 with f1_ f2_ f3_; have f4_ := f1_.symm; have f5_ := f3_.symm; clear f1_ f2_ f3_; subst f4_; subst f5_))
 refine hK.out _ _ ⟨(blk_cell BK101.out 0).trans rfl, (blk_cell BK101.out 1).trans rfl, (blk_cell BK102.out 0).trans rfl, (blk_cell BK102.out 1).trans rfl⟩ (fun hHeld => ?_)
 clear hK K
 refine norm_ (a' := ?_) ?_ ?_
 rotate_left
 · show Act.put _ (some 15) _ = _
   simp only [Act.put, List.setIfInBounds_toArray, List.set_cons_zero, List.set_cons_succ, i64_w, i32_w]
   rfl
 refine zp (i := 11) (N := some 16) HT_ ?_
 refine one_ (i := 12) (N := none) #[true, true, true, true, true, true, true, true, true, true, true, true, true] rfl rfl (one_of HT_.out (by kernel_rfl)) (by decide) (fun K hK => ?_)
 have hs13 : w11.cell? ⟨gb103, 0, none⟩ = some (.bool false) := (blk_cell BK103.out 0).trans rfl
 have hfs13 := blk_frozen BK103.out 0
 have hns13_0 := NB101_103.out
 have hns13_1 := NB102_103.out
 have hms13_0 := NB103_101.out
 have hms13_1 := NB103_102.out
 have hs14 : w11.cell? ⟨gb103, 1, none⟩ = some (.slice none 0 0) := (blk_cell BK103.out 1).trans rfl
 have hfs14 := blk_frozen BK103.out 1
 have hns14_0 := NB101_103.out
 have hns14_1 := NB102_103.out
 have hms14_0 := NB103_101.out
 have hms14_1 := NB103_102.out
 refine skip_ (w1 := ?_) (by rfl) rfl ?_ ?_
 rotate_left
 · go_simp
   rfl
 refine hK.out _ _ ⟨((cell_far (p := ⟨gb103, _, none⟩) NB101_103.out _).trans (((cell_far (p := ⟨gb103, _, none⟩) NB101_103.out _).trans (hHeld.1)))), ((cell_far (p := ⟨gb103, _, none⟩) NB101_103.out _).trans (((cell_far (p := ⟨gb103, _, none⟩) NB101_103.out _).trans (hHeld.2.1)))), ((cell_far (p := ⟨gb103, _, none⟩) NB102_103.out _).trans (((cell_far (p := ⟨gb103, _, none⟩) NB102_103.out _).trans (hHeld.2.2.1)))), ((cell_far (p := ⟨gb103, _, none⟩) NB102_103.out _).trans (((cell_far (p := ⟨gb103, _, none⟩) NB102_103.out _).trans (hHeld.2.2.2))))⟩ (fun hHeld => ?_)
 clear hK K
 refine done_ (done_of HT_.out (by kernel_rfl)) ?_
 try go_wp2
 refine bodyPost_ret (results_cell_row rfl _ _ gb103 113 #[.bool (a0_0 != a1_0), .slice Ao12 t107.length co12] (0, 0) _ rfl (zP2 BK103.out) Try.underlying113 rfl (by kernel_rfl)) rfl ?_
 exact ⟨_, zE, by (with_reducible repeat (first | apply Kd.R_alloc | apply Kd.R_drewN | apply Kd.R_drew)); exact Kd.R_mono (Kd.R_far (p := ⟨gb103, 1, none⟩) (Kd.R_far (p := ⟨gb103, 0, none⟩) (Kd.R_types HO109.out BK103.out (by decide)) (fun _ hk => hk.2) (.bool (a0_0 != a1_0))) (fun _ hk => hk.2) (.slice Ao12 t107.length co12)) (fun _ hk => hk.1.1), zB3 HB.out GE101.out GE102.out GE103.out⟩
set_option maxHeartbeats 8000000 in
set_option maxRecDepth 100000 in
theorem nat_digit.calls (k : Nat) (A0 : Option Addr) (c0 : Nat) (l0 : List Int) (a1 : Int) (r1 : List Int) (r2 : Int) (w : World) (hr0 : Kd.C (Kd.int .u32) w A0 l0.length l0) (hc0 : l0.length ≤ c0) (h : nat_digit.f k l0 a1 = some (r1, r2)) :
    Calls Try.prog 115 #[.slice A0 l0.length c0, .int .u32 a1] w fun e w' => ∃ v0_ : Value, e = .returned (.tuple #[v0_, .int .u32 r2]) ∧ Kd.V (Kd.int .u32) 97 w' w.heap.size (fun k_ => (w.heap.size ≤ k_)) v0_ r1 ∧ Below w.heap.size w w' := by
 have HR0 := Aside0.mk hr0
 have HC0 := Aside0.mk hc0
 clear hr0 hc0
 have HB := Aside0.mk (Below.refl w.heap.size w)
 have H : (if 0 ≤ (l0.length : Int) then (if ((l0.length : Int) : Int).toNat ≤ 70368744177664 then (nat_digit.l0 k l0 a1 (List.replicate ((l0.length : Int) : Int).toNat 0) 0 (wrap64 ((l0.length : Int) - 1))) else (none)) else (none)) = some (r1, r2) := h
 clear h
 replace H := zg H
 obtain ⟨c3, H⟩ := H
 have c3b0 := eq_true c3
 have c3b1 := decide_eq_true c3
 clear c3
 replace H := zg H
 obtain ⟨c4, H⟩ := H
 have c4b0 := eq_true c4
 have c4b1 := decide_eq_true c4
 clear c4
 obtain ⟨y101, hy101⟩ : ∃ y_ : List Int, y_ = (List.replicate ((l0.length : Int) : Int).toNat 0) := ⟨_, rfl⟩
 replace H : (nat_digit.l0 k l0 a1 y101 0 (wrap64 ((l0.length : Int) - 1))) = some (r1, r2) := zY hy101 H
 have Ny101 := Aside0.mk hy101
 clear hy101
 have H' := Aside0.mk H
 clear H
 go_enter Try.func115, Try.ntmps115
 go_wp2_with (first | ((with_reducible refine gate_dst (N := 11) rfl ?_); refine Kd.R_make (Kd.int .u32) _ 97 rfl (N := 11) rfl 29 _ _ rfl (l0.length : Int) rfl rfl Try.underlying29 (.int .u32 0) 4 info97 rfl (by decide) (by omega) 0 (ok := fun _ => True) (okp := fun _ => True) rfl (fun _ hk => hk) trivial zd (Nat.le_trans (Nat.mul_le_mul_right _ (zd : (l0.length : Int).toNat ≤ 70368744177664)) (by omega)) (Below.refl _ _) (Nat.le_refl _) ?_; intro v102 w5 ho6 hb hg_ hnew_; clear hg_ hnew_; (first | rw [← Ny101.out] at ho6 | (simp only [Int.reduceToNat] at ho6; rw [← Ny101.out] at ho6)); replace ho6 := Kd.R_newM (M := fun k_ => (w.heap.size ≤ k_)) ho6 (below_size (zB HB.out)) (fun k_ h_ => h_); have HO103 := yRl ho6 HB; replace HB := yS HB hb; clear hb ho6))
 go_loopg [7, 8] k (fun kq v7 v8 w' => ∃ (x6_1 : List Int) (x7_1 : Int) (x8_1 : Int), v7 = .int .u64 x7_1 ∧ v8 = .int .i64 x8_1 ∧ Aside0 (nat_digit.l0 kq l0 a1 x6_1 x7_1 x8_1 = some (r1, r2)) ∧ Aside0 (kq ≤ k) ∧ Aside0 (Kd.R (Kd.int .u32) 97 w' w.heap.size (fun k_ => (w.heap.size ≤ k_)) v102 x6_1) ∧ Aside0 (Below w.heap.size w w'))
 case atStart => exact ⟨(y101), (0), (wrap64 ((l0.length : Int) - 1)), zF, zF, H', ⟨Nat.le_refl _⟩, ⟨by (with_reducible repeat (first | apply Kd.R_alloc | apply Kd.R_drewN | apply Kd.R_drew)); exact Kd.R_mono HO103.out (fun _ hk => hk.1)⟩, ⟨zB HB.out⟩⟩
 clear H'
 (try clear c3);(try clear c3b0);(try clear c3b1);(try clear c4);(try clear c4b0);(try clear c4b1)
 obtain ⟨x6_1, x7_1, x8_1, rfl, rfl, HA, HK1, HO_6, HB⟩ := hrel
 cases gk with | zero => exact absurd HA.out (by simp [nat_digit.l0]) | succ k1 => ?_
 have H := HA.out
 clear HA
 simp only [nat_digit.l0] at H
 replace H := zi H
 rcases H with ⟨c7, H⟩ | ⟨c7, H⟩
 · have c7b0 : decide (0 ≤ x8_1) = true := decide_eq_true c7
   clear c7
   replace H := zgd H
   obtain ⟨c8b0, H⟩ := H
   replace H := zgd H
   obtain ⟨c9b0, H⟩ := H
   replace H := zh H
   obtain ⟨c10, H⟩ := H
   have c10b0 := beq_eq_false_iff_ne.mpr c10
   have c10b1 := bne_iff_ne.mpr c10
   replace H := zgd H
   obtain ⟨c11b0, H⟩ := H
   obtain ⟨y105, hy105⟩ : ∃ y_ : List Int, y_ = (x6_1.set (x8_1 : Int).toNat ((IntKind.u64.wrap (Int.tdiv (Go.bits .or .u64 (IntKind.u64.wrap (x7_1 * 4294967296)) (IntKind.u64.wrap (rd l0 x8_1))) (IntKind.u64.wrap (a1)))) % 4294967296)) := ⟨_, rfl⟩
   replace H : (nat_digit.l0 k1 l0 a1 y105 (Int.tmod (Go.bits .or .u64 (IntKind.u64.wrap (x7_1 * 4294967296)) (IntKind.u64.wrap (rd l0 x8_1))) (IntKind.u64.wrap (a1))) (wrap64 (x8_1 - 1))) = some (r1, r2) := zY hy105 H
   have Ny105 := Aside0.mk hy105
   clear hy105
   have H' := Aside0.mk H
   clear H
   have p104 : 0 ≤ (x8_1 : Int) := zd
   have q104 : x8_1 < (l0.length : Int) := zd
   obtain ⟨ad104, e104, hx104_0⟩ := Kd.at_int HR0.out x8_1 p104 q104
   cases e104
   replace hx104_0 := (HB.out.cell (World.block_lt_of_cell? w _ hx104_0)).trans hx104_0
   replace p104 := eq_true p104
   replace q104 := eq_true q104
   have p12 : 0 ≤ (x8_1 : Int) := zd
   have q12 : (x8_1 : Int) < ((x6_1.length : Int) : Int) := zd
   obtain ⟨go12, co12, eo12, gb12, gl12, cl12, HG12⟩ := Kd.R_form HO_6.out (by omega)
   (first | cases eo12 | (injection eo12 with ea_ en_ ec_; (first | subst ea_ | (injection ea_ with ea_; subst ea_)); subst ec_; clear en_))
   have GB12 := Aside0.mk gb12
   have GG12 := Aside0.mk HG12
   clear gb12 gl12 HG12
   obtain ⟨hx12_0, hf12_0⟩ := Kd.R_celln 0 HO_6.out (x8_1 : Int) p12 q12
   replace p12 := eq_true p12
   replace q12 := eq_true q12
   have HP13 := Kd.R_putg HO_6.out (x8_1 : Int) ((IntKind.u64.wrap (Int.tdiv (Go.bits .or .u64 (IntKind.u64.wrap (x7_1 * 4294967296)) (IntKind.u64.wrap (rd l0 x8_1))) (IntKind.u64.wrap (a1)))) % 4294967296)
   go_wp2_with (first | ((with_reducible refine gate_store (t := 97) (p := 34) rfl ?_); refine store_event (t := 97) (p := 34) (v := ?vo_w14) (w1 := (wr.setCell ⟨go12, (x8_1 : Int).toNat, none⟩ (.int .u32 ((IntKind.u64.wrap (Int.tdiv (Go.bits .or .u64 (IntKind.u64.wrap (x7_1 * 4294967296)) (IntKind.u64.wrap (rd l0 x8_1))) (IntKind.u64.wrap (a1)))) % 4294967296)))) ?hg ?ho ?hn ?hr ?_; (case ho => rfl); (case hg => rfl); (case hn => rfl); (case hr => first | (go_simp; done) | (go_simp; rfl)); intro w14 hw; have hg : wr.grownBy w14 (some go12) := (by rw [hw]; exact HP13.2); have hp_ : Kd.R (Kd.int .u32) 97 w14 w.heap.size (fun k_ => (w.heap.size ≤ k_)) (.slice (some ⟨go12, 0, none⟩) x6_1.length co12) y105 := (by rw [hw, Ny105.out]; exact HP13.1); clear HP13; replace HO_6 := Aside0.mk (hp_); replace HB := Aside0.mk ((by rw [hw]; exact below_set (HB.out) GB12.out : Below w.heap.size w w14)); clear hg hw hp_))
   go_roundg k1
   case measure => have := HK1.out; omega
   case rel => exact ⟨(y105), (Int.tmod (Go.bits .or .u64 (IntKind.u64.wrap (x7_1 * 4294967296)) (IntKind.u64.wrap (rd l0 x8_1))) (IntKind.u64.wrap (a1))), (wrap64 (x8_1 - 1)), zF, zF, H', ⟨zo1 HK1⟩, ⟨zR HO_6.out⟩, ⟨zB HB.out⟩⟩
 have c7b0 : decide (0 ≤ x8_1) = false := decide_eq_false c7
 clear c7
 replace H := zb H
 obtain ⟨t106, A15, H⟩ := H
 simp only [Option.some.injEq, Prod.mk.injEq] at H
 obtain ⟨rfl, rfl⟩ := H
 obtain ⟨Ao16, co16, rfl⟩ := Kd.R_slice HO_6.out
 go_wp2_with (first | ((with_reducible refine gC 118 ?_); refine zG (some 40) Try.func118 #[.slice Ao16 x6_1.length co16] ?_; (with_reducible refine (nat_short.calls k1 (fun k_ => some k_ = (.slice Ao16 x6_1.length co16 : Value).ownBlock) _ _ x6_1 t106 _ ?side1 A15.out).mono ?_); (case side1 => exact Kd.R_V (Kd.R_tight rfl (HO_6.out))); rintro e w17 ⟨v107, rfl, ho0, hb⟩; refine ⟨_, rfl, ?_⟩; have HO108 := Aside0.mk (Kd.V_lower (Kd.V_mono (ok' := fun k_ => (w.heap.size ≤ k_)) ho0 (fun k_ hk_ => Or.elim hk_ (fun hs_ => ((HO_6.out).1 k_ hs_.symm)) (fun hn_ => (Nat.le_trans (below_size (zB HB.out)) hn_)))) (below_size (zB HB.out))); replace HO_6 := yRb HO_6 hb; replace HB := yS HB hb; (try clear hb ho0)))
 go_ret2
 exact ⟨_, zE, zV HO108.out, zB HB.out⟩
set_option maxHeartbeats 8000000 in
set_option maxRecDepth 100000 in
theorem nat_Binomial.calls (k : Nat) (a0 : Int) (a1 : Int) (r1 : List Int) (r2 : Int) (w : World) (h : nat_Binomial.f k a0 a1 = some (r1, r2)) :
    Calls Try.prog 72 #[.int .i64 a0, .int .i64 a1] w fun e w' => ∃ v0_ : Value, e = .returned (.tuple #[v0_, .int .i64 r2]) ∧ Kd.R (Kd.int .u32) 97 w' w.heap.size (fun _ => True) v0_ r1 ∧ Below w.heap.size w w' := by
 have HB := Aside0.mk (Below.refl w.heap.size w)
 have H : (if a0 < 0 then (nat_Binomial.j0 k a0 a1 true) else (nat_Binomial.j0 k a0 a1 (decide (a0 > 4096)))) = some (r1, r2) := h
 clear h
 have HC3 := Aside0.mk H
 clear H
 go_enter Try.func72, Try.ntmps72
 go_upto_region 1 with (fail)
 go_cut [13] (fun v13 wc => ∃ (kq : Nat) (x13_2 : Bool), v13 = .bool x13_2 ∧ Aside0 (nat_Binomial.j0 kq a0 a1 x13_2 = some (r1, r2)) ∧ Aside0 (kq ≤ k) ∧ Aside0 (Below w.heap.size w wc))
 case first =>
  have H := HC3.out
  clear HC3
  replace H := zid H
  rcases H with ⟨c4b0, H⟩ | ⟨c4b0, H⟩
  · (first | rw [c4b0] | (simp only [i64_w, i32_w]; rw [c4b0]) | rw [c4b1] | skip)
    have H' := Aside0.mk H
    clear H
    go_wp2
    go_meet
    case rel => exact ⟨_, (true), zF, H', ⟨zO⟩, ⟨zB HB.out⟩⟩
  (first | rw [c4b0] | (simp only [i64_w, i32_w]; rw [c4b0]) | rw [c4b1] | skip)
  have H' := Aside0.mk H
  clear H
  go_wp2
  go_meet
  case rel => exact ⟨_, (decide (a0 > 4096)), zF, H', ⟨zO⟩, ⟨zB HB.out⟩⟩
 clear HC3
 (try clear c4b0)
 obtain ⟨kq, x13_2, rfl, HA, HJ2, HB⟩ := hcut
 cases kq with | zero => exact absurd HA.out (by simp [nat_Binomial.j0]) | succ kj2 => ?_
 have H := HA.out
 clear HA
 simp only [nat_Binomial.j0] at H
 by_cases c5 : x13_2 = true
 · subst c5
   rw [if_pos rfl] at H
   simp only [Option.some.injEq, Prod.mk.injEq] at H
   obtain ⟨rfl, rfl⟩ := H
   go_wp2
   go_ret2
   exact ⟨_, zE, z0, zB HB.out⟩
 replace c5 := Bool.eq_false_iff.mpr c5
 subst c5
 rw [if_neg Bool.false_ne_true] at H
 have HC6 := Aside0.mk H
 clear H
 go_upto_region 3 with (fail)
 go_cut [20] (fun v20 wc => ∃ (kq : Nat) (x20_5 : Bool), v20 = .bool x20_5 ∧ Aside0 (nat_Binomial.j1 kq a0 a1 x20_5 = some (r1, r2)) ∧ Aside0 (kq ≤ kj2) ∧ Aside0 (Below w.heap.size w wc))
 case first =>
  have H := HC6.out
  clear HC6
  replace H := zid H
  rcases H with ⟨c7b0, H⟩ | ⟨c7b0, H⟩
  · (first | rw [c7b0] | (simp only [i64_w, i32_w]; rw [c7b0]) | rw [c7b1] | skip)
    have H' := Aside0.mk H
    clear H
    go_wp2
    go_meet
    case rel => exact ⟨_, (true), zF, H', ⟨by have := HJ2.out; first | omega | exact Nat.le_refl _⟩, ⟨zB HB.out⟩⟩
  (first | rw [c7b0] | (simp only [i64_w, i32_w]; rw [c7b0]) | rw [c7b1] | skip)
  have H' := Aside0.mk H
  clear H
  go_wp2
  go_meet
  case rel => exact ⟨_, (decide (a1 > a0)), zF, H', ⟨by have := HJ2.out; first | omega | exact Nat.le_refl _⟩, ⟨zB HB.out⟩⟩
 clear HC6
 (try clear c4b0);(try clear c5);(try clear c7b0)
 obtain ⟨kq, x20_5, rfl, HA, HJ5, HB⟩ := hcut
 cases kq with | zero => exact absurd HA.out (by simp [nat_Binomial.j1]) | succ kj5 => ?_
 have H := HA.out
 clear HA
 simp only [nat_Binomial.j1] at H
 by_cases c8 : x20_5 = true
 · subst c8
   rw [if_pos rfl] at H
   simp only [Option.some.injEq, Prod.mk.injEq] at H
   obtain ⟨rfl, rfl⟩ := H
   go_wp2
   go_ret2
   exact ⟨_, zE, z0, zB HB.out⟩
 replace c8 := Bool.eq_false_iff.mpr c8
 subst c8
 rw [if_neg Bool.false_ne_true] at H
 obtain ⟨y101, hy101⟩ : ∃ y_ : List Int, y_ = (([1] : List Int)) := ⟨_, rfl⟩
 replace H : (nat_Binomial.l0 kj5 a0 y101 (mn a1 (wrap64 (a0 - a1))) 0) = some (r1, r2) := zY hy101 H
 have Ny101 := Aside0.mk hy101
 clear hy101
 obtain ⟨ji9, hji9⟩ : ∃ j_ : Int, (mn a1 (wrap64 (a0 - a1))) = j_ := ⟨_, rfl⟩
 replace H : (nat_Binomial.l0 kj5 a0 y101 ji9 0) = some (r1, r2) := by first | (rw [hji9] at H; exact H) | (simp only [hji9] at H ⊢; exact H)
 have hji9_ : (if (wrap64 (a0 - a1)) < a1 then (wrap64 (a0 - a1)) else a1) = ji9 := hji9
 have H' := Aside0.mk H
 clear H
 go_wp2_with (first | ((with_reducible refine gate_dst (N := 21) rfl ?_); refine Kd.R_lit (Kd.int .u32) _ 97 ?hg (N := 21) ?hd (xs := ([1] : List Int)) (inner := [.int .u32 1]) (ok := fun _ => True) (okp := fun _ => True) ?hr ?hp (fun _ hk => hk) trivial (Below.refl _ _) (Nat.le_refl _) (by simp) ?_; (case hd => rfl); (case hg => rfl); (case hr => first | (go_simp; done) | (go_simp; rfl)); (case hp => exact (Reps.one (show Kd.M (Kd.int .u32) _ _ _ 1 [.int .u32 1] from rfl) (Reps.none _ _))); intro v102 w10 ho11 hb hg_ hnew_; clear hg_ hnew_; (first | rw [← Ny101.out] at ho11 | (simp only [Int.reduceToNat] at ho11; rw [← Ny101.out] at ho11)); have HO103 := yRl ho11 HB; replace HB := yS HB hb; clear hb ho11))
 go_loopg [6, 27] kj5 (fun kq v6 v27 w' => ∃ (x6_3 : List Int) (x27_3 : Int), v27 = .int .i64 x27_3 ∧ Aside0 (nat_Binomial.l0 kq a0 x6_3 ji9 x27_3 = some (r1, r2)) ∧ Aside0 (kq ≤ kj5) ∧ Aside0 (Kd.V (Kd.int .u32) 97 w' w.heap.size (fun _ => True) v6 x6_3) ∧ Aside0 (Below w.heap.size w w'))
 case atStart => exact ⟨(y101), (0), zF, H', ⟨Nat.le_refl _⟩, ⟨Kd.R_V (zR HO103.out)⟩, ⟨zB HB.out⟩⟩
 clear H'
 (try clear c4b0);(try clear c5);(try clear c7b0);(try clear c8)
 obtain ⟨x6_3, x27_3, rfl, HA, HK3, HO_6, HB⟩ := hrel
 cases gk with | zero => exact absurd HA.out (by simp [nat_Binomial.l0]) | succ k3 => ?_
 have H := HA.out
 clear HA
 simp only [nat_Binomial.l0] at H
 replace H := zid H
 rcases H with ⟨c12b0, H⟩ | ⟨c12b0, H⟩
 · obtain ⟨y104, hy104⟩ : ∃ y_ : List Int, y_ = (([(wrap64 (a0 - x27_3)) % 4294967296] : List Int)) := ⟨_, rfl⟩
   replace H : ((nat_times.f k3 x6_3 y104).bind fun t107 => ((nat_digit.f k3 t107 ((wrap64 (x27_3 + 1)) % 4294967296)).bind fun bt110 => (nat_Binomial.l0 k3 a0 bt110.1 ji9 (wrap64 (x27_3 + 1))))) = some (r1, r2) := zY hy104 H
   have Ny104 := Aside0.mk hy104
   clear hy104
   replace H := zb H
   obtain ⟨t107, A13, H⟩ := H
   replace H := zb H
   obtain ⟨⟨t110, t113⟩, A14, H⟩ := H
   dsimp only at H
   have H' := Aside0.mk H
   clear H
   go_wp2_with (first | ((with_reducible refine gate_dst (N := 36) rfl ?_); refine Kd.R_lit (Kd.int .u32) _ 97 ?hg (N := 36) ?hd (xs := ([(wrap64 (a0 - x27_3)) % 4294967296] : List Int)) (inner := [.int .u32 ((wrap64 (a0 - x27_3)) % 4294967296)]) (ok := fun _ => True) (okp := fun _ => True) ?hr ?hp (fun _ hk => hk) trivial (Below.refl _ _) (Nat.le_refl _) (by simp) ?_; (case hd => rfl); (case hg => rfl); (case hr => first | (go_simp; done) | (go_simp; rfl)); (case hp => exact (Reps.one (show Kd.M (Kd.int .u32) _ _ _ ((wrap64 (a0 - x27_3)) % 4294967296) [.int .u32 ((wrap64 (a0 - x27_3)) % 4294967296)] from rfl) (Reps.none _ _))); intro v105 w15 ho16 hb hg_ hnew_; clear hg_ hnew_; (first | rw [← Ny104.out] at ho16 | (simp only [Int.reduceToNat] at ho16; rw [← Ny104.out] at ho16)); replace HO_6 := yVe HO_6 ho16 hb; have HO106 := yRl ho16 HB; replace HB := yS HB hb; clear hb ho16; obtain ⟨Ao17, co17, rfl⟩ := Kd.V_slice HO_6.out; obtain ⟨Ao18, co18, rfl⟩ := Kd.R_slice HO106.out) | ((with_reducible refine gC 116 ?_); refine zG (some 37) Try.func116 #[.slice Ao17 x6_3.length co17, .slice Ao18 y104.length co18] ?_; (with_reducible refine (nat_times.calls k3 _ _ x6_3 _ _ y104 t107 _ ?side1 ?side2 ?side3 ?side4 A13.out).mono ?_); (case side1 => exact zC (Kd.V_reads' HO_6.out).2.2); (case side2 => exact (Kd.V_reads' HO_6.out).2.1); (case side3 => exact zC (Kd.R_reads' HO106.out).2.2); (case side4 => exact (Kd.R_reads' HO106.out).2.1); rintro e w19 ⟨v108, rfl, ho0, hb⟩; refine ⟨_, rfl, ?_⟩; replace HO_6 := yVb HO_6 hb; have HO109 := Aside0.mk (Kd.V_lower (Kd.V_mono (ok' := fun k_ => some k_ ≠ (.slice Ao18 y104.length co18 : Value).ownBlock) ho0 (fun k_ hk_ => (Kd.fresh' (Kd.R_lt (zR HO106.out)) k_ hk_))) (below_size (zB HB.out))); replace HO106 := yRb HO106 hb; replace HB := yS HB hb; (try clear hb ho0); obtain ⟨Ao20, co20, rfl⟩ := Kd.V_slice HO109.out) | ((with_reducible refine gC 115 ?_); refine zG (some 41) Try.func115 #[.slice Ao20 t107.length co20, .int .u32 ((wrap64 (x27_3 + 1)) % 4294967296)] ?_; (with_reducible refine (nat_digit.calls k3 _ _ t107 ((wrap64 (x27_3 + 1)) % 4294967296) t110 t113 _ ?side1 ?side2 A14.out).mono ?_); (case side1 => exact zC (Kd.V_reads' HO109.out).2.2); (case side2 => exact (Kd.V_reads' HO109.out).2.1); rintro e w21 ⟨v111, rfl, ho0, hb⟩; refine ⟨_, rfl, ?_⟩; replace HO_6 := yVb HO_6 hb; replace HO109 := yVb HO109 hb; have HO112 := Aside0.mk (Kd.V_lower (Kd.V_mono (ok' := fun k_ => some k_ ≠ (.slice Ao18 y104.length co18 : Value).ownBlock) ho0 (fun k_ hk_ => (Kd.fresh' (Kd.R_lt (zR HO106.out)) k_ hk_))) (below_size (zB HB.out))); replace HO106 := yRb HO106 hb; replace HB := yS HB hb; (try clear hb ho0)))
   go_roundg k3
   case measure => have := HJ2.out; have := HJ5.out; have := HK3.out; omega
   case rel => exact ⟨(t110), (wrap64 (x27_3 + 1)), zF, H', ⟨by have := HJ2.out; have := HJ5.out; have := HK3.out; omega⟩, ⟨by (with_reducible repeat (first | apply Kd.V_alloc | apply Kd.V_drewN | apply Kd.V_drew)); exact Kd.V_mono HO112.out (fun _ hk => trivial)⟩, ⟨zB HB.out⟩⟩
 replace H := zb H
 obtain ⟨t114, A22, H⟩ := H
 simp only [Option.some.injEq, Prod.mk.injEq] at H
 obtain ⟨rfl, rfl⟩ := H
 obtain ⟨Ao23, co23, rfl⟩ := Kd.V_slice HO_6.out
 go_wp2_with (first | ((with_reducible refine gC 103 ?_); refine zG (some 46) Try.func103 #[.slice Ao23 x6_3.length co23] ?_; (with_reducible refine (nat_Trim.calls k3 _ _ x6_3 t114 _ ?side1 ?side2 A22.out).mono ?_); (case side1 => exact zC (Kd.V_reads' HO_6.out).2.2); (case side2 => exact (Kd.V_reads' HO_6.out).2.1); rintro e w24 ⟨v115, rfl, ho0, hb⟩; refine ⟨_, rfl, ?_⟩; replace HO_6 := yVe HO_6 ho0 hb; have HO116 := yRl ho0 HB; replace HB := yS HB hb; (try clear hb ho0)))
 go_ret2
 exact ⟨_, by first | rfl | (simp [errW_none, errW_some] <;> rfl) | (simp only [← hji9]; first | rfl | (simp [errW_none, errW_some] <;> rfl)) | (simp [*, errW_none, errW_some] <;> rfl), zR HO116.out, zB HB.out⟩
set_option maxHeartbeats 8000000 in
set_option maxRecDepth 100000 in
theorem nat_Of.calls (k : Nat) (a0 : Int) (r : List Int) (w : World) (h : nat_Of.f k a0 = some r) :
    Calls Try.prog 80 #[.int .u64 a0] w fun e w' => ∃ v0_ : Value, e = .returned (v0_) ∧ Kd.R (Kd.int .u32) 97 w' w.heap.size (fun _ => True) v0_ r ∧ Below w.heap.size w w' := by
 have HB := Aside0.mk (Below.refl w.heap.size w)
 have H : ((nat_Trim.f k (([(a0) % 4294967296, (a0 / 4294967296) % 4294967296] : List Int))).bind fun t104 => (some t104)) = some r := h
 clear h
 obtain ⟨y101, hy101⟩ : ∃ y_ : List Int, y_ = (([(a0) % 4294967296, (a0 / 4294967296) % 4294967296] : List Int)) := ⟨_, rfl⟩
 replace H : ((nat_Trim.f k y101).bind fun t104 => (some t104)) = some r := zY hy101 H
 have Ny101 := Aside0.mk hy101
 clear hy101
 replace H := zb H
 obtain ⟨t104, A2, H⟩ := H
 obtain rfl := Option.some.inj H
 go_enter Try.func80, Try.ntmps80
 go_wp2_with (first | ((with_reducible refine gate_dst (N := 8) rfl ?_); refine Kd.R_lit (Kd.int .u32) _ 97 ?hg (N := 8) ?hd (xs := ([(a0) % 4294967296, (a0 / 4294967296) % 4294967296] : List Int)) (inner := [.int .u32 ((a0) % 4294967296), .int .u32 ((a0 / 4294967296) % 4294967296)]) (ok := fun _ => True) (okp := fun _ => True) ?hr ?hp (fun _ hk => hk) trivial (Below.refl _ _) (Nat.le_refl _) (by simp) ?_; (case hd => rfl); (case hg => rfl); (case hr => first | (go_simp; done) | (go_simp; rfl)); (case hp => exact (Reps.one (show Kd.M (Kd.int .u32) _ _ _ ((a0) % 4294967296) [.int .u32 ((a0) % 4294967296)] from rfl) (Reps.one (show Kd.M (Kd.int .u32) _ _ _ ((a0 / 4294967296) % 4294967296) [.int .u32 ((a0 / 4294967296) % 4294967296)] from rfl) (Reps.none _ _)))); intro v102 w3 ho4 hb hg_ hnew_; clear hg_ hnew_; (first | rw [← Ny101.out] at ho4 | (simp only [Int.reduceToNat] at ho4; rw [← Ny101.out] at ho4)); have HO103 := yRl ho4 HB; replace HB := yS HB hb; clear hb ho4; obtain ⟨Ao5, co5, rfl⟩ := Kd.R_slice HO103.out) | ((with_reducible refine gC 103 ?_); refine zG (some 9) Try.func103 #[.slice Ao5 y101.length co5] ?_; (with_reducible refine (nat_Trim.calls k _ _ y101 t104 _ ?side1 ?side2 A2.out).mono ?_); (case side1 => exact zC (Kd.R_reads' HO103.out).2.2); (case side2 => exact (Kd.R_reads' HO103.out).2.1); rintro e w6 ⟨v105, rfl, ho0, hb⟩; refine ⟨_, rfl, ?_⟩; replace ho0 := yn ho0 HO103; have HO106 := yRl ho0 HB; replace HO103 := yRe HO103 ho0 hb; replace HB := yS HB hb; (try clear hb ho0)))
 go_ret
 exact ⟨_, zE, by (with_reducible repeat (first | apply Kd.R_alloc | apply Kd.R_drewN | apply Kd.R_drew)); exact Kd.R_mono HO106.out (fun _ hk => trivial), zB HB.out⟩
theorem bits_Len32.byte (i : Int) (h0 : 0 ≤ i) (h1 : i ≤ 255) (h : i.toNat < Lib.len8tab.size) : (((Lib.len8tab[i.toNat]'h).toNat : Nat) : Int) = ((Lib.bitLen i.toNat : Nat) : Int) := by
  have e := Lib.len8_of i h0 h1
  unfold Lib.len8 at e
  rw [show Lib.len8tab[i.toNat]? = some (Lib.len8tab[i.toNat]'h) from by simp [h]] at e
  simpa using e
theorem bits_Len32.small (i : Int) (h0 : 0 ≤ i) (h1 : i ≤ 255) : ((Lib.bitLen i.toNat : Nat) : Int) ≤ 8 := by
  have := Lib.bitLen_le8' i h0 h1
  omega
theorem bits_Len32.ret {a b : Int} (h : a = b) : Ending.returned (.int .i64 a) = .returned (.int .i64 b) := by rw [h]
set_option maxHeartbeats 8000000 in
set_option maxRecDepth 100000 in
theorem bits_Len32.calls (a0 : Int) (r : Int) (w : World) (h : bits_Len32.f a0 = some r) :
    Calls Try.prog 121 #[.int .u32 a0] w fun e w' => e = .returned (.int .i64 r) ∧ Drawn0 w w' := by
 unfold bits_Len32.f at h
 by_cases h0 : 0 ≤ a0
 · rw [if_pos h0] at h
   by_cases h1 : a0 ≤ 4294967295
   · rw [if_pos h1] at h
     obtain rfl := Option.some.inj h
     clear h
     go_enter Try.func121, Try.ntmps121
     go_wp2
     all_goals first
       | (exfalso
          rename_i hneg
          apply hneg
          rw [Lib.len8tab_size]
          omega)
       | (go_ret
          refine ⟨bits_Len32.ret ?_, Drawn0.refl _⟩
          first
          | (rw [bits_Len32.byte (a0 / 65536 / 256) (by omega) (by omega)]
             have h2 := bits_Len32.small (a0 / 65536 / 256) (by omega) (by omega)
             have h3 := Lib.bitLen_shift16 a0.toNat (by omega) (by omega)
             have h4 := Lib.bitLen_shift8 (a0.toNat / 65536) (by omega) (by omega)
             rw [show a0.toNat / 65536 / 256 = (a0 / 65536 / 256).toNat by omega] at h4
             rw [h3, h4]
             unfold wrap64
             omega)
          | (rw [bits_Len32.byte (a0 / 65536) (by omega) (by omega)]
             have h2 := bits_Len32.small (a0 / 65536) (by omega) (by omega)
             have h3 := Lib.bitLen_shift16 a0.toNat (by omega) (by omega)
             rw [show a0.toNat / 65536 = (a0 / 65536).toNat by omega] at h3
             rw [h3]
             unfold wrap64
             omega)
          | (rw [bits_Len32.byte (a0 / 256) (by omega) (by omega)]
             have h2 := bits_Len32.small (a0 / 256) (by omega) (by omega)
             have h3 := Lib.bitLen_shift8 a0.toNat (by omega) (by omega)
             rw [show a0.toNat / 256 = (a0 / 256).toNat by omega] at h3
             rw [h3]
             unfold wrap64
             omega)
          | (rw [bits_Len32.byte a0 (by omega) (by omega)]
             have h2 := bits_Len32.small a0 (by omega) (by omega)
             unfold wrap64
             omega))
   rw [if_neg h1] at h; exact absurd h (by simp)
 rw [if_neg h0] at h; exact absurd h (by simp)
set_option maxHeartbeats 8000000 in
set_option maxRecDepth 100000 in
theorem nat_Bits.calls (k : Nat) (A0 : Option Addr) (c0 : Nat) (l0 : List Int) (r : Int) (w : World) (hr0 : Kd.C (Kd.int .u32) w A0 l0.length l0) (hc0 : l0.length ≤ c0) (h : nat_Bits.f k l0 = some r) :
    Calls Try.prog 87 #[.slice A0 l0.length c0] w fun e w' => e = .returned (.int .i64 r) ∧ Below w.heap.size w w' := by
 have HR0 := Aside0.mk hr0
 have HC0 := Aside0.mk hc0
 clear hr0 hc0
 have HB := Aside0.mk (Below.refl w.heap.size w)
 have H : ((nat_short.f k l0).bind fun t101 => (if (t101.length : Int) = 0 then (some 0) else (if 0 ≤ (wrap64 ((t101.length : Int) - 1)) then (if (wrap64 ((t101.length : Int) - 1)) < (t101.length : Int) then ((bits_Len32.f (rd t101 (wrap64 ((t101.length : Int) - 1)))).bind fun t105 => (some (wrap64 ((wrap64 (32 * (wrap64 ((t101.length : Int) - 1)))) + t105)))) else (none)) else (none)))) = some r := h
 clear h
 replace H := zb H
 obtain ⟨t101, A2, H⟩ := H
 replace H := zi H
 rcases H with ⟨c3, H⟩ | ⟨c3, H⟩
 · have c3b0 := beq_iff_eq.mpr c3
   have c3b1 := bne_eq_false_iff_eq.mpr c3
   clear c3
   obtain rfl := Option.some.inj H
   go_enter Try.func87, Try.ntmps87
   go_wp2_with (first | ((with_reducible refine gC 118 ?_); refine zG (some 4) Try.func118 #[.slice A0 l0.length c0] ?_; (with_reducible refine (nat_short.calls k (fun k_ => k_ < w.heap.size) _ _ l0 t101 _ ?side1 A2.out).mono ?_); (case side1 => exact Kd.V_mk HC0.out (Kd.F_below (Kd.C_F (Kd.heap_int .u32) HR0.out) (zB HB.out))); rintro e w4 ⟨v102, rfl, ho0, hb⟩; refine ⟨_, rfl, ?_⟩; have HO103 := yVm ho0 HB; replace HB := yS HB hb; (try clear hb ho0); obtain ⟨Ao5, co5, rfl⟩ := Kd.V_slice HO103.out))
   go_ret
   exact ⟨zE, zB HB.out⟩
 have c3b0 := beq_eq_false_iff_ne.mpr c3
 have c3b1 := bne_iff_ne.mpr c3
 have c3b2 : ¬ (t101 = []) := fun h_ => c3 (by rw [h_]; rfl)
 obtain ⟨ji6, hji6⟩ : ∃ j_ : Int, (wrap64 ((t101.length : Int) - 1)) = j_ := ⟨_, rfl⟩
 replace H : (if 0 ≤ (ji6) then (if (ji6) < (t101.length : Int) then ((bits_Len32.f (rd t101 (ji6))).bind fun t105 => (some (wrap64 ((wrap64 (32 * (ji6))) + t105)))) else (none)) else (none)) = some r := by first | (rw [hji6] at H; exact H) | (simp only [hji6] at H ⊢; exact H)
 (try rw [hji6] at A2)
 have hji6w : (IntKind.i64.wrap ((t101.length : Int) - 1)) = ji6 := (i64_w _).trans hji6
 replace H := zgd H
 obtain ⟨c7b0, H⟩ := H
 replace H := zgd H
 obtain ⟨c8b0, H⟩ := H
 replace H := zb H
 obtain ⟨t105, A9, H⟩ := H
 obtain rfl := Option.some.inj H
 go_enter Try.func87, Try.ntmps87
 go_wp2_with (first | ((with_reducible refine gC 118 ?_); refine zG (some 4) Try.func118 #[.slice A0 l0.length c0] ?_; (with_reducible refine (nat_short.calls k (fun k_ => k_ < w.heap.size) _ _ l0 t101 _ ?side1 A2.out).mono ?_); (case side1 => exact Kd.V_mk HC0.out (Kd.F_below (Kd.C_F (Kd.heap_int .u32) HR0.out) (zB HB.out))); rintro e w10 ⟨v102, rfl, ho0, hb⟩; refine ⟨_, rfl, ?_⟩; have HO103 := yVm ho0 HB; replace HB := yS HB hb; (try clear hb ho0); obtain ⟨Ao11, co11, rfl⟩ := Kd.V_slice HO103.out; have p104 : 0 ≤ ((ji6) : Int) := zd; have q104 : (ji6) < (t101.length : Int) := zd; obtain ⟨ad104, e104, hx104_0⟩ := Kd.at_int (Kd.V_reads' HO103.out).2.2 (ji6) p104 q104; cases e104; replace p104 := eq_true p104; replace q104 := eq_true q104) | ((with_reducible refine gC 121 ?_); refine goesL_ (some 18) rfl rfl Try.func121 (by kernel_rfl) rfl #[.int .u32 (rd t101 (ji6))] rfl (by (try simp only [List.map_toArray, List.map_cons, List.map_nil]); first | done | (simp only [hji6]; rfl) | rfl | (simp only [List.length_drop, List.length_take]; rfl)) ?_; (with_reducible refine (bits_Len32.calls (rd t101 (ji6)) t105 _ A9.out).mono ?_); rintro e w' ⟨rfl, ⟨nd, rfl⟩⟩; refine ⟨_, rfl, ?_⟩))
 go_ret
 exact ⟨by first | rfl | (simp [errW_none, errW_some] <;> rfl) | (simp only [← hji6]; first | rfl | (simp [errW_none, errW_some] <;> rfl)) | (simp [*, errW_none, errW_some] <;> rfl), zB HB.out⟩
set_option maxHeartbeats 8000000 in
set_option maxRecDepth 100000 in
theorem nat_Pow.calls (k : Nat) (A0 : Option Addr) (c0 : Nat) (l0 : List Int) (a1 : Int) (r1 : List Int) (r2 : Int) (w : World) (hr0 : Kd.C (Kd.int .u32) w A0 l0.length l0) (hc0 : l0.length ≤ c0) (h : nat_Pow.f k l0 a1 = some (r1, r2)) :
    Calls Try.prog 85 #[.slice A0 l0.length c0, .int .i64 a1] w fun e w' => ∃ v0_ : Value, e = .returned (.tuple #[v0_, .int .i64 r2]) ∧ Kd.R (Kd.int .u32) 97 w' w.heap.size (fun _ => True) v0_ r1 ∧ Below w.heap.size w w' := by
 have HR0 := Aside0.mk hr0
 have HC0 := Aside0.mk hc0
 clear hr0 hc0
 have HB := Aside0.mk (Below.refl w.heap.size w)
 have H : (if a1 < 0 then (some (([] : List Int), 6)) else ((nat_Bits.f k l0).bind fun t101 => (if a1 = 0 then (nat_Pow.j0 k l0 a1 t101 true) else (nat_Pow.j0 k l0 a1 t101 (t101 == 1))))) = some (r1, r2) := h
 clear h
 replace H := zid H
 rcases H with ⟨c3b0, H⟩ | ⟨c3b0, H⟩
 · simp only [Option.some.injEq, Prod.mk.injEq] at H
   obtain ⟨rfl, rfl⟩ := H
   go_enter Try.func85, Try.ntmps85
   go_wp2
   go_ret2
   exact ⟨_, zE, z0, zB HB.out⟩
 replace H := zb H
 obtain ⟨t101, A4, H⟩ := H
 have HC5 := Aside0.mk H
 clear H
 go_enter Try.func85, Try.ntmps85
 go_upto_region 4 with (first | ((with_reducible refine gC 87 ?_); refine zG (some 12) Try.func87 #[.slice A0 l0.length c0] ?_; (with_reducible refine (nat_Bits.calls k _ _ l0 t101 _ ?side1 ?side2 A4.out).mono ?_); (case side1 => exact zC HR0.out); (case side2 => exact HC0.out); rintro e w6 ⟨rfl, hb⟩; refine ⟨_, rfl, ?_⟩; replace HB := yS HB hb; (try clear hb); (try clear hb2); (try clear hk); (try clear hi)))
 (try simp only [Act.put, List.setIfInBounds_toArray, List.set_cons_zero, List.set_cons_succ])
 go_cut [13] (fun v13 wc => ∃ (kq : Nat) (x13_4 : Bool), v13 = .bool x13_4 ∧ Aside0 (nat_Pow.j0 kq l0 a1 t101 x13_4 = some (r1, r2)) ∧ Aside0 (kq ≤ k) ∧ Aside0 (Below w.heap.size w wc))
 case first =>
  have H := HC5.out
  clear HC5
  replace H := zi H
  rcases H with ⟨c7, H⟩ | ⟨c7, H⟩
  · have c7b0 := beq_iff_eq.mpr c7
    have c7b1 := bne_eq_false_iff_eq.mpr c7
    clear c7
    (first | rw [c7b0] | (simp only [i64_w, i32_w]; rw [c7b0]) | rw [c7b1] | skip)
    have H' := Aside0.mk H
    clear H
    go_wp2
    go_meet
    case rel => exact ⟨_, (true), zF, H', ⟨zO⟩, ⟨zB HB.out⟩⟩
  have c7b0 := beq_eq_false_iff_ne.mpr c7
  have c7b1 := bne_iff_ne.mpr c7
  (first | rw [c7b0] | (simp only [i64_w, i32_w]; rw [c7b0]) | rw [c7b1] | skip)
  have H' := Aside0.mk H
  clear H
  go_wp2
  go_meet
  case rel => exact ⟨_, ((t101 == 1)), zF, H', ⟨zO⟩, ⟨zB HB.out⟩⟩
 clear HC5
 (try clear c3b0);(try clear c7);(try clear c7b0);(try clear c7b1)
 obtain ⟨kq, x13_4, rfl, HA, HJ4, HB⟩ := hcut
 cases kq with | zero => exact absurd HA.out (by simp [nat_Pow.j0]) | succ kj4 => ?_
 have H := HA.out
 clear HA
 simp only [nat_Pow.j0] at H
 by_cases c8 : x13_4 = true
 · subst c8
   rw [if_pos rfl] at H
   obtain ⟨y102, hy102⟩ : ∃ y_ : List Int, y_ = (([1] : List Int)) := ⟨_, rfl⟩
   replace H : (some (y102, 0)) = some (r1, r2) := zY hy102 H
   have Ny102 := Aside0.mk hy102
   clear hy102
   simp only [Option.some.injEq, Prod.mk.injEq] at H
   obtain ⟨rfl, rfl⟩ := H
   go_wp2_with (first | ((with_reducible refine gate_dst (N := 20) rfl ?_); refine Kd.R_lit (Kd.int .u32) _ 97 ?hg (N := 20) ?hd (xs := ([1] : List Int)) (inner := [.int .u32 1]) (ok := fun _ => True) (okp := fun _ => True) ?hr ?hp (fun _ hk => hk) trivial (Below.refl _ _) (Nat.le_refl _) (by simp) ?_; (case hd => rfl); (case hg => rfl); (case hr => first | (go_simp; done) | (go_simp; rfl)); (case hp => exact (Reps.one (show Kd.M (Kd.int .u32) _ _ _ 1 [.int .u32 1] from rfl) (Reps.none _ _))); intro v103 w9 ho10 hb hg_ hnew_; clear hg_ hnew_; (first | rw [← Ny102.out] at ho10 | (simp only [Int.reduceToNat] at ho10; rw [← Ny102.out] at ho10)); have HO104 := yRl ho10 HB; replace HB := yS HB hb; clear hb ho10))
   go_ret2
   exact ⟨_, zE, zR HO104.out, zB HB.out⟩
 replace c8 := Bool.eq_false_iff.mpr c8
 subst c8
 rw [if_neg Bool.false_ne_true] at H
 replace H := zi H
 rcases H with ⟨c11, H⟩ | ⟨c11, H⟩
 · have c11b0 := beq_iff_eq.mpr c11
   have c11b1 := bne_eq_false_iff_eq.mpr c11
   clear c11
   simp only [Option.some.injEq, Prod.mk.injEq] at H
   obtain ⟨rfl, rfl⟩ := H
   go_wp2
   go_ret2
   exact ⟨_, zE, z0, zB HB.out⟩
 have c11b0 := beq_eq_false_iff_ne.mpr c11
 have c11b1 := bne_iff_ne.mpr c11
 replace H := zi H
 rcases H with ⟨c12, H⟩ | ⟨c12, H⟩
 · have c12b0 : decide (131072 < a1) = true := decide_eq_true c12
   clear c12
   simp only [Option.some.injEq, Prod.mk.injEq] at H
   obtain ⟨rfl, rfl⟩ := H
   go_wp2
   go_ret2
   exact ⟨_, zE, z0, zB HB.out⟩
 have c12b0 : decide (131072 < a1) = false := decide_eq_false c12
 clear c12
 replace H := zi H
 rcases H with ⟨c13, H⟩ | ⟨c13, H⟩
 · have c13b0 : decide (131072 ≤ (wrap64 ((wrap64 (t101 - 1)) * a1))) = true := decide_eq_true c13
   clear c13
   simp only [Option.some.injEq, Prod.mk.injEq] at H
   obtain ⟨rfl, rfl⟩ := H
   go_wp2
   go_ret2
   exact ⟨_, zE, z0, zB HB.out⟩
 have c13b0 : decide (131072 ≤ (wrap64 ((wrap64 (t101 - 1)) * a1))) = false := decide_eq_false c13
 clear c13
 obtain ⟨y105, hy105⟩ : ∃ y_ : List Int, y_ = (([1] : List Int)) := ⟨_, rfl⟩
 replace H : ((nat_short.f kj4 l0).bind fun t108 => (nat_Pow.l0 kj4 a1 y105 t108)) = some (r1, r2) := zY hy105 H
 have Ny105 := Aside0.mk hy105
 clear hy105
 replace H := zb H
 obtain ⟨t108, A14, H⟩ := H
 have H' := Aside0.mk H
 clear H
 go_wp2_with (first | ((with_reducible refine gate_dst (N := 34) rfl ?_); refine Kd.R_lit (Kd.int .u32) _ 97 ?hg (N := 34) ?hd (xs := ([1] : List Int)) (inner := [.int .u32 1]) (ok := fun _ => True) (okp := fun _ => True) ?hr ?hp (fun _ hk => hk) trivial (Below.refl _ _) (Nat.le_refl _) (by simp) ?_; (case hd => rfl); (case hg => rfl); (case hr => first | (go_simp; done) | (go_simp; rfl)); (case hp => exact (Reps.one (show Kd.M (Kd.int .u32) _ _ _ 1 [.int .u32 1] from rfl) (Reps.none _ _))); intro v106 w15 ho16 hb hg_ hnew_; clear hg_ hnew_; (first | rw [← Ny105.out] at ho16 | (simp only [Int.reduceToNat] at ho16; rw [← Ny105.out] at ho16)); have HO107 := yRl ho16 HB; replace HB := yS HB hb; clear hb ho16) | ((with_reducible refine gC 118 ?_); refine zG (some 36) Try.func118 #[.slice A0 l0.length c0] ?_; (with_reducible refine (nat_short.calls kj4 (fun k_ => k_ < w.heap.size) _ _ l0 t108 _ ?side1 A14.out).mono ?_); (case side1 => exact Kd.V_mk HC0.out (Kd.F_below (Kd.C_F (Kd.heap_int .u32) HR0.out) (zB HB.out))); rintro e w17 ⟨v109, rfl, ho0, hb⟩; refine ⟨_, rfl, ?_⟩; have HO110 := Aside0.mk (Kd.V_lower (Kd.V_mono (ok' := fun k_ => some k_ ≠ (v106 : Value).ownBlock) ho0 (fun k_ hk_ => Or.elim hk_ (fun hs_ => fun e_ => Nat.not_le.2 hs_ (Kd.R_base HO107.out k_ e_.symm)) (fun hn_ => (Kd.fresh' (Kd.R_lt (zR HO107.out)) k_ hn_)))) (below_size (zB HB.out))); replace HO107 := yRb HO107 hb; replace HB := yS HB hb; (try clear hb ho0)))
 go_loopg [1, 7, 8] kj4 (fun kq v1 v7 v8 w' => ∃ (x1_2 : Int) (x7_2 : List Int) (x8_2 : List Int), v1 = .int .i64 x1_2 ∧ Aside0 (nat_Pow.l0 kq x1_2 x7_2 x8_2 = some (r1, r2)) ∧ Aside0 (kq ≤ kj4) ∧ Aside0 (Kd.V (Kd.int .u32) 97 w' w.heap.size (fun _ => True) v7 x7_2) ∧ Aside0 (Kd.V (Kd.int .u32) 97 w' w.heap.size (fun _ => True) v8 x8_2) ∧ Aside0 (Below w.heap.size w w'))
 case atStart => exact ⟨(a1), (y105), (t108), zF, H', ⟨Nat.le_refl _⟩, ⟨Kd.R_V (zR HO107.out)⟩, ⟨by (with_reducible repeat (first | apply Kd.V_alloc | apply Kd.V_drewN | apply Kd.V_drew)); exact Kd.V_mono HO110.out (fun _ hk => trivial)⟩, ⟨zB HB.out⟩⟩
 clear H'
 (try clear c3b0);(try clear c7);(try clear c7b0);(try clear c7b1);(try clear c8);(try clear c11);(try clear c11b0);(try clear c11b1);(try clear c12);(try clear c12b0);(try clear c13);(try clear c13b0)
 obtain ⟨x1_2, x7_2, x8_2, rfl, HA, HK2, HO_7, HO_8, HB⟩ := hrel
 cases gk with | zero => exact absurd HA.out (by simp [nat_Pow.l0]) | succ k2 => ?_
 have H := HA.out
 clear HA
 simp only [nat_Pow.l0] at H
 replace H := zi H
 rcases H with ⟨c18, H⟩ | ⟨c18, H⟩
 · have c18b0 := beq_iff_eq.mpr c18
   have c18b1 := bne_eq_false_iff_eq.mpr c18
   clear c18
   replace H := zb H
   obtain ⟨t111, A19, H⟩ := H
   replace H := zi H
   rcases H with ⟨c20, H⟩ | ⟨c20, H⟩
   · have c20b0 := beq_iff_eq.mpr c20
     have c20b1 := bne_eq_false_iff_eq.mpr c20
     clear c20
     replace H := zi H
     rcases H with ⟨c21, H⟩ | ⟨c21, H⟩
     · have c21b0 : decide (4096 < (t111.length : Int)) = true := decide_eq_true c21
       have c21b1 : decide (4096 < t111.length) = true := decide_eq_true (by omega)
       clear c21
       simp only [Option.some.injEq, Prod.mk.injEq] at H
       obtain ⟨rfl, rfl⟩ := H
       obtain ⟨Ao22, co22, rfl⟩ := Kd.V_slice HO_7.out
       obtain ⟨Ao23, co23, rfl⟩ := Kd.V_slice HO_8.out
       go_wp2_with (first | ((with_reducible refine gC 116 ?_); refine zG (some 42) Try.func116 #[.slice Ao22 x7_2.length co22, .slice Ao23 x8_2.length co23] ?_; (with_reducible refine (nat_times.calls k2 _ _ x7_2 _ _ x8_2 t111 _ ?side1 ?side2 ?side3 ?side4 A19.out).mono ?_); (case side1 => exact zC (Kd.V_reads' HO_7.out).2.2); (case side2 => exact (Kd.V_reads' HO_7.out).2.1); (case side3 => exact zC (Kd.V_reads' HO_8.out).2.2); (case side4 => exact (Kd.V_reads' HO_8.out).2.1); rintro e w24 ⟨v112, rfl, ho0, hb⟩; refine ⟨_, rfl, ?_⟩; replace HO_7 := yVb HO_7 hb; replace HO_8 := yVb HO_8 hb; have HO113 := yVm ho0 HB; replace HB := yS HB hb; (try clear hb ho0); obtain ⟨Ao25, co25, rfl⟩ := Kd.V_slice HO113.out))
       go_ret2
       exact ⟨_, zE, z0, zB HB.out⟩
     have c21b0 : decide (4096 < (t111.length : Int)) = false := decide_eq_false c21
     have c21b1 : decide (4096 < t111.length) = false := decide_eq_false (by omega)
     clear c21
     replace H := zb H
     obtain ⟨t114, A26, H⟩ := H
     simp only [Option.some.injEq, Prod.mk.injEq] at H
     obtain ⟨rfl, rfl⟩ := H
     obtain ⟨Ao27, co27, rfl⟩ := Kd.V_slice HO_7.out
     obtain ⟨Ao28, co28, rfl⟩ := Kd.V_slice HO_8.out
     go_wp2_with (first | ((with_reducible refine gC 116 ?_); refine zG (some 42) Try.func116 #[.slice Ao27 x7_2.length co27, .slice Ao28 x8_2.length co28] ?_; (with_reducible refine (nat_times.calls k2 _ _ x7_2 _ _ x8_2 t111 _ ?side1 ?side2 ?side3 ?side4 A19.out).mono ?_); (case side1 => exact zC (Kd.V_reads' HO_7.out).2.2); (case side2 => exact (Kd.V_reads' HO_7.out).2.1); (case side3 => exact zC (Kd.V_reads' HO_8.out).2.2); (case side4 => exact (Kd.V_reads' HO_8.out).2.1); rintro e w29 ⟨v112, rfl, ho0, hb⟩; refine ⟨_, rfl, ?_⟩; replace HO_7 := yVb HO_7 hb; replace HO_8 := yVb HO_8 hb; have HO113 := yVm ho0 HB; replace HB := yS HB hb; (try clear hb ho0); obtain ⟨Ao30, co30, rfl⟩ := Kd.V_slice HO113.out) | ((with_reducible refine gC 103 ?_); refine zG (some 54) Try.func103 #[.slice Ao30 t111.length co30] ?_; (with_reducible refine (nat_Trim.calls k2 _ _ t111 t114 _ ?side1 ?side2 A26.out).mono ?_); (case side1 => exact zC (Kd.V_reads' HO113.out).2.2); (case side2 => exact (Kd.V_reads' HO113.out).2.1); rintro e w31 ⟨v115, rfl, ho0, hb⟩; refine ⟨_, rfl, ?_⟩; replace HO_7 := yVe HO_7 ho0 hb; replace HO_8 := yVe HO_8 ho0 hb; replace HO113 := yVe HO113 ho0 hb; have HO116 := yRl ho0 HB; replace HB := yS HB hb; (try clear hb ho0)))
     go_ret2
     exact ⟨_, zE, zR HO116.out, zB HB.out⟩
   have c20b0 := beq_eq_false_iff_ne.mpr c20
   have c20b1 := bne_iff_ne.mpr c20
   replace H := zb H
   obtain ⟨t117, A32, H⟩ := H
   have H' := Aside0.mk H
   clear H
   obtain ⟨Ao33, co33, rfl⟩ := Kd.V_slice HO_7.out
   obtain ⟨Ao34, co34, rfl⟩ := Kd.V_slice HO_8.out
   go_wp2_with (first | ((with_reducible refine gC 116 ?_); refine zG (some 42) Try.func116 #[.slice Ao33 x7_2.length co33, .slice Ao34 x8_2.length co34] ?_; (with_reducible refine (nat_times.calls k2 _ _ x7_2 _ _ x8_2 t111 _ ?side1 ?side2 ?side3 ?side4 A19.out).mono ?_); (case side1 => exact zC (Kd.V_reads' HO_7.out).2.2); (case side2 => exact (Kd.V_reads' HO_7.out).2.1); (case side3 => exact zC (Kd.V_reads' HO_8.out).2.2); (case side4 => exact (Kd.V_reads' HO_8.out).2.1); rintro e w35 ⟨v112, rfl, ho0, hb⟩; refine ⟨_, rfl, ?_⟩; replace HO_7 := yVb HO_7 hb; replace HO_8 := yVb HO_8 hb; have HO113 := yVm ho0 HB; replace HB := yS HB hb; (try clear hb ho0)) | ((with_reducible refine gC 116 ?_); refine zG (some 49) Try.func116 #[.slice Ao34 x8_2.length co34, .slice Ao34 x8_2.length co34] ?_; (with_reducible refine (nat_times.calls k2 _ _ x8_2 _ _ x8_2 t117 _ ?side1 ?side2 ?side3 ?side4 A32.out).mono ?_); (case side1 => exact zC (Kd.V_reads' HO_8.out).2.2); (case side2 => exact (Kd.V_reads' HO_8.out).2.1); (case side3 => exact zC (Kd.V_reads' HO_8.out).2.2); (case side4 => exact (Kd.V_reads' HO_8.out).2.1); rintro e w36 ⟨v118, rfl, ho0, hb⟩; refine ⟨_, rfl, ?_⟩; replace HO_7 := yVb HO_7 hb; replace HO_8 := yVb HO_8 hb; replace HO113 := yVb HO113 hb; have HO119 := yVm ho0 HB; replace HB := yS HB hb; (try clear hb ho0)))
   go_roundg k2
   case measure => have := HJ4.out; have := HK2.out; omega
   case rel => exact ⟨(x1_2 / 2), (t111), (t117), zF, H', ⟨zo2 HJ4 HK2⟩, ⟨zV HO113.out⟩, ⟨zV HO119.out⟩, ⟨zB HB.out⟩⟩
 have c18b0 := beq_eq_false_iff_ne.mpr c18
 have c18b1 := bne_iff_ne.mpr c18
 replace H := zi H
 rcases H with ⟨c37, H⟩ | ⟨c37, H⟩
 · have c37b0 := beq_iff_eq.mpr c37
   have c37b1 := bne_eq_false_iff_eq.mpr c37
   clear c37
   replace H := zi H
   rcases H with ⟨c38, H⟩ | ⟨c38, H⟩
   · have c38b0 : decide (4096 < (x7_2.length : Int)) = true := decide_eq_true c38
     have c38b1 : decide (4096 < x7_2.length) = true := decide_eq_true (by omega)
     clear c38
     simp only [Option.some.injEq, Prod.mk.injEq] at H
     obtain ⟨rfl, rfl⟩ := H
     obtain ⟨Ao39, co39, rfl⟩ := Kd.V_slice HO_7.out
     go_wp2
     go_ret2
     exact ⟨_, zE, z0, zB HB.out⟩
   have c38b0 : decide (4096 < (x7_2.length : Int)) = false := decide_eq_false c38
   have c38b1 : decide (4096 < x7_2.length) = false := decide_eq_false (by omega)
   clear c38
   replace H := zb H
   obtain ⟨t120, A40, H⟩ := H
   simp only [Option.some.injEq, Prod.mk.injEq] at H
   obtain ⟨rfl, rfl⟩ := H
   obtain ⟨Ao41, co41, rfl⟩ := Kd.V_slice HO_7.out
   go_wp2_with (first | ((with_reducible refine gC 103 ?_); refine zG (some 54) Try.func103 #[.slice Ao41 x7_2.length co41] ?_; (with_reducible refine (nat_Trim.calls k2 _ _ x7_2 t120 _ ?side1 ?side2 A40.out).mono ?_); (case side1 => exact zC (Kd.V_reads' HO_7.out).2.2); (case side2 => exact (Kd.V_reads' HO_7.out).2.1); rintro e w42 ⟨v121, rfl, ho0, hb⟩; refine ⟨_, rfl, ?_⟩; replace HO_7 := yVe HO_7 ho0 hb; replace HO_8 := yVe HO_8 ho0 hb; have HO122 := yRl ho0 HB; replace HB := yS HB hb; (try clear hb ho0)))
   go_ret2
   exact ⟨_, zE, zR HO122.out, zB HB.out⟩
 have c37b0 := beq_eq_false_iff_ne.mpr c37
 have c37b1 := bne_iff_ne.mpr c37
 replace H := zb H
 obtain ⟨t123, A43, H⟩ := H
 have H' := Aside0.mk H
 clear H
 obtain ⟨Ao44, co44, rfl⟩ := Kd.V_slice HO_8.out
 go_wp2_with (first | ((with_reducible refine gC 116 ?_); refine zG (some 49) Try.func116 #[.slice Ao44 x8_2.length co44, .slice Ao44 x8_2.length co44] ?_; (with_reducible refine (nat_times.calls k2 _ _ x8_2 _ _ x8_2 t123 _ ?side1 ?side2 ?side3 ?side4 A43.out).mono ?_); (case side1 => exact zC (Kd.V_reads' HO_8.out).2.2); (case side2 => exact (Kd.V_reads' HO_8.out).2.1); (case side3 => exact zC (Kd.V_reads' HO_8.out).2.2); (case side4 => exact (Kd.V_reads' HO_8.out).2.1); rintro e w45 ⟨v124, rfl, ho0, hb⟩; refine ⟨_, rfl, ?_⟩; replace HO_7 := yVb HO_7 hb; replace HO_8 := yVb HO_8 hb; have HO125 := yVm ho0 HB; replace HB := yS HB hb; (try clear hb ho0)))
 go_roundg k2
 case measure => have := HJ4.out; have := HK2.out; omega
 case rel => exact ⟨(x1_2 / 2), (x7_2), (t123), zF, H', ⟨zo2 HJ4 HK2⟩, ⟨zV HO_7.out⟩, ⟨zV HO125.out⟩, ⟨zB HB.out⟩⟩
set_option maxHeartbeats 8000000 in
set_option maxRecDepth 100000 in
theorem mw_small.calls (k : Nat) (a0 : Int) (r1 : Bool) (r2 : List Int) (w : World) (h : mw_small.f k a0 = some (r1, r2)) :
    Calls Try.prog 124 #[.int .i64 a0] w fun e w' => ∃ v1_ : Value, e = .returned (.agg #[.bool r1, v1_]) ∧ Kd.R (Kd.int .u32) 97 w' w.heap.size (fun _ => True) v1_ r2 ∧ Below w.heap.size w w' := by
 have hu113 := Try.underlying113
 have HB := Aside0.mk (Below.refl w.heap.size w)
 have H : ((nat_Of.f k (IntKind.u64.wrap (a0))).bind fun t102 => (some (false, t102))) = some (r1, r2) := h
 clear h
 replace H := zb H
 obtain ⟨t102, A2, H⟩ := H
 simp only [Option.some.injEq, Prod.mk.injEq] at H
 obtain ⟨rfl, rfl⟩ := H
 go_enter Try.func124, Try.ntmps124
 go_wp2_with (first | ((with_reducible refine gate_dst (N := 2) rfl ?_); refine box_event ?hg (N := 2) ?hd (cs := #[.bool false, .slice none 0 0]) (t := 113) ?hr ?_; (case hd => rfl); (case hg => rfl); (case hr => first | (go_simp; done) | (go_simp; rfl)); intro gb101 hg w3 hbox hb; have BK101 := Aside0.mk (hbox); have GW101 := yg hg HB; have GE101 := yg hg HB; replace HB := yS HB hb; clear hb hbox hg) | ((with_reducible refine gC 80 ?_); refine zG (some 5) Try.func80 #[.int .u64 (IntKind.u64.wrap (a0))] ?_; (with_reducible refine (nat_Of.calls k (IntKind.u64.wrap (a0)) t102 _ A2.out).mono ?_); rintro e w4 ⟨v103, rfl, ho0, hb⟩; refine ⟨_, rfl, ?_⟩; have HO104 := yRl1 ho0 HB GE101; replace BK101 := yK BK101 hb; replace HB := yS1 HB GE101 hb; (try clear hb ho0); obtain ⟨Ao5, co5, rfl⟩ := Kd.R_slice HO104.out; obtain ⟨hcz6_0, hcz6_1, hfz6_0, hfz6_1⟩ := zz2 BK101))
 refine bodyPost_ret (results_cell_row rfl _ _ gb101 113 #[.bool false, .slice Ao5 t102.length co5] (0, 0) _ rfl (zP2 BK101.out) Try.underlying113 rfl (by kernel_rfl)) rfl ?_
 exact ⟨_, zE, by (with_reducible repeat (first | apply Kd.R_alloc | apply Kd.R_drewN | apply Kd.R_drew)); exact Kd.R_mono (Kd.R_far (p := ⟨gb101, 1, none⟩) (Kd.R_far (p := ⟨gb101, 0, none⟩) (Kd.R_types HO104.out BK101.out (by decide)) (fun _ hk => hk.2) (.bool false)) (fun _ hk => hk.2) (.slice Ao5 t102.length co5)) (fun _ hk => trivial), zB1 HB.out GE101.out⟩
set_option maxHeartbeats 8000000 in
set_option maxRecDepth 100000 in
theorem mw_minus.calls (k : Nat) (a0_0 : Bool) (P0_1_ : Nat → Prop) (A0_1 : Option Addr) (c0_1 : Nat) (l0_1 : List Int) (a1_0 : Bool) (P1_1_ : Nat → Prop) (A1_1 : Option Addr) (c1_1 : Nat) (l1_1 : List Int) (r1 : Bool) (r2 : List Int) (w : World) (hs0_1 : Kd.V (Kd.int .u32) 97 w w.heap.size (fun k_ => P0_1_ k_) (.slice A0_1 l0_1.length c0_1) l0_1) (hs1_1 : Kd.V (Kd.int .u32) 97 w w.heap.size (fun k_ => P1_1_ k_) (.slice A1_1 l1_1.length c1_1) l1_1) (h : mw_minus.f k a0_0 l0_1 a1_0 l1_1 = some (r1, r2)) :
    Calls Try.prog 125 #[.agg #[.bool a0_0, .slice A0_1 l0_1.length c0_1], .agg #[.bool a1_0, .slice A1_1 l1_1.length c1_1]] w fun e w' => ∃ v1_ : Value, e = .returned (.agg #[.bool r1, v1_]) ∧ Kd.V (Kd.int .u32) 97 w' w.heap.size (fun k_ => ((P0_1_ k_ ∨ P1_1_ k_) ∨ w.heap.size ≤ k_)) v1_ r2 ∧ Below w.heap.size w w' := by
 have hu113 := Try.underlying113
 have HO0_1 := Aside0.mk (show Kd.V (Kd.int .u32) 97 w w.heap.size (fun k_ => ((P0_1_ k_ ∨ P1_1_ k_) ∨ w.heap.size ≤ k_)) (.slice A0_1 l0_1.length c0_1) l0_1 from Kd.V_mono hs0_1 (fun k_ hk => .inl (.inl hk)))
 have HO1_1 := Aside0.mk (show Kd.V (Kd.int .u32) 97 w w.heap.size (fun k_ => ((P0_1_ k_ ∨ P1_1_ k_) ∨ w.heap.size ≤ k_)) (.slice A1_1 l1_1.length c1_1) l1_1 from Kd.V_mono hs1_1 (fun k_ hk => .inl (.inr hk)))
 have HB := Aside0.mk (Below.refl w.heap.size w)
 have H : ((mw_plus.f k a0_0 l0_1 (!a1_0) l1_1).bind fun bt104 => (some (bt104.1, bt104.2))) = some (r1, r2) := h
 clear h
 replace H := zb H
 obtain ⟨⟨t104, t105⟩, A3, H⟩ := H
 dsimp only at H
 simp only [Option.some.injEq, Prod.mk.injEq] at H
 obtain ⟨rfl, rfl⟩ := H
 go_enter Try.func125, Try.ntmps125
 go_wp2_with (first | ((with_reducible refine gate_dst (N := 2) rfl ?_); refine box_event ?hg (N := 2) ?hd (cs := #[.bool a0_0, .slice A0_1 l0_1.length c0_1]) (t := 113) ?hr ?_; (case hd => rfl); (case hg => rfl); (case hr => first | (go_simp; done) | (go_simp; rfl)); intro gb101 hg w4 hbox hb; replace HO0_1 := yVB HO0_1 hg hb; replace HO1_1 := yVB HO1_1 hg hb; have BK101 := Aside0.mk (hbox); have GW101 := yg hg HB; have GE101 := yg hg HB; replace HB := yS HB hb; clear hb hbox hg) | ((with_reducible refine gate_dst (N := 3) rfl ?_); refine box_event ?hg (N := 3) ?hd (cs := #[.bool a1_0, .slice A1_1 l1_1.length c1_1]) (t := 113) ?hr ?_; (case hd => rfl); (case hg => rfl); (case hr => first | (go_simp; done) | (go_simp; rfl)); intro gb102 hg w5 hbox hb; replace HO0_1 := yVB HO0_1 hg hb; replace HO1_1 := yVB HO1_1 hg hb; have BK102 := Aside0.mk (hbox); have GW102 := yg1 hg HB GE101; have GE102 := yg1 hg HB GE101; replace HB := yS1 HB GE101 hb; have NB101_102 := ynl hg BK101; have NB102_101 := yng hg BK101; replace BK101 := yK BK101 hb; clear hb hbox hg) | ((with_reducible refine gate_dst (N := 4) rfl ?_); refine box_event ?hg (N := 4) ?hd (cs := #[.bool false, .slice none 0 0]) (t := 113) ?hr ?_; (case hd => rfl); (case hg => rfl); (case hr => first | (go_simp; done) | (go_simp; rfl)); intro gb103 hg w6 hbox hb; replace HO0_1 := yVB HO0_1 hg hb; replace HO1_1 := yVB HO1_1 hg hb; have BK103 := Aside0.mk (hbox); have GW103 := yg2 hg HB GE101 GE102; have GE103 := yg2 hg HB GE101 GE102; replace HB := yS2 HB GE101 GE102 hb; have NB101_103 := ynl hg BK101; have NB103_101 := yng hg BK101; replace BK101 := yK BK101 hb; have NB102_103 := ynl hg BK102; have NB103_102 := yng hg BK102; replace BK102 := yK BK102 hb; clear hb hbox hg; have hnb7 := NB101_102.out; have hnc7 := NB102_101.out; have hnb8 := NB101_103.out; have hnc8 := NB103_101.out; obtain ⟨hcz9_0, hcz9_1, hfz9_0, hfz9_1⟩ := zz2 BK101; have hnb10 := NB102_103.out; have hnc10 := NB103_102.out; obtain ⟨hcz11_0, hcz11_1, hfz11_0, hfz11_1⟩ := zz2 BK102) | ((with_reducible refine gC 128 ?_); refine zG (some 12) Try.func128 #[.agg #[.bool a0_0, .slice A0_1 l0_1.length c0_1], .agg #[.bool (!a1_0), .slice A1_1 l1_1.length c1_1]] ?_; (with_reducible refine (mw_plus.calls k a0_0 (fun k_ => (((((P0_1_ k_ ∨ P1_1_ k_) ∨ w.heap.size ≤ k_) ∧ k_ ≠ gb101) ∧ k_ ≠ gb102) ∧ k_ ≠ gb103)) _ _ l0_1 (!a1_0) (fun k_ => (((((P0_1_ k_ ∨ P1_1_ k_) ∨ w.heap.size ≤ k_) ∧ k_ ≠ gb101) ∧ k_ ≠ gb102) ∧ k_ ≠ gb103)) _ _ l1_1 t104 t105 _ ?side1 ?side2 A3.out).mono ?_); (case side1 => exact HO0_1.out); (case side2 => exact HO1_1.out); rintro e w12 ⟨v106, rfl, ho0, hb⟩; refine ⟨_, rfl, ?_⟩; replace HO0_1 := yVb HO0_1 hb; replace HO1_1 := yVb HO1_1 hb; have HO107 := Aside0.mk (Kd.V_lower (Kd.V_mono (ok' := fun k_ => ((P0_1_ k_ ∨ P1_1_ k_) ∨ w.heap.size ≤ k_) ∧ k_ ≠ gb101 ∧ k_ ≠ gb102 ∧ k_ ≠ gb103) ho0 (fun k_ hk_ => ⟨Or.elim hk_ (fun hs_ => Or.elim hs_ (fun hs_ => hs_.1.1.1) (fun hs_ => hs_.1.1.1)) (fun hn_ => (.inr (Nat.le_trans (below_size (zB3 HB.out GE101.out GE102.out GE103.out)) hn_))), Or.elim hk_ (fun hs_ => Or.elim hs_ (fun hs_ => hs_.1.1.2) (fun hs_ => hs_.1.1.2)) (fun hn_ => (Kd.freshB (g := gb101) (o := .cells #[.bool a0_0, .slice A0_1 l0_1.length c0_1] 113 (0, 0)) (by (with_reducible repeat (first | refine blk_drewN ?_ _ | refine blk_drew ?_ | refine blk_alloc ?_ _)); exact BK101.out) k_ hn_)), Or.elim hk_ (fun hs_ => Or.elim hs_ (fun hs_ => hs_.1.2) (fun hs_ => hs_.1.2)) (fun hn_ => (Kd.freshB (g := gb102) (o := .cells #[.bool a1_0, .slice A1_1 l1_1.length c1_1] 113 (0, 0)) (by (with_reducible repeat (first | refine blk_drewN ?_ _ | refine blk_drew ?_ | refine blk_alloc ?_ _)); exact BK102.out) k_ hn_)), Or.elim hk_ (fun hs_ => Or.elim hs_ (fun hs_ => hs_.2) (fun hs_ => hs_.2)) (fun hn_ => (Kd.freshB (g := gb103) (o := .cells #[.bool false, .slice none 0 0] 113 (0, 0)) (by (with_reducible repeat (first | refine blk_drewN ?_ _ | refine blk_drew ?_ | refine blk_alloc ?_ _)); exact BK103.out) k_ hn_))⟩)) (below_size (zB3 HB.out GE101.out GE102.out GE103.out))); replace BK101 := yK BK101 hb; replace BK102 := yK BK102 hb; replace BK103 := yK BK103 hb; replace HB := yS3 HB GE101 GE102 GE103 hb; (try clear hb ho0); obtain ⟨hcz13_0, hcz13_1, hfz13_0, hfz13_1⟩ := zz2 BK103; obtain ⟨Ao14, co14, rfl⟩ := Kd.V_slice HO107.out))
 refine bodyPost_ret (results_cell_row rfl _ _ gb103 113 #[.bool t104, .slice Ao14 t105.length co14] (0, 0) _ rfl (zP2 BK103.out) Try.underlying113 rfl (by kernel_rfl)) rfl ?_
 exact ⟨_, zE, by (with_reducible repeat (first | apply Kd.V_alloc | apply Kd.V_drewN | apply Kd.V_drew)); exact Kd.V_mono (Kd.V_far (p := ⟨gb103, 1, none⟩) (Kd.V_far (p := ⟨gb103, 0, none⟩) (Kd.V_mono HO107.out (fun k_ hk => (⟨hk, hk.2.2.2⟩ : _ ∧ k_ ≠ gb103))) (fun _ hk => hk.2) (.bool t104)) (fun _ hk => hk.2) (.slice Ao14 t105.length co14)) (fun _ hk => hk.1.1), zB3 HB.out GE101.out GE102.out GE103.out⟩
def mw_table.T18 : Bool × List (List Nat × List Nat) := (true, [([], []), ([], []), ([], []), ([1, 2], [1, 2]), ([3], [3]), ([], []), ([], []), ([6], [6]), ([5, 7], [5, 7]), ([8], [8]), ([4, 9], [4, 9]), ([], []), ([], []), ([], []), ([13], [13]), ([12, 14], [12, 14]), ([15], [15]), ([11, 16, 10], [11, 16]), ([10, 17, 17], [10, 17]), ([18], [18]), ([0, 19, 18], [0, 19]), ([20, 20, 0, 1, 2, 3, 4, 5, 6, 7, 8, 9, 10, 11, 12, 13, 14, 15, 16, 17, 18, 19, 20], [0, 12, 20])])
def mw_table.B18 : List Nat := [0, 0, 0, 6, 14, 0, 0, 64, 224, 480, 1022, 0, 0, 0, 8192, 28672, 61440, 131070, 262142, 524286, 1048575, 2097151]
theorem mw_table.tab18 : rtab .any (opsOf Try.f94 18) = mw_table.T18 := by kernel_rfl
theorem mw_table.bits18 : waitsOk mw_table.T18.2 mw_table.B18 = true := by kernel_rfl
set_option maxHeartbeats 8000000 in
set_option maxRecDepth 100000 in
theorem mw_table.calls (k : Nat) (a0 : Int) (a1 : Int) (r : List (List (S113))) (w : World) (h : mw_table.f k a0 a1 = some r) :
    Calls Try.prog 94 #[.int .i64 a0, .int .i64 a1] w fun e w' => ∃ v0_ : Value, e = .returned (v0_) ∧ Kd.N (Kd.slice 113 k113) 114 w' w.heap.size (fun k_ => (w.heap.size ≤ k_)) v0_ r ∧ Below w.heap.size w w' := by
 have hu113 := Try.underlying113
 have HB := Aside0.mk (Below.refl w.heap.size w)
 have H : (if 0 ≤ (wrap64 (a1 + 1)) then (if (wrap64 (a1 + 1) : Int).toNat ≤ 8796093022208 then ((some (List.replicate (wrap64 (a1 + 1) : Int).toNat z113 : List (S113))).bind fun y101 => (mw_table.l0 k a0 a1 y101 (y101.length : Int) 0)) else (none)) else (none)) = some r := h
 clear h
 obtain ⟨ji3, hji3⟩ : ∃ j_ : Int, (wrap64 (a1 + 1)) = j_ := ⟨_, rfl⟩
 replace H : (if 0 ≤ (ji3) then (if (ji3 : Int).toNat ≤ 8796093022208 then ((some (List.replicate (ji3 : Int).toNat z113 : List (S113))).bind fun y101 => (mw_table.l0 k a0 a1 y101 (y101.length : Int) 0)) else (none)) else (none)) = some r := by first | (rw [hji3] at H; exact H) | (simp only [hji3] at H ⊢; exact H)
 have hji3w : (IntKind.i64.wrap (a1 + 1)) = ji3 := (i64_w _).trans hji3
 replace H := zg H
 obtain ⟨c4, H⟩ := H
 have c4b0 := eq_true c4
 have c4b1 := decide_eq_true c4
 clear c4
 replace H := zg H
 obtain ⟨c5, H⟩ := H
 have c5b0 := eq_true c5
 have c5b1 := decide_eq_true c5
 clear c5
 obtain ⟨y101, hy101⟩ : ∃ y_ : List (S113), y_ = (List.replicate (ji3 : Int).toNat z113) := ⟨_, rfl⟩
 replace H : (mw_table.l0 k a0 a1 y101 (y101.length : Int) 0) = some r := zY hy101 H
 have Ny101 := Aside0.mk hy101
 clear hy101
 have H' := Aside0.mk H
 clear H
 go_enter Try.func94, Try.ntmps94
 go_wp2_with (first | ((with_reducible refine gate_dst (N := 18) rfl ?_); refine Kd.N_make k113 _ 113 rfl (N' := 18) rfl 114 _ _ rfl ji3 rfl rfl Try.underlying114 (.agg #[(.bool false), (.slice none 0 0)]) 32 info113 rfl (by decide) (by omega) z113 (ok := fun k_ => w.heap.size ≤ k_) (okp := fun _ => False) (k113_mkF _ _ z113 (Nat.le_refl _) (Kd.F_nil _ _ _)) (fun _ hk => hk.elim) (Nat.le_refl _) zd (Nat.le_trans (Nat.mul_le_mul_right _ (zd : ji3.toNat ≤ 8796093022208)) (by omega)) (Below.refl _ _) (Nat.le_refl _) ?_; intro v102 w6 ho7 hb hg_ hnew_; clear hg_ hnew_; (first | rw [← Ny101.out] at ho7 | (simp only [Int.reduceToNat] at ho7; rw [← Ny101.out] at ho7)); have HO103 := Aside0.mk (Kd.N_lower (Kd.N_mono (ok' := fun k_ => (w.heap.size ≤ k_)) ho7 (fun k_ hk_ => (Nat.le_trans (below_size (zB HB.out)) hk_))) (below_size (zB HB.out))); replace HB := yS HB hb; clear hb ho7; obtain ⟨Ao8, co8, rfl⟩ := Kd.N_slice HO103.out))
 go_loopg [21] k (fun kq v21 w' => ∃ (x5_1 : List (S113)) (x21_1 : Int), v21 = .int .i64 x21_1 ∧ Aside0 (mw_table.l0 kq a0 a1 x5_1 (y101.length : Int) x21_1 = some r) ∧ Aside0 (kq ≤ k) ∧ Aside0 (Kd.N k113 113 w' w.heap.size (fun k_ => (w.heap.size ≤ k_)) (.slice Ao8 y101.length co8) x5_1) ∧ Aside0 (Below w.heap.size w w'))
 case atStart => exact ⟨(y101), (0), zF, H', ⟨Nat.le_refl _⟩, ⟨zN HO103.out⟩, ⟨zB HB.out⟩⟩
 clear H'
 (try clear c4);(try clear c4b0);(try clear c4b1);(try clear c5);(try clear c5b0);(try clear c5b1)
 obtain ⟨x5_1, x21_1, rfl, HA, HK1, HO_5, HB⟩ := hrel
 have hl5_1 := (Kd.N_reads' HO_5.out).1
 rw [hl5_1] at HO_5
 (try simp only [hl5_1])
 cases gk with | zero => exact absurd HA.out (by simp [mw_table.l0]) | succ k1 => ?_
 have H := HA.out
 clear HA
 simp only [mw_table.l0] at H
 replace H := zi H
 rcases H with ⟨c9, H⟩ | ⟨c9, H⟩
 · have c9b0 := decide_eq_true c9
   (try (have c9h0 := c9b0; simp only [hl5_1] at c9h0))
   clear c9
   replace H := zb H
   obtain ⟨⟨t104, t105⟩, A10, H⟩ := H
   dsimp only at H
   replace H := zb H
   obtain ⟨t108, A11, H⟩ := H
   replace H := zb H
   obtain ⟨⟨t111, t112⟩, A12, H⟩ := H
   dsimp only at H
   obtain ⟨y115, hy115⟩ : ∃ y_ : List (List Int), y_ = (([t104, t111] : List (List Int))) := ⟨_, rfl⟩
   replace H : ((nat_Mul.f k1 y115).bind fun t118 => (if 0 ≤ x21_1 then (if x21_1 < (x5_1.length : Int) then (mw_table.l0 k1 a0 a1 (x5_1.set (x21_1 : Int).toNat (⟨false, t118⟩ : S113)) (y101.length : Int) (wrap64 (x21_1 + 1))) else (none)) else (none))) = some r := zY hy115 H
   have Ny115 := Aside0.mk hy115
   clear hy115
   replace H := zb H
   obtain ⟨t118, A13, H⟩ := H
   replace H := zgd H
   obtain ⟨c14b0, H⟩ := H
   replace H := zg H
   obtain ⟨c15, H⟩ := H
   have c15b0 := decide_eq_true c15
   (try (have c15h0 := c15b0; simp only [hl5_1] at c15h0))
   clear c15
   obtain ⟨y121, hy121⟩ : ∃ y_ : List (S113), y_ = (x5_1.set (x21_1 : Int).toNat (⟨false, t118⟩ : S113)) := ⟨_, rfl⟩
   replace H : (mw_table.l0 k1 a0 a1 y121 (y101.length : Int) (wrap64 (x21_1 + 1))) = some r := zY hy121 H
   have Ny121 := Aside0.mk hy121
   clear hy121
   have H' := Aside0.mk H
   clear H
   go_wp2_with (first | ((with_reducible refine gC 72 ?_); refine zG (some 27) Try.func72 #[.int .i64 a1, .int .i64 x21_1] ?_; (with_reducible refine (nat_Binomial.calls k1 a1 x21_1 t104 t105 _ A10.out).mono ?_); rintro e w17 ⟨v106, rfl, ho0, hb⟩; refine ⟨_, rfl, ?_⟩; replace HO_5 := yNe HO_5 ho0 hb; replace ho0 := Kd.R_newM (M := fun k_ => (w.heap.size ≤ k_)) ho0 (below_size (zB HB.out)) (fun k_ h_ => h_); have HO107 := yRl ho0 HB; replace HB := yS HB hb; (try clear hb ho0)) | ((with_reducible refine gC 80 ?_); refine zG (some 34) Try.func80 #[.int .u64 (IntKind.u64.wrap (wrap64 (a0 - 1)))] ?_; (with_reducible refine (nat_Of.calls k1 (IntKind.u64.wrap (wrap64 (a0 - 1))) t108 _ A11.out).mono ?_); rintro e w18 ⟨v109, rfl, ho0, hb⟩; refine ⟨_, rfl, ?_⟩; replace HO_5 := yNe HO_5 ho0 hb; replace ho0 := Kd.R_newM (M := fun k_ => (w.heap.size ≤ k_)) ho0 (below_size (zB HB.out)) (fun k_ h_ => h_); replace ho0 := yn ho0 HO107; have HO110 := yRl ho0 HB; replace HO107 := yRe HO107 ho0 hb; replace HB := yS HB hb; (try clear hb ho0); obtain ⟨Ao19, co19, rfl⟩ := Kd.R_slice HO110.out) | ((with_reducible refine gC 85 ?_); refine zG (some 36) Try.func85 #[.slice Ao19 t108.length co19, .int .i64 x21_1] ?_; (with_reducible refine (nat_Pow.calls k1 _ _ t108 x21_1 t111 t112 _ ?side1 ?side2 A12.out).mono ?_); (case side1 => exact zC (Kd.R_reads' HO110.out).2.2); (case side2 => exact (Kd.R_reads' HO110.out).2.1); rintro e w20 ⟨v113, rfl, ho0, hb⟩; refine ⟨_, rfl, ?_⟩; replace HO_5 := yNe HO_5 ho0 hb; replace ho0 := Kd.R_newM (M := fun k_ => (w.heap.size ≤ k_)) ho0 (below_size (zB HB.out)) (fun k_ h_ => h_); replace ho0 := yn ho0 HO107; replace ho0 := yn ho0 HO110; have HO114 := yRl ho0 HB; replace HO107 := yRe HO107 ho0 hb; replace HO110 := yRe HO110 ho0 hb; replace HB := yS HB hb; (try clear hb ho0); obtain ⟨Ao21, co21, rfl⟩ := Kd.R_slice HO107.out; obtain ⟨Ao22, co22, rfl⟩ := Kd.R_slice HO114.out) | ((with_reducible refine gate_dst (N := 43) rfl ?_); refine Kd.N_lit (Kd.slice 97 (Kd.int .u32)) _ 29 ?hg (N' := 43) ?hd (xs := ([t104, t111] : List (List Int))) (inner := [.slice Ao21 t104.length co21, .slice Ao22 t111.length co22]) (ok := (fun k_ => (w.heap.size ≤ k_) ∧ some k_ ≠ (.slice Ao8 x5_1.length co8 : Value).ownBlock ∧ some k_ ≠ (.slice Ao19 t108.length co19 : Value).ownBlock)) (okp := (fun k_ => (w.heap.size ≤ k_) ∧ some k_ ≠ (.slice Ao8 x5_1.length co8 : Value).ownBlock ∧ some k_ ≠ (.slice Ao19 t108.length co19 : Value).ownBlock)) ?hr ?hp (fun _ hk => hk) ((show ∀ k_, w20.heap.size ≤ k_ → (fun k_ => (w.heap.size ≤ k_) ∧ some k_ ≠ (.slice Ao8 x5_1.length co8 : Value).ownBlock ∧ some k_ ≠ (.slice Ao19 t108.length co19 : Value).ownBlock) k_ from fun k_ hk => ⟨(Nat.le_trans (below_size (zB HB.out)) hk), Kd.fresh' (Kd.N_lt (zN HO_5.out)) k_ hk, Kd.fresh' (Kd.R_lt (zR HO110.out)) k_ hk⟩) _ (Nat.le_refl _)) (Below.refl _ _) (Nat.le_refl _) (by simp) ?_; (case hd => rfl); (case hg => rfl); (case hr => first | (go_simp; done) | (go_simp; rfl)); (case hp => exact (Reps.one (show Kd.FK (Kd.slice 97 (Kd.int .u32)) _ _ t104 [.slice Ao21 t104.length co21] from (Mw.FK_of_R (Kd.R_mono (ok' := (fun k_ => (w.heap.size ≤ k_) ∧ some k_ ≠ (.slice Ao8 x5_1.length co8 : Value).ownBlock ∧ some k_ ≠ (.slice Ao19 t108.length co19 : Value).ownBlock)) (Kd.R_apart' (HO107.out) (Kd.N_typed HO_5.out) (by decide)) (fun k_ hk => by exact ⟨hk.1.1.1.1, ⟨hk.2, hk.1.1.2⟩⟩)))) (Reps.one (show Kd.FK (Kd.slice 97 (Kd.int .u32)) _ _ t111 [.slice Ao22 t111.length co22] from (Mw.FK_of_R (Kd.R_mono (ok' := (fun k_ => (w.heap.size ≤ k_) ∧ some k_ ≠ (.slice Ao8 x5_1.length co8 : Value).ownBlock ∧ some k_ ≠ (.slice Ao19 t108.length co19 : Value).ownBlock)) (Kd.R_apart' (HO114.out) (Kd.N_typed HO_5.out) (by decide)) (fun k_ hk => by exact ⟨hk.1.1.1.1, ⟨hk.2, hk.1.2⟩⟩)))) (Reps.none _ _)))); intro v116 w23 ho24 hb hg_ hnew_; clear hg_ hnew_; (first | rw [← Ny115.out] at ho24 | (simp only [Int.reduceToNat] at ho24; rw [← Ny115.out] at ho24)); replace HO_5 := Aside0.mk (Kd.N_elder' (zN HO_5.out) (Kd.N_base ho24) hb); replace HO110 := yRb HO110 hb; have HO117 := Aside0.mk (Kd.N_lower ho24 (below_size (zB HB.out))); replace HB := yS HB hb; clear HO107 HO114; clear hb ho24; obtain ⟨Ao25, co25, rfl⟩ := Kd.N_slice HO117.out) | ((with_reducible refine gC 74 ?_); refine zG (some 44) Try.func74 #[.slice Ao25 y115.length co25] ?_; (with_reducible refine (nat_Mul.calls k1 _ _ y115 t118 _ ?side1 ?side2 A13.out).mono ?_); (case side1 => exact zC (Kd.N_reads' HO117.out).2.2); (case side2 => exact (Kd.N_reads' HO117.out).2.1); rintro e w26 ⟨v119, rfl, ho0, hb⟩; refine ⟨_, rfl, ?_⟩; replace HO_5 := yNe HO_5 ho0 hb; replace HO117 := yNe HO117 ho0 hb; replace ho0 := Kd.R_newM (M := fun k_ => (w.heap.size ≤ k_)) ho0 (below_size (zB HB.out)) (fun k_ h_ => h_); replace ho0 := yn ho0 HO110; have HO120 := yRl ho0 HB; replace HO110 := yRe HO110 ho0 hb; replace HB := yS HB hb; (try clear hb ho0); obtain ⟨Ao27, co27, rfl⟩ := Kd.R_slice HO120.out; have p16 : 0 ≤ (x21_1 : Int) := zd; have q16 : (x21_1 : Int) < ((x5_1.length : Int) : Int) := zd; obtain ⟨go16, co16, eo16, gb16, gl16, cl16, HG16⟩ := Kd.N_form HO_5.out (by omega); (first | cases eo16 | (injection eo16 with ea_ en_ ec_; (first | subst ea_ | (injection ea_ with ea_; subst ea_)); subst ec_; clear en_)); have GB16 := Aside0.mk gb16; have GG16 := Aside0.mk HG16; clear gb16 gl16 HG16; obtain ⟨ce16, hcl16, hM16, hcc16, hfr16⟩ := Kd.N_elem HO_5.out z113 (x21_1 : Int) p16 q16; obtain ⟨ua16_1, uc16_1, rfl, ul16_1, ge16_1⟩ := k113_openF hM16; have hx16_0 : w26.cell? ⟨go16, (x21_1 : Int).toNat * 2, none⟩ = some (.bool ((rd_T113 x5_1 x21_1).f0)) := hcc16 0 _ rfl; have hx16_1 : w26.cell? ⟨go16, (x21_1 : Int).toNat * 2 + 1, none⟩ = some (.slice ua16_1 ((rd_T113 x5_1 x21_1).f1).length uc16_1) := hcc16 1 _ rfl; have hf16_0 : w26.frozen? ⟨go16, (x21_1 : Int).toNat * 2, none⟩ = false := hfr16 0; have hf16_1 : w26.frozen? ⟨go16, (x21_1 : Int).toNat * 2 + 1, none⟩ = false := hfr16 1; clear hcl16 hcc16 hfr16 hM16; replace p16 := eq_true p16; replace q16 := eq_true q16; have n_ := Aside0.mk (Kd.N_mono (ok' := (fun k_ => (w.heap.size ≤ k_) ∧ some k_ ≠ (.slice Ao19 t108.length co19 : Value).ownBlock ∧ some k_ ≠ (.slice Ao25 y115.length co25 : Value).ownBlock ∧ some k_ ≠ (.slice Ao27 t118.length co27 : Value).ownBlock)) HO_5.out (fun k_ hk => ⟨hk.1.1.1.1.1, ⟨hk.1.1.1.2, ⟨hk.1.2, hk.2⟩⟩⟩)); clear HO_5; have HO_5 := n_; clear n_; have HX28 := Aside0.mk (show Kd.N k113 113 w26 w.heap.size (fun k_ => (w.heap.size ≤ k_) ∧ some k_ ≠ (.slice Ao19 t108.length co19 : Value).ownBlock ∧ some k_ ≠ (.slice Ao25 y115.length co25 : Value).ownBlock) (.slice (some ⟨go16, 0, none⟩) x5_1.length co8) x5_1 from (by (with_reducible repeat (first | apply Kd.N_alloc | apply Kd.N_drewN | apply Kd.N_drew)); exact Kd.N_mono HO_5.out (fun _ hk => ⟨hk.1, ⟨hk.2.1, hk.2.2.1⟩⟩))); obtain ⟨ce28, hcl28, hM28, hcc28, hfr28⟩ := Kd.N_elem HX28.out z113 (x21_1 : Int) zd (by have h_ : (x21_1 : Int) < ((x5_1.length : Int) : Int) := zd; first | exact h_ | (have e_ := (Kd.N_reads' HO_5.out).1; omega) | simpa using h_); obtain ⟨ua28_1, uc28_1, rfl, ul28_1, ge28_1⟩ := k113_openF hM28; have HP28 := Kd.N_seg HX28.out (x21_1 : Int) zd (by have h_ : (x21_1 : Int) < ((x5_1.length : Int) : Int) := zd; first | exact h_ | (have e_ := (Kd.N_reads' HO_5.out).1; omega) | simpa using h_) (seg := [.bool false, .slice Ao27 t118.length co27]) (j := 0) hcl28 hcc28 (show 2 ≤ 2 from by decide) (x' := (⟨false, t118⟩ : S113)) (k113_mkF _ _ (⟨false, t118⟩ : S113) (Kd.R_reads' (Kd.R_mono (ok' := (fun k_ => ((fun k_ => (w.heap.size ≤ k_) ∧ some k_ ≠ (.slice Ao19 t108.length co19 : Value).ownBlock ∧ some k_ ≠ (.slice Ao25 y115.length co25 : Value).ownBlock)) k_ ∧ k_ ≠ go16)) (Kd.R_apart' (Kd.R_apart' (HO120.out) (Kd.N_typed HO117.out) (by decide)) (Kd.N_typed HO_5.out) (by decide)) (fun k_ hk => by exact ⟨⟨hk.1.1.1.1, ⟨hk.1.1.2, hk.1.2⟩⟩, fun e_ => (hk.2) (by rw [e_]; rfl)⟩))).2.1 (Kd.R_F (Kd.R_mono (ok' := (fun k_ => ((fun k_ => (w.heap.size ≤ k_) ∧ some k_ ≠ (.slice Ao19 t108.length co19 : Value).ownBlock ∧ some k_ ≠ (.slice Ao25 y115.length co25 : Value).ownBlock)) k_ ∧ k_ ≠ go16)) (Kd.R_apart' (Kd.R_apart' (HO120.out) (Kd.N_typed HO117.out) (by decide)) (Kd.N_typed HO_5.out) (by decide)) (fun k_ hk => by exact ⟨⟨hk.1.1.1.1, ⟨hk.1.1.2, hk.1.2⟩⟩, fun e_ => (hk.2) (by rw [e_]; rfl)⟩)))) (fun _ hk => hk); have hx28_0 := hcc28 0 _ rfl; (try simp only [show (k113).sz = 2 from rfl, Nat.mul_one, Nat.add_zero] at hx28_0); have hf28_0 := hfr28 0; (try simp only [show (k113).sz = 2 from rfl, Nat.mul_one, Nat.add_zero] at hf28_0); have hx28_1 := hcc28 1 _ rfl; (try simp only [show (k113).sz = 2 from rfl, Nat.mul_one, Nat.add_zero] at hx28_1); have hf28_1 := hfr28 1; (try simp only [show (k113).sz = 2 from rfl, Nat.mul_one, Nat.add_zero] at hf28_1); clear hcl28 hcc28 hfr28 hM28) | ((with_reducible refine gate_store (t := 113) (p := 46) rfl ?_); refine store_event (t := 113) (p := 46) (v := ?vo_w29) (w1 := ((w26.setCell ⟨go16, (x21_1 : Int).toNat * 2, none⟩ (.bool false)).setCell ⟨go16, (x21_1 : Int).toNat * 2 + 1, none⟩ (.slice Ao27 t118.length co27))) ?hg ?ho ?hn ?hr ?_; (case ho => rfl); (case hg => rfl); (case hn => rfl); (case hr => first | (go_simp; done) | (go_simp; rfl)); intro w29 hw; have hg : w26.grownBy w29 (some go16) := (by rw [hw]; exact HP28.2); have hp_ : Kd.N k113 113 w29 w.heap.size (fun k_ => (w.heap.size ≤ k_) ∧ some k_ ≠ (.slice Ao19 t108.length co19 : Value).ownBlock ∧ some k_ ≠ (.slice Ao25 y115.length co25 : Value).ownBlock) (.slice (some ⟨go16, 0, none⟩) x5_1.length co8) y121 := (by rw [hw, Ny121.out]; exact HP28.1); clear HP28; replace HO110 := Aside0.mk (Kd.R_over' (v := (.slice (some ⟨go16, 0, none⟩) x5_1.length co8)) (zR HO110.out) (Kd.N_typed HO_5.out) (by decide) hg); replace HO_5 := Aside0.mk (hp_); replace HO117 := Aside0.mk (Kd.N_afterv (v := (.slice (some ⟨go16, 0, none⟩) x5_1.length co8)) (v1 := (.slice (some ⟨go16, 0, none⟩) x5_1.length co8)) (ok := (fun k_ => (w.heap.size ≤ k_) ∧ some k_ ≠ (.slice Ao19 t108.length co19 : Value).ownBlock ∧ some k_ ≠ (.slice Ao27 t118.length co27 : Value).ownBlock)) (by (with_reducible repeat (first | apply Kd.N_alloc | apply Kd.N_drewN | apply Kd.N_drew)); exact Kd.N_mono HO117.out (fun _ hk => ⟨⟨hk.1.1, ⟨hk.1.2.2, hk.2⟩⟩, hk.1.2.1⟩)) hg (.inl rfl)); replace HB := Aside0.mk ((by rw [hw]; exact below_set (below_set (HB.out) GB16.out) GB16.out : Below w.heap.size w w29)); clear HO120; clear hg hw hp_))
   (try simp only [← hl5_1])
   go_roundg k1
   case measure => have := HK1.out; omega
   case rel => exact ⟨(y121), (wrap64 (x21_1 + 1)), zF, H', ⟨zo1 HK1⟩, ⟨by (try simp only [hl5_1]); (with_reducible repeat (first | apply Kd.N_alloc | apply Kd.N_drewN | apply Kd.N_drew)); exact Kd.N_mono HO_5.out (fun _ hk => hk.1)⟩, ⟨zB HB.out⟩⟩
 have c9b0 := decide_eq_false c9
 (try (have c9h0 := c9b0; simp only [hl5_1] at c9h0))
 clear c9
 obtain ⟨y122, hy122⟩ : ∃ y_ : List (List (S113)), y_ = (([x5_1] : List (List (S113)))) := ⟨_, rfl⟩
 replace H : ((mw_small.f k1 (wrap64 (a0 - 1))).bind fun bt125 => (mw_table.l1 k1 a1 y122 a1 0 bt125.1 bt125.2)) = some r := zY hy122 H
 have Ny122 := Aside0.mk hy122
 clear hy122
 replace H := zb H
 obtain ⟨⟨t125, t126⟩, A30, H⟩ := H
 dsimp only at H
 have H' := Aside0.mk H
 clear H
 go_wp2_with (first | ((with_reducible refine gate_dst (N := 49) rfl ?_); refine Kd.N_lit (Kd.slice 113 k113) _ 114 ?hg (N' := 49) ?hd (xs := ([x5_1] : List (List (S113)))) (inner := [.slice Ao8 x5_1.length co8]) (ok := (fun k_ => (w.heap.size ≤ k_))) (okp := (fun k_ => (w.heap.size ≤ k_))) ?hr ?hp (fun _ hk => hk) ((show ∀ k_, wr.heap.size ≤ k_ → (fun k_ => (w.heap.size ≤ k_)) k_ from fun k_ hk => (Nat.le_trans (below_size (zB HB.out)) hk)) _ (Nat.le_refl _)) (Below.refl _ _) (Nat.le_refl _) (by simp) ?_; (case hd => rfl); (case hg => rfl); (case hr => first | (go_simp; done) | (go_simp; rfl)); (case hp => exact (Reps.one (show Kd.FK (Kd.slice 113 k113) _ _ x5_1 [.slice Ao8 x5_1.length co8] from (Kd.FK_slice_mk (Kd.N_reads' (Kd.N_mono (ok' := (fun k_ => (w.heap.size ≤ k_))) (HO_5.out) (fun k_ hk => by exact hk))).2.1 (Kd.N_F (Kd.N_mono (ok' := (fun k_ => (w.heap.size ≤ k_))) (HO_5.out) (fun k_ hk => by exact hk))))) (Reps.none _ _))); intro v123 w31 ho32 hb hg_ hnew_; clear hg_ hnew_; (first | rw [← Ny122.out] at ho32 | (simp only [Int.reduceToNat] at ho32; rw [← Ny122.out] at ho32)); have HO124 := Aside0.mk (Kd.N_lower ho32 (below_size (zB HB.out))); replace HB := yS HB hb; clear HO_5; clear hb ho32) | ((with_reducible refine gC 124 ?_); refine zG (some 52) Try.func124 #[.int .i64 (wrap64 (a0 - 1))] ?_; (with_reducible refine (mw_small.calls k1 (wrap64 (a0 - 1)) t125 t126 _ A30.out).mono ?_); rintro e w33 ⟨v127, rfl, ho0, hb⟩; refine ⟨_, rfl, ?_⟩; replace HO124 := yNe HO124 ho0 hb; replace ho0 := Kd.R_newM (M := fun k_ => (w.heap.size ≤ k_)) ho0 (below_size (zB HB.out)) (fun k_ h_ => h_); have HO128 := yRl ho0 HB; replace HB := yS HB hb; (try clear hb ho0)) | ((with_reducible refine gate_dst (N := 12) rfl ?_); refine box_event ?hg (N := 12) ?hd (cs := #[.bool false, .slice none 0 0]) (t := 113) ?hr ?_; (case hd => rfl); (case hg => rfl); (case hr => first | (go_simp; done) | (go_simp; rfl)); intro gb129 hg w34 hbox hb; replace HO124 := Aside0.mk (Kd.N_below (Kd.N_elderB (zN HO124.out) gb129 (Nat.le_of_eq hg.symm)) hb); replace HO128 := yRb HO128 hb; have BK129 := Aside0.mk (hbox); have GW129 := yg hg HB; have GE129 := yg hg HB; replace HB := yS HB hb; clear hb hbox hg; obtain ⟨hcz35_0, hcz35_1, hfz35_0, hfz35_1⟩ := zz2 BK129; obtain ⟨Ao36, co36, rfl⟩ := Kd.R_slice HO128.out))
 go_loopg [11, 54] k1 (fun kq v11 v54 w' => ∃ (x11_2 : List (List (S113))) (x54_2 : Int), v54 = .int .i64 x54_2 ∧ Aside0 (mw_table.l1 kq a1 x11_2 a1 x54_2 t125 t126 = some r) ∧ Aside0 (kq ≤ k1) ∧ Aside0 (Kd.N (Kd.slice 113 k113) 114 w' w.heap.size (fun k_ => (w.heap.size ≤ k_) ∧ some k_ ≠ ((.slice Ao36 t126.length co36) : Value).ownBlock ∧ k_ ≠ gb129) v11 x11_2) ∧ Aside0 (Kd.R (Kd.int .u32) 97 w' w.heap.size (fun k_ => (w.heap.size ≤ k_)) (.slice Ao36 t126.length co36) t126) ∧ Aside0 (w'.heap[gb129]? = some (.cells #[.bool t125, (.slice Ao36 t126.length co36)] 113 (0, 0))) ∧ Aside0 (Below w.heap.size w w'))
 case atStart => exact ⟨(y122), (0), zF, H', ⟨Nat.le_refl _⟩, ⟨by (try simp only [hl5_1]); (with_reducible repeat (first | apply Kd.N_alloc | apply Kd.N_drewN | apply Kd.N_drew)); exact Kd.N_mono (Kd.N_far (p := ⟨gb129, 1, none⟩) (Kd.N_far (p := ⟨gb129, 0, none⟩) (Kd.N_mono HO124.out (fun k_ hk => (⟨hk, hk.2⟩ : _ ∧ k_ ≠ gb129))) (fun _ hk => hk.2) (.bool t125)) (fun _ hk => hk.2) (.slice Ao36 t126.length co36)) (fun _ hk => ⟨hk.1.1.1, ⟨hk.1.1.2, hk.1.2⟩⟩)⟩, ⟨by (try simp only [hl5_1]); (with_reducible repeat (first | apply Kd.R_alloc | apply Kd.R_drewN | apply Kd.R_drew)); exact Kd.R_mono (Kd.R_far (p := ⟨gb129, 1, none⟩) (Kd.R_far (p := ⟨gb129, 0, none⟩) (Kd.R_types HO128.out BK129.out (by decide)) (fun _ hk => hk.2) (.bool t125)) (fun _ hk => hk.2) (.slice Ao36 t126.length co36)) (fun _ hk => hk.1.1)⟩, ⟨by (try simp only [hl5_1]); (with_reducible repeat (first | refine blk_drewN ?_ _ | refine blk_drew ?_ | refine blk_alloc ?_ _)); refine blk_put (cs := #[.bool t125, .slice none 0 0]) ?_ 1 _ rfl; (with_reducible repeat (first | refine blk_drewN ?_ _ | refine blk_drew ?_ | refine blk_alloc ?_ _)); refine blk_put (cs := #[.bool false, .slice none 0 0]) ?_ 0 _ rfl; (with_reducible repeat (first | refine blk_drewN ?_ _ | refine blk_drew ?_ | refine blk_alloc ?_ _)); exact BK129.out⟩, ⟨zB1 HB.out GE129.out⟩⟩
 clear H'
 (try clear c4);(try clear c4b0);(try clear c4b1);(try clear c5);(try clear c5b0);(try clear c5b1);(try clear c9);(try clear c9b0);(try clear c14b0);(try clear c15);(try clear c15b0);(try clear p16);(try clear q16);(try clear hcz35_0);(try clear hcz35_1);(try clear hfz35_0);(try clear hfz35_1);(try clear hx16_0);(try clear hx16_1);(try clear hx28_0);(try clear hx28_1)
 obtain ⟨x11_2, x54_2, rfl, HA, HK2, HO_11, HO_130001, BK129, HB⟩ := hrel
 cases gk with | zero => exact absurd HA.out (by simp [mw_table.l1]) | succ k2 => ?_
 have H := HA.out
 clear HA
 simp only [mw_table.l1] at H
 replace H := zid H
 rcases H with ⟨c37b0, H⟩ | ⟨c37b0, H⟩
 · obtain ⟨ji38, hji38⟩ : ∃ j_ : Int, (wrap64 ((x11_2.length : Int) - 1)) = j_ := ⟨_, rfl⟩
   replace H : (if 0 ≤ (ji38) then (if (ji38) < (x11_2.length : Int) then (if 0 < ((rd_L6 x11_2 (ji38)).length : Int) then (mw_table.l2 k2 a1 x11_2 (rd_L6 x11_2 (ji38)) (([(⟨(rd_T113 (rd_L6 x11_2 (ji38)) 0).f0, (rd_T113 (rd_L6 x11_2 (ji38)) 0).f1⟩ : S113)] : List (S113))) 1 a1 x54_2 t125 t126) else (none)) else (none)) else (none)) = some r := by first | (rw [hji38] at H; exact H) | (simp only [hji38] at H ⊢; exact H)
   have hji38w : (IntKind.i64.wrap ((x11_2.length : Int) - 1)) = ji38 := (i64_w _).trans hji38
   replace H := zgd H
   obtain ⟨c39b0, H⟩ := H
   replace H := zg H
   obtain ⟨c40, H⟩ := H
   have c40b0 := decide_eq_true c40
   (try (have c40h0 := c40b0; simp only [hl5_1] at c40h0))
   clear c40
   replace H := zg H
   obtain ⟨c41, H⟩ := H
   have c41b0 := decide_eq_true c41
   (try (have c41h0 := c41b0; simp only [hl5_1] at c41h0))
   have c41b1 : decide (0 < (rd_L6 x11_2 (ji38)).length) = true := decide_eq_true (by omega)
   (try (have c41h1 := c41b1; simp only [hl5_1] at c41h1))
   clear c41
   obtain ⟨y132, hy132⟩ : ∃ y_ : List (S113), y_ = (([(⟨(rd_T113 (rd_L6 x11_2 (ji38)) 0).f0, (rd_T113 (rd_L6 x11_2 (ji38)) 0).f1⟩ : S113)] : List (S113))) := ⟨_, rfl⟩
   replace H : (mw_table.l2 k2 a1 x11_2 (rd_L6 x11_2 (ji38)) y132 1 a1 x54_2 t125 t126) = some r := zY hy132 H
   have Ny132 := Aside0.mk hy132
   clear hy132
   have H' := Aside0.mk H
   clear H
   obtain ⟨Ao42, co42, rfl⟩ := Kd.N_slice HO_11.out
   have p130 : 0 ≤ ((ji38) : Int) := zd
   have q130 : (ji38) < (x11_2.length : Int) := zd
   obtain ⟨ad130, A130_0, c130_0, e130, hx130_0, hl130_0, hi130_0⟩ := at_L6 (Kd.N_reads' HO_11.out).2.2 (ji38) p130 q130
   cases e130
   obtain ⟨ce130, hce130, hMe130, hcc130⟩ := Kd.N_get HO_11.out [] (ji38) p130 (by first | exact q130 | exact zd | (have e_ := (Kd.N_reads' HO_11.out).1; omega))
   obtain ⟨ua130_0, uc130_0, rfl, ul130_0, ge130_0⟩ := Kd.FK_slice_open hMe130
   have hv130_0 := hcc130 0 _ rfl
   rw [Nat.add_zero, show ((Kd.slice 113 k113)).sz = 1 from rfl, Nat.mul_one] at hv130_0
   replace hv130_0 := Option.some.inj (hv130_0.symm.trans hx130_0)
   injection hv130_0 with hva_ hvn_ hvc_
   rw [hva_] at ge130_0
   rw [hvc_] at ul130_0
   have HL130_0 := Aside0.mk (show Kd.V k113 113 _ w.heap.size _ _ (rd_L6 x11_2 (ji38)) from Kd.V_mk ul130_0 ge130_0)
   clear hva_ hvn_ hvc_ ge130_0 ul130_0
   clear hcc130 hce130
   have HR130_0 := Aside0.mk hi130_0
   have HC130_0 := Aside0.mk hl130_0
   clear hi130_0 hl130_0
   replace p130 := eq_true p130
   replace q130 := eq_true q130
   have p131 : 0 ≤ (0 : Int) := (by omega)
   have q131 : 0 < ((rd_L6 x11_2 (ji38)).length : Int) := zd
   obtain ⟨ad131, A131_1, c131_1, e131, hx131_0, hx131_1, hl131_1, hi131_1⟩ := at_T113 (zCr HR130_0.out) 0 p131 q131
   cases e131
   obtain ⟨ce131, hce131, hMe131, hcc131⟩ := Kd.V_get HL130_0.out z113 0 p131 (by first | exact q131 | exact zd | (have e_ := (Kd.V_reads' HL130_0.out).1; omega))
   obtain ⟨ua131_1, uc131_1, rfl, ul131_1, ge131_1⟩ := k113_openF hMe131
   have hv131_1 := hcc131 1 _ rfl
   rw [add_field _ _ 1 (by omega)] at hv131_1
   replace hv131_1 := Option.some.inj (hv131_1.symm.trans hx131_1)
   injection hv131_1 with hva_ hvn_ hvc_
   rw [hva_] at ge131_1
   rw [hvc_] at ul131_1
   have HL131_1 := Aside0.mk (show Kd.V (Kd.int .u32) 97 _ w.heap.size _ _ ((rd_T113 (rd_L6 x11_2 (ji38)) 0).f1) from Kd.V_mk ul131_1 ge131_1)
   clear hva_ hvn_ hvc_ ge131_1 ul131_1
   clear hcc131 hce131
   have qi131 : (0 < (rd_L6 x11_2 (ji38)).length) = True := eq_true (by omega)
   (try rw [show ((0 : Int)).toNat = 0 from rfl] at hx131_0)
   (try rw [show 0 * 2 = 0 from rfl] at hx131_0)
   (try rw [Addr.add_zero'] at hx131_0)
   (try rw [show ((0 : Int)).toNat = 0 from rfl] at hx131_1)
   (try rw [show 0 * 2 = 0 from rfl] at hx131_1)
   (try rw [Addr.add_zero'] at hx131_1)
   have HR131_1 := Aside0.mk hi131_1
   have HC131_1 := Aside0.mk hl131_1
   clear hi131_1 hl131_1
   replace p131 := eq_true p131
   replace q131 := eq_true q131
   go_wp2_with (first | ((with_reducible refine gate_dst (N := 65) rfl ?_); refine Kd.N_lit k113 _ 113 ?hg (N' := 65) ?hd (xs := ([(⟨(rd_T113 (rd_L6 x11_2 (ji38)) 0).f0, (rd_T113 (rd_L6 x11_2 (ji38)) 0).f1⟩ : S113)] : List (S113))) (inner := [.bool ((rd_T113 (rd_L6 x11_2 (ji38)) 0).f0), .slice A131_1 ((rd_T113 (rd_L6 x11_2 (ji38)) 0).f1).length c131_1]) (ok := (fun k_ => (w.heap.size ≤ k_) ∧ some k_ ≠ (.slice (some ad130) x11_2.length co42 : Value).ownBlock ∧ some k_ ≠ (.slice Ao36 t126.length co36 : Value).ownBlock ∧ k_ ≠ gb129)) (okp := (fun k_ => (w.heap.size ≤ k_) ∧ some k_ ≠ (.slice (some ad130) x11_2.length co42 : Value).ownBlock ∧ some k_ ≠ (.slice Ao36 t126.length co36 : Value).ownBlock ∧ k_ ≠ gb129)) ?hr ?hp (fun _ hk => hk) ((show ∀ k_, wr.heap.size ≤ k_ → (fun k_ => (w.heap.size ≤ k_) ∧ some k_ ≠ (.slice (some ad130) x11_2.length co42 : Value).ownBlock ∧ some k_ ≠ (.slice Ao36 t126.length co36 : Value).ownBlock ∧ k_ ≠ gb129) k_ from fun k_ hk => ⟨(Nat.le_trans (below_size (zB1 HB.out GE129.out)) hk), Kd.fresh' (Kd.N_lt (zN HO_11.out)) k_ hk, Kd.fresh' (Kd.R_lt (zR HO_130001.out)) k_ hk, Kd.freshB (g := gb129) (o := .cells #[.bool t125, .slice Ao36 t126.length co36] 113 (0, 0)) (by (with_reducible repeat (first | refine blk_drewN ?_ _ | refine blk_drew ?_ | refine blk_alloc ?_ _)); exact BK129.out) k_ hk⟩) _ (Nat.le_refl _)) (Below.refl _ _) (Nat.le_refl _) (by simp) ?_; (case hd => rfl); (case hg => rfl); (case hr => first | (go_simp; done) | (go_simp; rfl)); (case hp => exact (Reps.c2 (show Kd.FK k113 _ _ (⟨(rd_T113 (rd_L6 x11_2 (ji38)) 0).f0, (rd_T113 (rd_L6 x11_2 (ji38)) 0).f1⟩ : S113) [.bool ((rd_T113 (rd_L6 x11_2 (ji38)) 0).f0), .slice A131_1 ((rd_T113 (rd_L6 x11_2 (ji38)) 0).f1).length c131_1] from (k113_mkF _ _ (⟨(rd_T113 (rd_L6 x11_2 (ji38)) 0).f0, (rd_T113 (rd_L6 x11_2 (ji38)) 0).f1⟩ : S113) (Kd.V_reads' (Kd.V_mono (ok' := (fun k_ => (w.heap.size ≤ k_) ∧ some k_ ≠ (.slice (some ad130) x11_2.length co42 : Value).ownBlock ∧ some k_ ≠ (.slice Ao36 t126.length co36 : Value).ownBlock ∧ k_ ≠ gb129)) (HL131_1.out) (fun k_ hk => by exact ⟨hk.1.1, ⟨hk.2, ⟨hk.1.2.1, hk.1.2.2⟩⟩⟩))).2.1 (Kd.V_F (Kd.V_mono (ok' := (fun k_ => (w.heap.size ≤ k_) ∧ some k_ ≠ (.slice (some ad130) x11_2.length co42 : Value).ownBlock ∧ some k_ ≠ (.slice Ao36 t126.length co36 : Value).ownBlock ∧ k_ ≠ gb129)) (HL131_1.out) (fun k_ hk => by exact ⟨hk.1.1, ⟨hk.2, ⟨hk.1.2.1, hk.1.2.2⟩⟩⟩))))) (Reps.none _ _))); intro v133 w43 ho44 hb hg_ hnew_; clear hg_ hnew_; (first | rw [← Ny132.out] at ho44 | (simp only [Int.reduceToNat] at ho44; rw [← Ny132.out] at ho44)); replace HO_11 := Aside0.mk (Kd.N_elder' (zN HO_11.out) (Kd.N_base ho44) hb); replace HO_130001 := yRb HO_130001 hb; replace HL130_0 := Aside0.mk (Kd.V_elder' (zV HL130_0.out) (Kd.N_base ho44) hb); replace HL131_1 := Aside0.mk (Kd.V_elder' (zV HL131_1.out) (Kd.N_base ho44) hb); have HO134 := Aside0.mk (Kd.N_lower ho44 (below_size (zB1 HB.out GE129.out))); replace BK129 := yK BK129 hb; (try replace HR130_0 := yCb HR130_0 hb); (try replace HR131_1 := yCb HR131_1 hb); replace HB := yS1 HB GE129 hb; clear hb ho44))
   go_loopg [14, 15] k2 (fun kq v14 v15 w' => ∃ (x14_3 : List (S113)) (x15_3 : Int), v15 = .int .i64 x15_3 ∧ Aside0 (mw_table.l2 kq a1 x11_2 (rd_L6 x11_2 (ji38)) x14_3 x15_3 a1 x54_2 t125 t126 = some r) ∧ Aside0 (kq ≤ k2) ∧ Aside0 (Kd.N (Kd.slice 113 k113) 114 w' w.heap.size (fun k_ => (w.heap.size ≤ k_) ∧ some k_ ≠ (v14 : Value).ownBlock ∧ some k_ ≠ ((.slice Ao36 t126.length co36) : Value).ownBlock ∧ k_ ≠ gb129) (.slice (some ad130) x11_2.length co42) x11_2) ∧ Aside0 (Kd.V k113 113 w' w.heap.size (fun k_ => (w.heap.size ≤ k_) ∧ some k_ ≠ ((.slice (some ad130) x11_2.length co42) : Value).ownBlock ∧ some k_ ≠ (v14 : Value).ownBlock ∧ some k_ ≠ ((.slice Ao36 t126.length co36) : Value).ownBlock ∧ k_ ≠ gb129) (.slice (some ad131) (rd_L6 x11_2 (ji38)).length c130_0) (rd_L6 x11_2 (ji38))) ∧ Aside0 (Kd.N k113 113 w' w.heap.size (fun k_ => (w.heap.size ≤ k_) ∧ some k_ ≠ ((.slice (some ad130) x11_2.length co42) : Value).ownBlock ∧ some k_ ≠ ((.slice Ao36 t126.length co36) : Value).ownBlock ∧ k_ ≠ gb129) v14 x14_3) ∧ Aside0 (Kd.R (Kd.int .u32) 97 w' w.heap.size (fun k_ => (w.heap.size ≤ k_)) (.slice Ao36 t126.length co36) t126) ∧ Aside0 (w'.heap[gb129]? = some (.cells #[.bool t125, (.slice Ao36 t126.length co36)] 113 (0, 0))) ∧ Aside0 (Below w.heap.size w w'))
   case atStart => exact ⟨(y132), (1), zF, H', ⟨Nat.le_refl _⟩, ⟨by (try simp only [hl5_1]); (with_reducible repeat (first | apply Kd.N_alloc | apply Kd.N_drewN | apply Kd.N_drew)); exact Kd.N_mono HO_11.out (fun _ hk => ⟨hk.1.1, ⟨hk.2, ⟨hk.1.2.1, hk.1.2.2⟩⟩⟩)⟩, ⟨by (try simp only [hl5_1]); (with_reducible repeat (first | apply Kd.V_alloc | apply Kd.V_drewN | apply Kd.V_drew)); exact Kd.V_mono HL130_0.out (fun _ hk => ⟨hk.1.1.1, ⟨hk.1.2, ⟨hk.2, ⟨hk.1.1.2.1, hk.1.1.2.2⟩⟩⟩⟩)⟩, ⟨by (try simp only [hl5_1]); (with_reducible repeat (first | apply Kd.N_alloc | apply Kd.N_drewN | apply Kd.N_drew)); exact HO134.out⟩, ⟨by (try simp only [hl5_1]); (with_reducible repeat (first | apply Kd.R_alloc | apply Kd.R_drewN | apply Kd.R_drew)); exact HO_130001.out⟩, ⟨by (try simp only [hl5_1]); (with_reducible repeat (first | refine blk_drewN ?_ _ | refine blk_drew ?_ | refine blk_alloc ?_ _)); exact BK129.out⟩, ⟨zB1 HB.out GE129.out⟩⟩
   clear H'
   (try clear c4);(try clear c4b0);(try clear c4b1);(try clear c5);(try clear c5b0);(try clear c5b1);(try clear c9);(try clear c9b0);(try clear c14b0);(try clear c15);(try clear c15b0);(try clear p16);(try clear q16);(try clear c37b0);(try clear c39b0);(try clear c40);(try clear c40b0);(try clear c41);(try clear c41b0);(try clear c41b1);(try clear hcz35_0);(try clear hcz35_1);(try clear hfz35_0);(try clear hfz35_1);(try clear hx130_0);(try clear hx131_0);(try clear hx131_1);(try clear hx16_0);(try clear hx16_1);(try clear hx28_0);(try clear hx28_1);(try clear p130);(try clear p131);(try clear q130);(try clear q131)
   obtain ⟨x14_3, x15_3, rfl, HA, HK3, HO_11, HO_13, HO_14, HO_130001, BK129, HB⟩ := hrel
   cases gk with | zero => exact absurd HA.out (by simp [mw_table.l2]) | succ k3 => ?_
   have H := HA.out
   clear HA
   simp only [mw_table.l2] at H
   replace H := zid H
   rcases H with ⟨c45b0, H⟩ | ⟨c45b0, H⟩
   · replace H := zgd H
     obtain ⟨c46b0, H⟩ := H
     replace H := zg H
     obtain ⟨c47, H⟩ := H
     have c47b0 := decide_eq_true c47
     (try (have c47h0 := c47b0; simp only [hl5_1] at c47h0))
     clear c47
     obtain ⟨ji48, hji48⟩ : ∃ j_ : Int, (wrap64 (x15_3 - 1)) = j_ := ⟨_, rfl⟩
     replace H : (if 0 ≤ (ji48) then (if (ji48) < ((rd_L6 x11_2 (ji38)).length : Int) then ((mw_minus.f k3 ((rd_T113 (rd_L6 x11_2 (ji38)) x15_3).f0) ((rd_T113 (rd_L6 x11_2 (ji38)) x15_3).f1) ((rd_T113 (rd_L6 x11_2 (ji38)) (ji48)).f0) ((rd_T113 (rd_L6 x11_2 (ji38)) (ji48)).f1)).bind fun bt137 => (if (ji48) < (x14_3.length : Int) then ((mw_times.f k3 t125 t126 ((rd_T113 x14_3 (ji48)).f0) ((rd_T113 x14_3 (ji48)).f1)).bind fun bt142 => ((mw_minus.f k3 bt137.1 bt137.2 bt142.1 bt142.2).bind fun bt146 => (if x14_3.length < 4398046511104 then (mw_table.l2 k3 a1 x11_2 (rd_L6 x11_2 (ji38)) (x14_3 ++ [(⟨bt146.1, bt146.2⟩ : S113)]) (wrap64 (x15_3 + 1)) a1 x54_2 t125 t126) else (none)))) else (none))) else (none)) else (none)) = some r := by first | (rw [hji48] at H; exact H) | (simp only [hji48] at H ⊢; exact H)
     have hji48w : (IntKind.i64.wrap (x15_3 - 1)) = ji48 := (i64_w _).trans hji48
     replace H := zgd H
     obtain ⟨c49b0, H⟩ := H
     replace H := zg H
     obtain ⟨c50, H⟩ := H
     have c50b0 := decide_eq_true c50
     (try (have c50h0 := c50b0; simp only [hl5_1] at c50h0))
     clear c50
     replace H := zb H
     obtain ⟨⟨t137, t138⟩, A51, H⟩ := H
     dsimp only at H
     replace H := zg H
     obtain ⟨c52, H⟩ := H
     have c52b0 := decide_eq_true c52
     (try (have c52h0 := c52b0; simp only [hl5_1] at c52h0))
     clear c52
     replace H := zb H
     obtain ⟨⟨t142, t143⟩, A53, H⟩ := H
     dsimp only at H
     replace H := zb H
     obtain ⟨⟨t146, t147⟩, A54, H⟩ := H
     dsimp only at H
     replace H := zg H
     obtain ⟨c55, H⟩ := H
     have LMc55 := Aside0.mk c55
     clear c55
     obtain ⟨y150, hy150⟩ : ∃ y_ : List (S113), y_ = (x14_3 ++ [(⟨t146, t147⟩ : S113)]) := ⟨_, rfl⟩
     replace H : (mw_table.l2 k3 a1 x11_2 (rd_L6 x11_2 (ji38)) y150 (wrap64 (x15_3 + 1)) a1 x54_2 t125 t126) = some r := zY hy150 H
     have Ny150 := Aside0.mk hy150
     clear hy150
     have H' := Aside0.mk H
     clear H
     try go_wp2
     replace HO_11 := Aside0.mk (Kd.N_drew HO_11.out)
     replace HO_13 := Aside0.mk (Kd.V_drew HO_13.out)
     replace HO_14 := Aside0.mk (Kd.N_drew HO_14.out)
     replace HO_130001 := Aside0.mk (Kd.R_drew HO_130001.out)
     replace BK129 := Aside0.mk (blk_drew BK129.out)
     replace HB := Aside0.mk (below_drew1 HB.out)
     have p135 : 0 ≤ (x15_3 : Int) := zd
     have q135 : x15_3 < ((rd_L6 x11_2 (ji38)).length : Int) := zd
     obtain ⟨ad135, A135_1, c135_1, e135, hx135_0, hx135_1, hl135_1, hi135_1⟩ := at_T113 (Kd.V_reads' HO_13.out).2.2 x15_3 p135 q135
     obtain rfl : ad131 = ad135 := (by injection e135)
     obtain ⟨ce135, hce135, hMe135, hcc135⟩ := Kd.V_get HO_13.out z113 x15_3 p135 (by first | exact q135 | exact zd | (have e_ := (Kd.V_reads' HO_13.out).1; omega))
     obtain ⟨ua135_1, uc135_1, rfl, ul135_1, ge135_1⟩ := k113_openF hMe135
     have hv135_1 := hcc135 1 _ rfl
     rw [add_field _ _ 1 (by omega)] at hv135_1
     replace hv135_1 := Option.some.inj (hv135_1.symm.trans hx135_1)
     injection hv135_1 with hva_ hvn_ hvc_
     rw [hva_] at ge135_1
     rw [hvc_] at ul135_1
     have HL135_1 := Aside0.mk (show Kd.V (Kd.int .u32) 97 _ w.heap.size _ _ ((rd_T113 (rd_L6 x11_2 (ji38)) x15_3).f1) from Kd.V_mk ul135_1 ge135_1)
     clear hva_ hvn_ hvc_ ge135_1 ul135_1
     clear hcc135 hce135
     have HR135_1 := Aside0.mk hi135_1
     have HC135_1 := Aside0.mk hl135_1
     clear hi135_1 hl135_1
     replace p135 := eq_true p135
     replace q135 := eq_true q135
     have p136 : 0 ≤ ((ji48) : Int) := zd
     have q136 : (ji48) < ((rd_L6 x11_2 (ji38)).length : Int) := zd
     obtain ⟨ad136, A136_1, c136_1, e136, hx136_0, hx136_1, hl136_1, hi136_1⟩ := at_T113 (Kd.V_reads' HO_13.out).2.2 (ji48) p136 q136
     obtain rfl : ad131 = ad136 := (by injection e136)
     obtain ⟨ce136, hce136, hMe136, hcc136⟩ := Kd.V_get HO_13.out z113 (ji48) p136 (by first | exact q136 | exact zd | (have e_ := (Kd.V_reads' HO_13.out).1; omega))
     obtain ⟨ua136_1, uc136_1, rfl, ul136_1, ge136_1⟩ := k113_openF hMe136
     have hv136_1 := hcc136 1 _ rfl
     rw [add_field _ _ 1 (by omega)] at hv136_1
     replace hv136_1 := Option.some.inj (hv136_1.symm.trans hx136_1)
     injection hv136_1 with hva_ hvn_ hvc_
     rw [hva_] at ge136_1
     rw [hvc_] at ul136_1
     have HL136_1 := Aside0.mk (show Kd.V (Kd.int .u32) 97 _ w.heap.size _ _ ((rd_T113 (rd_L6 x11_2 (ji38)) (ji48)).f1) from Kd.V_mk ul136_1 ge136_1)
     clear hva_ hvn_ hvc_ ge136_1 ul136_1
     clear hcc136 hce136
     have HR136_1 := Aside0.mk hi136_1
     have HC136_1 := Aside0.mk hl136_1
     clear hi136_1 hl136_1
     replace p136 := eq_true p136
     replace q136 := eq_true q136
     obtain ⟨Ao57, co57, eo57⟩ := Kd.N_slice HO_14.out
     (first | subst eo57 | (injection eo57 with f1_ f2_ f3_; have f4_ := f1_.symm; have f5_ := f3_.symm; clear f1_ f2_ f3_; subst f4_; subst f5_))
     have p141 : 0 ≤ ((ji48) : Int) := zd
     have q141 : (ji48) < (x14_3.length : Int) := zd
     obtain ⟨ad141, A141_1, c141_1, e141, hx141_0, hx141_1, hl141_1, hi141_1⟩ := at_T113 (Kd.N_reads' HO_14.out).2.2 (ji48) p141 q141
     cases e141
     obtain ⟨ce141, hce141, hMe141, hcc141⟩ := Kd.N_get HO_14.out z113 (ji48) p141 (by first | exact q141 | exact zd | (have e_ := (Kd.N_reads' HO_14.out).1; omega))
     obtain ⟨ua141_1, uc141_1, rfl, ul141_1, ge141_1⟩ := k113_openF hMe141
     have hv141_1 := hcc141 1 _ rfl
     rw [add_field _ _ 1 (by omega)] at hv141_1
     replace hv141_1 := Option.some.inj (hv141_1.symm.trans hx141_1)
     injection hv141_1 with hva_ hvn_ hvc_
     rw [hva_] at ge141_1
     rw [hvc_] at ul141_1
     have HL141_1 := Aside0.mk (show Kd.V (Kd.int .u32) 97 _ w.heap.size _ _ ((rd_T113 x14_3 (ji48)).f1) from Kd.V_mk ul141_1 ge141_1)
     clear hva_ hvn_ hvc_ ge141_1 ul141_1
     clear hcc141 hce141
     have HR141_1 := Aside0.mk hi141_1
     have HC141_1 := Aside0.mk hl141_1
     clear hi141_1 hl141_1
     replace p141 := eq_true p141
     replace q141 := eq_true q141
     refine start_ (n := 22) (S := fun w' => w'.cell? ⟨gb129, 0, none⟩ = some (.bool t125) ∧ w'.cell? ⟨gb129, 1, none⟩ = some (.slice Ao36 t126.length co36) ∧ w'.cell? (ad131.add ((x15_3).toNat * 2)) = some (.bool ((rd_T113 (rd_L6 x11_2 (ji38)) x15_3).f0)) ∧ w'.cell? ⟨(ad131.add ((x15_3).toNat * 2)).block, (ad131.add ((x15_3).toNat * 2)).off + 1, none⟩ = some (.slice A135_1 ((rd_T113 (rd_L6 x11_2 (ji38)) x15_3).f1).length c135_1) ∧ w'.cell? (ad131.add (((ji48)).toNat * 2)) = some (.bool ((rd_T113 (rd_L6 x11_2 (ji38)) (ji48)).f0)) ∧ w'.cell? ⟨(ad131.add (((ji48)).toNat * 2)).block, (ad131.add (((ji48)).toNat * 2)).off + 1, none⟩ = some (.slice A136_1 ((rd_T113 (rd_L6 x11_2 (ji38)) (ji48)).f1).length c136_1) ∧ w'.cell? (ad141.add (((ji48)).toNat * 2)) = some (.bool ((rd_T113 x14_3 (ji48)).f0)) ∧ w'.cell? ⟨(ad141.add (((ji48)).toNat * 2)).block, (ad141.add (((ji48)).toNat * 2)).off + 1, none⟩ = some (.slice A141_1 ((rd_T113 x14_3 (ji48)).f1).length c141_1)) (ds := [19, 20]) #[false, false, false, false, false, false, false, false, false, false, false, false, false, false, false, false, false, false, false, false, false, false] (by kernel_rfl) rfl rfl ⟨(blk_cell BK129.out 0).trans rfl, (blk_cell BK129.out 1).trans rfl, hx135_0, hx135_1, hx136_0, hx136_1, hx141_0, hx141_1⟩ (fun hHeld => ?_); refine with_tabW mw_table.tab18 mw_table.bits18 (fun HT_ HW_ => ?_)
     generalize wr.drew = w56 at HO_11 HO_13 HO_14 HO_130001 BK129 HB HL135_1 HL136_1 HL141_1 HR135_1 HR136_1 HR141_1 hx135_0 hx135_1 hx136_0 hx136_1 hx141_0 hx141_1 hHeld ⊢
     refine zp (i := 0) (N := some 71) HT_ ?_
     refine zp (i := 1) (N := some 72) HT_ ?_
     refine zp (i := 2) (N := some 73) HT_ ?_
     refine zp (i := 3) (N := some 74) HT_ ?_
     refine zp (i := 5) (N := some 76) HT_ ?_
     refine zp (i := 6) (N := some 77) HT_ ?_
     refine zp (i := 7) (N := some 78) HT_ ?_
     refine zp (i := 8) (N := some 79) HT_ ?_
     refine zp (i := 12) (N := some 83) HT_ ?_
     refine zp (i := 13) (N := some 84) HT_ ?_
     refine zp (i := 14) (N := some 85) HT_ ?_
     refine zp (i := 15) (N := some 86) HT_ ?_
     refine take_ (i := 4) (N := some 75) (v := ?_) (a' := ?_) #[true, true, true, true, true, true, true, true, true, false, false, false, true, true, true, true, false, false, false, false, false, false] rfl rfl (take_ofW HT_.out HW_.out (by kernel_rfl)) (fun _ _ _ h => h) (Or.inl ⟨by rfl, ?_⟩) hHeld ?_ ?_
     rotate_left
     · rintro w' ⟨s0, s1, s2, s3, s4, s5, s6, s7⟩
       go_simp
       with_reducible rfl
     rotate_left
     · simp only [Act.put, List.setIfInBounds_toArray, List.set_cons_zero, List.set_cons_succ, i64_w, i32_w]
       rfl
     refine take_ (i := 9) (N := some 80) (v := ?_) (a' := ?_) #[true, true, true, true, true, true, true, true, true, true, false, false, true, true, true, true, false, false, false, false, false, false] rfl rfl (take_ofW HT_.out HW_.out (by kernel_rfl)) (fun _ _ _ h => h) (Or.inl ⟨by rfl, ?_⟩) hHeld ?_ ?_
     rotate_left
     · rintro w' ⟨s0, s1, s2, s3, s4, s5, s6, s7⟩
       go_simp
       with_reducible rfl
     rotate_left
     · simp only [Act.put, List.setIfInBounds_toArray, List.set_cons_zero, List.set_cons_succ, i64_w, i32_w]
       rfl
     refine take_ (i := 11) (N := some 82) (v := ?_) (a' := ?_) #[true, true, true, true, true, true, true, true, true, true, false, true, true, true, true, true, false, false, false, false, false, false] rfl rfl (take_ofW HT_.out HW_.out (by kernel_rfl)) (fun _ _ _ h => h) (Or.inl ⟨by rfl, ?_⟩) hHeld ?_ ?_
     rotate_left
     · rintro w' ⟨s0, s1, s2, s3, s4, s5, s6, s7⟩
       go_simp
       with_reducible rfl
     rotate_left
     · simp only [Act.put, List.setIfInBounds_toArray, List.set_cons_zero, List.set_cons_succ, i64_w, i32_w]
       rfl
     refine take_ (i := 16) (N := some 87) (v := ?_) (a' := ?_) #[true, true, true, true, true, true, true, true, true, true, false, true, true, true, true, true, true, false, false, false, false, false] rfl rfl (take_ofW HT_.out HW_.out (by kernel_rfl)) (fun _ _ _ h => h) (Or.inl ⟨by rfl, ?_⟩) hHeld ?_ ?_
     rotate_left
     · rintro w' ⟨s0, s1, s2, s3, s4, s5, s6, s7⟩
       go_simp
       with_reducible rfl
     rotate_left
     · simp only [Act.put, List.setIfInBounds_toArray, List.set_cons_zero, List.set_cons_succ, i64_w, i32_w]
       rfl
     refine one_ (i := 10) (N := some 81) #[true, true, true, true, true, true, true, true, true, true, true, true, true, true, true, true, true, false, false, false, false, false] rfl rfl (one_of HT_.out (by kernel_rfl)) (by decide) (fun K hK => ?_)
     refine goes_ Try.func125 (by kernel_rfl) rfl #[.agg #[.bool ((rd_T113 (rd_L6 x11_2 (ji38)) x15_3).f0), .slice A135_1 ((rd_T113 (rd_L6 x11_2 (ji38)) x15_3).f1).length c135_1], .agg #[.bool ((rd_T113 (rd_L6 x11_2 (ji38)) (ji48)).f0), .slice A136_1 ((rd_T113 (rd_L6 x11_2 (ji38)) (ji48)).f1).length c136_1]] (by rfl) rfl rfl (by (try simp only [List.map_toArray, List.map_cons, List.map_nil]); first | done | (simp only [hji38, hji48]; rfl) | rfl | (simp only [List.length_drop, List.length_take]; rfl)) ?_
     with_reducible refine (mw_minus.calls k3 ((rd_T113 (rd_L6 x11_2 (ji38)) x15_3).f0) (fun k_ => ((w.heap.size ≤ k_) ∧ (some k_ ≠ (.slice (some ad130) x11_2.length co42 : Value).ownBlock ∧ (some k_ ≠ (.slice (some ad141) x14_3.length co57 : Value).ownBlock ∧ (some k_ ≠ (.slice Ao36 t126.length co36 : Value).ownBlock ∧ k_ ≠ gb129))))) _ _ ((rd_T113 (rd_L6 x11_2 (ji38)) x15_3).f1) ((rd_T113 (rd_L6 x11_2 (ji38)) (ji48)).f0) (fun k_ => ((w.heap.size ≤ k_) ∧ (some k_ ≠ (.slice (some ad130) x11_2.length co42 : Value).ownBlock ∧ (some k_ ≠ (.slice (some ad141) x14_3.length co57 : Value).ownBlock ∧ (some k_ ≠ (.slice Ao36 t126.length co36 : Value).ownBlock ∧ k_ ≠ gb129))))) _ _ ((rd_T113 (rd_L6 x11_2 (ji38)) (ji48)).f1) t137 t138 _ ?side1 ?side2 A51.out).mono ?_
     (case side1 => exact HL135_1.out)
     (case side2 => exact HL136_1.out)
     rintro e w58 ⟨v139, rfl, ho0, hb⟩
     have HS2_ := (hb.cell (World.block_lt_of_cell? _ _ (hHeld.2.2.1))).trans (hHeld.2.2.1)
     have HS3_ := (hb.cell (World.block_lt_of_cell? _ _ (hHeld.2.2.2.1))).trans (hHeld.2.2.2.1)
     have HS4_ := (hb.cell (World.block_lt_of_cell? _ _ (hHeld.2.2.2.2.1))).trans (hHeld.2.2.2.2.1)
     have HS5_ := (hb.cell (World.block_lt_of_cell? _ _ (hHeld.2.2.2.2.2.1))).trans (hHeld.2.2.2.2.2.1)
     have HS6_ := (hb.cell (World.block_lt_of_cell? _ _ (hHeld.2.2.2.2.2.2.1))).trans (hHeld.2.2.2.2.2.2.1)
     have HS7_ := (hb.cell (World.block_lt_of_cell? _ _ (hHeld.2.2.2.2.2.2.2))).trans (hHeld.2.2.2.2.2.2.2)
     refine ⟨_, rfl, ?_⟩
     replace HO_13 := yVb HO_13 hb
     replace HL135_1 := yVb HL135_1 hb
     replace HL136_1 := yVb HL136_1 hb
     replace HL141_1 := yVb HL141_1 hb
     have HO140 := Aside0.mk (Kd.V_lower (Kd.V_mono (ok' := fun k_ => (w.heap.size ≤ k_) ∧ some k_ ≠ (.slice (some ad130) x11_2.length co42 : Value).ownBlock ∧ some k_ ≠ (.slice (some ad141) x14_3.length co57 : Value).ownBlock ∧ some k_ ≠ (.slice Ao36 t126.length co36 : Value).ownBlock ∧ k_ ≠ gb129) ho0 (fun k_ hk_ => ⟨Or.elim hk_ (fun hs_ => Or.elim hs_ (fun hs_ => hs_.1) (fun hs_ => hs_.1)) (fun hn_ => (Nat.le_trans (below_size (zB1 HB.out GE129.out)) hn_)), Or.elim hk_ (fun hs_ => Or.elim hs_ (fun hs_ => hs_.2.1) (fun hs_ => hs_.2.1)) (fun hn_ => (Kd.fresh' (Kd.N_lt (zN HO_11.out)) k_ hn_)), Or.elim hk_ (fun hs_ => Or.elim hs_ (fun hs_ => hs_.2.2.1) (fun hs_ => hs_.2.2.1)) (fun hn_ => (Kd.fresh' (Kd.N_lt (zN HO_14.out)) k_ hn_)), Or.elim hk_ (fun hs_ => Or.elim hs_ (fun hs_ => hs_.2.2.2.1) (fun hs_ => hs_.2.2.2.1)) (fun hn_ => (Kd.fresh' (Kd.R_lt (zR HO_130001.out)) k_ hn_)), Or.elim hk_ (fun hs_ => Or.elim hs_ (fun hs_ => hs_.2.2.2.2) (fun hs_ => hs_.2.2.2.2)) (fun hn_ => (Kd.freshB (g := gb129) (o := .cells #[.bool t125, .slice Ao36 t126.length co36] 113 (0, 0)) (by (with_reducible repeat (first | refine blk_drewN ?_ _ | refine blk_drew ?_ | refine blk_alloc ?_ _)); exact BK129.out) k_ hn_))⟩)) (below_size (zB1 HB.out GE129.out)))
     replace HO_11 := yNb HO_11 hb
     replace HO_14 := yNb HO_14 hb
     replace HO_130001 := yRb HO_130001 hb
     replace BK129 := yK BK129 hb
     (try replace HR135_1 := yCb HR135_1 hb)
     (try replace HR136_1 := yCb HR136_1 hb)
     (try replace HR141_1 := yCb HR141_1 hb)
     replace HB := yS1 HB GE129 hb
     (try clear hb)
     (try clear ho0)
     refine hK.out _ _ ⟨(blk_cell BK129.out 0).trans rfl, (blk_cell BK129.out 1).trans rfl, HS2_, HS3_, HS4_, HS5_, HS6_, HS7_⟩ (fun hHeld => ?_)
     clear hK K
     refine norm_ (a' := ?_) ?_ ?_
     rotate_left
     · show Act.put _ (some 81) _ = _
       simp only [Act.put, List.setIfInBounds_toArray, List.set_cons_zero, List.set_cons_succ, i64_w, i32_w]
       rfl
     refine one_ (i := 17) (N := some 88) #[true, true, true, true, true, true, true, true, true, true, true, true, true, true, true, true, true, true, false, false, false, false] rfl rfl (one_of HT_.out (by kernel_rfl)) (by decide) (fun K hK => ?_)
     refine goes_ Try.func126 (by kernel_rfl) rfl #[.agg #[.bool t125, .slice Ao36 t126.length co36], .agg #[.bool ((rd_T113 x14_3 (ji48)).f0), .slice A141_1 ((rd_T113 x14_3 (ji48)).f1).length c141_1]] (by rfl) rfl rfl (by (try simp only [List.map_toArray, List.map_cons, List.map_nil]); first | done | (simp only [hji48]; rfl) | rfl | (simp only [List.length_drop, List.length_take]; rfl)) ?_
     with_reducible refine (mw_times.calls k3 t125 (fun k_ => some k_ = (.slice Ao36 t126.length co36 : Value).ownBlock) _ _ t126 ((rd_T113 x14_3 (ji48)).f0) (fun k_ => (((w.heap.size ≤ k_) ∧ (some k_ ≠ (.slice (some ad130) x11_2.length co42 : Value).ownBlock ∧ (some k_ ≠ (.slice Ao36 t126.length co36 : Value).ownBlock ∧ k_ ≠ gb129))) ∧ some k_ ≠ (.slice (some ad141) x14_3.length co57 : Value).ownBlock)) _ _ ((rd_T113 x14_3 (ji48)).f1) t142 t143 _ ?side1 ?side2 A53.out).mono ?_
     (case side1 => exact Kd.R_V (Kd.R_tight rfl (Kd.R_types (Kd.R_apart' (Kd.R_apart' (HO_130001.out) (Kd.N_typed HO_11.out) (by decide)) (Kd.N_typed HO_14.out) (by decide)) BK129.out (by decide))))
     (case side2 => exact HL141_1.out)
     rintro e w59 ⟨v144, rfl, ho0, hb⟩
     have HS2_ := (hb.cell (World.block_lt_of_cell? _ _ (hHeld.2.2.1))).trans (hHeld.2.2.1)
     have HS3_ := (hb.cell (World.block_lt_of_cell? _ _ (hHeld.2.2.2.1))).trans (hHeld.2.2.2.1)
     have HS4_ := (hb.cell (World.block_lt_of_cell? _ _ (hHeld.2.2.2.2.1))).trans (hHeld.2.2.2.2.1)
     have HS5_ := (hb.cell (World.block_lt_of_cell? _ _ (hHeld.2.2.2.2.2.1))).trans (hHeld.2.2.2.2.2.1)
     have HS6_ := (hb.cell (World.block_lt_of_cell? _ _ (hHeld.2.2.2.2.2.2.1))).trans (hHeld.2.2.2.2.2.2.1)
     have HS7_ := (hb.cell (World.block_lt_of_cell? _ _ (hHeld.2.2.2.2.2.2.2))).trans (hHeld.2.2.2.2.2.2.2)
     refine ⟨_, rfl, ?_⟩
     replace HO_11 := yNe HO_11 ho0 hb
     replace HO_13 := yVe HO_13 ho0 hb
     replace HO_14 := yNe HO_14 ho0 hb
     replace HL135_1 := yVe HL135_1 ho0 hb
     replace HL136_1 := yVe HL136_1 ho0 hb
     replace HL141_1 := yVe HL141_1 ho0 hb
     replace HO140 := yVe HO140 ho0 hb
     replace ho0 := Kd.R_newM (M := fun k_ => (w.heap.size ≤ k_)) (yt ho0) (below_size (zB1 HB.out GE129.out)) (fun k_ h_ => h_)
     replace ho0 := yn ho0 HO_130001
     have HO145 := yRl1 ho0 HB GE129
     replace HO_130001 := yRe HO_130001 ho0 hb
     replace BK129 := yK BK129 hb
     (try replace HR135_1 := yCb HR135_1 hb)
     (try replace HR136_1 := yCb HR136_1 hb)
     (try replace HR141_1 := yCb HR141_1 hb)
     replace HB := yS1 HB GE129 hb
     (try clear hb)
     (try clear ho0)
     obtain ⟨Ao60, co60, eo60⟩ := Kd.V_slice HO140.out
     (first | subst eo60 | (injection eo60 with f1_ f2_ f3_; have f4_ := f1_.symm; have f5_ := f3_.symm; clear f1_ f2_ f3_; subst f4_; subst f5_))
     obtain ⟨Ao61, co61, eo61⟩ := Kd.R_slice HO145.out
     (first | subst eo61 | (injection eo61 with f1_ f2_ f3_; have f4_ := f1_.symm; have f5_ := f3_.symm; clear f1_ f2_ f3_; subst f4_; subst f5_))
     refine hK.out _ _ ⟨(blk_cell BK129.out 0).trans rfl, (blk_cell BK129.out 1).trans rfl, HS2_, HS3_, HS4_, HS5_, HS6_, HS7_⟩ (fun hHeld => ?_)
     clear hK K
     refine norm_ (a' := ?_) ?_ ?_
     rotate_left
     · show Act.put _ (some 88) _ = _
       simp only [Act.put, List.setIfInBounds_toArray, List.set_cons_zero, List.set_cons_succ, i64_w, i32_w]
       rfl
     refine one_ (i := 18) (N := some 89) #[true, true, true, true, true, true, true, true, true, true, true, true, true, true, true, true, true, true, true, false, false, false] rfl rfl (one_of HT_.out (by kernel_rfl)) (by decide) (fun K hK => ?_)
     refine goes_ Try.func125 (by kernel_rfl) rfl #[.agg #[.bool t137, .slice Ao60 t138.length co60], .agg #[.bool t142, .slice Ao61 t143.length co61]] (by rfl) rfl rfl (by (try simp only [List.map_toArray, List.map_cons, List.map_nil]); first | done | rfl | (simp only [List.length_drop, List.length_take]; rfl)) ?_
     with_reducible refine (mw_minus.calls k3 t137 (fun k_ => (((w.heap.size ≤ k_) ∧ (some k_ ≠ (.slice (some ad130) x11_2.length co42 : Value).ownBlock ∧ (some k_ ≠ (.slice (some ad141) x14_3.length co57 : Value).ownBlock ∧ (some k_ ≠ (.slice Ao36 t126.length co36 : Value).ownBlock ∧ k_ ≠ gb129)))) ∧ some k_ ≠ (.slice Ao61 t143.length co61 : Value).ownBlock)) _ _ t138 t142 (fun k_ => some k_ = (.slice Ao61 t143.length co61 : Value).ownBlock) _ _ t143 t146 t147 _ ?side1 ?side2 A54.out).mono ?_
     (case side1 => exact HO140.out)
     (case side2 => exact Kd.R_V (Kd.R_tight rfl (Kd.R_types (Kd.R_apart' (Kd.R_apart' (HO145.out) (Kd.N_typed HO_11.out) (by decide)) (Kd.N_typed HO_14.out) (by decide)) BK129.out (by decide))))
     rintro e w62 ⟨v148, rfl, ho0, hb⟩
     have HS2_ := (hb.cell (World.block_lt_of_cell? _ _ (hHeld.2.2.1))).trans (hHeld.2.2.1)
     have HS3_ := (hb.cell (World.block_lt_of_cell? _ _ (hHeld.2.2.2.1))).trans (hHeld.2.2.2.1)
     have HS4_ := (hb.cell (World.block_lt_of_cell? _ _ (hHeld.2.2.2.2.1))).trans (hHeld.2.2.2.2.1)
     have HS5_ := (hb.cell (World.block_lt_of_cell? _ _ (hHeld.2.2.2.2.2.1))).trans (hHeld.2.2.2.2.2.1)
     have HS6_ := (hb.cell (World.block_lt_of_cell? _ _ (hHeld.2.2.2.2.2.2.1))).trans (hHeld.2.2.2.2.2.2.1)
     have HS7_ := (hb.cell (World.block_lt_of_cell? _ _ (hHeld.2.2.2.2.2.2.2))).trans (hHeld.2.2.2.2.2.2.2)
     refine ⟨_, rfl, ?_⟩
     replace HO_13 := yVb HO_13 hb
     replace HL135_1 := yVb HL135_1 hb
     replace HL136_1 := yVb HL136_1 hb
     replace HL141_1 := yVb HL141_1 hb
     replace HO140 := yVb HO140 hb
     have HO149 := Aside0.mk (Kd.V_lower (Kd.V_mono (ok' := fun k_ => (w.heap.size ≤ k_) ∧ some k_ ≠ (.slice (some ad130) x11_2.length co42 : Value).ownBlock ∧ some k_ ≠ (.slice (some ad141) x14_3.length co57 : Value).ownBlock ∧ some k_ ≠ (.slice Ao36 t126.length co36 : Value).ownBlock ∧ k_ ≠ gb129) ho0 (fun k_ hk_ => ⟨Or.elim hk_ (fun hs_ => Or.elim hs_ (fun hs_ => hs_.1.1) (fun hs_ => ((Kd.R_types (Kd.R_apart' (Kd.R_apart' (HO145.out) (Kd.N_typed HO_11.out) (by decide)) (Kd.N_typed HO_14.out) (by decide)) BK129.out (by decide)).1 k_ hs_.symm).1.1.1.1.1)) (fun hn_ => (Nat.le_trans (below_size (zB1 HB.out GE129.out)) hn_)), Or.elim hk_ (fun hs_ => Or.elim hs_ (fun hs_ => hs_.1.2.1) (fun hs_ => ((Kd.R_types (Kd.R_apart' (Kd.R_apart' (HO145.out) (Kd.N_typed HO_11.out) (by decide)) (Kd.N_typed HO_14.out) (by decide)) BK129.out (by decide)).1 k_ hs_.symm).1.1.2)) (fun hn_ => (Kd.fresh' (Kd.N_lt (zN HO_11.out)) k_ hn_)), Or.elim hk_ (fun hs_ => Or.elim hs_ (fun hs_ => hs_.1.2.2.1) (fun hs_ => ((Kd.R_types (Kd.R_apart' (Kd.R_apart' (HO145.out) (Kd.N_typed HO_11.out) (by decide)) (Kd.N_typed HO_14.out) (by decide)) BK129.out (by decide)).1 k_ hs_.symm).1.2)) (fun hn_ => (Kd.fresh' (Kd.N_lt (zN HO_14.out)) k_ hn_)), Or.elim hk_ (fun hs_ => Or.elim hs_ (fun hs_ => hs_.1.2.2.2.1) (fun hs_ => ((Kd.R_types (Kd.R_apart' (Kd.R_apart' (HO145.out) (Kd.N_typed HO_11.out) (by decide)) (Kd.N_typed HO_14.out) (by decide)) BK129.out (by decide)).1 k_ hs_.symm).1.1.1.2)) (fun hn_ => (Kd.fresh' (Kd.R_lt (zR HO_130001.out)) k_ hn_)), Or.elim hk_ (fun hs_ => Or.elim hs_ (fun hs_ => hs_.1.2.2.2.2) (fun hs_ => ((Kd.R_types (Kd.R_apart' (Kd.R_apart' (HO145.out) (Kd.N_typed HO_11.out) (by decide)) (Kd.N_typed HO_14.out) (by decide)) BK129.out (by decide)).1 k_ hs_.symm).2)) (fun hn_ => (Kd.freshB (g := gb129) (o := .cells #[.bool t125, .slice Ao36 t126.length co36] 113 (0, 0)) (by (with_reducible repeat (first | refine blk_drewN ?_ _ | refine blk_drew ?_ | refine blk_alloc ?_ _)); exact BK129.out) k_ hn_))⟩)) (below_size (zB1 HB.out GE129.out)))
     replace HO_11 := yNb HO_11 hb
     replace HO_14 := yNb HO_14 hb
     replace HO_130001 := yRb HO_130001 hb
     replace HO145 := yRb HO145 hb
     replace BK129 := yK BK129 hb
     (try replace HR135_1 := yCb HR135_1 hb)
     (try replace HR136_1 := yCb HR136_1 hb)
     (try replace HR141_1 := yCb HR141_1 hb)
     replace HB := yS1 HB GE129 hb
     (try clear hb)
     (try clear ho0)
     obtain ⟨Ao64, co64, eo64⟩ := Kd.V_slice HO149.out
     (first | subst eo64 | (injection eo64 with f1_ f2_ f3_; have f4_ := f1_.symm; have f5_ := f3_.symm; clear f1_ f2_ f3_; subst f4_; subst f5_))
     refine hK.out _ _ ⟨(blk_cell BK129.out 0).trans rfl, (blk_cell BK129.out 1).trans rfl, HS2_, HS3_, HS4_, HS5_, HS6_, HS7_⟩ (fun hHeld => ?_)
     clear hK K
     refine norm_ (a' := ?_) ?_ ?_
     rotate_left
     · show Act.put _ (some 89) _ = _
       simp only [Act.put, List.setIfInBounds_toArray, List.set_cons_zero, List.set_cons_succ, i64_w, i32_w]
       rfl
     refine last_ (i := 19) (N := some 90) #[true, true, true, true, true, true, true, true, true, true, true, true, true, true, true, true, true, true, true, true, false, false] rfl rfl (one_of HT_.out (by kernel_rfl)) (by decide) (fun K hK => ?_)
     refine value_ (w1 := ?_) (v := ?_) (by rfl) rfl ?_ ?_
     rotate_left 2
     · go_simp
       constructor
       · rfl
       rfl
     refine hK.out _ _ ?_
     clear hK K
     refine norm_ (a' := ?_) ?_ ?_
     rotate_left
     · show Act.put _ (some 90) _ = _
       simp only [Act.put, List.setIfInBounds_toArray, List.set_cons_zero, List.set_cons_succ, i64_w, i32_w]
       rfl
     refine last_ (i := 20) (N := some 91) #[true, true, true, true, true, true, true, true, true, true, true, true, true, true, true, true, true, true, true, true, true, false] rfl rfl (one_of HT_.out (by kernel_rfl)) (by decide) (fun K hK => ?_)
     refine Kd.N_append_step k113 (w0 := w) w.heap.size (by rfl) (.tmp 71) (.tmp 90) 114 113 (.agg #[(.bool false), (.slice none 0 0)]) 32 rfl Try.underlying114 info113 rfl (by decide) (by omega) (.slice (some ad141) x14_3.length co57) x14_3 (⟨t146, t147⟩ : S113) [.bool t146, .slice Ao64 t147.length co64] (fun k_ => (w.heap.size ≤ k_) ∧ some k_ ≠ (.slice (some ad130) x11_2.length co42 : Value).ownBlock ∧ some k_ ≠ (.slice Ao36 t126.length co36 : Value).ownBlock ∧ k_ ≠ gb129) (fun k_ => ((fun k_ => (w.heap.size ≤ k_) ∧ some k_ ≠ (.slice (some ad130) x11_2.length co42 : Value).ownBlock ∧ some k_ ≠ (.slice Ao36 t126.length co36 : Value).ownBlock ∧ k_ ≠ gb129)) k_ ∧ some k_ ≠ (.slice (some ad141) x14_3.length co57 : Value).ownBlock) rfl rfl ?aP (fun _ hk => hk) ?aF ?aO ?aB ?aS ?aL ?_
     (case aP => exact (k113_mkF _ _ (⟨t146, t147⟩ : S113) (Kd.V_reads' (Kd.V_mono (ok' := (fun k_ => ((fun k_ => (w.heap.size ≤ k_) ∧ some k_ ≠ (.slice (some ad130) x11_2.length co42 : Value).ownBlock ∧ some k_ ≠ (.slice Ao36 t126.length co36 : Value).ownBlock ∧ k_ ≠ gb129)) k_ ∧ some k_ ≠ (.slice (some ad141) x14_3.length co57 : Value).ownBlock)) (HO149.out) (fun k_ hk => by exact ⟨⟨hk.1, ⟨hk.2.1, ⟨hk.2.2.2.1, hk.2.2.2.2⟩⟩⟩, hk.2.2.1⟩))).2.1 (Kd.V_F (Kd.V_mono (ok' := (fun k_ => ((fun k_ => (w.heap.size ≤ k_) ∧ some k_ ≠ (.slice (some ad130) x11_2.length co42 : Value).ownBlock ∧ some k_ ≠ (.slice Ao36 t126.length co36 : Value).ownBlock ∧ k_ ≠ gb129)) k_ ∧ some k_ ≠ (.slice (some ad141) x14_3.length co57 : Value).ownBlock)) (HO149.out) (fun k_ hk => by exact ⟨⟨hk.1, ⟨hk.2.1, ⟨hk.2.2.2.1, hk.2.2.2.2⟩⟩⟩, hk.2.2.1⟩)))))
     (case aB => exact (zB1 HB.out GE129.out))
     (case aF => exact (fun k_ hk => ⟨(Nat.le_trans (below_size (zB1 HB.out GE129.out)) hk), Kd.fresh' (Kd.N_lt (zN HO_11.out)) k_ hk, Kd.fresh' (Kd.R_lt (zR HO_130001.out)) k_ hk, Kd.freshB (g := gb129) (o := .cells #[.bool t125, .slice Ao36 t126.length co36] 113 (0, 0)) (by (with_reducible repeat (first | refine blk_drewN ?_ _ | refine blk_drew ?_ | refine blk_alloc ?_ _)); exact BK129.out) k_ hk⟩))
     (case aO => exact (by (with_reducible repeat (first | apply Kd.N_alloc | apply Kd.N_drewN | apply Kd.N_drew)); exact Kd.N_mono HO_14.out (fun _ hk => ⟨hk.1.1, ⟨hk.1.2.1, ⟨hk.1.2.2.1, hk.1.2.2.2⟩⟩⟩)))
     (case aS => exact (below_size (zB1 HB.out GE129.out)))
     (case aL => have := LMc55.out; omega)
     intro v151 w63 ho hb hg hat
     rw [← Ny150.out] at ho
     replace HO_11 := Aside0.mk (Kd.N_afterv (ok := (fun k_ => (w.heap.size ≤ k_) ∧ some k_ ≠ (.slice Ao36 t126.length co36 : Value).ownBlock ∧ some k_ ≠ (.slice Ao61 t143.length co61 : Value).ownBlock ∧ k_ ≠ gb129)) (by (with_reducible repeat (first | apply Kd.N_alloc | apply Kd.N_drewN | apply Kd.N_drew)); exact Kd.N_mono HO_11.out (fun _ hk => ⟨⟨hk.1.1, ⟨hk.1.2.2.1, ⟨hk.2, hk.1.2.2.2⟩⟩⟩, hk.1.2.1⟩)) hg hat)
     replace HO_13 := Aside0.mk (Kd.V_afterv (ok := (fun k_ => (w.heap.size ≤ k_) ∧ some k_ ≠ (.slice (some ad130) x11_2.length co42 : Value).ownBlock ∧ some k_ ≠ (.slice Ao36 t126.length co36 : Value).ownBlock ∧ some k_ ≠ (.slice Ao61 t143.length co61 : Value).ownBlock ∧ k_ ≠ gb129)) (by (with_reducible repeat (first | apply Kd.V_alloc | apply Kd.V_drewN | apply Kd.V_drew)); exact Kd.V_mono HO_13.out (fun _ hk => ⟨⟨hk.1.1, ⟨hk.1.2.1, ⟨hk.1.2.2.2.1, ⟨hk.2, hk.1.2.2.2.2⟩⟩⟩⟩, hk.1.2.2.1⟩)) hg hat)
     replace HO_130001 := Aside0.mk (Kd.R_over' (zR HO_130001.out) (Kd.N_typed (zN HO_14.out)) (by decide) hg)
     replace BK129 := Aside0.mk (blk_grown (g := gb129) (o := .cells #[.bool t125, .slice Ao36 t126.length co36] 113 (0, 0)) (by (with_reducible repeat (first | refine blk_drewN ?_ _ | refine blk_drew ?_ | refine blk_alloc ?_ _)); exact BK129.out) hg (Kd.N_away HO_14.out (fun _ hk => hk.1.2.2.2)))
     replace HL135_1 := Aside0.mk (Kd.V_afterv (ok := (fun k_ => (w.heap.size ≤ k_) ∧ some k_ ≠ (.slice (some ad130) x11_2.length co42 : Value).ownBlock ∧ some k_ ≠ (.slice Ao36 t126.length co36 : Value).ownBlock ∧ some k_ ≠ (.slice Ao61 t143.length co61 : Value).ownBlock ∧ k_ ≠ gb129)) (by (with_reducible repeat (first | apply Kd.V_alloc | apply Kd.V_drewN | apply Kd.V_drew)); exact Kd.V_mono HL135_1.out (fun _ hk => ⟨⟨hk.1.1, ⟨hk.1.2.1, ⟨hk.1.2.2.2.1, ⟨hk.2, hk.1.2.2.2.2⟩⟩⟩⟩, hk.1.2.2.1⟩)) hg hat)
     replace HL136_1 := Aside0.mk (Kd.V_afterv (ok := (fun k_ => (w.heap.size ≤ k_) ∧ some k_ ≠ (.slice (some ad130) x11_2.length co42 : Value).ownBlock ∧ some k_ ≠ (.slice Ao36 t126.length co36 : Value).ownBlock ∧ some k_ ≠ (.slice Ao61 t143.length co61 : Value).ownBlock ∧ k_ ≠ gb129)) (by (with_reducible repeat (first | apply Kd.V_alloc | apply Kd.V_drewN | apply Kd.V_drew)); exact Kd.V_mono HL136_1.out (fun _ hk => ⟨⟨hk.1.1, ⟨hk.1.2.1, ⟨hk.1.2.2.2.1, ⟨hk.2, hk.1.2.2.2.2⟩⟩⟩⟩, hk.1.2.2.1⟩)) hg hat)
     replace HL141_1 := Aside0.mk (Kd.V_afterv (ok := (fun k_ => (w.heap.size ≤ k_) ∧ some k_ ≠ (.slice (some ad130) x11_2.length co42 : Value).ownBlock ∧ some k_ ≠ (.slice Ao36 t126.length co36 : Value).ownBlock ∧ some k_ ≠ (.slice Ao61 t143.length co61 : Value).ownBlock ∧ k_ ≠ gb129)) (by (with_reducible repeat (first | apply Kd.V_alloc | apply Kd.V_drewN | apply Kd.V_drew)); exact Kd.V_mono HL141_1.out (fun _ hk => ⟨⟨hk.1.1.1, ⟨hk.1.1.2.1, ⟨hk.1.1.2.2.1, ⟨hk.2, hk.1.1.2.2.2⟩⟩⟩⟩, hk.1.2⟩)) hg hat)
     replace HO140 := Aside0.mk (Kd.V_afterv (ok := (fun k_ => (w.heap.size ≤ k_) ∧ some k_ ≠ (.slice (some ad130) x11_2.length co42 : Value).ownBlock ∧ some k_ ≠ (.slice Ao36 t126.length co36 : Value).ownBlock ∧ some k_ ≠ (.slice Ao61 t143.length co61 : Value).ownBlock ∧ k_ ≠ gb129)) (by (with_reducible repeat (first | apply Kd.V_alloc | apply Kd.V_drewN | apply Kd.V_drew)); exact Kd.V_mono HO140.out (fun _ hk => ⟨⟨hk.1.1, ⟨hk.1.2.1, ⟨hk.1.2.2.2.1, ⟨hk.2, hk.1.2.2.2.2⟩⟩⟩⟩, hk.1.2.2.1⟩)) hg hat)
     replace HO145 := Aside0.mk (Kd.R_over' (zR HO145.out) (Kd.N_typed (zN HO_14.out)) (by decide) hg)
     replace HO149 := Aside0.mk (Kd.V_afterv (ok := (fun k_ => (w.heap.size ≤ k_) ∧ some k_ ≠ (.slice (some ad130) x11_2.length co42 : Value).ownBlock ∧ some k_ ≠ (.slice Ao36 t126.length co36 : Value).ownBlock ∧ k_ ≠ gb129)) (by (with_reducible repeat (first | apply Kd.V_alloc | apply Kd.V_drewN | apply Kd.V_drew)); exact Kd.V_mono HO149.out (fun _ hk => ⟨⟨hk.1, ⟨hk.2.1, ⟨hk.2.2.2.1, hk.2.2.2.2⟩⟩⟩, hk.2.2.1⟩)) hg hat)
     replace HB := Aside0.mk (hb)
     have HO152 := Aside0.mk (ho)
     clear HO_14
     clear ho hb hg hat
     refine hK.out _ _ ?_
     clear hK K
     refine norm_ (a' := ?_) ?_ ?_
     rotate_left
     · show Act.put _ (some 91) _ = _
       simp only [Act.put, List.setIfInBounds_toArray, List.set_cons_zero, List.set_cons_succ, i64_w, i32_w]
       rfl
     refine zp (i := 21) (N := some 14) HT_ ?_
     refine done_ (done_of HT_.out (by kernel_rfl)) ?_
     try go_wp2
     go_roundg k3
     case measure => have := HK1.out; have := HK2.out; have := HK3.out; omega
     case rel => exact ⟨(y150), (wrap64 (x15_3 + 1)), zF, H', ⟨by have := HK1.out; have := HK2.out; have := HK3.out; omega⟩, ⟨by (try simp only [hl5_1]); (with_reducible repeat (first | apply Kd.N_alloc | apply Kd.N_drewN | apply Kd.N_drew)); exact Kd.N_mono HO_11.out (fun _ hk => ⟨hk.1.1, ⟨hk.2, ⟨hk.1.2.1, hk.1.2.2.2⟩⟩⟩)⟩, ⟨by (try simp only [hl5_1]); (with_reducible repeat (first | apply Kd.V_alloc | apply Kd.V_drewN | apply Kd.V_drew)); exact Kd.V_mono HO_13.out (fun _ hk => ⟨hk.1.1, ⟨hk.1.2.1, ⟨hk.2, ⟨hk.1.2.2.1, hk.1.2.2.2.2⟩⟩⟩⟩)⟩, ⟨by (try simp only [hl5_1]); (with_reducible repeat (first | apply Kd.N_alloc | apply Kd.N_drewN | apply Kd.N_drew)); exact HO152.out⟩, ⟨by (try simp only [hl5_1]); (with_reducible repeat (first | apply Kd.R_alloc | apply Kd.R_drewN | apply Kd.R_drew)); exact Kd.R_mono HO_130001.out (fun _ hk => hk.1)⟩, ⟨by (try simp only [hl5_1]); (with_reducible repeat (first | refine blk_drewN ?_ _ | refine blk_drew ?_ | refine blk_alloc ?_ _)); exact BK129.out⟩, ⟨zB1 HB.out GE129.out⟩⟩
   replace H := zg H
   obtain ⟨c65, H⟩ := H
   have LMc65 := Aside0.mk c65
   clear c65
   obtain ⟨y153, hy153⟩ : ∃ y_ : List (List (S113)), y_ = (x11_2 ++ [x14_3]) := ⟨_, rfl⟩
   replace H : (mw_table.l1 k3 a1 y153 a1 (wrap64 (x54_2 + 1)) t125 t126) = some r := zY hy153 H
   have Ny153 := Aside0.mk hy153
   clear hy153
   have H' := Aside0.mk H
   clear H
   obtain ⟨Ao67, co67, rfl⟩ := Kd.N_slice HO_14.out
   go_wp2_with (first | ((with_reducible refine gate_builtin (b := .append) (xs := #[.tmp 92, .tmp 94]) rfl ?_); at_builtin; refine Kd.N_append (Kd.slice 113 k113) (w0 := w) w.heap.size rfl (.tmp 92) (.tmp 94) 115 114 (.slice none 0 0) 24 rfl Try.underlying115 info114 rfl (by decide) (by omega) (.slice (some ad130) x11_2.length co42) x11_2 x14_3 [.slice Ao67 x14_3.length co67] (fun k_ => (w.heap.size ≤ k_) ∧ some k_ ≠ (.slice Ao36 t126.length co36 : Value).ownBlock ∧ k_ ≠ gb129) (fun k_ => ((fun k_ => (w.heap.size ≤ k_) ∧ some k_ ≠ (.slice Ao36 t126.length co36 : Value).ownBlock ∧ k_ ≠ gb129)) k_ ∧ some k_ ≠ (.slice (some ad130) x11_2.length co42 : Value).ownBlock) rfl rfl ?aP (fun _ hk => hk) ?aF ?aO ?aB ?aS ?aL ?_; (case aP => exact (Kd.FK_slice_mk (Kd.N_reads' (Kd.N_mono (ok' := (fun k_ => ((fun k_ => (w.heap.size ≤ k_) ∧ some k_ ≠ (.slice Ao36 t126.length co36 : Value).ownBlock ∧ k_ ≠ gb129)) k_ ∧ some k_ ≠ (.slice (some ad130) x11_2.length co42 : Value).ownBlock)) (HO_14.out) (fun k_ hk => by exact ⟨⟨hk.1, ⟨hk.2.2.1, hk.2.2.2⟩⟩, hk.2.1⟩))).2.1 (Kd.N_F (Kd.N_mono (ok' := (fun k_ => ((fun k_ => (w.heap.size ≤ k_) ∧ some k_ ≠ (.slice Ao36 t126.length co36 : Value).ownBlock ∧ k_ ≠ gb129)) k_ ∧ some k_ ≠ (.slice (some ad130) x11_2.length co42 : Value).ownBlock)) (HO_14.out) (fun k_ hk => by exact ⟨⟨hk.1, ⟨hk.2.2.1, hk.2.2.2⟩⟩, hk.2.1⟩))))); (case aB => exact (zB1 HB.out GE129.out)); (case aF => exact (fun k_ hk => ⟨(Nat.le_trans (below_size (zB1 HB.out GE129.out)) hk), Kd.fresh' (Kd.R_lt (zR HO_130001.out)) k_ hk, Kd.freshB (g := gb129) (o := .cells #[.bool t125, .slice Ao36 t126.length co36] 113 (0, 0)) (by (with_reducible repeat (first | refine blk_drewN ?_ _ | refine blk_drew ?_ | refine blk_alloc ?_ _)); exact BK129.out) k_ hk⟩)); (case aO => exact (by (with_reducible repeat (first | apply Kd.N_alloc | apply Kd.N_drewN | apply Kd.N_drew)); exact Kd.N_mono HO_11.out (fun _ hk => ⟨hk.1, ⟨hk.2.2.1, hk.2.2.2⟩⟩))); (case aS => exact (below_size (zB1 HB.out GE129.out))); (case aL => have := LMc65.out; omega); intro v154 w66 ho hb hg hat; rw [← Ny153.out] at ho; replace HO_13 := Aside0.mk (Kd.V_afterv (ok := (fun k_ => (w.heap.size ≤ k_) ∧ some k_ ≠ (.slice Ao67 x14_3.length co67 : Value).ownBlock ∧ some k_ ≠ (.slice Ao36 t126.length co36 : Value).ownBlock ∧ k_ ≠ gb129)) (by (with_reducible repeat (first | apply Kd.V_alloc | apply Kd.V_drewN | apply Kd.V_drew)); exact Kd.V_mono HO_13.out (fun _ hk => ⟨⟨hk.1, ⟨hk.2.2.1, ⟨hk.2.2.2.1, hk.2.2.2.2⟩⟩⟩, hk.2.1⟩)) hg hat); replace HO_130001 := Aside0.mk (Kd.R_over' (zR HO_130001.out) (Kd.N_typed (zN HO_11.out)) (by decide) hg); replace BK129 := Aside0.mk (blk_grown (g := gb129) (o := .cells #[.bool t125, .slice Ao36 t126.length co36] 113 (0, 0)) (by (with_reducible repeat (first | refine blk_drewN ?_ _ | refine blk_drew ?_ | refine blk_alloc ?_ _)); exact BK129.out) hg (Kd.N_ne HO_11.out BK129.out (by decide))); replace HB := Aside0.mk (hb); have HO155 := Aside0.mk (ho); clear HO_11 HO_14; clear ho hb hg hat))
   go_roundg k3
   case measure => have := HK1.out; have := HK2.out; have := HK3.out; omega
   case rel => exact ⟨(y153), (wrap64 (x54_2 + 1)), zF, H', ⟨by have := HK1.out; have := HK2.out; have := HK3.out; omega⟩, ⟨by (try simp only [hl5_1]); (with_reducible repeat (first | apply Kd.N_alloc | apply Kd.N_drewN | apply Kd.N_drew)); exact HO155.out⟩, ⟨by (try simp only [hl5_1]); (with_reducible repeat (first | apply Kd.R_alloc | apply Kd.R_drewN | apply Kd.R_drew)); exact HO_130001.out⟩, ⟨by (try simp only [hl5_1]); (with_reducible repeat (first | refine blk_drewN ?_ _ | refine blk_drew ?_ | refine blk_alloc ?_ _)); exact BK129.out⟩, ⟨zB1 HB.out GE129.out⟩⟩
 obtain rfl := Option.some.inj H
 go_wp2
 go_ret
 exact ⟨_, by first | rfl | (simp [errW_none, errW_some] <;> rfl) | (simp only [← hji3]; first | rfl | (simp [errW_none, errW_some] <;> rfl)) | (simp [*, errW_none, errW_some] <;> rfl), by (with_reducible repeat (first | apply Kd.N_alloc | apply Kd.N_drewN | apply Kd.N_drew)); exact Kd.N_mono HO_11.out (fun _ hk => hk.1), zB1 HB.out GE129.out⟩
def mw_sums.T10 : Bool × List (List Nat × List Nat) := (true, [([], []), ([], []), ([], []), ([], []), ([2, 3], [2, 3]), ([4], [4]), ([], []), ([], []), ([], []), ([7, 8], [7, 8]), ([9], [9]), ([], []), ([10, 11], [10, 11]), ([12], [12]), ([6, 13], [6, 13]), ([5, 14, 14], [5, 14]), ([0, 1, 0, 1, 2, 3, 4, 5, 6, 7, 8, 9, 10, 11, 12, 13, 14, 15], [0, 1]), ([16, 15, 15, 0, 1, 2, 3, 4, 5, 6, 7, 8, 9, 10, 11, 12, 13, 14, 15], [15, 16])])
def mw_sums.B10 : List Nat := [0, 0, 0, 0, 12, 28, 0, 0, 0, 384, 896, 0, 3968, 8064, 16320, 32764, 65535, 131071]
theorem mw_sums.tab10 : rtab .any (opsOf Try.f104 10) = mw_sums.T10 := by kernel_rfl
theorem mw_sums.bits10 : waitsOk mw_sums.T10.2 mw_sums.B10 = true := by kernel_rfl
set_option maxHeartbeats 8000000 in
set_option maxRecDepth 100000 in
theorem mw_sums.calls (k : Nat) (a0 : Int) (A1 : Option Addr) (c1 : Nat) (l1 : List (S113)) (r : List (S113)) (w : World) (hr1 : Kd.C k113 w A1 l1.length l1) (hc1 : l1.length ≤ c1) (h : mw_sums.f k a0 l1 = some r) :
    Calls Try.prog 104 #[.int .i64 a0, .slice A1 l1.length c1] w fun e w' => ∃ v0_ : Value, e = .returned (v0_) ∧ Kd.N k113 113 w' w.heap.size (fun k_ => (w.heap.size ≤ k_)) v0_ r ∧ Below w.heap.size w w' := by
 have hu113 := Try.underlying113
 have HR1 := Aside0.mk hr1
 have HC1 := Aside0.mk hc1
 clear hr1 hc1
 have HB := Aside0.mk (Below.refl w.heap.size w)
 have H : ((mw_table.f k a0 (wrap64 ((l1.length : Int) - 1))).bind fun t101 => (if 0 ≤ (l1.length : Int) then (if ((l1.length : Int) : Int).toNat ≤ 8796093022208 then ((some (List.replicate ((l1.length : Int) : Int).toNat z113 : List (S113))).bind fun y104 => (mw_sums.l0 k l1 t101 y104 (y104.length : Int) 0)) else (none)) else (none))) = some r := h
 clear h
 replace H := zb H
 obtain ⟨t101, A3, H⟩ := H
 replace H := zg H
 obtain ⟨c4, H⟩ := H
 have c4b0 := eq_true c4
 have c4b1 := decide_eq_true c4
 clear c4
 replace H := zg H
 obtain ⟨c5, H⟩ := H
 have c5b0 := eq_true c5
 have c5b1 := decide_eq_true c5
 clear c5
 obtain ⟨y104, hy104⟩ : ∃ y_ : List (S113), y_ = (List.replicate ((l1.length : Int) : Int).toNat z113) := ⟨_, rfl⟩
 replace H : (mw_sums.l0 k l1 t101 y104 (y104.length : Int) 0) = some r := zY hy104 H
 have Ny104 := Aside0.mk hy104
 clear hy104
 have H' := Aside0.mk H
 clear H
 go_enter Try.func104, Try.ntmps104
 go_wp2_with (first | ((with_reducible refine gC 94 ?_); refine zG (some 14) Try.func94 #[.int .i64 a0, .int .i64 (wrap64 ((l1.length : Int) - 1))] ?_; (with_reducible refine (mw_table.calls k a0 (wrap64 ((l1.length : Int) - 1)) t101 _ A3.out).mono ?_); rintro e w6 ⟨v102, rfl, ho0, hb⟩; refine ⟨_, rfl, ?_⟩; have HO103 := Aside0.mk (Kd.N_lower (Kd.N_mono (ok' := fun k_ => (w.heap.size ≤ k_)) ho0 (fun k_ hk_ => (Nat.le_trans (below_size (zB HB.out)) hk_))) (below_size (zB HB.out))); replace HB := yS HB hb; (try clear hb ho0)) | ((with_reducible refine gate_dst (N := 17) rfl ?_); refine Kd.N_make k113 _ 113 rfl (N' := 17) rfl 114 _ _ rfl (l1.length : Int) rfl rfl Try.underlying114 (.agg #[(.bool false), (.slice none 0 0)]) 32 info113 rfl (by decide) (by omega) z113 (ok := fun k_ => w6.heap.size ≤ k_) (okp := fun _ => False) (k113_mkF _ _ z113 (Nat.le_refl _) (Kd.F_nil _ _ _)) (fun _ hk => hk.elim) (Nat.le_refl _) zd (Nat.le_trans (Nat.mul_le_mul_right _ (zd : (l1.length : Int).toNat ≤ 8796093022208)) (by omega)) (Below.refl _ _) (Nat.le_refl _) ?_; intro v105 w7 ho8 hb hg_ hnew_; clear hg_ hnew_; (first | rw [← Ny104.out] at ho8 | (simp only [Int.reduceToNat] at ho8; rw [← Ny104.out] at ho8)); have HO106 := Aside0.mk (Kd.N_lower (Kd.N_mono (ok' := fun k_ => (w.heap.size ≤ k_) ∧ some k_ ≠ (v102 : Value).ownBlock) ho8 (fun k_ hk_ => ⟨(Nat.le_trans (below_size (zB HB.out)) hk_), (Kd.fresh' (Kd.N_lt (zN HO103.out)) k_ hk_)⟩)) (below_size (zB HB.out))); replace HO103 := Aside0.mk (Kd.N_elder' (zN HO103.out) (Kd.N_base ho8) hb); replace HB := yS HB hb; clear hb ho8; obtain ⟨Ao9, co9, rfl⟩ := Kd.N_slice HO106.out))
 go_loopg [20] k (fun kq v20 w' => ∃ (x6_1 : List (S113)) (x20_1 : Int), v20 = .int .i64 x20_1 ∧ Aside0 (mw_sums.l0 kq l1 t101 x6_1 (y104.length : Int) x20_1 = some r) ∧ Aside0 (kq ≤ k) ∧ Aside0 (Kd.N (Kd.slice 113 k113) 114 w' w.heap.size (fun k_ => (w.heap.size ≤ k_) ∧ some k_ ≠ ((.slice Ao9 y104.length co9) : Value).ownBlock) v102 t101) ∧ Aside0 (Kd.N k113 113 w' w.heap.size (fun k_ => (w.heap.size ≤ k_) ∧ some k_ ≠ (v102 : Value).ownBlock) (.slice Ao9 y104.length co9) x6_1) ∧ Aside0 (Below w.heap.size w w'))
 case atStart => exact ⟨(y104), (0), zF, H', ⟨Nat.le_refl _⟩, ⟨zN HO103.out⟩, ⟨zN HO106.out⟩, ⟨zB HB.out⟩⟩
 clear H'
 (try clear c4);(try clear c4b0);(try clear c4b1);(try clear c5);(try clear c5b0);(try clear c5b1)
 obtain ⟨x6_1, x20_1, rfl, HA, HK1, HO_5, HO_6, HB⟩ := hrel
 have hl6_1 := (Kd.N_reads' HO_6.out).1
 rw [hl6_1] at HO_6
 (try simp only [hl6_1])
 (try simp only [hl6_1] at HO_5)
 cases gk with | zero => exact absurd HA.out (by simp [mw_sums.l0]) | succ k1 => ?_
 have H := HA.out
 clear HA
 simp only [mw_sums.l0] at H
 replace H := zi H
 rcases H with ⟨c10, H⟩ | ⟨c10, H⟩
 · have c10b0 := decide_eq_true c10
   (try (have c10h0 := c10b0; simp only [hl6_1] at c10h0))
   clear c10
   have H' := Aside0.mk H
   clear H
   go_wp2
   go_loopg [25] k1 (fun kq v25 w' => ∃ (x6_2 : List (S113)) (x25_2 : Int), v25 = .int .i64 x25_2 ∧ Aside0 (mw_sums.l1 kq l1 t101 x6_2 x20_1 (y104.length : Int) x20_1 l1 (l1.length : Int) x25_2 = some r) ∧ Aside0 (kq ≤ k1) ∧ Aside0 (Kd.N (Kd.slice 113 k113) 114 w' w.heap.size (fun k_ => (w.heap.size ≤ k_) ∧ some k_ ≠ ((.slice Ao9 x6_1.length co9) : Value).ownBlock) v102 t101) ∧ Aside0 (Kd.N k113 113 w' w.heap.size (fun k_ => (w.heap.size ≤ k_) ∧ some k_ ≠ (v102 : Value).ownBlock) (.slice Ao9 x6_1.length co9) x6_2) ∧ Aside0 (Below w.heap.size w w'))
   case atStart => exact ⟨(x6_1), (0), zF, H', ⟨Nat.le_refl _⟩, ⟨by (try simp only [hl6_1]); (with_reducible repeat (first | apply Kd.N_alloc | apply Kd.N_drewN | apply Kd.N_drew)); exact HO_5.out⟩, ⟨by (try simp only [hl6_1]); (with_reducible repeat (first | apply Kd.N_alloc | apply Kd.N_drewN | apply Kd.N_drew)); exact HO_6.out⟩, ⟨zB HB.out⟩⟩
   clear H'
   (try clear c4);(try clear c4b0);(try clear c4b1);(try clear c5);(try clear c5b0);(try clear c5b1);(try clear c10);(try clear c10b0)
   obtain ⟨x6_2, x25_2, rfl, HA, HK2, HO_5, HO_6, HB⟩ := hrel
   have hl6_2 := (Kd.N_reads' HO_6.out).1
   rw [hl6_2] at HO_6
   (try simp only [hl6_2])
   (try simp only [hl6_2] at HO_5)
   cases gk with | zero => exact absurd HA.out (by simp [mw_sums.l1]) | succ k2 => ?_
   have H := HA.out
   clear HA
   simp only [mw_sums.l1] at H
   replace H := zi H
   rcases H with ⟨c11, H⟩ | ⟨c11, H⟩
   · have c11b0 := decide_eq_true c11
     (try (have c11h0 := c11b0; simp only [hl6_1, hl6_2] at c11h0))
     clear c11
     replace H := zgd H
     obtain ⟨c12b0, H⟩ := H
     replace H := zg H
     obtain ⟨c13, H⟩ := H
     have c13b0 := decide_eq_true c13
     (try (have c13h0 := c13b0; simp only [hl6_1, hl6_2] at c13h0))
     clear c13
     replace H := zi H
     rcases H with ⟨c14, H⟩ | ⟨c14, H⟩
     · have c14b0 : decide (0 < (((rd_T113 l1 x25_2).f1).length : Int)) = true := decide_eq_true c14
       (try (have c14h0 := c14b0; simp only [hl6_1, hl6_2] at c14h0))
       have c14b1 : decide (0 < ((rd_T113 l1 x25_2).f1).length) = true := decide_eq_true (by omega)
       (try (have c14h1 := c14b1; simp only [hl6_1, hl6_2] at c14h1))
       clear c14
       replace H := zgd H
       obtain ⟨c15b0, H⟩ := H
       replace H := zg H
       obtain ⟨c16, H⟩ := H
       have c16b0 := decide_eq_true c16
       (try (have c16h0 := c16b0; simp only [hl6_1, hl6_2] at c16h0))
       clear c16
       replace H := zg H
       obtain ⟨c17, H⟩ := H
       have c17b0 := decide_eq_true c17
       (try (have c17h0 := c17b0; simp only [hl6_1, hl6_2] at c17h0))
       clear c17
       replace H := zg H
       obtain ⟨c18, H⟩ := H
       have c18b0 := decide_eq_true c18
       (try (have c18h0 := c18b0; simp only [hl6_1, hl6_2] at c18h0))
       clear c18
       replace H := zb H
       obtain ⟨⟨t112, t113⟩, A19, H⟩ := H
       dsimp only at H
       replace H := zb H
       obtain ⟨⟨t116, t117⟩, A20, H⟩ := H
       dsimp only at H
       obtain ⟨y120, hy120⟩ : ∃ y_ : List (S113), y_ = (x6_2.set (x20_1 : Int).toNat (⟨t116, t117⟩ : S113)) := ⟨_, rfl⟩
       replace H : (mw_sums.l1 k2 l1 t101 y120 x20_1 (y104.length : Int) x20_1 l1 (l1.length : Int) (wrap64 (x25_2 + 1))) = some r := zY hy120 H
       have Ny120 := Aside0.mk hy120
       clear hy120
       have H' := Aside0.mk H
       clear H
       have p107 : 0 ≤ (x25_2 : Int) := zd
       have q107 : x25_2 < (l1.length : Int) := zd
       obtain ⟨ad107, A107_1, c107_1, e107, hx107_0, hx107_1, hl107_1, hi107_1⟩ := at_T113 HR1.out x25_2 p107 q107
       cases e107
       replace hx107_0 := (HB.out.cell (World.block_lt_of_cell? w _ hx107_0)).trans hx107_0
       replace hx107_1 := (HB.out.cell (World.block_lt_of_cell? w _ hx107_1)).trans hx107_1
       have HR107_1 := Aside0.mk hi107_1
       have HC107_1 := Aside0.mk hl107_1
       clear hi107_1 hl107_1
       replace p107 := eq_true p107
       replace q107 := eq_true q107
       try go_wp2_with (first | ((with_reducible refine gate_dst (N := 9) rfl ?_); refine box_event ?hg (N := 9) ?hd (cs := #[.bool false, .slice none 0 0]) (t := 113) ?hr ?_; (case hd => rfl); (case hg => rfl); (case hr => first | (go_simp; done) | (go_simp; rfl)); intro gb108 hg w22 hbox hb; replace HO_5 := Aside0.mk (Kd.N_below (Kd.N_elderB (zN HO_5.out) gb108 (Nat.le_of_eq hg.symm)) hb); replace HO_6 := Aside0.mk (Kd.N_below (Kd.N_elderB (zN HO_6.out) gb108 (Nat.le_of_eq hg.symm)) hb); have BK108 := Aside0.mk (hbox); have GW108 := yg hg HB; have GE108 := yg hg HB; replace HB := yS HB hb; clear hb hbox hg; obtain ⟨hcz23_0, hcz23_1, hfz23_0, hfz23_1⟩ := zz2 BK108))
       have n0_ : Aside0 (Kd.N (Kd.slice 113 k113) 114 ((w22.setCell ⟨gb108, 0, none⟩ (.bool ((rd_T113 l1 x25_2).f0))).setCell ⟨gb108, 1, none⟩ (.slice A107_1 ((rd_T113 l1 x25_2).f1).length c107_1)) w.heap.size (fun k_ => (w.heap.size ≤ k_) ∧ some k_ ≠ (.slice Ao9 x6_2.length co9 : Value).ownBlock ∧ k_ ≠ gb108) v102 t101) := ⟨by (with_reducible repeat (first | apply Kd.N_alloc | apply Kd.N_drewN | apply Kd.N_drew)); exact Kd.N_mono (Kd.N_far (p := ⟨gb108, 1, none⟩) (Kd.N_far (p := ⟨gb108, 0, none⟩) (Kd.N_mono HO_5.out (fun k_ hk => (⟨hk, hk.2⟩ : _ ∧ k_ ≠ gb108))) (fun _ hk => hk.2) (.bool ((rd_T113 l1 x25_2).f0))) (fun _ hk => hk.2) (.slice A107_1 ((rd_T113 l1 x25_2).f1).length c107_1)) (fun _ hk => ⟨hk.1.1.1, ⟨hk.1.1.2, hk.1.2⟩⟩)⟩
       have n1_ : Aside0 (Kd.N k113 113 ((w22.setCell ⟨gb108, 0, none⟩ (.bool ((rd_T113 l1 x25_2).f0))).setCell ⟨gb108, 1, none⟩ (.slice A107_1 ((rd_T113 l1 x25_2).f1).length c107_1)) w.heap.size (fun k_ => (w.heap.size ≤ k_) ∧ some k_ ≠ (v102 : Value).ownBlock ∧ k_ ≠ gb108) (.slice Ao9 x6_2.length co9) x6_2) := ⟨by (with_reducible repeat (first | apply Kd.N_alloc | apply Kd.N_drewN | apply Kd.N_drew)); exact Kd.N_mono (Kd.N_far (p := ⟨gb108, 1, none⟩) (Kd.N_far (p := ⟨gb108, 0, none⟩) (Kd.N_mono HO_6.out (fun k_ hk => (⟨hk, hk.2⟩ : _ ∧ k_ ≠ gb108))) (fun _ hk => hk.2) (.bool ((rd_T113 l1 x25_2).f0))) (fun _ hk => hk.2) (.slice A107_1 ((rd_T113 l1 x25_2).f1).length c107_1)) (fun _ hk => ⟨hk.1.1.1, ⟨hk.1.1.2, hk.1.2⟩⟩)⟩
       have n2_ : Aside0 (((w22.setCell ⟨gb108, 0, none⟩ (.bool ((rd_T113 l1 x25_2).f0))).setCell ⟨gb108, 1, none⟩ (.slice A107_1 ((rd_T113 l1 x25_2).f1).length c107_1)).heap[gb108]? = some (.cells #[.bool ((rd_T113 l1 x25_2).f0), .slice A107_1 ((rd_T113 l1 x25_2).f1).length c107_1] 113 (0, 0))) := ⟨zP2 BK108.out⟩
       have n3_ : Aside0 (Below w.heap.size w ((w22.setCell ⟨gb108, 0, none⟩ (.bool ((rd_T113 l1 x25_2).f0))).setCell ⟨gb108, 1, none⟩ (.slice A107_1 ((rd_T113 l1 x25_2).f1).length c107_1))) := ⟨zB1 HB.out GE108.out⟩
       (try clear HO_5)
       (try clear HO_6)
       (try clear BK108)
       (try clear HB)
       generalize ((w22.setCell ⟨gb108, 0, none⟩ (.bool ((rd_T113 l1 x25_2).f0))).setCell ⟨gb108, 1, none⟩ (.slice A107_1 ((rd_T113 l1 x25_2).f1).length c107_1)) = w24 at n0_ n1_ n2_ n3_ ⊢
       have HO_5 := n0_
       have HO_6 := n1_
       have BK108 := n2_
       have HB := n3_
       clear n0_ n1_ n2_ n3_
       replace HO_5 := Aside0.mk (Kd.N_drew HO_5.out)
       replace HO_6 := Aside0.mk (Kd.N_drew HO_6.out)
       replace BK108 := Aside0.mk (blk_drew BK108.out)
       replace HB := Aside0.mk (below_drew1 HB.out)
       have p109 : 0 ≤ (x20_1 : Int) := zd
       have q109 : x20_1 < (x6_2.length : Int) := zd
       obtain ⟨ad109, A109_1, c109_1, e109, hx109_0, hx109_1, hl109_1, hi109_1⟩ := at_T113 (Kd.N_reads' HO_6.out).2.2 x20_1 p109 q109
       cases e109
       obtain ⟨ce109, hce109, hMe109, hcc109⟩ := Kd.N_get HO_6.out z113 x20_1 p109 (by first | exact q109 | exact zd | (have e_ := (Kd.N_reads' HO_6.out).1; omega))
       obtain ⟨ua109_1, uc109_1, rfl, ul109_1, ge109_1⟩ := k113_openF hMe109
       have hv109_1 := hcc109 1 _ rfl
       rw [add_field _ _ 1 (by omega)] at hv109_1
       replace hv109_1 := Option.some.inj (hv109_1.symm.trans hx109_1)
       injection hv109_1 with hva_ hvn_ hvc_
       rw [hva_] at ge109_1
       rw [hvc_] at ul109_1
       have HL109_1 := Aside0.mk (show Kd.V (Kd.int .u32) 97 _ w.heap.size _ _ ((rd_T113 x6_2 x20_1).f1) from Kd.V_mk ul109_1 ge109_1)
       clear hva_ hvn_ hvc_ ge109_1 ul109_1
       clear hcc109 hce109
       have HR109_1 := Aside0.mk hi109_1
       have HC109_1 := Aside0.mk hl109_1
       clear hi109_1 hl109_1
       replace p109 := eq_true p109
       replace q109 := eq_true q109
       obtain ⟨Ao26, co26, eo26⟩ := Kd.N_slice HO_5.out
       (first | subst eo26 | (injection eo26 with f1_ f2_ f3_; have f4_ := f1_.symm; have f5_ := f3_.symm; clear f1_ f2_ f3_; subst f4_; subst f5_))
       have p110 : 0 ≤ (x25_2 : Int) := zd
       have q110 : x25_2 < (t101.length : Int) := zd
       obtain ⟨ad110, A110_0, c110_0, e110, hx110_0, hl110_0, hi110_0⟩ := at_L6 (Kd.N_reads' HO_5.out).2.2 x25_2 p110 q110
       cases e110
       obtain ⟨ce110, hce110, hMe110, hcc110⟩ := Kd.N_get HO_5.out [] x25_2 p110 (by first | exact q110 | exact zd | (have e_ := (Kd.N_reads' HO_5.out).1; omega))
       obtain ⟨ua110_0, uc110_0, rfl, ul110_0, ge110_0⟩ := Kd.FK_slice_open hMe110
       have hv110_0 := hcc110 0 _ rfl
       rw [Nat.add_zero, show ((Kd.slice 113 k113)).sz = 1 from rfl, Nat.mul_one] at hv110_0
       replace hv110_0 := Option.some.inj (hv110_0.symm.trans hx110_0)
       injection hv110_0 with hva_ hvn_ hvc_
       rw [hva_] at ge110_0
       rw [hvc_] at ul110_0
       have HL110_0 := Aside0.mk (show Kd.V k113 113 _ w.heap.size _ _ (rd_L6 t101 x25_2) from Kd.V_mk ul110_0 ge110_0)
       clear hva_ hvn_ hvc_ ge110_0 ul110_0
       clear hcc110 hce110
       have HR110_0 := Aside0.mk hi110_0
       have HC110_0 := Aside0.mk hl110_0
       clear hi110_0 hl110_0
       replace p110 := eq_true p110
       replace q110 := eq_true q110
       have p111 : 0 ≤ (x20_1 : Int) := zd
       have q111 : x20_1 < ((rd_L6 t101 x25_2).length : Int) := zd
       obtain ⟨ad111, A111_1, c111_1, e111, hx111_0, hx111_1, hl111_1, hi111_1⟩ := at_T113 (zCr HR110_0.out) x20_1 p111 q111
       cases e111
       obtain ⟨ce111, hce111, hMe111, hcc111⟩ := Kd.V_get HL110_0.out z113 x20_1 p111 (by first | exact q111 | exact zd | (have e_ := (Kd.V_reads' HL110_0.out).1; omega))
       obtain ⟨ua111_1, uc111_1, rfl, ul111_1, ge111_1⟩ := k113_openF hMe111
       have hv111_1 := hcc111 1 _ rfl
       rw [add_field _ _ 1 (by omega)] at hv111_1
       replace hv111_1 := Option.some.inj (hv111_1.symm.trans hx111_1)
       injection hv111_1 with hva_ hvn_ hvc_
       rw [hva_] at ge111_1
       rw [hvc_] at ul111_1
       have HL111_1 := Aside0.mk (show Kd.V (Kd.int .u32) 97 _ w.heap.size _ _ ((rd_T113 (rd_L6 t101 x25_2) x20_1).f1) from Kd.V_mk ul111_1 ge111_1)
       clear hva_ hvn_ hvc_ ge111_1 ul111_1
       clear hcc111 hce111
       have HR111_1 := Aside0.mk hi111_1
       have HC111_1 := Aside0.mk hl111_1
       clear hi111_1 hl111_1
       replace p111 := eq_true p111
       replace q111 := eq_true q111
       refine start_ (n := 18) (S := fun w' => w'.cell? ⟨gb108, 0, none⟩ = some (.bool ((rd_T113 l1 x25_2).f0)) ∧ w'.cell? ⟨gb108, 1, none⟩ = some (.slice A107_1 ((rd_T113 l1 x25_2).f1).length c107_1) ∧ w'.cell? (ad109.add ((x20_1).toNat * 2)) = some (.bool ((rd_T113 x6_2 x20_1).f0)) ∧ w'.cell? ⟨(ad109.add ((x20_1).toNat * 2)).block, (ad109.add ((x20_1).toNat * 2)).off + 1, none⟩ = some (.slice A109_1 ((rd_T113 x6_2 x20_1).f1).length c109_1) ∧ w'.cell? (ad110.add (x25_2).toNat) = some (.slice (some ad111) (rd_L6 t101 x25_2).length c110_0) ∧ w'.cell? (ad111.add ((x20_1).toNat * 2)) = some (.bool ((rd_T113 (rd_L6 t101 x25_2) x20_1).f0)) ∧ w'.cell? ⟨(ad111.add ((x20_1).toNat * 2)).block, (ad111.add ((x20_1).toNat * 2)).off + 1, none⟩ = some (.slice A111_1 ((rd_T113 (rd_L6 t101 x25_2) x20_1).f1).length c111_1)) (ds := [17]) #[false, false, false, false, false, false, false, false, false, false, false, false, false, false, false, false, false, false] (by kernel_rfl) rfl rfl ⟨(blk_cell BK108.out 0).trans rfl, (blk_cell BK108.out 1).trans rfl, hx109_0, hx109_1, hx110_0, hx111_0, hx111_1⟩ (fun hHeld => ?_); refine with_tabW mw_sums.tab10 mw_sums.bits10 (fun HT_ HW_ => ?_)
       first | (generalize w24.drew = w25 at HO_5 HO_6 BK108 HB HL109_1 HL110_0 HL111_1 HR109_1 HR110_0 HR111_1 hx109_0 hx109_1 hx110_0 hx111_0 hx111_1 hHeld ⊢) | (generalize w24.drew = w25 at HO_5 HO_6 BK108 HB HL109_1 HL110_0 HL111_1 HR109_1 HR110_0 HR111_1 hx109_1 hx110_0 hx111_0 hx111_1 hHeld ⊢) | (generalize w24.drew = w25 at HO_5 HO_6 BK108 HB HL109_1 HL110_0 HL111_1 HR109_1 HR110_0 HR111_1 hx109_0 hx110_0 hx111_0 hx111_1 hHeld ⊢) | (generalize w24.drew = w25 at HO_5 HO_6 BK108 HB HL109_1 HL110_0 HL111_1 HR109_1 HR110_0 HR111_1 hx109_0 hx109_1 hx111_0 hx111_1 hHeld ⊢) | (generalize w24.drew = w25 at HO_5 HO_6 BK108 HB HL109_1 HL110_0 HL111_1 HR109_1 HR110_0 HR111_1 hx109_0 hx109_1 hx110_0 hx111_1 hHeld ⊢) | (generalize w24.drew = w25 at HO_5 HO_6 BK108 HB HL109_1 HL110_0 HL111_1 HR109_1 HR110_0 HR111_1 hx109_0 hx109_1 hx110_0 hx111_0 hHeld ⊢) | (generalize w24.drew = w25 at HO_5 HO_6 BK108 HB HL109_1 HL110_0 HL111_1 HR109_1 HR110_0 HR111_1 hx110_0 hx111_0 hx111_1 hHeld ⊢) | (generalize w24.drew = w25 at HO_5 HO_6 BK108 HB HL109_1 HL110_0 HL111_1 HR109_1 HR110_0 HR111_1 hx109_1 hx111_0 hx111_1 hHeld ⊢) | (generalize w24.drew = w25 at HO_5 HO_6 BK108 HB HL109_1 HL110_0 HL111_1 HR109_1 HR110_0 HR111_1 hx109_1 hx110_0 hx111_1 hHeld ⊢) | (generalize w24.drew = w25 at HO_5 HO_6 BK108 HB HL109_1 HL110_0 HL111_1 HR109_1 HR110_0 HR111_1 hx109_1 hx110_0 hx111_0 hHeld ⊢) | (generalize w24.drew = w25 at HO_5 HO_6 BK108 HB HL109_1 HL110_0 HL111_1 HR109_1 HR110_0 HR111_1 hx109_0 hx111_0 hx111_1 hHeld ⊢) | (generalize w24.drew = w25 at HO_5 HO_6 BK108 HB HL109_1 HL110_0 HL111_1 HR109_1 HR110_0 HR111_1 hx109_0 hx110_0 hx111_1 hHeld ⊢) | (generalize w24.drew = w25 at HO_5 HO_6 BK108 HB HL109_1 HL110_0 HL111_1 HR109_1 HR110_0 HR111_1 hx109_0 hx110_0 hx111_0 hHeld ⊢) | (generalize w24.drew = w25 at HO_5 HO_6 BK108 HB HL109_1 HL110_0 HL111_1 HR109_1 HR110_0 HR111_1 hx109_0 hx109_1 hx111_1 hHeld ⊢) | (generalize w24.drew = w25 at HO_5 HO_6 BK108 HB HL109_1 HL110_0 HL111_1 HR109_1 HR110_0 HR111_1 hx109_0 hx109_1 hx111_0 hHeld ⊢) | (generalize w24.drew = w25 at HO_5 HO_6 BK108 HB HL109_1 HL110_0 HL111_1 HR109_1 HR110_0 HR111_1 hx109_0 hx109_1 hx110_0 hHeld ⊢) | (generalize w24.drew = w25 at HO_5 HO_6 BK108 HB HL109_1 HL110_0 HL111_1 HR109_1 HR110_0 HR111_1 hx111_0 hx111_1 hHeld ⊢) | (generalize w24.drew = w25 at HO_5 HO_6 BK108 HB HL109_1 HL110_0 HL111_1 HR109_1 HR110_0 HR111_1 hx110_0 hx111_1 hHeld ⊢) | (generalize w24.drew = w25 at HO_5 HO_6 BK108 HB HL109_1 HL110_0 HL111_1 HR109_1 HR110_0 HR111_1 hx110_0 hx111_0 hHeld ⊢) | (generalize w24.drew = w25 at HO_5 HO_6 BK108 HB HL109_1 HL110_0 HL111_1 HR109_1 HR110_0 HR111_1 hx109_1 hx111_1 hHeld ⊢) | (generalize w24.drew = w25 at HO_5 HO_6 BK108 HB HL109_1 HL110_0 HL111_1 HR109_1 HR110_0 HR111_1 hx109_1 hx111_0 hHeld ⊢) | (generalize w24.drew = w25 at HO_5 HO_6 BK108 HB HL109_1 HL110_0 HL111_1 HR109_1 HR110_0 HR111_1 hx109_1 hx110_0 hHeld ⊢) | (generalize w24.drew = w25 at HO_5 HO_6 BK108 HB HL109_1 HL110_0 HL111_1 HR109_1 HR110_0 HR111_1 hx109_0 hx111_1 hHeld ⊢) | (generalize w24.drew = w25 at HO_5 HO_6 BK108 HB HL109_1 HL110_0 HL111_1 HR109_1 HR110_0 HR111_1 hx109_0 hx111_0 hHeld ⊢) | (generalize w24.drew = w25 at HO_5 HO_6 BK108 HB HL109_1 HL110_0 HL111_1 HR109_1 HR110_0 HR111_1 hx109_0 hx110_0 hHeld ⊢) | (generalize w24.drew = w25 at HO_5 HO_6 BK108 HB HL109_1 HL110_0 HL111_1 HR109_1 HR110_0 HR111_1 hx109_0 hx109_1 hHeld ⊢) | (generalize w24.drew = w25 at HO_5 HO_6 BK108 HB HL109_1 HL110_0 HL111_1 HR109_1 HR110_0 HR111_1 hx111_1 hHeld ⊢) | (generalize w24.drew = w25 at HO_5 HO_6 BK108 HB HL109_1 HL110_0 HL111_1 HR109_1 HR110_0 HR111_1 hx111_0 hHeld ⊢) | (generalize w24.drew = w25 at HO_5 HO_6 BK108 HB HL109_1 HL110_0 HL111_1 HR109_1 HR110_0 HR111_1 hx110_0 hHeld ⊢) | (generalize w24.drew = w25 at HO_5 HO_6 BK108 HB HL109_1 HL110_0 HL111_1 HR109_1 HR110_0 HR111_1 hx109_1 hHeld ⊢) | (generalize w24.drew = w25 at HO_5 HO_6 BK108 HB HL109_1 HL110_0 HL111_1 HR109_1 HR110_0 HR111_1 hx109_0 hHeld ⊢) | (generalize w24.drew = w25 at HO_5 HO_6 BK108 HB HL109_1 HL110_0 HL111_1 HR109_1 HR110_0 HR111_1 hHeld ⊢)
       refine zp (i := 0) (N := some 34) HT_ ?_
       refine zp (i := 1) (N := some 35) HT_ ?_
       refine zp (i := 2) (N := some 36) HT_ ?_
       refine zp (i := 3) (N := some 37) HT_ ?_
       refine zp (i := 4) (N := some 38) HT_ ?_
       refine zp (i := 7) (N := some 41) HT_ ?_
       refine zp (i := 8) (N := some 42) HT_ ?_
       refine zp (i := 9) (N := some 43) HT_ ?_
       refine zp (i := 11) (N := some 45) HT_ ?_
       refine take_ (i := 5) (N := some 39) (v := ?_) (a' := ?_) #[true, true, true, true, true, true, false, true, true, true, false, true, false, false, false, false, false, false] rfl rfl (take_ofW HT_.out HW_.out (by kernel_rfl)) (fun _ _ _ h => h) (Or.inl ⟨by rfl, ?_⟩) hHeld ?_ ?_
       rotate_left
       · rintro w' ⟨s0, s1, s2, s3, s4, s5, s6⟩
         go_simp
         with_reducible rfl
       rotate_left
       · simp only [Act.put, List.setIfInBounds_toArray, List.set_cons_zero, List.set_cons_succ, i64_w, i32_w]
         rfl
       refine take_ (i := 6) (N := some 40) (v := ?_) (a' := ?_) #[true, true, true, true, true, true, true, true, true, true, false, true, false, false, false, false, false, false] rfl rfl (take_ofW HT_.out HW_.out (by kernel_rfl)) (fun _ _ _ h => h) (Or.inl ⟨by rfl, ?_⟩) hHeld ?_ ?_
       rotate_left
       · rintro w' ⟨s0, s1, s2, s3, s4, s5, s6⟩
         go_simp
         with_reducible rfl
       rotate_left
       · simp only [Act.put, List.setIfInBounds_toArray, List.set_cons_zero, List.set_cons_succ, i64_w, i32_w]
         rfl
       refine take_ (i := 10) (N := some 44) (v := ?_) (a' := ?_) #[true, true, true, true, true, true, true, true, true, true, true, true, false, false, false, false, false, false] rfl rfl (take_ofW HT_.out HW_.out (by kernel_rfl)) (fun _ _ _ h => h) (Or.inl ⟨by rfl, ?_⟩) hHeld ?_ ?_
       rotate_left
       · rintro w' ⟨s0, s1, s2, s3, s4, s5, s6⟩
         go_simp
         with_reducible rfl
       rotate_left
       · simp only [Act.put, List.setIfInBounds_toArray, List.set_cons_zero, List.set_cons_succ, i64_w, i32_w]
         rfl
       refine zp (i := 12) (N := some 46) HT_ ?_
       refine take_ (i := 13) (N := some 47) (v := ?_) (a' := ?_) #[true, true, true, true, true, true, true, true, true, true, true, true, true, true, false, false, false, false] rfl rfl (take_ofW HT_.out HW_.out (by kernel_rfl)) (fun _ _ _ h => h) (Or.inl ⟨by rfl, ?_⟩) hHeld ?_ ?_
       rotate_left
       · rintro w' ⟨s0, s1, s2, s3, s4, s5, s6⟩
         go_simp
         with_reducible rfl
       rotate_left
       · simp only [Act.put, List.setIfInBounds_toArray, List.set_cons_zero, List.set_cons_succ, i64_w, i32_w]
         rfl
       refine one_ (i := 14) (N := some 48) #[true, true, true, true, true, true, true, true, true, true, true, true, true, true, true, false, false, false] rfl rfl (one_of HT_.out (by kernel_rfl)) (by decide) (fun K hK => ?_)
       refine goes_ Try.func126 (by kernel_rfl) rfl #[.agg #[.bool ((rd_T113 l1 x25_2).f0), .slice A107_1 ((rd_T113 l1 x25_2).f1).length c107_1], .agg #[.bool ((rd_T113 (rd_L6 t101 x25_2) x20_1).f0), .slice A111_1 ((rd_T113 (rd_L6 t101 x25_2) x20_1).f1).length c111_1]] (by rfl) rfl rfl (by (try simp only [List.map_toArray, List.map_cons, List.map_nil]); first | done | rfl | (simp only [List.length_drop, List.length_take]; rfl)) ?_
       with_reducible refine (mw_times.calls k2 ((rd_T113 l1 x25_2).f0) (fun k_ => k_ < w.heap.size) _ _ ((rd_T113 l1 x25_2).f1) ((rd_T113 (rd_L6 t101 x25_2) x20_1).f0) (fun k_ => (((w.heap.size ≤ k_) ∧ (some k_ ≠ (.slice (some ad109) x6_2.length co9 : Value).ownBlock ∧ k_ ≠ gb108)) ∧ some k_ ≠ (.slice (some ad110) t101.length co26 : Value).ownBlock)) _ _ ((rd_T113 (rd_L6 t101 x25_2) x20_1).f1) t112 t113 _ ?side1 ?side2 A19.out).mono ?_
       (case side1 => exact Kd.V_mk HC107_1.out (Kd.F_below (Kd.C_F (Kd.heap_int .u32) HR107_1.out) (zB1 HB.out GE108.out)))
       (case side2 => exact HL111_1.out)
       rintro e w27 ⟨v114, rfl, ho0, hb⟩
       have HS2_ := (hb.cell (World.block_lt_of_cell? _ _ (hHeld.2.2.1))).trans (hHeld.2.2.1)
       have HS3_ := (hb.cell (World.block_lt_of_cell? _ _ (hHeld.2.2.2.1))).trans (hHeld.2.2.2.1)
       have HS4_ := (hb.cell (World.block_lt_of_cell? _ _ (hHeld.2.2.2.2.1))).trans (hHeld.2.2.2.2.1)
       have HS5_ := (hb.cell (World.block_lt_of_cell? _ _ (hHeld.2.2.2.2.2.1))).trans (hHeld.2.2.2.2.2.1)
       have HS6_ := (hb.cell (World.block_lt_of_cell? _ _ (hHeld.2.2.2.2.2.2))).trans (hHeld.2.2.2.2.2.2)
       refine ⟨_, rfl, ?_⟩
       replace HO_5 := yNe HO_5 ho0 hb
       replace HO_6 := yNe HO_6 ho0 hb
       replace HL109_1 := yVe HL109_1 ho0 hb
       replace HL110_0 := yVe HL110_0 ho0 hb
       replace HL111_1 := yVe HL111_1 ho0 hb
       replace ho0 := Kd.R_newM (M := fun k_ => (w.heap.size ≤ k_)) (yt ho0) (below_size (zB1 HB.out GE108.out)) (fun k_ h_ => h_)
       have HO115 := yRl1 ho0 HB GE108
       replace BK108 := yK BK108 hb
       (try replace HR109_1 := yCb HR109_1 hb)
       (try replace HR110_0 := yCb HR110_0 hb)
       (try replace HR111_1 := yCb HR111_1 hb)
       replace HB := yS1 HB GE108 hb
       (try clear hb)
       (try clear ho0)
       obtain ⟨Ao28, co28, eo28⟩ := Kd.R_slice HO115.out
       (first | subst eo28 | (injection eo28 with f1_ f2_ f3_; have f4_ := f1_.symm; have f5_ := f3_.symm; clear f1_ f2_ f3_; subst f4_; subst f5_))
       refine hK.out _ _ ⟨(blk_cell BK108.out 0).trans rfl, (blk_cell BK108.out 1).trans rfl, HS2_, HS3_, HS4_, HS5_, HS6_⟩ (fun hHeld => ?_)
       clear hK K
       refine norm_ (a' := ?_) ?_ ?_
       rotate_left
       · show Act.put _ (some 48) _ = _
         simp only [Act.put, List.setIfInBounds_toArray, List.set_cons_zero, List.set_cons_succ, i64_w, i32_w]
         rfl
       refine one_ (i := 15) (N := some 49) #[true, true, true, true, true, true, true, true, true, true, true, true, true, true, true, true, false, false] rfl rfl (one_of HT_.out (by kernel_rfl)) (by decide) (fun K hK => ?_)
       refine goes_ Try.func128 (by kernel_rfl) rfl #[.agg #[.bool ((rd_T113 x6_2 x20_1).f0), .slice A109_1 ((rd_T113 x6_2 x20_1).f1).length c109_1], .agg #[.bool t112, .slice Ao28 t113.length co28]] (by rfl) rfl rfl (by (try simp only [List.map_toArray, List.map_cons, List.map_nil]); first | done | rfl | (simp only [List.length_drop, List.length_take]; rfl)) ?_
       with_reducible refine (mw_plus.calls k2 ((rd_T113 x6_2 x20_1).f0) (fun k_ => ((((w.heap.size ≤ k_) ∧ (some k_ ≠ (.slice (some ad110) t101.length co26 : Value).ownBlock ∧ k_ ≠ gb108)) ∧ some k_ ≠ (.slice (some ad109) x6_2.length co9 : Value).ownBlock) ∧ some k_ ≠ (.slice Ao28 t113.length co28 : Value).ownBlock)) _ _ ((rd_T113 x6_2 x20_1).f1) t112 (fun k_ => some k_ = (.slice Ao28 t113.length co28 : Value).ownBlock) _ _ t113 t116 t117 _ ?side1 ?side2 A20.out).mono ?_
       (case side1 => exact HL109_1.out)
       (case side2 => exact Kd.R_V (Kd.R_tight rfl (Kd.R_types (Kd.R_apart' (Kd.R_apart' (HO115.out) (Kd.N_typed HO_5.out) (by decide)) (Kd.N_typed HO_6.out) (by decide)) BK108.out (by decide))))
       rintro e w29 ⟨v118, rfl, ho0, hb⟩
       have HS2_ := (hb.cell (World.block_lt_of_cell? _ _ (hHeld.2.2.1))).trans (hHeld.2.2.1)
       have HS3_ := (hb.cell (World.block_lt_of_cell? _ _ (hHeld.2.2.2.1))).trans (hHeld.2.2.2.1)
       have HS4_ := (hb.cell (World.block_lt_of_cell? _ _ (hHeld.2.2.2.2.1))).trans (hHeld.2.2.2.2.1)
       have HS5_ := (hb.cell (World.block_lt_of_cell? _ _ (hHeld.2.2.2.2.2.1))).trans (hHeld.2.2.2.2.2.1)
       have HS6_ := (hb.cell (World.block_lt_of_cell? _ _ (hHeld.2.2.2.2.2.2))).trans (hHeld.2.2.2.2.2.2)
       refine ⟨_, rfl, ?_⟩
       replace HL109_1 := yVb HL109_1 hb
       replace HL110_0 := yVb HL110_0 hb
       replace HL111_1 := yVb HL111_1 hb
       have HO119 := Aside0.mk (Kd.V_lower (Kd.V_mono (ok' := fun k_ => (w.heap.size ≤ k_) ∧ some k_ ≠ (.slice (some ad110) t101.length co26 : Value).ownBlock ∧ some k_ ≠ (.slice (some ad109) x6_2.length co9 : Value).ownBlock ∧ k_ ≠ gb108) ho0 (fun k_ hk_ => ⟨Or.elim hk_ (fun hs_ => Or.elim hs_ (fun hs_ => hs_.1.1.1) (fun hs_ => ((Kd.R_types (Kd.R_apart' (Kd.R_apart' (HO115.out) (Kd.N_typed HO_5.out) (by decide)) (Kd.N_typed HO_6.out) (by decide)) BK108.out (by decide)).1 k_ hs_.symm).1.1.1.1)) (fun hn_ => (Nat.le_trans (below_size (zB1 HB.out GE108.out)) hn_)), Or.elim hk_ (fun hs_ => Or.elim hs_ (fun hs_ => hs_.1.1.2.1) (fun hs_ => ((Kd.R_types (Kd.R_apart' (Kd.R_apart' (HO115.out) (Kd.N_typed HO_5.out) (by decide)) (Kd.N_typed HO_6.out) (by decide)) BK108.out (by decide)).1 k_ hs_.symm).1.1.2)) (fun hn_ => (Kd.fresh' (Kd.N_lt (zN HO_5.out)) k_ hn_)), Or.elim hk_ (fun hs_ => Or.elim hs_ (fun hs_ => hs_.1.2) (fun hs_ => ((Kd.R_types (Kd.R_apart' (Kd.R_apart' (HO115.out) (Kd.N_typed HO_5.out) (by decide)) (Kd.N_typed HO_6.out) (by decide)) BK108.out (by decide)).1 k_ hs_.symm).1.2)) (fun hn_ => (Kd.fresh' (Kd.N_lt (zN HO_6.out)) k_ hn_)), Or.elim hk_ (fun hs_ => Or.elim hs_ (fun hs_ => hs_.1.1.2.2) (fun hs_ => ((Kd.R_types (Kd.R_apart' (Kd.R_apart' (HO115.out) (Kd.N_typed HO_5.out) (by decide)) (Kd.N_typed HO_6.out) (by decide)) BK108.out (by decide)).1 k_ hs_.symm).2)) (fun hn_ => (Kd.freshB (g := gb108) (o := .cells #[.bool ((rd_T113 l1 x25_2).f0), .slice A107_1 ((rd_T113 l1 x25_2).f1).length c107_1] 113 (0, 0)) (by (with_reducible repeat (first | refine blk_drewN ?_ _ | refine blk_drew ?_ | refine blk_alloc ?_ _)); exact BK108.out) k_ hn_))⟩)) (below_size (zB1 HB.out GE108.out)))
       replace HO_5 := yNb HO_5 hb
       replace HO_6 := yNb HO_6 hb
       replace HO115 := yRb HO115 hb
       replace BK108 := yK BK108 hb
       (try replace HR109_1 := yCb HR109_1 hb)
       (try replace HR110_0 := yCb HR110_0 hb)
       (try replace HR111_1 := yCb HR111_1 hb)
       replace HB := yS1 HB GE108 hb
       (try clear hb)
       (try clear ho0)
       have p21 : 0 ≤ (x20_1 : Int) := zd
       have q21 : (x20_1 : Int) < ((x6_2.length : Int) : Int) := zd
       obtain ⟨go21, co21, eo21, gb21, gl21, cl21, HG21⟩ := Kd.N_form HO_6.out (by omega)
       (first | cases eo21 | (injection eo21 with ea_ en_ ec_; (first | subst ea_ | (injection ea_ with ea_; subst ea_)); subst ec_; clear en_))
       have GB21 := Aside0.mk gb21
       have GG21 := Aside0.mk HG21
       clear gb21 gl21 HG21
       (first | simp only [add_plain] at hx109_0 | skip)
       (first | simp only [add_plain] at hx109_1 | skip)
       obtain ⟨ce21, hcl21, hM21, hcc21, hfr21⟩ := Kd.N_elem HO_6.out z113 (x20_1 : Int) p21 q21
       obtain ⟨ua21_1, uc21_1, rfl, ul21_1, ge21_1⟩ := k113_openF hM21
       have hx21_0 : World.cell? _ ⟨go21, (x20_1 : Int).toNat * 2, none⟩ = some (.bool ((rd_T113 x6_2 x20_1).f0)) := hcc21 0 _ rfl
       have hx21_1 : World.cell? _ ⟨go21, (x20_1 : Int).toNat * 2 + 1, none⟩ = some (.slice ua21_1 ((rd_T113 x6_2 x20_1).f1).length uc21_1) := hcc21 1 _ rfl
       have hf21_0 : World.frozen? _ ⟨go21, (x20_1 : Int).toNat * 2, none⟩ = false := hfr21 0
       have hf21_1 : World.frozen? _ ⟨go21, (x20_1 : Int).toNat * 2 + 1, none⟩ = false := hfr21 1
       clear hcl21 hcc21 hfr21 hM21
       replace p21 := eq_true p21
       replace q21 := eq_true q21
       obtain ⟨Ao31, co31, eo31⟩ := Kd.V_slice HO119.out
       (first | subst eo31 | (injection eo31 with f1_ f2_ f3_; have f4_ := f1_.symm; have f5_ := f3_.symm; clear f1_ f2_ f3_; subst f4_; subst f5_))
       have HX30 := Aside0.mk (show Kd.N k113 113 _ w.heap.size (fun k_ => (w.heap.size ≤ k_) ∧ some k_ ≠ (.slice (some ad110) t101.length co26 : Value).ownBlock ∧ some k_ ≠ (.slice Ao28 t113.length co28 : Value).ownBlock ∧ k_ ≠ gb108) (.slice (some ⟨go21, 0, none⟩) x6_2.length co9) x6_2 from (Kd.N_mono (HO_6.out) (fun k_ hk => ⟨hk.1.1, ⟨hk.1.2.1, ⟨hk.2, hk.1.2.2⟩⟩⟩)))
       replace HX30 := Aside0.mk (show Kd.N k113 113 _ w.heap.size (fun k_ => (w.heap.size ≤ k_) ∧ some k_ ≠ (.slice (some ad110) t101.length co26 : Value).ownBlock ∧ k_ ≠ gb108) (.slice (some ⟨go21, 0, none⟩) x6_2.length co9) x6_2 from Kd.N_mono HX30.out (fun k_ hk => ⟨hk.1, ⟨hk.2.1, hk.2.2.2⟩⟩))
       obtain ⟨ce30, hcl30, hM30, hcc30, hfr30⟩ := Kd.N_elem HX30.out z113 (x20_1 : Int) zd (by have h_ : (x20_1 : Int) < ((x6_2.length : Int) : Int) := zd; first | exact h_ | (have e_ := (Kd.N_reads' HO_6.out).1; omega) | simpa using h_)
       obtain ⟨ua30_1, uc30_1, rfl, ul30_1, ge30_1⟩ := k113_openF hM30
       have HP30 := (Kd.N_seg HX30.out (x20_1 : Int) zd (by have h_ : (x20_1 : Int) < ((x6_2.length : Int) : Int) := zd; first | exact h_ | (have e_ := (Kd.N_reads' HO_6.out).1; omega) | simpa using h_) (seg := [.bool t116, .slice Ao31 t117.length co31]) (j := 0) hcl30 hcc30 (show 2 ≤ 2 from by decide) (x' := (⟨t116, t117⟩ : S113)) (k113_mkF _ _ (⟨t116, t117⟩ : S113) (Kd.V_reads' (Kd.V_mono (ok' := (fun k_ => ((fun k_ => (w.heap.size ≤ k_) ∧ some k_ ≠ (.slice (some ad110) t101.length co26 : Value).ownBlock ∧ k_ ≠ gb108)) k_ ∧ k_ ≠ go21)) (HO119.out) (fun k_ hk => by exact ⟨⟨hk.1, ⟨hk.2.1, hk.2.2.2⟩⟩, fun e_ => (hk.2.2.1) (by rw [e_]; rfl)⟩))).2.1 (Kd.V_F (Kd.V_mono (ok' := (fun k_ => ((fun k_ => (w.heap.size ≤ k_) ∧ some k_ ≠ (.slice (some ad110) t101.length co26 : Value).ownBlock ∧ k_ ≠ gb108)) k_ ∧ k_ ≠ go21)) (HO119.out) (fun k_ hk => by exact ⟨⟨hk.1, ⟨hk.2.1, hk.2.2.2⟩⟩, fun e_ => (hk.2.2.1) (by rw [e_]; rfl)⟩)))) (fun _ hk => hk)).1
       rw [← Ny120.out] at HP30
       have HQ30 := Aside0.mk HP30
       clear hcl30 hcc30 hfr30 hM30 HP30
       refine hK.out _ _ ⟨(blk_cell BK108.out 0).trans rfl, (blk_cell BK108.out 1).trans rfl, HS2_, HS3_, HS4_, HS5_, HS6_⟩ (fun hHeld => ?_)
       clear hK K
       refine norm_ (a' := ?_) ?_ ?_
       rotate_left
       · show Act.put _ (some 49) _ = _
         simp only [Act.put, List.setIfInBounds_toArray, List.set_cons_zero, List.set_cons_succ, i64_w, i32_w]
         rfl
       refine zp (i := 16) (N := some 50) HT_ ?_
       refine last_ (i := 17) (N := none) #[true, true, true, true, true, true, true, true, true, true, true, true, true, true, true, true, true, true] rfl rfl (one_of HT_.out (by kernel_rfl)) (by decide) (fun K hK => ?_)
       refine skip_ (w1 := ?_) (by rfl) rfl ?_ ?_
       rotate_left
       · go_simp
         rfl
       refine hK.out _ _ ?_
       clear hK K
       refine done_ (done_of HT_.out (by kernel_rfl)) ?_
       try go_wp2
       (try simp only [← hl6_2])
       go_roundg k2
       case measure => have := HK1.out; have := HK2.out; omega
       case rel => exact ⟨(y120), (wrap64 (x25_2 + 1)), zF, H', ⟨zo2 HK1 HK2⟩, ⟨by (try simp only [hl6_1]); (try simp only [hl6_2]); (with_reducible repeat (first | apply Kd.N_alloc | apply Kd.N_drewN | apply Kd.N_drew)); exact Kd.N_mono (Kd.N_far (p := ⟨go21, (x20_1 : Int).toNat * 2 + 1, none⟩) (Kd.N_far (p := ⟨go21, (x20_1 : Int).toNat * 2, none⟩) (Kd.N_mono HO_5.out (fun k_ hk => (⟨hk, fun e_ => hk.1.2.1 (by rw [e_]; rfl)⟩ : _ ∧ k_ ≠ go21))) (fun _ hk => hk.2) (.bool t116)) (fun _ hk => hk.2) (.slice Ao31 t117.length co31)) (fun _ hk => ⟨hk.1.1.1, hk.1.1.2.1⟩)⟩, ⟨by (try simp only [hl6_1]); (try simp only [hl6_2]); (with_reducible repeat (first | apply Kd.N_alloc | apply Kd.N_drewN | apply Kd.N_drew)); exact Kd.N_mono HQ30.out (fun _ hk => ⟨hk.1, hk.2.1⟩)⟩, ⟨zB3 HB.out GB21.out GB21.out GE108.out⟩⟩
     have c14b0 : decide (0 < (((rd_T113 l1 x25_2).f1).length : Int)) = false := decide_eq_false c14
     (try (have c14h0 := c14b0; simp only [hl6_1, hl6_2] at c14h0))
     have c14b1 : decide (0 < ((rd_T113 l1 x25_2).f1).length) = false := decide_eq_false (by omega)
     (try (have c14h1 := c14b1; simp only [hl6_1, hl6_2] at c14h1))
     clear c14
     have H' := Aside0.mk H
     clear H
     have p107 : 0 ≤ (x25_2 : Int) := zd
     have q107 : x25_2 < (l1.length : Int) := zd
     obtain ⟨ad107, A107_1, c107_1, e107, hx107_0, hx107_1, hl107_1, hi107_1⟩ := at_T113 HR1.out x25_2 p107 q107
     cases e107
     replace hx107_0 := (HB.out.cell (World.block_lt_of_cell? w _ hx107_0)).trans hx107_0
     replace hx107_1 := (HB.out.cell (World.block_lt_of_cell? w _ hx107_1)).trans hx107_1
     have HR107_1 := Aside0.mk hi107_1
     have HC107_1 := Aside0.mk hl107_1
     clear hi107_1 hl107_1
     replace p107 := eq_true p107
     replace q107 := eq_true q107
     go_wp2_with (first | ((with_reducible refine gate_dst (N := 9) rfl ?_); refine box_event ?hg (N := 9) ?hd (cs := #[.bool false, .slice none 0 0]) (t := 113) ?hr ?_; (case hd => rfl); (case hg => rfl); (case hr => first | (go_simp; done) | (go_simp; rfl)); intro gb108 hg w32 hbox hb; replace HO_5 := Aside0.mk (Kd.N_below (Kd.N_elderB (zN HO_5.out) gb108 (Nat.le_of_eq hg.symm)) hb); replace HO_6 := Aside0.mk (Kd.N_below (Kd.N_elderB (zN HO_6.out) gb108 (Nat.le_of_eq hg.symm)) hb); have BK108 := Aside0.mk (hbox); have GW108 := yg hg HB; have GE108 := yg hg HB; replace HB := yS HB hb; clear hb hbox hg; obtain ⟨hcz33_0, hcz33_1, hfz33_0, hfz33_1⟩ := zz2 BK108))
     (try simp only [← hl6_2])
     go_roundg k2
     case measure => have := HK1.out; have := HK2.out; omega
     case rel => exact ⟨(x6_2), (wrap64 (x25_2 + 1)), zF, H', ⟨zo2 HK1 HK2⟩, ⟨by (try simp only [hl6_1]); (try simp only [hl6_2]); (with_reducible repeat (first | apply Kd.N_alloc | apply Kd.N_drewN | apply Kd.N_drew)); exact Kd.N_mono (Kd.N_far (p := ⟨gb108, 1, none⟩) (Kd.N_far (p := ⟨gb108, 0, none⟩) (Kd.N_mono HO_5.out (fun k_ hk => (⟨hk, hk.2⟩ : _ ∧ k_ ≠ gb108))) (fun _ hk => hk.2) (.bool ((rd_T113 l1 x25_2).f0))) (fun _ hk => hk.2) (.slice A107_1 ((rd_T113 l1 x25_2).f1).length c107_1)) (fun _ hk => ⟨hk.1.1.1, hk.1.1.2⟩)⟩, ⟨by (try simp only [hl6_1]); (try simp only [hl6_2]); (with_reducible repeat (first | apply Kd.N_alloc | apply Kd.N_drewN | apply Kd.N_drew)); exact Kd.N_mono (Kd.N_far (p := ⟨gb108, 1, none⟩) (Kd.N_far (p := ⟨gb108, 0, none⟩) (Kd.N_mono HO_6.out (fun k_ hk => (⟨hk, hk.2⟩ : _ ∧ k_ ≠ gb108))) (fun _ hk => hk.2) (.bool ((rd_T113 l1 x25_2).f0))) (fun _ hk => hk.2) (.slice A107_1 ((rd_T113 l1 x25_2).f1).length c107_1)) (fun _ hk => ⟨hk.1.1.1, hk.1.1.2⟩)⟩, ⟨zB1 HB.out GE108.out⟩⟩
   have c11b0 := decide_eq_false c11
   (try (have c11h0 := c11b0; simp only [hl6_1, hl6_2] at c11h0))
   clear c11
   have H' := Aside0.mk H
   clear H
   go_wp2
   (try simp only [← hl6_1, ← hl6_2])
   go_roundg k2
   case measure => have := HK1.out; have := HK2.out; omega
   case rel => exact ⟨(x6_2), (wrap64 (x20_1 + 1)), zF, H', ⟨zo2 HK1 HK2⟩, ⟨by (try simp only [hl6_1]); (try simp only [hl6_2]); (with_reducible repeat (first | apply Kd.N_alloc | apply Kd.N_drewN | apply Kd.N_drew)); exact HO_5.out⟩, ⟨by (try simp only [hl6_1]); (try simp only [hl6_2]); (with_reducible repeat (first | apply Kd.N_alloc | apply Kd.N_drewN | apply Kd.N_drew)); exact HO_6.out⟩, ⟨zB HB.out⟩⟩
 have c10b0 := decide_eq_false c10
 (try (have c10h0 := c10b0; simp only [hl6_1] at c10h0))
 clear c10
 obtain rfl := Option.some.inj H
 go_wp2
 go_ret
 exact ⟨_, zE, by (with_reducible repeat (first | apply Kd.N_alloc | apply Kd.N_drewN | apply Kd.N_drew)); exact Kd.N_mono HO_6.out (fun _ hk => hk.1), zB HB.out⟩
end Go.Proofs.Ytifkbghnmhineaa.PAll
section
set_option linter.unusedVariables false
set_option linter.unusedSimpArgs false
namespace Go.Proofs.Ytifkbghnmhineaa.PAll
open Go Go.RowKit Go.Proofs.YtifkbghnmhineaaW.PrintWords Go.Proofs.YtifkbghnmhineaaW.PrintLast Go.Proofs.YtifkbghnmhineaaW.PrintMore
def Wn (g cap : Nat) (pre post : List Int) (w : World) (base : Nat) (ok : Nat → Prop) (v : Value) (xs : List Int) : Prop :=
  (∃ c, v = .slice (some ⟨g, pre.length, none⟩) xs.length c ∧ xs.length ≤ c) ∧ (Kd.int .u32).R 97 w base ok (.slice (some ⟨g, 0, none⟩) (pre ++ (xs ++ post)).length cap) (pre ++ (xs ++ post))
section
variable {g cap : Nat} {pre post : List Int} {w w1 : World} {base : Nat} {ok ok' : Nat → Prop} {v : Value} {xs : List Int}
theorem Wn.alloc (h : Wn g cap pre post w base ok v xs) (o : Obj) : Wn g cap pre post (w.alloc o) base ok v xs := ⟨h.1, Kd.R_alloc h.2 o⟩
theorem Wn.drewN (h : Wn g cap pre post w base ok v xs) (m : Nat) : Wn g cap pre post (w.drewN m) base ok v xs := ⟨h.1, Kd.R_drewN h.2 m⟩
theorem Wn.drew (h : Wn g cap pre post w base ok v xs) : Wn g cap pre post w.drew base ok v xs := ⟨h.1, Kd.R_drew h.2⟩
theorem Wn.at_ {m : Nat} (hq : w.drewN m = w1) (h : Wn g cap pre post w base ok v xs) : Wn g cap pre post w1 base ok v xs := by subst hq; exact h.drewN m
theorem Wn.mono (h : Wn g cap pre post w base ok v xs) (hok : ∀ k, ok k → ok' k) : Wn g cap pre post w base ok' v xs := ⟨h.1, Kd.R_mono h.2 hok⟩
theorem Wn.own (h : Wn g cap pre post w base ok v xs) : ∀ k, v.ownBlock = some k → ok k := by
  obtain ⟨⟨c, rfl, _⟩, hr⟩ := h
  exact fun k hk => hr.1 k hk
theorem Wn.slice (h : Wn g cap pre post w base ok v xs) : ∃ A c, v = .slice A xs.length c := by
  obtain ⟨⟨c, e, _⟩, _⟩ := h
  exact ⟨_, c, e⟩
theorem Wn.reads' {A : Option Addr} {n c : Nat} (h : Wn g cap pre post w base ok (.slice A n c) xs) : n = xs.length ∧ n ≤ c ∧ (Kd.int .u32).C w A xs.length xs := by
  obtain ⟨⟨c', e, hc⟩, hr⟩ := h
  injection e with e1 e2 e3
  subst e1 e2 e3
  refine ⟨rfl, hc, ?_⟩
  have hC := (Kd.R_reads' hr).2.2
  have hl : (pre ++ (xs ++ post)).length = pre.length + (xs.length + post.length) := by simp
  have := Kd.C_mid (lo := pre.length) (hi := pre.length + xs.length) (c := (pre ++ (xs ++ post)).length + 1) hC (by omega) (by omega) (by omega)
  rw [if_neg (by omega)] at this
  have hx : ((pre ++ (xs ++ post)).take (pre.length + xs.length)).drop pre.length = xs := by
    rw [List.take_append, List.take_of_length_le (by omega), Nat.add_sub_cancel_left, List.take_append, List.take_of_length_le (Nat.le_refl _), Nat.sub_self, List.take_zero, List.append_nil, List.drop_left]
  rw [hx] at this
  have ha : ((some (⟨g, 0, none⟩ : Addr)).map (·.add (pre.length * (Kd.int .u32).sz))) = some ⟨g, pre.length, none⟩ := by
    show some ((⟨g, 0, none⟩ : Addr).add (pre.length * 1)) = _
    simp [Addr.add]
    intro e; simp [e]
  rw [ha] at this
  exact this
theorem Wn.form (h : Wn g cap pre post w base ok v xs) (hp : 0 < xs.length) : ∃ c, v = .slice (some ⟨g, pre.length, none⟩) xs.length c ∧ base ≤ g ∧ g < w.heap.size ∧ ∃ cells, w.heap[g]? = some (.cells cells 97 (0, 0)) := by
  obtain ⟨⟨c, e, _⟩, hr⟩ := h
  obtain ⟨g', cap', e', hb, hl, hc⟩ := Kd.R_form hr (by simp; omega)
  injection e' with e1
  injection e1 with e1
  injection e1 with e1
  subst e1
  exact ⟨c, e, hb, hl, hc⟩
theorem rd_mid (pre xs post : List Int) (i : Int) (h0 : 0 ≤ i) (h1 : i < xs.length) : rd (pre ++ (xs ++ post)) ((pre.length : Int) + i) = rd xs i := by
  unfold rd
  rw [show ((pre.length : Int) + i).toNat = pre.length + i.toNat by omega]
  rw [List.getD_eq_getElem?_getD, List.getD_eq_getElem?_getD, List.getElem?_append_right (by omega), Nat.add_sub_cancel_left, List.getElem?_append_left (by omega)]
theorem Wn.celln {A : Option Addr} {n c : Nat} (h : Wn g cap pre post w base ok (.slice A n c) xs) (i : Int) (h0 : 0 ≤ i) (hi : i < n) : w.cell? ⟨g, pre.length + i.toNat, none⟩ = some (.int .u32 (rd xs i)) ∧ w.frozen? ⟨g, pre.length + i.toNat, none⟩ = false := by
  have hn := h.reads'.1
  have := Kd.R_celln 0 h.2 ((pre.length : Int) + i) (by omega) (by simp; omega)
  rw [show ((pre.length : Int) + i).toNat = pre.length + i.toNat by omega] at this
  rw [show rdOf (0 : Int) (pre ++ (xs ++ post)) ((pre.length : Int) + i) = rd xs i from rd_mid pre xs post i h0 (by omega)] at this
  exact this
theorem Wn.putg {A : Option Addr} {n c : Nat} (h : Wn g cap pre post w base ok (.slice A n c) xs) (i : Int) (h0 : 0 ≤ i) (hi : i < n) (x : Int) : Wn g cap pre post (w.setCell ⟨g, pre.length + i.toNat, none⟩ (.int .u32 x)) base ok (.slice A n c) (xs.set i.toNat x) ∧ w.grownBy (w.setCell ⟨g, pre.length + i.toNat, none⟩ (.int .u32 x)) (some g) := by
  have hn := h.reads'.1
  have := Kd.R_putg h.2 ((pre.length : Int) + i) x
  rw [show ((pre.length : Int) + i).toNat = pre.length + i.toNat by omega] at this
  have e : (pre ++ (xs ++ post)).set (pre.length + i.toNat) x = pre ++ (xs.set i.toNat x ++ post) := by
    rw [List.set_append_right _ _ (by omega), Nat.add_sub_cancel_left, List.set_append_left _ _ (by omega)]
  rw [e] at this
  refine ⟨⟨?_, ?_⟩, this.2⟩
  · obtain ⟨⟨c', e, hc⟩, _⟩ := h
    exact ⟨c', by rw [List.length_set]; exact e, by rw [List.length_set]; exact hc⟩
  · have hl : (pre ++ (xs.set i.toNat x ++ post)).length = (pre ++ (xs ++ post)).length := by simp
    rw [hl]
    exact this.1
end
theorem add_at (g o n : Nat) : (⟨g, o, none⟩ : Addr).add n = ⟨g, o + n, none⟩ := by
  unfold Addr.add
  split
  · rename_i h; rw [h]; rfl
  · rfl
theorem Wn.make {w : World} {base g lo hi n co c : Nat} {ok : Nat → Prop} {Ao A : Option Addr} {x y : List Int} (hR : (Kd.int .u32).R 97 w base ok (.slice Ao n co) x) (hA : Ao = some ⟨g, 0, none⟩) (hA2 : A = if co = lo then Ao else Ao.map (·.add (lo * 1))) (hc : y.length ≤ c) (hy : y = (x.take hi).drop lo) (h1 : lo ≤ hi) (h2 : hi ≤ x.length) (hp : 0 < y.length) :
    Wn g co (x.take lo) (x.drop hi) w base ok (.slice A y.length c) y := by
  obtain ⟨hn, hco, _⟩ := Kd.R_reads' hR
  have hl : y.length = hi - lo := by rw [hy, List.length_drop, List.length_take]; omega
  have e : x.take lo ++ (y ++ x.drop hi) = x := by
    rw [hy]
    have h3 : (x.take hi).take lo = x.take lo := by rw [List.take_take, Nat.min_eq_left h1]
    rw [← List.append_assoc, ← h3, List.take_append_drop, List.take_append_drop]
  refine ⟨⟨c, ?_, hc⟩, ?_⟩
  · rw [hA2, if_neg (by omega), hA]
    congr 1
    rw [List.length_take, Nat.min_eq_left (by omega)]
    simp [Addr.add]
    intro e; simp [e]
  · rw [e, ← hn, ← hA]; exact hR
theorem Wn.back {g co n base : Nat} {pre post r : List Int} {w : World} {ok : Nat → Prop} {v : Value} {Ao : Option Addr} (h : Wn g co pre post w base ok v r) (hA : Ao = some ⟨g, 0, none⟩) (hn : n = (pre ++ (r ++ post)).length) : (Kd.int .u32).R 97 w base ok (.slice Ao n co) (pre ++ (r ++ post)) := by
  subst hA hn; exact h.2
theorem zW {P Q : Prop} (h : P) (f : P → Q := by intro h; (with_reducible repeat (first | apply Wn.alloc | apply Wn.drewN | apply Wn.drew)); exact h) : Q := f h
end Go.Proofs.Ytifkbghnmhineaa.PAll
end
namespace Go.Proofs.Ytifkbghnmhineaa.PAll
open Go.RowKit Go.Proofs.YtifkbghnmhineaaW.PrintWords Go.Proofs.YtifkbghnmhineaaW.PrintLast Go.Proofs.YtifkbghnmhineaaW.PrintMore
attribute [local go_sem] max2_int min2_int max_two min_two max_three min_three max_four min_four
set_option linter.unusedVariables false
set_option linter.unusedSimpArgs false
set_option maxHeartbeats 8000000 in
set_option maxRecDepth 100000 in
theorem bits_LeadingZeros32.calls (a0 : Int) (r : Int) (w : World) (h : bits_LeadingZeros32.f a0 = some r) :
    Calls Try.prog 138 #[.int .u32 a0] w fun e w' => e = .returned (.int .i64 r) ∧ Drawn0 w w' := by
 have H : ((bits_Len32.f a0).bind fun t101 => (some (wrap64 (32 - t101)))) = some r := h
 clear h
 replace H := zb H
 obtain ⟨t101, A2, H⟩ := H
 obtain rfl := Option.some.inj H
 go_enter Try.func138, Try.ntmps138
 go_wp2_with (first | ((with_reducible refine gC 121 ?_); refine zG (some 4) Try.func121 #[.int .u32 a0] ?_; (with_reducible refine (bits_Len32.calls a0 t101 _ A2.out).mono ?_); rintro e w' ⟨rfl, ⟨nd, rfl⟩⟩; refine ⟨_, rfl, ?_⟩))
 go_ret
 exact ⟨zF, by repeat (first | exact Drawn0.refl _ | apply Drawn0.step)⟩
set_option maxHeartbeats 8000000 in
set_option maxRecDepth 100000 in
theorem nat_shift.calls (k : Nat) (A0 : Option Addr) (c0 : Nat) (l0 : List Int) (a1 : Int) (r : List Int) (w : World) (hr0 : Kd.C (Kd.int .u32) w A0 l0.length l0) (hc0 : l0.length ≤ c0) (h : nat_shift.f k l0 a1 = some r) :
    Calls Try.prog 139 #[.slice A0 l0.length c0, .int .i64 a1] w fun e w' => ∃ v0_ : Value, e = .returned (v0_) ∧ Kd.R (Kd.int .u32) 97 w' w.heap.size (fun _ => True) v0_ r ∧ Below w.heap.size w w' := by
 have HR0 := Aside0.mk hr0
 have HC0 := Aside0.mk hc0
 clear hr0 hc0
 have HB := Aside0.mk (Below.refl w.heap.size w)
 have H : (if 0 ≤ (wrap64 ((l0.length : Int) + 1)) then (if (wrap64 ((l0.length : Int) + 1) : Int).toNat ≤ 70368744177664 then (nat_shift.l0 k l0 a1 (List.replicate (wrap64 ((l0.length : Int) + 1) : Int).toNat 0) 0 l0 (l0.length : Int) 0) else (none)) else (none)) = some r := h
 clear h
 obtain ⟨ji3, hji3⟩ : ∃ j_ : Int, (wrap64 ((l0.length : Int) + 1)) = j_ := ⟨_, rfl⟩
 replace H : (if 0 ≤ (ji3) then (if (ji3 : Int).toNat ≤ 70368744177664 then (nat_shift.l0 k l0 a1 (List.replicate (ji3 : Int).toNat 0) 0 l0 (l0.length : Int) 0) else (none)) else (none)) = some r := by first | (rw [hji3] at H; exact H) | (simp only [hji3] at H ⊢; exact H)
 have hji3w : (IntKind.i64.wrap ((l0.length : Int) + 1)) = ji3 := (i64_w _).trans hji3
 replace H := zg H
 obtain ⟨c4, H⟩ := H
 have c4b0 := eq_true c4
 have c4b1 := decide_eq_true c4
 clear c4
 replace H := zg H
 obtain ⟨c5, H⟩ := H
 have c5b0 := eq_true c5
 have c5b1 := decide_eq_true c5
 clear c5
 obtain ⟨y101, hy101⟩ : ∃ y_ : List Int, y_ = (List.replicate (ji3 : Int).toNat 0) := ⟨_, rfl⟩
 replace H : (nat_shift.l0 k l0 a1 y101 0 l0 (l0.length : Int) 0) = some r := zY hy101 H
 have Ny101 := Aside0.mk hy101
 clear hy101
 have H' := Aside0.mk H
 clear H
 go_enter Try.func139, Try.ntmps139
 go_wp2_with (first | ((with_reducible refine gate_dst (N := 13) rfl ?_); refine Kd.R_make (Kd.int .u32) _ 97 rfl (N := 13) rfl 29 _ _ rfl ji3 rfl rfl Try.underlying29 (.int .u32 0) 4 info97 rfl (by decide) (by omega) 0 (ok := fun _ => True) (okp := fun _ => True) rfl (fun _ hk => hk) trivial zd (Nat.le_trans (Nat.mul_le_mul_right _ (zd : ji3.toNat ≤ 70368744177664)) (by omega)) (Below.refl _ _) (Nat.le_refl _) ?_; intro v102 w6 ho7 hb hg_ hnew_; clear hg_ hnew_; (first | rw [← Ny101.out] at ho7 | (simp only [Int.reduceToNat] at ho7; rw [← Ny101.out] at ho7)); have HO103 := yRl ho7 HB; replace HB := yS HB hb; clear hb ho7))
 go_loopg [6, 16] k (fun kq v6 v16 w' => ∃ (x5_1 : List Int) (x6_1 : Int) (x16_1 : Int), v6 = .int .u64 x6_1 ∧ v16 = .int .i64 x16_1 ∧ Aside0 (nat_shift.l0 kq l0 a1 x5_1 x6_1 l0 (l0.length : Int) x16_1 = some r) ∧ Aside0 (kq ≤ k) ∧ Aside0 (Kd.R (Kd.int .u32) 97 w' w.heap.size (fun _ => True) v102 x5_1) ∧ Aside0 (Below w.heap.size w w'))
 case atStart => exact ⟨(y101), (0), (0), zF, zF, H', ⟨Nat.le_refl _⟩, ⟨zR HO103.out⟩, ⟨zB HB.out⟩⟩
 clear H'
 (try clear c4);(try clear c4b0);(try clear c4b1);(try clear c5);(try clear c5b0);(try clear c5b1)
 obtain ⟨x5_1, x6_1, x16_1, rfl, rfl, HA, HK1, HO_5, HB⟩ := hrel
 cases gk with | zero => exact absurd HA.out (by simp [nat_shift.l0]) | succ k1 => ?_
 have H := HA.out
 clear HA
 simp only [nat_shift.l0] at H
 replace H := zid H
 rcases H with ⟨c8b0, H⟩ | ⟨c8b0, H⟩
 · replace H := zgd H
   obtain ⟨c9b0, H⟩ := H
   replace H := zgd H
   obtain ⟨c10b0, H⟩ := H
   replace H := zg H
   obtain ⟨c11, H⟩ := H
   have c11b0 := eq_true c11
   have c11b1 := decide_eq_true c11
   clear c11
   obtain ⟨ji12, hji12⟩ : ∃ j_ : Int, (shl .u64 (IntKind.u64.wrap (rd l0 x16_1)) a1) = j_ := ⟨_, rfl⟩
   replace H : (if x16_1 < (x5_1.length : Int) then (nat_shift.l0 k1 l0 a1 (x5_1.set (x16_1 : Int).toNat ((Go.bits .or .u64 (ji12) x6_1) % 4294967296)) ((Go.bits .or .u64 (ji12) x6_1) / 4294967296) l0 (l0.length : Int) (wrap64 (x16_1 + 1))) else (none)) = some r := by first | (rw [hji12] at H; exact H) | (simp only [hji12] at H ⊢; exact H)
   have hji12_ : (IntKind.u64.wrap ((IntKind.u64.wrap (rd l0 x16_1)) * 2 ^ min a1.toNat 64)) = ji12 := hji12
   have hji12z : a1 ≤ 64 → (IntKind.u64.wrap ((IntKind.u64.wrap (rd l0 x16_1)) * 2 ^ a1.toNat)) = ji12 := shl_small hji12
   replace H := zgd H
   obtain ⟨c13b0, H⟩ := H
   obtain ⟨y105, hy105⟩ : ∃ y_ : List Int, y_ = (x5_1.set (x16_1 : Int).toNat ((Go.bits .or .u64 (ji12) x6_1) % 4294967296)) := ⟨_, rfl⟩
   replace H : (nat_shift.l0 k1 l0 a1 y105 ((Go.bits .or .u64 (ji12) x6_1) / 4294967296) l0 (l0.length : Int) (wrap64 (x16_1 + 1))) = some r := zY hy105 H
   have Ny105 := Aside0.mk hy105
   clear hy105
   have H' := Aside0.mk H
   clear H
   have p104 : 0 ≤ (x16_1 : Int) := zd
   have q104 : x16_1 < (l0.length : Int) := zd
   obtain ⟨ad104, e104, hx104_0⟩ := Kd.at_int HR0.out x16_1 p104 q104
   cases e104
   replace hx104_0 := (HB.out.cell (World.block_lt_of_cell? w _ hx104_0)).trans hx104_0
   replace p104 := eq_true p104
   replace q104 := eq_true q104
   have p14 : 0 ≤ (x16_1 : Int) := zd
   have q14 : (x16_1 : Int) < ((x5_1.length : Int) : Int) := zd
   obtain ⟨go14, co14, eo14, gb14, gl14, cl14, HG14⟩ := Kd.R_form HO_5.out (by omega)
   (first | cases eo14 | (injection eo14 with ea_ en_ ec_; (first | subst ea_ | (injection ea_ with ea_; subst ea_)); subst ec_; clear en_))
   have GB14 := Aside0.mk gb14
   have GG14 := Aside0.mk HG14
   clear gb14 gl14 HG14
   obtain ⟨hx14_0, hf14_0⟩ := Kd.R_celln 0 HO_5.out (x16_1 : Int) p14 q14
   replace p14 := eq_true p14
   replace q14 := eq_true q14
   have HP15 := Kd.R_putg HO_5.out (x16_1 : Int) ((Go.bits .or .u64 (ji12) x6_1) % 4294967296)
   go_wp2_with (first | ((with_reducible refine gate_store (t := 97) (p := 31) rfl ?_); refine store_event (t := 97) (p := 31) (v := ?vo_w16) (w1 := (wr.setCell ⟨go14, (x16_1 : Int).toNat, none⟩ (.int .u32 ((Go.bits .or .u64 (ji12) x6_1) % 4294967296)))) ?hg ?ho ?hn ?hr ?_; (case ho => rfl); (case hg => rfl); (case hn => rfl); (case hr => first | (go_simp; done) | (go_simp; rfl)); intro w16 hw; have hg : wr.grownBy w16 (some go14) := (by rw [hw]; exact HP15.2); have hp_ : Kd.R (Kd.int .u32) 97 w16 w.heap.size (fun _ => True) (.slice (some ⟨go14, 0, none⟩) x5_1.length co14) y105 := (by rw [hw, Ny105.out]; exact HP15.1); clear HP15; replace HO_5 := Aside0.mk (hp_); replace HB := Aside0.mk ((by rw [hw]; exact below_set (HB.out) GB14.out : Below w.heap.size w w16)); clear hg hw hp_))
   go_roundg k1
   case measure => have := HK1.out; omega
   case rel => exact ⟨(y105), ((Go.bits .or .u64 (ji12) x6_1) / 4294967296), (wrap64 (x16_1 + 1)), (by first | rfl | (simp; done) | (simp only [← hji12] <;> (first | rfl | simp)) | (simp [*]; done)), zF, H', ⟨zo1 HK1⟩, ⟨zR HO_5.out⟩, ⟨zB HB.out⟩⟩
 replace H := zg H
 obtain ⟨c17, H⟩ := H
 have c17b0 := decide_eq_true c17
 have c17b1 : decide (0 ≤ l0.length) = true := decide_eq_true (by omega)
 clear c17
 replace H := zg H
 obtain ⟨c18, H⟩ := H
 have c18b0 := decide_eq_true c18
 have c18b1 : decide (l0.length < x5_1.length) = true := decide_eq_true (Int.ofNat_lt.mp c18)
 clear c18
 obtain ⟨y106, hy106⟩ : ∃ y_ : List Int, y_ = (x5_1.set ((l0.length : Int) : Int).toNat ((x6_1) % 4294967296)) := ⟨_, rfl⟩
 replace H : (some y106) = some r := zY hy106 H
 have Ny106 := Aside0.mk hy106
 clear hy106
 obtain rfl := Option.some.inj H
 have p19 : 0 ≤ ((l0.length : Int) : Int) := zd
 have q19 : ((l0.length : Int) : Int) < ((x5_1.length : Int) : Int) := zd
 obtain ⟨go19, co19, eo19, gb19, gl19, cl19, HG19⟩ := Kd.R_form HO_5.out (by omega)
 (first | cases eo19 | (injection eo19 with ea_ en_ ec_; (first | subst ea_ | (injection ea_ with ea_; subst ea_)); subst ec_; clear en_))
 have GB19 := Aside0.mk gb19
 have GG19 := Aside0.mk HG19
 clear gb19 gl19 HG19
 obtain ⟨hx19_0, hf19_0⟩ := Kd.R_celln 0 HO_5.out ((l0.length : Int) : Int) p19 q19
 replace p19 := eq_true p19
 replace q19 := eq_true q19
 obtain ⟨hy20_, hz20_⟩ := Kd.R_celln 0 HO_5.out ((l0.length : Int) : Int) zd zd
 (try simp only [Go.IntWalk.toNatUp] at hy20_ hz20_)
 have HP20 := Kd.R_putg HO_5.out ((l0.length : Int) : Int) ((x6_1) % 4294967296)
 go_wp2_with (first | ((with_reducible refine gate_store (t := 97) (p := 40) rfl ?_); refine store_event (t := 97) (p := 40) (v := ?vo_w21) (w1 := (wr.setCell ⟨go19, ((l0.length : Int) : Int).toNat, none⟩ (.int .u32 ((x6_1) % 4294967296)))) ?hg ?ho ?hn ?hr ?_; (case ho => rfl); (case hg => rfl); (case hn => rfl); (case hr => first | (go_simp; done) | (go_simp; rfl)); intro w21 hw; have hg : wr.grownBy w21 (some go19) := (by rw [hw]; exact HP20.2); have hp_ : Kd.R (Kd.int .u32) 97 w21 w.heap.size (fun _ => True) (.slice (some ⟨go19, 0, none⟩) x5_1.length co19) y106 := (by rw [hw, Ny106.out]; exact HP20.1); clear HP20; replace HO_5 := Aside0.mk (hp_); replace HB := Aside0.mk ((by rw [hw]; exact below_set (HB.out) GB19.out : Below w.heap.size w w21)); clear hg hw hp_))
 go_ret
 exact ⟨_, by first | rfl | (simp [errW_none, errW_some] <;> rfl) | (simp only [← hji3]; first | rfl | (simp [errW_none, errW_some] <;> rfl)) | (simp [*, errW_none, errW_some] <;> rfl), zR HO_5.out, zB HB.out⟩
end Go.Proofs.Ytifkbghnmhineaa.PAll
