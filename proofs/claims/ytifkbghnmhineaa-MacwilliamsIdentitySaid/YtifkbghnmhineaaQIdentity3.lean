/- What functions of the program do and come to, for the statement MacwilliamsIdentity, part 3. Conditions: as each theorem says. -/
import Derived.Test.YtifkbghnmhineaaQIdentity2

namespace Go.Proofs.Ytifkbghnmhineaa.PAll
open Go.RowKit Go.Proofs.YtifkbghnmhineaaW.PrintWords Go.Proofs.YtifkbghnmhineaaW.PrintLast Go.Proofs.YtifkbghnmhineaaW.PrintMore
attribute [local go_sem] max2_int min2_int max_two min_two max_three min_three max_four min_four
set_option linter.unusedVariables false
set_option linter.unusedSimpArgs false
def mw_table.T18 : Bool × List (List Nat × List Nat) := (true, [([], []), ([], []), ([], []), ([1, 2], [1, 2]), ([3], [3]), ([], []), ([], []), ([6], [6]), ([5, 7], [5, 7]), ([8], [8]), ([4, 9], [4, 9]), ([], []), ([], []), ([], []), ([13], [13]), ([12, 14], [12, 14]), ([15], [15]), ([11, 16, 10], [11, 16]), ([10, 17, 17], [10, 17]), ([18], [18]), ([0, 19, 18], [0, 19]), ([20, 20, 0, 1, 2, 3, 4, 5, 6, 7, 8, 9, 10, 11, 12, 13, 14, 15, 16, 17, 18, 19, 20], [0, 12, 20])])
def mw_table.B18 : List Nat := [0, 0, 0, 6, 14, 0, 0, 64, 224, 480, 1022, 0, 0, 0, 8192, 28672, 61440, 131070, 262142, 524286, 1048575, 2097151]
theorem mw_table.tab18 : rtab .any (opsOf Try.f94 18) = mw_table.T18 := by kernel_rfl
theorem mw_table.bits18 : waitsOk mw_table.T18.2 mw_table.B18 = true := by kernel_rfl
set_option maxHeartbeats 8000000 in
set_option maxRecDepth 100000 in
theorem mw_table.calls (k : Nat) (a0 : Int) (a1 : Int) (r : List (List (S113))) (w : World) (h : mw_table.f k a0 a1 = some r) :
    Calls Try.prog 94 #[.int .i64 a0, .int .i64 a1] w fun e w' => ∃ v0_ : Value, e = .returned (v0_) ∧ Kd.N (Kd.slice 113 k113) 114 w' w.heap.size (fun k_ => (w.heap.size ≤ k_)) v0_ r ∧ Below w.heap.size w w' := by
 have hu113 := Try.underlying113
 have HB := zk (Below.refl w.heap.size w)
 have H := h
 clear h
 unfold mw_table.f at H
 obtain ⟨ji3, hji3⟩ : ∃ j_ : Int, (wrap64 (a1 + 1)) = j_ := ⟨_, rfl⟩
 replace H : (if 0 ≤ (ji3) then (if (ji3 : Int).toNat ≤ 8796093022208 then ((some (List.replicate (ji3 : Int).toNat z113 : List (S113))).bind fun ya1 => (mw_table.l0 k a0 a1 ya1 (ya1.length : Int) 0)) else (none)) else (none)) = some r := by first | (rw [hji3] at H; exact H) | (simp only [hji3] at H ⊢; exact H)
 have hji3w : (IntKind.i64.wrap (a1 + 1)) = ji3 := (i64_w _).trans hji3
 replace H := zg H
 obtain ⟨c4, H⟩ := H
 have c4b0 := eq_true c4
 have c4b1 := decide_eq_true c4
 clear c4
 replace H := zg H
 obtain ⟨c5, H⟩ := H
 have c5b0 := eq_true c5
 have c5b1 := decide_eq_true c5
 clear c5
 obtain ⟨ya1, hya1⟩ : ∃ y_ : List (S113), y_ = (List.replicate (ji3 : Int).toNat z113) := ⟨_, rfl⟩
 replace H : (mw_table.l0 k a0 a1 ya1 (ya1.length : Int) 0) = some r := zY hya1 H
 have Nya1 := zk hya1
 clear hya1
 have H' := zk H
 clear H
 go_enter Try.func94, Try.ntmps94
 go_wp2_with (first | ((with_reducible refine gate_dst (N := 18) rfl ?_); refine Kd.N_make k113 _ 113 rfl (N' := 18) rfl 114 _ _ rfl ji3 rfl rfl Try.underlying114 (.agg #[(.bool false), (.slice none 0 0)]) 32 info113 rfl (by decide) (by omega) z113 (ok := fun k_ => w.heap.size ≤ k_) (okp := fun _ => False) (k113_mkF _ _ z113 (Nat.le_refl _) (Kd.F_nil _ _ _)) (fun _ hk => hk.elim) (Nat.le_refl _) zd (Nat.le_trans (Nat.mul_le_mul_right _ (zd : ji3.toNat ≤ 8796093022208)) (by omega)) (Below.refl _ _) (Nat.le_refl _) ?_; intro va2 w6 ho7 hb hg_ hnew_; clear hg_ hnew_; (first | rw [← Nya1.out] at ho7 | (simp only [Int.reduceToNat] at ho7; rw [← Nya1.out] at ho7)); have HOa3 := zk (Kd.N_lower (Kd.N_mono (ok' := fun k_ => (w.heap.size ≤ k_)) ho7 (fun k_ hk_ => (Nat.le_trans (below_size (zB HB.out)) hk_))) (below_size (zB HB.out))); replace HB := yS HB hb; clear hb ho7; obtain ⟨Ao8, co8, rfl⟩ := Kd.N_slice HOa3.out))
 go_loopg [21] k (fun kq v21 w' => ∃ (x5_1 : List (S113)) (x21_1 : Int), v21 = .int .i64 x21_1 ∧ Aside0 (mw_table.l0 kq a0 a1 x5_1 (ya1.length : Int) x21_1 = some r) ∧ Aside0 (kq ≤ k) ∧ Aside0 (Kd.N k113 113 w' w.heap.size (fun k_ => (w.heap.size ≤ k_)) (.slice Ao8 ya1.length co8) x5_1) ∧ Aside0 (Below w.heap.size w w'))
 case atStart => exact ⟨(ya1), (0), zF, H', ⟨Nat.le_refl _⟩, ⟨zN HOa3.out⟩, ⟨zB HB.out⟩⟩
 clear H'
 (try clear c4);(try clear c4b0);(try clear c4b1);(try clear c5);(try clear c5b0);(try clear c5b1)
 obtain ⟨x5_1, x21_1, rfl, HA, HK1, HO_5, HB⟩ := hrel
 have hl5_1 := (Kd.N_reads' HO_5.out).1
 rw [hl5_1] at HO_5
 (try simp only [hl5_1])
 cases gk with | zero => exact absurd HA.out (by simp [mw_table.l0]) | succ k1 => ?_
 have H := HA.out
 clear HA
 simp only [mw_table.l0] at H
 replace H := zi H
 rcases H with ⟨c9, H⟩ | ⟨c9, H⟩
 · have c9b0 := decide_eq_true c9
   (try (have c9h0 := c9b0; simp only [hl5_1] at c9h0))
   clear c9
   replace H := zb H
   obtain ⟨⟨ta4, ta5⟩, A10, H⟩ := H
   dsimp only at H
   replace H := zb H
   obtain ⟨ta8, A11, H⟩ := H
   replace H := zb H
   obtain ⟨⟨tb1, tb2⟩, A12, H⟩ := H
   dsimp only at H
   obtain ⟨yb5, hyb5⟩ : ∃ y_ : List (List Int), y_ = (([ta4, tb1] : List (List Int))) := ⟨_, rfl⟩
   replace H : ((nat_Mul.f k1 yb5).bind fun tb8 => (if 0 ≤ x21_1 then (if x21_1 < (x5_1.length : Int) then (mw_table.l0 k1 a0 a1 (x5_1.set (x21_1 : Int).toNat (⟨false, tb8⟩ : S113)) (ya1.length : Int) (wrap64 (x21_1 + 1))) else (none)) else (none))) = some r := zY hyb5 H
   have Nyb5 := zk hyb5
   clear hyb5
   replace H := zb H
   obtain ⟨tb8, A13, H⟩ := H
   replace H := zgd H
   obtain ⟨c14b0, H⟩ := H
   replace H := zg H
   obtain ⟨c15, H⟩ := H
   have c15b0 := decide_eq_true c15
   (try (have c15h0 := c15b0; simp only [hl5_1] at c15h0))
   clear c15
   obtain ⟨yc1, hyc1⟩ : ∃ y_ : List (S113), y_ = (x5_1.set (x21_1 : Int).toNat (⟨false, tb8⟩ : S113)) := ⟨_, rfl⟩
   replace H : (mw_table.l0 k1 a0 a1 yc1 (ya1.length : Int) (wrap64 (x21_1 + 1))) = some r := zY hyc1 H
   have Nyc1 := zk hyc1
   clear hyc1
   have H' := zk H
   clear H
   go_wp2_with (first | ((with_reducible refine gC 72 ?_); refine zG (some 27) Try.func72 #[.int .i64 a1, .int .i64 x21_1] ?_; (with_reducible refine (nat_Binomial.calls k1 a1 x21_1 ta4 ta5 _ A10.out).mono ?_); rintro e w17 ⟨va6, rfl, ho0, hb⟩; refine ⟨_, rfl, ?_⟩; replace HO_5 := yNe HO_5 ho0 hb; replace ho0 := Kd.R_newM (M := fun k_ => (w.heap.size ≤ k_)) ho0 (below_size (zB HB.out)) (fun k_ h_ => h_); have HOa7 := yRl ho0 HB; replace HB := yS HB hb; (try clear hb ho0)) | ((with_reducible refine gC 80 ?_); refine zG (some 34) Try.func80 #[.int .u64 (IntKind.u64.wrap (wrap64 (a0 - 1)))] ?_; (with_reducible refine (nat_Of.calls k1 (IntKind.u64.wrap (wrap64 (a0 - 1))) ta8 _ A11.out).mono ?_); rintro e w18 ⟨va9, rfl, ho0, hb⟩; refine ⟨_, rfl, ?_⟩; replace HO_5 := yNe HO_5 ho0 hb; replace ho0 := Kd.R_newM (M := fun k_ => (w.heap.size ≤ k_)) ho0 (below_size (zB HB.out)) (fun k_ h_ => h_); replace ho0 := yn ho0 HOa7; have HOb0 := yRl ho0 HB; replace HOa7 := yRe HOa7 ho0 hb; replace HB := yS HB hb; (try clear hb ho0); obtain ⟨Ao19, co19, rfl⟩ := Kd.R_slice HOb0.out) | ((with_reducible refine gC 85 ?_); refine zG (some 36) Try.func85 #[.slice Ao19 ta8.length co19, .int .i64 x21_1] ?_; (with_reducible refine (nat_Pow.calls k1 _ _ ta8 x21_1 tb1 tb2 _ ?side1 ?side2 A12.out).mono ?_); (case side1 => exact zC (Kd.R_reads' HOb0.out).2.2); (case side2 => exact (Kd.R_reads' HOb0.out).2.1); rintro e w20 ⟨vb3, rfl, ho0, hb⟩; refine ⟨_, rfl, ?_⟩; replace HO_5 := yNe HO_5 ho0 hb; replace ho0 := Kd.R_newM (M := fun k_ => (w.heap.size ≤ k_)) ho0 (below_size (zB HB.out)) (fun k_ h_ => h_); replace ho0 := yn ho0 HOa7; replace ho0 := yn ho0 HOb0; have HOb4 := yRl ho0 HB; replace HOa7 := yRe HOa7 ho0 hb; replace HOb0 := yRe HOb0 ho0 hb; replace HB := yS HB hb; (try clear hb ho0); obtain ⟨Ao21, co21, rfl⟩ := Kd.R_slice HOa7.out; obtain ⟨Ao22, co22, rfl⟩ := Kd.R_slice HOb4.out) | ((with_reducible refine gate_dst (N := 43) rfl ?_); refine Kd.N_lit (Kd.slice 97 (Kd.int .u32)) _ 29 ?hg (N' := 43) ?hd (xs := ([ta4, tb1] : List (List Int))) (inner := [.slice Ao21 ta4.length co21, .slice Ao22 tb1.length co22]) (ok := (fun k_ => (w.heap.size ≤ k_) ∧ some k_ ≠ (.slice Ao8 x5_1.length co8 : Value).ownBlock ∧ some k_ ≠ (.slice Ao19 ta8.length co19 : Value).ownBlock)) (okp := (fun k_ => (w.heap.size ≤ k_) ∧ some k_ ≠ (.slice Ao8 x5_1.length co8 : Value).ownBlock ∧ some k_ ≠ (.slice Ao19 ta8.length co19 : Value).ownBlock)) ?hr ?hp (fun _ hk => hk) ((show ∀ k_, w20.heap.size ≤ k_ → (fun k_ => (w.heap.size ≤ k_) ∧ some k_ ≠ (.slice Ao8 x5_1.length co8 : Value).ownBlock ∧ some k_ ≠ (.slice Ao19 ta8.length co19 : Value).ownBlock) k_ from fun k_ hk => ⟨(Nat.le_trans (below_size (zB HB.out)) hk), Kd.fresh' (Kd.N_lt (zN HO_5.out)) k_ hk, Kd.fresh' (Kd.R_lt (zR HOb0.out)) k_ hk⟩) _ (Nat.le_refl _)) (Below.refl _ _) (Nat.le_refl _) (by simp) ?_; (case hd => rfl); (case hg => rfl); (case hr => first | (go_simp; done) | (go_simp; rfl)); (case hp => exact (Reps.one (show Kd.FK (Kd.slice 97 (Kd.int .u32)) _ _ ta4 [.slice Ao21 ta4.length co21] from (Mw.FK_of_R (Kd.R_mono (ok' := (fun k_ => (w.heap.size ≤ k_) ∧ some k_ ≠ (.slice Ao8 x5_1.length co8 : Value).ownBlock ∧ some k_ ≠ (.slice Ao19 ta8.length co19 : Value).ownBlock)) (Kd.R_apart' (HOa7.out) (Kd.N_typed HO_5.out) (by decide)) (fun k_ hk => by exact ⟨hk.1.1.1.1, ⟨hk.2, hk.1.1.2⟩⟩)))) (Reps.one (show Kd.FK (Kd.slice 97 (Kd.int .u32)) _ _ tb1 [.slice Ao22 tb1.length co22] from (Mw.FK_of_R (Kd.R_mono (ok' := (fun k_ => (w.heap.size ≤ k_) ∧ some k_ ≠ (.slice Ao8 x5_1.length co8 : Value).ownBlock ∧ some k_ ≠ (.slice Ao19 ta8.length co19 : Value).ownBlock)) (Kd.R_apart' (HOb4.out) (Kd.N_typed HO_5.out) (by decide)) (fun k_ hk => by exact ⟨hk.1.1.1.1, ⟨hk.2, hk.1.2⟩⟩)))) (Reps.none _ _)))); intro vb6 w23 ho24 hb hg_ hnew_; clear hg_ hnew_; (first | rw [← Nyb5.out] at ho24 | (simp only [Int.reduceToNat] at ho24; rw [← Nyb5.out] at ho24)); replace HO_5 := zk (Kd.N_elder' (zN HO_5.out) (Kd.N_base ho24) hb); replace HOb0 := yRb HOb0 hb; have HOb7 := zk (Kd.N_lower ho24 (below_size (zB HB.out))); replace HB := yS HB hb; clear HOa7 HOb4; clear hb ho24; obtain ⟨Ao25, co25, rfl⟩ := Kd.N_slice HOb7.out) | ((with_reducible refine gC 74 ?_); refine zG (some 44) Try.func74 #[.slice Ao25 yb5.length co25] ?_; (with_reducible refine (nat_Mul.calls k1 _ _ yb5 tb8 _ ?side1 ?side2 A13.out).mono ?_); (case side1 => exact zC (Kd.N_reads' HOb7.out).2.2); (case side2 => exact (Kd.N_reads' HOb7.out).2.1); rintro e w26 ⟨vb9, rfl, ho0, hb⟩; refine ⟨_, rfl, ?_⟩; replace HO_5 := yNe HO_5 ho0 hb; replace HOb7 := yNe HOb7 ho0 hb; replace ho0 := Kd.R_newM (M := fun k_ => (w.heap.size ≤ k_)) ho0 (below_size (zB HB.out)) (fun k_ h_ => h_); replace ho0 := yn ho0 HOb0; have HOc0 := yRl ho0 HB; replace HOb0 := yRe HOb0 ho0 hb; replace HB := yS HB hb; (try clear hb ho0); obtain ⟨Ao27, co27, rfl⟩ := Kd.R_slice HOc0.out; have p16 : 0 ≤ (x21_1 : Int) := zd; have q16 : (x21_1 : Int) < ((x5_1.length : Int) : Int) := zd; obtain ⟨go16, co16, eo16, gb16, gl16, cl16, HG16⟩ := Kd.N_form HO_5.out (by omega); (first | cases eo16 | (injection eo16 with ea_ en_ ec_; (first | subst ea_ | (injection ea_ with ea_; subst ea_)); subst ec_; clear en_)); have GB16 := zk gb16; have GG16 := zk HG16; clear gb16 gl16 HG16; obtain ⟨ce16, hcl16, hM16, hcc16, hfr16⟩ := Kd.N_elem HO_5.out z113 (x21_1 : Int) p16 q16; obtain ⟨ua16_1, uc16_1, rfl, ul16_1, ge16_1⟩ := k113_openF hM16; have hx16_0 : w26.cell? ⟨go16, (x21_1 : Int).toNat * 2, none⟩ = some (.bool ((rd_T113 x5_1 x21_1).f0)) := hcc16 0 _ rfl; have hx16_1 : w26.cell? ⟨go16, (x21_1 : Int).toNat * 2 + 1, none⟩ = some (.slice ua16_1 ((rd_T113 x5_1 x21_1).f1).length uc16_1) := hcc16 1 _ rfl; have hf16_0 : w26.frozen? ⟨go16, (x21_1 : Int).toNat * 2, none⟩ = false := hfr16 0; have hf16_1 : w26.frozen? ⟨go16, (x21_1 : Int).toNat * 2 + 1, none⟩ = false := hfr16 1; clear hcl16 hcc16 hfr16 hM16; replace p16 := eq_true p16; replace q16 := eq_true q16; have n_ := zk (Kd.N_mono (ok' := (fun k_ => (w.heap.size ≤ k_) ∧ some k_ ≠ (.slice Ao19 ta8.length co19 : Value).ownBlock ∧ some k_ ≠ (.slice Ao25 yb5.length co25 : Value).ownBlock ∧ some k_ ≠ (.slice Ao27 tb8.length co27 : Value).ownBlock)) HO_5.out (fun k_ hk => ⟨hk.1.1.1.1.1, ⟨hk.1.1.1.2, ⟨hk.1.2, hk.2⟩⟩⟩)); clear HO_5; have HO_5 := n_; clear n_; have HX28 := zk (show Kd.N k113 113 w26 w.heap.size (fun k_ => (w.heap.size ≤ k_) ∧ some k_ ≠ (.slice Ao19 ta8.length co19 : Value).ownBlock ∧ some k_ ≠ (.slice Ao25 yb5.length co25 : Value).ownBlock) (.slice (some ⟨go16, 0, none⟩) x5_1.length co8) x5_1 from (by (with_reducible repeat (first | apply Kd.N_alloc | apply Kd.N_drewN | apply Kd.N_drew)); exact Kd.N_mono HO_5.out (fun _ hk => ⟨hk.1, ⟨hk.2.1, hk.2.2.1⟩⟩))); obtain ⟨ce28, hcl28, hM28, hcc28, hfr28⟩ := Kd.N_elem HX28.out z113 (x21_1 : Int) zd (by have h_ : (x21_1 : Int) < ((x5_1.length : Int) : Int) := zd; first | exact h_ | (have e_ := (Kd.N_reads' HO_5.out).1; omega) | simpa using h_); obtain ⟨ua28_1, uc28_1, rfl, ul28_1, ge28_1⟩ := k113_openF hM28; have HP28 := Kd.N_seg HX28.out (x21_1 : Int) zd (by have h_ : (x21_1 : Int) < ((x5_1.length : Int) : Int) := zd; first | exact h_ | (have e_ := (Kd.N_reads' HO_5.out).1; omega) | simpa using h_) (seg := [.bool false, .slice Ao27 tb8.length co27]) (j := 0) hcl28 hcc28 (show 2 ≤ 2 from by decide) (x' := (⟨false, tb8⟩ : S113)) (k113_mkF _ _ (⟨false, tb8⟩ : S113) (Kd.R_reads' (Kd.R_mono (ok' := (fun k_ => ((fun k_ => (w.heap.size ≤ k_) ∧ some k_ ≠ (.slice Ao19 ta8.length co19 : Value).ownBlock ∧ some k_ ≠ (.slice Ao25 yb5.length co25 : Value).ownBlock)) k_ ∧ k_ ≠ go16)) (Kd.R_apart' (Kd.R_apart' (HOc0.out) (Kd.N_typed HOb7.out) (by decide)) (Kd.N_typed HO_5.out) (by decide)) (fun k_ hk => by exact ⟨⟨hk.1.1.1.1, ⟨hk.1.1.2, hk.1.2⟩⟩, fun e_ => (hk.2) (by rw [e_]; rfl)⟩))).2.1 (Kd.R_F (Kd.R_mono (ok' := (fun k_ => ((fun k_ => (w.heap.size ≤ k_) ∧ some k_ ≠ (.slice Ao19 ta8.length co19 : Value).ownBlock ∧ some k_ ≠ (.slice Ao25 yb5.length co25 : Value).ownBlock)) k_ ∧ k_ ≠ go16)) (Kd.R_apart' (Kd.R_apart' (HOc0.out) (Kd.N_typed HOb7.out) (by decide)) (Kd.N_typed HO_5.out) (by decide)) (fun k_ hk => by exact ⟨⟨hk.1.1.1.1, ⟨hk.1.1.2, hk.1.2⟩⟩, fun e_ => (hk.2) (by rw [e_]; rfl)⟩)))) (fun _ hk => hk); have hx28_0 := hcc28 0 _ rfl; (try simp only [show (k113).sz = 2 from rfl, Nat.mul_one, Nat.add_zero] at hx28_0); have hf28_0 := hfr28 0; (try simp only [show (k113).sz = 2 from rfl, Nat.mul_one, Nat.add_zero] at hf28_0); have hx28_1 := hcc28 1 _ rfl; (try simp only [show (k113).sz = 2 from rfl, Nat.mul_one, Nat.add_zero] at hx28_1); have hf28_1 := hfr28 1; (try simp only [show (k113).sz = 2 from rfl, Nat.mul_one, Nat.add_zero] at hf28_1); clear hcl28 hcc28 hfr28 hM28) | ((with_reducible refine gate_store (t := 113) (p := 46) rfl ?_); refine store_event (t := 113) (p := 46) (v := ?vo_w29) (w1 := ((w26.setCell ⟨go16, (x21_1 : Int).toNat * 2, none⟩ (.bool false)).setCell ⟨go16, (x21_1 : Int).toNat * 2 + 1, none⟩ (.slice Ao27 tb8.length co27))) ?hg ?ho ?hn ?hr ?_; (case ho => rfl); (case hg => rfl); (case hn => rfl); (case hr => first | (go_simp; done) | (go_simp; rfl)); intro w29 hw; have hg : w26.grownBy w29 (some go16) := (by rw [hw]; exact HP28.2); have hp_ : Kd.N k113 113 w29 w.heap.size (fun k_ => (w.heap.size ≤ k_) ∧ some k_ ≠ (.slice Ao19 ta8.length co19 : Value).ownBlock ∧ some k_ ≠ (.slice Ao25 yb5.length co25 : Value).ownBlock) (.slice (some ⟨go16, 0, none⟩) x5_1.length co8) yc1 := (by rw [hw, Nyc1.out]; exact HP28.1); clear HP28; replace HOb0 := zk (Kd.R_over' (v := (.slice (some ⟨go16, 0, none⟩) x5_1.length co8)) (zR HOb0.out) (Kd.N_typed HO_5.out) (by decide) hg); replace HO_5 := zk (hp_); replace HOb7 := zk (Kd.N_afterv (v := (.slice (some ⟨go16, 0, none⟩) x5_1.length co8)) (v1 := (.slice (some ⟨go16, 0, none⟩) x5_1.length co8)) (ok := (fun k_ => (w.heap.size ≤ k_) ∧ some k_ ≠ (.slice Ao19 ta8.length co19 : Value).ownBlock ∧ some k_ ≠ (.slice Ao27 tb8.length co27 : Value).ownBlock)) (by (with_reducible repeat (first | apply Kd.N_alloc | apply Kd.N_drewN | apply Kd.N_drew)); exact Kd.N_mono HOb7.out (fun _ hk => ⟨⟨hk.1.1, ⟨hk.1.2.2, hk.2⟩⟩, hk.1.2.1⟩)) hg (.inl rfl)); replace HB := zk ((by rw [hw]; exact below_set (below_set (HB.out) GB16.out) GB16.out : Below w.heap.size w w29)); clear HOc0; clear hg hw hp_))
   (try simp only [← hl5_1])
   go_roundg k1
   case measure => have := HK1.out; omega
   case rel => exact ⟨(yc1), (wrap64 (x21_1 + 1)), zF, H', ⟨zo1 HK1⟩, ⟨by (try simp only [hl5_1]); (with_reducible repeat (first | apply Kd.N_alloc | apply Kd.N_drewN | apply Kd.N_drew)); exact Kd.N_mono HO_5.out (fun _ hk => hk.1)⟩, ⟨zB HB.out⟩⟩
 have c9b0 := decide_eq_false c9
 (try (have c9h0 := c9b0; simp only [hl5_1] at c9h0))
 clear c9
 obtain ⟨yc2, hyc2⟩ : ∃ y_ : List (List (S113)), y_ = (([x5_1] : List (List (S113)))) := ⟨_, rfl⟩
 replace H : ((mw_small.f k1 (wrap64 (a0 - 1))).bind fun btc5 => (mw_table.l1 k1 a1 yc2 a1 0 btc5.1 btc5.2)) = some r := zY hyc2 H
 have Nyc2 := zk hyc2
 clear hyc2
 replace H := zb H
 obtain ⟨⟨tc5, tc6⟩, A30, H⟩ := H
 dsimp only at H
 have H' := zk H
 clear H
 go_wp2_with (first | ((with_reducible refine gate_dst (N := 49) rfl ?_); refine Kd.N_lit (Kd.slice 113 k113) _ 114 ?hg (N' := 49) ?hd (xs := ([x5_1] : List (List (S113)))) (inner := [.slice Ao8 x5_1.length co8]) (ok := (fun k_ => (w.heap.size ≤ k_))) (okp := (fun k_ => (w.heap.size ≤ k_))) ?hr ?hp (fun _ hk => hk) ((show ∀ k_, wr.heap.size ≤ k_ → (fun k_ => (w.heap.size ≤ k_)) k_ from fun k_ hk => (Nat.le_trans (below_size (zB HB.out)) hk)) _ (Nat.le_refl _)) (Below.refl _ _) (Nat.le_refl _) (by simp) ?_; (case hd => rfl); (case hg => rfl); (case hr => first | (go_simp; done) | (go_simp; rfl)); (case hp => exact (Reps.one (show Kd.FK (Kd.slice 113 k113) _ _ x5_1 [.slice Ao8 x5_1.length co8] from (Kd.FK_slice_mk (Kd.N_reads' (Kd.N_mono (ok' := (fun k_ => (w.heap.size ≤ k_))) (HO_5.out) (fun k_ hk => by exact hk))).2.1 (Kd.N_F (Kd.N_mono (ok' := (fun k_ => (w.heap.size ≤ k_))) (HO_5.out) (fun k_ hk => by exact hk))))) (Reps.none _ _))); intro vc3 w31 ho32 hb hg_ hnew_; clear hg_ hnew_; (first | rw [← Nyc2.out] at ho32 | (simp only [Int.reduceToNat] at ho32; rw [← Nyc2.out] at ho32)); have HOc4 := zk (Kd.N_lower ho32 (below_size (zB HB.out))); replace HB := yS HB hb; clear HO_5; clear hb ho32) | ((with_reducible refine gC 124 ?_); refine zG (some 52) Try.func124 #[.int .i64 (wrap64 (a0 - 1))] ?_; (with_reducible refine (mw_small.calls k1 (wrap64 (a0 - 1)) tc5 tc6 _ A30.out).mono ?_); rintro e w33 ⟨vc7, rfl, ho0, hb⟩; refine ⟨_, rfl, ?_⟩; replace HOc4 := yNe HOc4 ho0 hb; replace ho0 := Kd.R_newM (M := fun k_ => (w.heap.size ≤ k_)) ho0 (below_size (zB HB.out)) (fun k_ h_ => h_); have HOc8 := yRl ho0 HB; replace HB := yS HB hb; (try clear hb ho0)) | ((with_reducible refine gate_dst (N := 12) rfl ?_); refine box_event ?hg (N := 12) ?hd (cs := #[.bool false, .slice none 0 0]) (t := 113) ?hr ?_; (case hd => rfl); (case hg => rfl); (case hr => first | (go_simp; done) | (go_simp; rfl)); intro gbc9 hg w34 hbox hb; replace HOc4 := zk (Kd.N_below (Kd.N_elderB (zN HOc4.out) gbc9 (Nat.le_of_eq hg.symm)) hb); replace HOc8 := yRb HOc8 hb; have BKc9 := zk (hbox); have GWc9 := yg hg HB; have GEc9 := yg hg HB; replace HB := yS HB hb; clear hb hbox hg; obtain ⟨hcz35_0, hcz35_1, hfz35_0, hfz35_1⟩ := zz2 BKc9; obtain ⟨Ao36, co36, rfl⟩ := Kd.R_slice HOc8.out))
 go_loopg [11, 54] k1 (fun kq v11 v54 w' => ∃ (x11_2 : List (List (S113))) (x54_2 : Int), v54 = .int .i64 x54_2 ∧ Aside0 (mw_table.l1 kq a1 x11_2 a1 x54_2 tc5 tc6 = some r) ∧ Aside0 (kq ≤ k1) ∧ Aside0 (Kd.N (Kd.slice 113 k113) 114 w' w.heap.size (fun k_ => (w.heap.size ≤ k_) ∧ some k_ ≠ ((.slice Ao36 tc6.length co36) : Value).ownBlock ∧ k_ ≠ gbc9) v11 x11_2) ∧ Aside0 (Kd.R (Kd.int .u32) 97 w' w.heap.size (fun k_ => (w.heap.size ≤ k_)) (.slice Ao36 tc6.length co36) tc6) ∧ Aside0 (w'.heap[gbc9]? = some (.cells #[.bool tc5, (.slice Ao36 tc6.length co36)] 113 (0, 0))) ∧ Aside0 (Below w.heap.size w w'))
 case atStart => exact ⟨(yc2), (0), zF, H', ⟨Nat.le_refl _⟩, ⟨by (try simp only [hl5_1]); (with_reducible repeat (first | apply Kd.N_alloc | apply Kd.N_drewN | apply Kd.N_drew)); exact Kd.N_mono (Kd.N_far (p := ⟨gbc9, 1, none⟩) (Kd.N_far (p := ⟨gbc9, 0, none⟩) (Kd.N_mono HOc4.out (fun k_ hk => (⟨hk, hk.2⟩ : _ ∧ k_ ≠ gbc9))) (fun _ hk => hk.2) (.bool tc5)) (fun _ hk => hk.2) (.slice Ao36 tc6.length co36)) (fun _ hk => ⟨hk.1.1.1, ⟨hk.1.1.2, hk.1.2⟩⟩)⟩, ⟨by (try simp only [hl5_1]); (with_reducible repeat (first | apply Kd.R_alloc | apply Kd.R_drewN | apply Kd.R_drew)); exact Kd.R_mono (Kd.R_far (p := ⟨gbc9, 1, none⟩) (Kd.R_far (p := ⟨gbc9, 0, none⟩) (Kd.R_types HOc8.out BKc9.out (by decide)) (fun _ hk => hk.2) (.bool tc5)) (fun _ hk => hk.2) (.slice Ao36 tc6.length co36)) (fun _ hk => hk.1.1)⟩, ⟨by (try simp only [hl5_1]); (with_reducible repeat (first | refine blk_drewN ?_ _ | refine blk_drew ?_ | refine blk_alloc ?_ _)); refine blk_put (cs := #[.bool tc5, .slice none 0 0]) ?_ 1 _ rfl; (with_reducible repeat (first | refine blk_drewN ?_ _ | refine blk_drew ?_ | refine blk_alloc ?_ _)); refine blk_put (cs := #[.bool false, .slice none 0 0]) ?_ 0 _ rfl; (with_reducible repeat (first | refine blk_drewN ?_ _ | refine blk_drew ?_ | refine blk_alloc ?_ _)); exact BKc9.out⟩, ⟨zB1 HB.out GEc9.out⟩⟩
 clear H'
 (try clear c4);(try clear c4b0);(try clear c4b1);(try clear c5);(try clear c5b0);(try clear c5b1);(try clear c9);(try clear c9b0);(try clear c14b0);(try clear c15);(try clear c15b0);(try clear p16);(try clear q16);(try clear hcz35_0);(try clear hcz35_1);(try clear hfz35_0);(try clear hfz35_1);(try clear hx16_0);(try clear hx16_1);(try clear hx28_0);(try clear hx28_1)
 obtain ⟨x11_2, x54_2, rfl, HA, HK2, HO_11, HO_130001, BKc9, HB⟩ := hrel
 cases gk with | zero => exact absurd HA.out (by simp [mw_table.l1]) | succ k2 => ?_
 have H := HA.out
 clear HA
 simp only [mw_table.l1] at H
 replace H := zid H
 rcases H with ⟨c37b0, H⟩ | ⟨c37b0, H⟩
 · obtain ⟨ji38, hji38⟩ : ∃ j_ : Int, (wrap64 ((x11_2.length : Int) - 1)) = j_ := ⟨_, rfl⟩
   replace H : (if 0 ≤ (ji38) then (if (ji38) < (x11_2.length : Int) then (if 0 < ((rd_L6 x11_2 (ji38)).length : Int) then (mw_table.l2 k2 a1 x11_2 (rd_L6 x11_2 (ji38)) (([(⟨(rd_T113 (rd_L6 x11_2 (ji38)) 0).f0, (rd_T113 (rd_L6 x11_2 (ji38)) 0).f1⟩ : S113)] : List (S113))) 1 a1 x54_2 tc5 tc6) else (none)) else (none)) else (none)) = some r := by first | (rw [hji38] at H; exact H) | (simp only [hji38] at H ⊢; exact H)
   have hji38w : (IntKind.i64.wrap ((x11_2.length : Int) - 1)) = ji38 := (i64_w _).trans hji38
   replace H := zgd H
   obtain ⟨c39b0, H⟩ := H
   replace H := zg H
   obtain ⟨c40, H⟩ := H
   have c40b0 := decide_eq_true c40
   (try (have c40h0 := c40b0; simp only [hl5_1] at c40h0))
   clear c40
   replace H := zg H
   obtain ⟨c41, H⟩ := H
   have c41b0 := decide_eq_true c41
   (try (have c41h0 := c41b0; simp only [hl5_1] at c41h0))
   have c41b1 : decide (0 < (rd_L6 x11_2 (ji38)).length) = true := decide_eq_true (by omega)
   (try (have c41h1 := c41b1; simp only [hl5_1] at c41h1))
   clear c41
   obtain ⟨yd2, hyd2⟩ : ∃ y_ : List (S113), y_ = (([(⟨(rd_T113 (rd_L6 x11_2 (ji38)) 0).f0, (rd_T113 (rd_L6 x11_2 (ji38)) 0).f1⟩ : S113)] : List (S113))) := ⟨_, rfl⟩
   replace H : (mw_table.l2 k2 a1 x11_2 (rd_L6 x11_2 (ji38)) yd2 1 a1 x54_2 tc5 tc6) = some r := zY hyd2 H
   have Nyd2 := zk hyd2
   clear hyd2
   have H' := zk H
   clear H
   obtain ⟨Ao42, co42, rfl⟩ := Kd.N_slice HO_11.out
   have pd0 : 0 ≤ ((ji38) : Int) := zd
   have qd0 : (ji38) < (x11_2.length : Int) := zd
   obtain ⟨add0, Ad0_0, cd0_0, ed0, hxd0_0, hld0_0, hid0_0⟩ := at_L6 (Kd.N_reads' HO_11.out).2.2 (ji38) pd0 qd0
   cases ed0
   obtain ⟨ced0, hced0, hMed0, hccd0⟩ := Kd.N_get HO_11.out [] (ji38) pd0 (by first | exact qd0 | exact zd | (have e_ := (Kd.N_reads' HO_11.out).1; omega))
   obtain ⟨uad0_0, ucd0_0, rfl, uld0_0, ged0_0⟩ := Kd.FK_slice_open hMed0
   have hvd0_0 := hccd0 0 _ rfl
   rw [Nat.add_zero, show ((Kd.slice 113 k113)).sz = 1 from rfl, Nat.mul_one] at hvd0_0
   replace hvd0_0 := Option.some.inj (hvd0_0.symm.trans hxd0_0)
   injection hvd0_0 with hva_ hvn_ hvc_
   rw [hva_] at ged0_0
   rw [hvc_] at uld0_0
   have HLd0_0 := zk (show Kd.V k113 113 _ w.heap.size _ _ (rd_L6 x11_2 (ji38)) from Kd.V_mk uld0_0 ged0_0)
   clear hva_ hvn_ hvc_ ged0_0 uld0_0
   clear hccd0 hced0
   have HRd0_0 := zk hid0_0
   have HCd0_0 := zk hld0_0
   clear hid0_0 hld0_0
   replace pd0 := eq_true pd0
   replace qd0 := eq_true qd0
   have pd1 : 0 ≤ (0 : Int) := (by omega)
   have qd1 : 0 < ((rd_L6 x11_2 (ji38)).length : Int) := zd
   obtain ⟨add1, Ad1_1, cd1_1, ed1, hxd1_0, hxd1_1, hld1_1, hid1_1⟩ := at_T113 (zCr HRd0_0.out) 0 pd1 qd1
   cases ed1
   obtain ⟨ced1, hced1, hMed1, hccd1⟩ := Kd.V_get HLd0_0.out z113 0 pd1 (by first | exact qd1 | exact zd | (have e_ := (Kd.V_reads' HLd0_0.out).1; omega))
   obtain ⟨uad1_1, ucd1_1, rfl, uld1_1, ged1_1⟩ := k113_openF hMed1
   have hvd1_1 := hccd1 1 _ rfl
   rw [add_field _ _ 1 (by omega)] at hvd1_1
   replace hvd1_1 := Option.some.inj (hvd1_1.symm.trans hxd1_1)
   injection hvd1_1 with hva_ hvn_ hvc_
   rw [hva_] at ged1_1
   rw [hvc_] at uld1_1
   have HLd1_1 := zk (show Kd.V (Kd.int .u32) 97 _ w.heap.size _ _ ((rd_T113 (rd_L6 x11_2 (ji38)) 0).f1) from Kd.V_mk uld1_1 ged1_1)
   clear hva_ hvn_ hvc_ ged1_1 uld1_1
   clear hccd1 hced1
   have qi131 : (0 < (rd_L6 x11_2 (ji38)).length) = True := eq_true (by omega)
   (try rw [show ((0 : Int)).toNat = 0 from rfl] at hxd1_0)
   (try rw [show 0 * 2 = 0 from rfl] at hxd1_0)
   (try rw [Addr.add_zero'] at hxd1_0)
   (try rw [show ((0 : Int)).toNat = 0 from rfl] at hxd1_1)
   (try rw [show 0 * 2 = 0 from rfl] at hxd1_1)
   (try rw [Addr.add_zero'] at hxd1_1)
   have HRd1_1 := zk hid1_1
   have HCd1_1 := zk hld1_1
   clear hid1_1 hld1_1
   replace pd1 := eq_true pd1
   replace qd1 := eq_true qd1
   go_wp2_with (first | ((with_reducible refine gate_dst (N := 65) rfl ?_); refine Kd.N_lit k113 _ 113 ?hg (N' := 65) ?hd (xs := ([(⟨(rd_T113 (rd_L6 x11_2 (ji38)) 0).f0, (rd_T113 (rd_L6 x11_2 (ji38)) 0).f1⟩ : S113)] : List (S113))) (inner := [.bool ((rd_T113 (rd_L6 x11_2 (ji38)) 0).f0), .slice Ad1_1 ((rd_T113 (rd_L6 x11_2 (ji38)) 0).f1).length cd1_1]) (ok := (fun k_ => (w.heap.size ≤ k_) ∧ some k_ ≠ (.slice (some add0) x11_2.length co42 : Value).ownBlock ∧ some k_ ≠ (.slice Ao36 tc6.length co36 : Value).ownBlock ∧ k_ ≠ gbc9)) (okp := (fun k_ => (w.heap.size ≤ k_) ∧ some k_ ≠ (.slice (some add0) x11_2.length co42 : Value).ownBlock ∧ some k_ ≠ (.slice Ao36 tc6.length co36 : Value).ownBlock ∧ k_ ≠ gbc9)) ?hr ?hp (fun _ hk => hk) ((show ∀ k_, wr.heap.size ≤ k_ → (fun k_ => (w.heap.size ≤ k_) ∧ some k_ ≠ (.slice (some add0) x11_2.length co42 : Value).ownBlock ∧ some k_ ≠ (.slice Ao36 tc6.length co36 : Value).ownBlock ∧ k_ ≠ gbc9) k_ from fun k_ hk => ⟨(Nat.le_trans (below_size (zB1 HB.out GEc9.out)) hk), Kd.fresh' (Kd.N_lt (zN HO_11.out)) k_ hk, Kd.fresh' (Kd.R_lt (zR HO_130001.out)) k_ hk, Kd.freshB (g := gbc9) (o := .cells #[.bool tc5, .slice Ao36 tc6.length co36] 113 (0, 0)) (zK BKc9.out) k_ hk⟩) _ (Nat.le_refl _)) (Below.refl _ _) (Nat.le_refl _) (by simp) ?_; (case hd => rfl); (case hg => rfl); (case hr => first | (go_simp; done) | (go_simp; rfl)); (case hp => exact (Reps.c2 (show Kd.FK k113 _ _ (⟨(rd_T113 (rd_L6 x11_2 (ji38)) 0).f0, (rd_T113 (rd_L6 x11_2 (ji38)) 0).f1⟩ : S113) [.bool ((rd_T113 (rd_L6 x11_2 (ji38)) 0).f0), .slice Ad1_1 ((rd_T113 (rd_L6 x11_2 (ji38)) 0).f1).length cd1_1] from (k113_mkF _ _ (⟨(rd_T113 (rd_L6 x11_2 (ji38)) 0).f0, (rd_T113 (rd_L6 x11_2 (ji38)) 0).f1⟩ : S113) (Kd.V_reads' (Kd.V_mono (ok' := (fun k_ => (w.heap.size ≤ k_) ∧ some k_ ≠ (.slice (some add0) x11_2.length co42 : Value).ownBlock ∧ some k_ ≠ (.slice Ao36 tc6.length co36 : Value).ownBlock ∧ k_ ≠ gbc9)) (HLd1_1.out) (fun k_ hk => by exact ⟨hk.1.1, ⟨hk.2, ⟨hk.1.2.1, hk.1.2.2⟩⟩⟩))).2.1 (Kd.V_F (Kd.V_mono (ok' := (fun k_ => (w.heap.size ≤ k_) ∧ some k_ ≠ (.slice (some add0) x11_2.length co42 : Value).ownBlock ∧ some k_ ≠ (.slice Ao36 tc6.length co36 : Value).ownBlock ∧ k_ ≠ gbc9)) (HLd1_1.out) (fun k_ hk => by exact ⟨hk.1.1, ⟨hk.2, ⟨hk.1.2.1, hk.1.2.2⟩⟩⟩))))) (Reps.none _ _))); intro vd3 w43 ho44 hb hg_ hnew_; clear hg_ hnew_; (first | rw [← Nyd2.out] at ho44 | (simp only [Int.reduceToNat] at ho44; rw [← Nyd2.out] at ho44)); replace HO_11 := zk (Kd.N_elder' (zN HO_11.out) (Kd.N_base ho44) hb); replace HO_130001 := yRb HO_130001 hb; replace HLd0_0 := zk (Kd.V_elder' (zV HLd0_0.out) (Kd.N_base ho44) hb); replace HLd1_1 := zk (Kd.V_elder' (zV HLd1_1.out) (Kd.N_base ho44) hb); have HOd4 := zk (Kd.N_lower ho44 (below_size (zB1 HB.out GEc9.out))); replace BKc9 := yK BKc9 hb; (try replace HRd0_0 := yCb HRd0_0 hb); (try replace HRd1_1 := yCb HRd1_1 hb); replace HB := yS1 HB GEc9 hb; clear hb ho44))
   go_loopg [14, 15] k2 (fun kq v14 v15 w' => ∃ (x14_3 : List (S113)) (x15_3 : Int), v15 = .int .i64 x15_3 ∧ Aside0 (mw_table.l2 kq a1 x11_2 (rd_L6 x11_2 (ji38)) x14_3 x15_3 a1 x54_2 tc5 tc6 = some r) ∧ Aside0 (kq ≤ k2) ∧ Aside0 (Kd.N (Kd.slice 113 k113) 114 w' w.heap.size (fun k_ => (w.heap.size ≤ k_) ∧ some k_ ≠ (v14 : Value).ownBlock ∧ some k_ ≠ ((.slice Ao36 tc6.length co36) : Value).ownBlock ∧ k_ ≠ gbc9) (.slice (some add0) x11_2.length co42) x11_2) ∧ Aside0 (Kd.V k113 113 w' w.heap.size (fun k_ => (w.heap.size ≤ k_) ∧ some k_ ≠ ((.slice (some add0) x11_2.length co42) : Value).ownBlock ∧ some k_ ≠ (v14 : Value).ownBlock ∧ some k_ ≠ ((.slice Ao36 tc6.length co36) : Value).ownBlock ∧ k_ ≠ gbc9) (.slice (some add1) (rd_L6 x11_2 (ji38)).length cd0_0) (rd_L6 x11_2 (ji38))) ∧ Aside0 (Kd.N k113 113 w' w.heap.size (fun k_ => (w.heap.size ≤ k_) ∧ some k_ ≠ ((.slice (some add0) x11_2.length co42) : Value).ownBlock ∧ some k_ ≠ ((.slice Ao36 tc6.length co36) : Value).ownBlock ∧ k_ ≠ gbc9) v14 x14_3) ∧ Aside0 (Kd.R (Kd.int .u32) 97 w' w.heap.size (fun k_ => (w.heap.size ≤ k_)) (.slice Ao36 tc6.length co36) tc6) ∧ Aside0 (w'.heap[gbc9]? = some (.cells #[.bool tc5, (.slice Ao36 tc6.length co36)] 113 (0, 0))) ∧ Aside0 (Below w.heap.size w w'))
   case atStart => exact ⟨(yd2), (1), zF, H', ⟨Nat.le_refl _⟩, ⟨by (try simp only [hl5_1]); (with_reducible repeat (first | apply Kd.N_alloc | apply Kd.N_drewN | apply Kd.N_drew)); exact Kd.N_mono HO_11.out (fun _ hk => ⟨hk.1.1, ⟨hk.2, ⟨hk.1.2.1, hk.1.2.2⟩⟩⟩)⟩, ⟨by (try simp only [hl5_1]); (with_reducible repeat (first | apply Kd.V_alloc | apply Kd.V_drewN | apply Kd.V_drew)); exact Kd.V_mono HLd0_0.out (fun _ hk => ⟨hk.1.1.1, ⟨hk.1.2, ⟨hk.2, ⟨hk.1.1.2.1, hk.1.1.2.2⟩⟩⟩⟩)⟩, ⟨by (try simp only [hl5_1]); (with_reducible repeat (first | apply Kd.N_alloc | apply Kd.N_drewN | apply Kd.N_drew)); exact HOd4.out⟩, ⟨by (try simp only [hl5_1]); (with_reducible repeat (first | apply Kd.R_alloc | apply Kd.R_drewN | apply Kd.R_drew)); exact HO_130001.out⟩, ⟨by (try simp only [hl5_1]); (with_reducible repeat (first | refine blk_drewN ?_ _ | refine blk_drew ?_ | refine blk_alloc ?_ _)); exact BKc9.out⟩, ⟨zB1 HB.out GEc9.out⟩⟩
   clear H'
   (try clear c4);(try clear c4b0);(try clear c4b1);(try clear c5);(try clear c5b0);(try clear c5b1);(try clear c9);(try clear c9b0);(try clear c14b0);(try clear c15);(try clear c15b0);(try clear p16);(try clear q16);(try clear c37b0);(try clear c39b0);(try clear c40);(try clear c40b0);(try clear c41);(try clear c41b0);(try clear c41b1);(try clear hcz35_0);(try clear hcz35_1);(try clear hfz35_0);(try clear hfz35_1);(try clear hxd0_0);(try clear hxd1_0);(try clear hxd1_1);(try clear hx16_0);(try clear hx16_1);(try clear hx28_0);(try clear hx28_1);(try clear pd0);(try clear pd1);(try clear qd0);(try clear qd1)
   obtain ⟨x14_3, x15_3, rfl, HA, HK3, HO_11, HO_13, HO_14, HO_130001, BKc9, HB⟩ := hrel
   cases gk with | zero => exact absurd HA.out (by simp [mw_table.l2]) | succ k3 => ?_
   have H := HA.out
   clear HA
   simp only [mw_table.l2] at H
   replace H := zid H
   rcases H with ⟨c45b0, H⟩ | ⟨c45b0, H⟩
   · replace H := zgd H
     obtain ⟨c46b0, H⟩ := H
     replace H := zg H
     obtain ⟨c47, H⟩ := H
     have c47b0 := decide_eq_true c47
     (try (have c47h0 := c47b0; simp only [hl5_1] at c47h0))
     clear c47
     obtain ⟨ji48, hji48⟩ : ∃ j_ : Int, (wrap64 (x15_3 - 1)) = j_ := ⟨_, rfl⟩
     replace H : (if 0 ≤ (ji48) then (if (ji48) < ((rd_L6 x11_2 (ji38)).length : Int) then ((mw_minus.f k3 ((rd_T113 (rd_L6 x11_2 (ji38)) x15_3).f0) ((rd_T113 (rd_L6 x11_2 (ji38)) x15_3).f1) ((rd_T113 (rd_L6 x11_2 (ji38)) (ji48)).f0) ((rd_T113 (rd_L6 x11_2 (ji38)) (ji48)).f1)).bind fun btd7 => (if (ji48) < (x14_3.length : Int) then ((mw_times.f k3 tc5 tc6 ((rd_T113 x14_3 (ji48)).f0) ((rd_T113 x14_3 (ji48)).f1)).bind fun bte2 => ((mw_minus.f k3 btd7.1 btd7.2 bte2.1 bte2.2).bind fun bte6 => (if x14_3.length < 4398046511104 then (mw_table.l2 k3 a1 x11_2 (rd_L6 x11_2 (ji38)) (x14_3 ++ [(⟨bte6.1, bte6.2⟩ : S113)]) (wrap64 (x15_3 + 1)) a1 x54_2 tc5 tc6) else (none)))) else (none))) else (none)) else (none)) = some r := by first | (rw [hji48] at H; exact H) | (simp only [hji48] at H ⊢; exact H)
     have hji48w : (IntKind.i64.wrap (x15_3 - 1)) = ji48 := (i64_w _).trans hji48
     replace H := zgd H
     obtain ⟨c49b0, H⟩ := H
     replace H := zg H
     obtain ⟨c50, H⟩ := H
     have c50b0 := decide_eq_true c50
     (try (have c50h0 := c50b0; simp only [hl5_1] at c50h0))
     clear c50
     replace H := zb H
     obtain ⟨⟨td7, td8⟩, A51, H⟩ := H
     dsimp only at H
     replace H := zg H
     obtain ⟨c52, H⟩ := H
     have c52b0 := decide_eq_true c52
     (try (have c52h0 := c52b0; simp only [hl5_1] at c52h0))
     clear c52
     replace H := zb H
     obtain ⟨⟨te2, te3⟩, A53, H⟩ := H
     dsimp only at H
     replace H := zb H
     obtain ⟨⟨te6, te7⟩, A54, H⟩ := H
     dsimp only at H
     replace H := zg H
     obtain ⟨c55, H⟩ := H
     have LMc55 := zk c55
     clear c55
     obtain ⟨yf0, hyf0⟩ : ∃ y_ : List (S113), y_ = (x14_3 ++ [(⟨te6, te7⟩ : S113)]) := ⟨_, rfl⟩
     replace H : (mw_table.l2 k3 a1 x11_2 (rd_L6 x11_2 (ji38)) yf0 (wrap64 (x15_3 + 1)) a1 x54_2 tc5 tc6) = some r := zY hyf0 H
     have Nyf0 := zk hyf0
     clear hyf0
     have H' := zk H
     clear H
     try go_wp2
     replace HO_11 := zk (Kd.N_drew HO_11.out)
     replace HO_13 := zk (Kd.V_drew HO_13.out)
     replace HO_14 := zk (Kd.N_drew HO_14.out)
     replace HO_130001 := zk (Kd.R_drew HO_130001.out)
     replace BKc9 := zk (blk_drew BKc9.out)
     replace HB := zk (below_drew1 HB.out)
     have pd5 : 0 ≤ (x15_3 : Int) := zd
     have qd5 : x15_3 < ((rd_L6 x11_2 (ji38)).length : Int) := zd
     obtain ⟨add5, Ad5_1, cd5_1, ed5, hxd5_0, hxd5_1, hld5_1, hid5_1⟩ := at_T113 (Kd.V_reads' HO_13.out).2.2 x15_3 pd5 qd5
     obtain rfl : add1 = add5 := (by injection ed5)
     obtain ⟨ced5, hced5, hMed5, hccd5⟩ := Kd.V_get HO_13.out z113 x15_3 pd5 (by first | exact qd5 | exact zd | (have e_ := (Kd.V_reads' HO_13.out).1; omega))
     obtain ⟨uad5_1, ucd5_1, rfl, uld5_1, ged5_1⟩ := k113_openF hMed5
     have hvd5_1 := hccd5 1 _ rfl
     rw [add_field _ _ 1 (by omega)] at hvd5_1
     replace hvd5_1 := Option.some.inj (hvd5_1.symm.trans hxd5_1)
     injection hvd5_1 with hva_ hvn_ hvc_
     rw [hva_] at ged5_1
     rw [hvc_] at uld5_1
     have HLd5_1 := zk (show Kd.V (Kd.int .u32) 97 _ w.heap.size _ _ ((rd_T113 (rd_L6 x11_2 (ji38)) x15_3).f1) from Kd.V_mk uld5_1 ged5_1)
     clear hva_ hvn_ hvc_ ged5_1 uld5_1
     clear hccd5 hced5
     have HRd5_1 := zk hid5_1
     have HCd5_1 := zk hld5_1
     clear hid5_1 hld5_1
     replace pd5 := eq_true pd5
     replace qd5 := eq_true qd5
     have pd6 : 0 ≤ ((ji48) : Int) := zd
     have qd6 : (ji48) < ((rd_L6 x11_2 (ji38)).length : Int) := zd
     obtain ⟨add6, Ad6_1, cd6_1, ed6, hxd6_0, hxd6_1, hld6_1, hid6_1⟩ := at_T113 (Kd.V_reads' HO_13.out).2.2 (ji48) pd6 qd6
     obtain rfl : add1 = add6 := (by injection ed6)
     obtain ⟨ced6, hced6, hMed6, hccd6⟩ := Kd.V_get HO_13.out z113 (ji48) pd6 (by first | exact qd6 | exact zd | (have e_ := (Kd.V_reads' HO_13.out).1; omega))
     obtain ⟨uad6_1, ucd6_1, rfl, uld6_1, ged6_1⟩ := k113_openF hMed6
     have hvd6_1 := hccd6 1 _ rfl
     rw [add_field _ _ 1 (by omega)] at hvd6_1
     replace hvd6_1 := Option.some.inj (hvd6_1.symm.trans hxd6_1)
     injection hvd6_1 with hva_ hvn_ hvc_
     rw [hva_] at ged6_1
     rw [hvc_] at uld6_1
     have HLd6_1 := zk (show Kd.V (Kd.int .u32) 97 _ w.heap.size _ _ ((rd_T113 (rd_L6 x11_2 (ji38)) (ji48)).f1) from Kd.V_mk uld6_1 ged6_1)
     clear hva_ hvn_ hvc_ ged6_1 uld6_1
     clear hccd6 hced6
     have HRd6_1 := zk hid6_1
     have HCd6_1 := zk hld6_1
     clear hid6_1 hld6_1
     replace pd6 := eq_true pd6
     replace qd6 := eq_true qd6
     obtain ⟨Ao57, co57, eo57⟩ := Kd.N_slice HO_14.out
     (first | subst eo57 | (injection eo57 with f1_ f2_ f3_; have f4_ := f1_.symm; have f5_ := f3_.symm; clear f1_ f2_ f3_; subst f4_; subst f5_))
     have pe1 : 0 ≤ ((ji48) : Int) := zd
     have qe1 : (ji48) < (x14_3.length : Int) := zd
     obtain ⟨ade1, Ae1_1, ce1_1, ee1, hxe1_0, hxe1_1, hle1_1, hie1_1⟩ := at_T113 (Kd.N_reads' HO_14.out).2.2 (ji48) pe1 qe1
     cases ee1
     obtain ⟨cee1, hcee1, hMee1, hcce1⟩ := Kd.N_get HO_14.out z113 (ji48) pe1 (by first | exact qe1 | exact zd | (have e_ := (Kd.N_reads' HO_14.out).1; omega))
     obtain ⟨uae1_1, uce1_1, rfl, ule1_1, gee1_1⟩ := k113_openF hMee1
     have hve1_1 := hcce1 1 _ rfl
     rw [add_field _ _ 1 (by omega)] at hve1_1
     replace hve1_1 := Option.some.inj (hve1_1.symm.trans hxe1_1)
     injection hve1_1 with hva_ hvn_ hvc_
     rw [hva_] at gee1_1
     rw [hvc_] at ule1_1
     have HLe1_1 := zk (show Kd.V (Kd.int .u32) 97 _ w.heap.size _ _ ((rd_T113 x14_3 (ji48)).f1) from Kd.V_mk ule1_1 gee1_1)
     clear hva_ hvn_ hvc_ gee1_1 ule1_1
     clear hcce1 hcee1
     have HRe1_1 := zk hie1_1
     have HCe1_1 := zk hle1_1
     clear hie1_1 hle1_1
     replace pe1 := eq_true pe1
     replace qe1 := eq_true qe1
     refine start_ (n := 22) (S := fun w' => w'.cell? ⟨gbc9, 0, none⟩ = some (.bool tc5) ∧ w'.cell? ⟨gbc9, 1, none⟩ = some (.slice Ao36 tc6.length co36) ∧ w'.cell? (add1.add ((x15_3).toNat * 2)) = some (.bool ((rd_T113 (rd_L6 x11_2 (ji38)) x15_3).f0)) ∧ w'.cell? ⟨(add1.add ((x15_3).toNat * 2)).block, (add1.add ((x15_3).toNat * 2)).off + 1, none⟩ = some (.slice Ad5_1 ((rd_T113 (rd_L6 x11_2 (ji38)) x15_3).f1).length cd5_1) ∧ w'.cell? (add1.add (((ji48)).toNat * 2)) = some (.bool ((rd_T113 (rd_L6 x11_2 (ji38)) (ji48)).f0)) ∧ w'.cell? ⟨(add1.add (((ji48)).toNat * 2)).block, (add1.add (((ji48)).toNat * 2)).off + 1, none⟩ = some (.slice Ad6_1 ((rd_T113 (rd_L6 x11_2 (ji38)) (ji48)).f1).length cd6_1) ∧ w'.cell? (ade1.add (((ji48)).toNat * 2)) = some (.bool ((rd_T113 x14_3 (ji48)).f0)) ∧ w'.cell? ⟨(ade1.add (((ji48)).toNat * 2)).block, (ade1.add (((ji48)).toNat * 2)).off + 1, none⟩ = some (.slice Ae1_1 ((rd_T113 x14_3 (ji48)).f1).length ce1_1)) (ds := [19, 20]) #[false, false, false, false, false, false, false, false, false, false, false, false, false, false, false, false, false, false, false, false, false, false] (by kernel_rfl) rfl rfl ⟨(blk_cell BKc9.out 0).trans rfl, (blk_cell BKc9.out 1).trans rfl, hxd5_0, hxd5_1, hxd6_0, hxd6_1, hxe1_0, hxe1_1⟩ (fun hHeld => ?_); refine with_tabW mw_table.tab18 mw_table.bits18 (fun HT_ HW_ => ?_)
     generalize wr.drew = w56 at HO_11 HO_13 HO_14 HO_130001 BKc9 HB HLd5_1 HLd6_1 HLe1_1 HRd5_1 HRd6_1 HRe1_1 hxd5_0 hxd5_1 hxd6_0 hxd6_1 hxe1_0 hxe1_1 hHeld ⊢
     refine zp (i := 0) (N := some 71) HT_ ?_
     refine zp (i := 1) (N := some 72) HT_ ?_
     refine zp (i := 2) (N := some 73) HT_ ?_
     refine zp (i := 3) (N := some 74) HT_ ?_
     refine zp (i := 5) (N := some 76) HT_ ?_
     refine zp (i := 6) (N := some 77) HT_ ?_
     refine zp (i := 7) (N := some 78) HT_ ?_
     refine zp (i := 8) (N := some 79) HT_ ?_
     refine zp (i := 12) (N := some 83) HT_ ?_
     refine zp (i := 13) (N := some 84) HT_ ?_
     refine zp (i := 14) (N := some 85) HT_ ?_
     refine zp (i := 15) (N := some 86) HT_ ?_
     refine take_ (i := 4) (N := some 75) (v := ?_) (a' := ?_) #[true, true, true, true, true, true, true, true, true, false, false, false, true, true, true, true, false, false, false, false, false, false] rfl rfl (take_ofW HT_.out HW_.out (by kernel_rfl)) (fun _ _ _ h => h) (Or.inl ⟨by rfl, ?_⟩) hHeld ?_ ?_
     rotate_left
     · rintro w' ⟨s0, s1, s2, s3, s4, s5, s6, s7⟩
       go_simp
       with_reducible rfl
     rotate_left
     · simp only [Act.put, List.setIfInBounds_toArray, List.set_cons_zero, List.set_cons_succ, i64_w, i32_w]
       rfl
     refine take_ (i := 9) (N := some 80) (v := ?_) (a' := ?_) #[true, true, true, true, true, true, true, true, true, true, false, false, true, true, true, true, false, false, false, false, false, false] rfl rfl (take_ofW HT_.out HW_.out (by kernel_rfl)) (fun _ _ _ h => h) (Or.inl ⟨by rfl, ?_⟩) hHeld ?_ ?_
     rotate_left
     · rintro w' ⟨s0, s1, s2, s3, s4, s5, s6, s7⟩
       go_simp
       with_reducible rfl
     rotate_left
     · simp only [Act.put, List.setIfInBounds_toArray, List.set_cons_zero, List.set_cons_succ, i64_w, i32_w]
       rfl
     refine take_ (i := 11) (N := some 82) (v := ?_) (a' := ?_) #[true, true, true, true, true, true, true, true, true, true, false, true, true, true, true, true, false, false, false, false, false, false] rfl rfl (take_ofW HT_.out HW_.out (by kernel_rfl)) (fun _ _ _ h => h) (Or.inl ⟨by rfl, ?_⟩) hHeld ?_ ?_
     rotate_left
     · rintro w' ⟨s0, s1, s2, s3, s4, s5, s6, s7⟩
       go_simp
       with_reducible rfl
     rotate_left
     · simp only [Act.put, List.setIfInBounds_toArray, List.set_cons_zero, List.set_cons_succ, i64_w, i32_w]
       rfl
     refine take_ (i := 16) (N := some 87) (v := ?_) (a' := ?_) #[true, true, true, true, true, true, true, true, true, true, false, true, true, true, true, true, true, false, false, false, false, false] rfl rfl (take_ofW HT_.out HW_.out (by kernel_rfl)) (fun _ _ _ h => h) (Or.inl ⟨by rfl, ?_⟩) hHeld ?_ ?_
     rotate_left
     · rintro w' ⟨s0, s1, s2, s3, s4, s5, s6, s7⟩
       go_simp
       with_reducible rfl
     rotate_left
     · simp only [Act.put, List.setIfInBounds_toArray, List.set_cons_zero, List.set_cons_succ, i64_w, i32_w]
       rfl
     refine one_ (i := 10) (N := some 81) #[true, true, true, true, true, true, true, true, true, true, true, true, true, true, true, true, true, false, false, false, false, false] rfl rfl (one_of HT_.out (by kernel_rfl)) (by decide) (fun K hK => ?_)
     refine goes_ Try.func125 (by kernel_rfl) rfl #[.agg #[.bool ((rd_T113 (rd_L6 x11_2 (ji38)) x15_3).f0), .slice Ad5_1 ((rd_T113 (rd_L6 x11_2 (ji38)) x15_3).f1).length cd5_1], .agg #[.bool ((rd_T113 (rd_L6 x11_2 (ji38)) (ji48)).f0), .slice Ad6_1 ((rd_T113 (rd_L6 x11_2 (ji38)) (ji48)).f1).length cd6_1]] (by rfl) rfl rfl (by (try simp only [List.map_toArray, List.map_cons, List.map_nil]); first | done | (simp only [hji38, hji48]; rfl) | rfl | (simp only [List.length_drop, List.length_take]; rfl)) ?_
     with_reducible refine (mw_minus.calls k3 ((rd_T113 (rd_L6 x11_2 (ji38)) x15_3).f0) (fun k_ => ((w.heap.size ≤ k_) ∧ (some k_ ≠ (.slice (some add0) x11_2.length co42 : Value).ownBlock ∧ (some k_ ≠ (.slice (some ade1) x14_3.length co57 : Value).ownBlock ∧ (some k_ ≠ (.slice Ao36 tc6.length co36 : Value).ownBlock ∧ k_ ≠ gbc9))))) _ _ ((rd_T113 (rd_L6 x11_2 (ji38)) x15_3).f1) ((rd_T113 (rd_L6 x11_2 (ji38)) (ji48)).f0) (fun k_ => ((w.heap.size ≤ k_) ∧ (some k_ ≠ (.slice (some add0) x11_2.length co42 : Value).ownBlock ∧ (some k_ ≠ (.slice (some ade1) x14_3.length co57 : Value).ownBlock ∧ (some k_ ≠ (.slice Ao36 tc6.length co36 : Value).ownBlock ∧ k_ ≠ gbc9))))) _ _ ((rd_T113 (rd_L6 x11_2 (ji38)) (ji48)).f1) td7 td8 _ ?side1 ?side2 A51.out).mono ?_
     (case side1 => exact HLd5_1.out)
     (case side2 => exact HLd6_1.out)
     rintro e w58 ⟨vd9, rfl, ho0, hb⟩
     have HS2_ := (hb.cell (World.block_lt_of_cell? _ _ (hHeld.2.2.1))).trans (hHeld.2.2.1)
     have HS3_ := (hb.cell (World.block_lt_of_cell? _ _ (hHeld.2.2.2.1))).trans (hHeld.2.2.2.1)
     have HS4_ := (hb.cell (World.block_lt_of_cell? _ _ (hHeld.2.2.2.2.1))).trans (hHeld.2.2.2.2.1)
     have HS5_ := (hb.cell (World.block_lt_of_cell? _ _ (hHeld.2.2.2.2.2.1))).trans (hHeld.2.2.2.2.2.1)
     have HS6_ := (hb.cell (World.block_lt_of_cell? _ _ (hHeld.2.2.2.2.2.2.1))).trans (hHeld.2.2.2.2.2.2.1)
     have HS7_ := (hb.cell (World.block_lt_of_cell? _ _ (hHeld.2.2.2.2.2.2.2))).trans (hHeld.2.2.2.2.2.2.2)
     refine ⟨_, rfl, ?_⟩
     replace HO_13 := yVb HO_13 hb
     replace HLd5_1 := yVb HLd5_1 hb
     replace HLd6_1 := yVb HLd6_1 hb
     replace HLe1_1 := yVb HLe1_1 hb
     have HOe0 := zk (Kd.V_lower (Kd.V_mono (ok' := fun k_ => (w.heap.size ≤ k_) ∧ some k_ ≠ (.slice (some add0) x11_2.length co42 : Value).ownBlock ∧ some k_ ≠ (.slice (some ade1) x14_3.length co57 : Value).ownBlock ∧ some k_ ≠ (.slice Ao36 tc6.length co36 : Value).ownBlock ∧ k_ ≠ gbc9) ho0 (fun k_ hk_ => ⟨Or.elim hk_ (fun hs_ => Or.elim hs_ (fun hs_ => hs_.1) (fun hs_ => hs_.1)) (fun hn_ => (Nat.le_trans (below_size (zB1 HB.out GEc9.out)) hn_)), Or.elim hk_ (fun hs_ => Or.elim hs_ (fun hs_ => hs_.2.1) (fun hs_ => hs_.2.1)) (fun hn_ => (Kd.fresh' (Kd.N_lt (zN HO_11.out)) k_ hn_)), Or.elim hk_ (fun hs_ => Or.elim hs_ (fun hs_ => hs_.2.2.1) (fun hs_ => hs_.2.2.1)) (fun hn_ => (Kd.fresh' (Kd.N_lt (zN HO_14.out)) k_ hn_)), Or.elim hk_ (fun hs_ => Or.elim hs_ (fun hs_ => hs_.2.2.2.1) (fun hs_ => hs_.2.2.2.1)) (fun hn_ => (Kd.fresh' (Kd.R_lt (zR HO_130001.out)) k_ hn_)), Or.elim hk_ (fun hs_ => Or.elim hs_ (fun hs_ => hs_.2.2.2.2) (fun hs_ => hs_.2.2.2.2)) (fun hn_ => (Kd.freshB (g := gbc9) (o := .cells #[.bool tc5, .slice Ao36 tc6.length co36] 113 (0, 0)) (zK BKc9.out) k_ hn_))⟩)) (below_size (zB1 HB.out GEc9.out)))
     replace HO_11 := yNb HO_11 hb
     replace HO_14 := yNb HO_14 hb
     replace HO_130001 := yRb HO_130001 hb
     replace BKc9 := yK BKc9 hb
     (try replace HRd5_1 := yCb HRd5_1 hb)
     (try replace HRd6_1 := yCb HRd6_1 hb)
     (try replace HRe1_1 := yCb HRe1_1 hb)
     replace HB := yS1 HB GEc9 hb
     (try clear hb)
     (try clear ho0)
     refine hK.out _ _ ⟨(blk_cell BKc9.out 0).trans rfl, (blk_cell BKc9.out 1).trans rfl, HS2_, HS3_, HS4_, HS5_, HS6_, HS7_⟩ (fun hHeld => ?_)
     clear hK K
     refine norm_ (a' := ?_) ?_ ?_
     rotate_left
     · show Act.put _ (some 81) _ = _
       simp only [Act.put, List.setIfInBounds_toArray, List.set_cons_zero, List.set_cons_succ, i64_w, i32_w]
       rfl
     refine one_ (i := 17) (N := some 88) #[true, true, true, true, true, true, true, true, true, true, true, true, true, true, true, true, true, true, false, false, false, false] rfl rfl (one_of HT_.out (by kernel_rfl)) (by decide) (fun K hK => ?_)
     refine goes_ Try.func126 (by kernel_rfl) rfl #[.agg #[.bool tc5, .slice Ao36 tc6.length co36], .agg #[.bool ((rd_T113 x14_3 (ji48)).f0), .slice Ae1_1 ((rd_T113 x14_3 (ji48)).f1).length ce1_1]] (by rfl) rfl rfl (by (try simp only [List.map_toArray, List.map_cons, List.map_nil]); first | done | (simp only [hji48]; rfl) | rfl | (simp only [List.length_drop, List.length_take]; rfl)) ?_
     with_reducible refine (mw_times.calls k3 tc5 (fun k_ => some k_ = (.slice Ao36 tc6.length co36 : Value).ownBlock) _ _ tc6 ((rd_T113 x14_3 (ji48)).f0) (fun k_ => (((w.heap.size ≤ k_) ∧ (some k_ ≠ (.slice (some add0) x11_2.length co42 : Value).ownBlock ∧ (some k_ ≠ (.slice Ao36 tc6.length co36 : Value).ownBlock ∧ k_ ≠ gbc9))) ∧ some k_ ≠ (.slice (some ade1) x14_3.length co57 : Value).ownBlock)) _ _ ((rd_T113 x14_3 (ji48)).f1) te2 te3 _ ?side1 ?side2 A53.out).mono ?_
     (case side1 => exact Kd.R_V (Kd.R_tight rfl (Kd.R_types (Kd.R_apart' (Kd.R_apart' (HO_130001.out) (Kd.N_typed HO_11.out) (by decide)) (Kd.N_typed HO_14.out) (by decide)) BKc9.out (by decide))))
     (case side2 => exact HLe1_1.out)
     rintro e w59 ⟨ve4, rfl, ho0, hb⟩
     have HS2_ := (hb.cell (World.block_lt_of_cell? _ _ (hHeld.2.2.1))).trans (hHeld.2.2.1)
     have HS3_ := (hb.cell (World.block_lt_of_cell? _ _ (hHeld.2.2.2.1))).trans (hHeld.2.2.2.1)
     have HS4_ := (hb.cell (World.block_lt_of_cell? _ _ (hHeld.2.2.2.2.1))).trans (hHeld.2.2.2.2.1)
     have HS5_ := (hb.cell (World.block_lt_of_cell? _ _ (hHeld.2.2.2.2.2.1))).trans (hHeld.2.2.2.2.2.1)
     have HS6_ := (hb.cell (World.block_lt_of_cell? _ _ (hHeld.2.2.2.2.2.2.1))).trans (hHeld.2.2.2.2.2.2.1)
     have HS7_ := (hb.cell (World.block_lt_of_cell? _ _ (hHeld.2.2.2.2.2.2.2))).trans (hHeld.2.2.2.2.2.2.2)
     refine ⟨_, rfl, ?_⟩
     replace HO_11 := yNe HO_11 ho0 hb
     replace HO_13 := yVe HO_13 ho0 hb
     replace HO_14 := yNe HO_14 ho0 hb
     replace HLd5_1 := yVe HLd5_1 ho0 hb
     replace HLd6_1 := yVe HLd6_1 ho0 hb
     replace HLe1_1 := yVe HLe1_1 ho0 hb
     replace HOe0 := yVe HOe0 ho0 hb
     replace ho0 := Kd.R_newM (M := fun k_ => (w.heap.size ≤ k_)) (yt ho0) (below_size (zB1 HB.out GEc9.out)) (fun k_ h_ => h_)
     replace ho0 := yn ho0 HO_130001
     have HOe5 := yRl1 ho0 HB GEc9
     replace HO_130001 := yRe HO_130001 ho0 hb
     replace BKc9 := yK BKc9 hb
     (try replace HRd5_1 := yCb HRd5_1 hb)
     (try replace HRd6_1 := yCb HRd6_1 hb)
     (try replace HRe1_1 := yCb HRe1_1 hb)
     replace HB := yS1 HB GEc9 hb
     (try clear hb)
     (try clear ho0)
     obtain ⟨Ao60, co60, eo60⟩ := Kd.V_slice HOe0.out
     (first | subst eo60 | (injection eo60 with f1_ f2_ f3_; have f4_ := f1_.symm; have f5_ := f3_.symm; clear f1_ f2_ f3_; subst f4_; subst f5_))
     obtain ⟨Ao61, co61, eo61⟩ := Kd.R_slice HOe5.out
     (first | subst eo61 | (injection eo61 with f1_ f2_ f3_; have f4_ := f1_.symm; have f5_ := f3_.symm; clear f1_ f2_ f3_; subst f4_; subst f5_))
     refine hK.out _ _ ⟨(blk_cell BKc9.out 0).trans rfl, (blk_cell BKc9.out 1).trans rfl, HS2_, HS3_, HS4_, HS5_, HS6_, HS7_⟩ (fun hHeld => ?_)
     clear hK K
     refine norm_ (a' := ?_) ?_ ?_
     rotate_left
     · show Act.put _ (some 88) _ = _
       simp only [Act.put, List.setIfInBounds_toArray, List.set_cons_zero, List.set_cons_succ, i64_w, i32_w]
       rfl
     refine one_ (i := 18) (N := some 89) #[true, true, true, true, true, true, true, true, true, true, true, true, true, true, true, true, true, true, true, false, false, false] rfl rfl (one_of HT_.out (by kernel_rfl)) (by decide) (fun K hK => ?_)
     refine goes_ Try.func125 (by kernel_rfl) rfl #[.agg #[.bool td7, .slice Ao60 td8.length co60], .agg #[.bool te2, .slice Ao61 te3.length co61]] (by rfl) rfl rfl (by (try simp only [List.map_toArray, List.map_cons, List.map_nil]); first | done | rfl | (simp only [List.length_drop, List.length_take]; rfl)) ?_
     with_reducible refine (mw_minus.calls k3 td7 (fun k_ => (((w.heap.size ≤ k_) ∧ (some k_ ≠ (.slice (some add0) x11_2.length co42 : Value).ownBlock ∧ (some k_ ≠ (.slice (some ade1) x14_3.length co57 : Value).ownBlock ∧ (some k_ ≠ (.slice Ao36 tc6.length co36 : Value).ownBlock ∧ k_ ≠ gbc9)))) ∧ some k_ ≠ (.slice Ao61 te3.length co61 : Value).ownBlock)) _ _ td8 te2 (fun k_ => some k_ = (.slice Ao61 te3.length co61 : Value).ownBlock) _ _ te3 te6 te7 _ ?side1 ?side2 A54.out).mono ?_
     (case side1 => exact HOe0.out)
     (case side2 => exact Kd.R_V (Kd.R_tight rfl (Kd.R_types (Kd.R_apart' (Kd.R_apart' (HOe5.out) (Kd.N_typed HO_11.out) (by decide)) (Kd.N_typed HO_14.out) (by decide)) BKc9.out (by decide))))
     rintro e w62 ⟨ve8, rfl, ho0, hb⟩
     have HS2_ := (hb.cell (World.block_lt_of_cell? _ _ (hHeld.2.2.1))).trans (hHeld.2.2.1)
     have HS3_ := (hb.cell (World.block_lt_of_cell? _ _ (hHeld.2.2.2.1))).trans (hHeld.2.2.2.1)
     have HS4_ := (hb.cell (World.block_lt_of_cell? _ _ (hHeld.2.2.2.2.1))).trans (hHeld.2.2.2.2.1)
     have HS5_ := (hb.cell (World.block_lt_of_cell? _ _ (hHeld.2.2.2.2.2.1))).trans (hHeld.2.2.2.2.2.1)
     have HS6_ := (hb.cell (World.block_lt_of_cell? _ _ (hHeld.2.2.2.2.2.2.1))).trans (hHeld.2.2.2.2.2.2.1)
     have HS7_ := (hb.cell (World.block_lt_of_cell? _ _ (hHeld.2.2.2.2.2.2.2))).trans (hHeld.2.2.2.2.2.2.2)
     refine ⟨_, rfl, ?_⟩
     replace HO_13 := yVb HO_13 hb
     replace HLd5_1 := yVb HLd5_1 hb
     replace HLd6_1 := yVb HLd6_1 hb
     replace HLe1_1 := yVb HLe1_1 hb
     replace HOe0 := yVb HOe0 hb
     have HOe9 := zk (Kd.V_lower (Kd.V_mono (ok' := fun k_ => (w.heap.size ≤ k_) ∧ some k_ ≠ (.slice (some add0) x11_2.length co42 : Value).ownBlock ∧ some k_ ≠ (.slice (some ade1) x14_3.length co57 : Value).ownBlock ∧ some k_ ≠ (.slice Ao36 tc6.length co36 : Value).ownBlock ∧ k_ ≠ gbc9) ho0 (fun k_ hk_ => ⟨Or.elim hk_ (fun hs_ => Or.elim hs_ (fun hs_ => hs_.1.1) (fun hs_ => ((Kd.R_types (Kd.R_apart' (Kd.R_apart' (HOe5.out) (Kd.N_typed HO_11.out) (by decide)) (Kd.N_typed HO_14.out) (by decide)) BKc9.out (by decide)).1 k_ hs_.symm).1.1.1.1.1)) (fun hn_ => (Nat.le_trans (below_size (zB1 HB.out GEc9.out)) hn_)), Or.elim hk_ (fun hs_ => Or.elim hs_ (fun hs_ => hs_.1.2.1) (fun hs_ => ((Kd.R_types (Kd.R_apart' (Kd.R_apart' (HOe5.out) (Kd.N_typed HO_11.out) (by decide)) (Kd.N_typed HO_14.out) (by decide)) BKc9.out (by decide)).1 k_ hs_.symm).1.1.2)) (fun hn_ => (Kd.fresh' (Kd.N_lt (zN HO_11.out)) k_ hn_)), Or.elim hk_ (fun hs_ => Or.elim hs_ (fun hs_ => hs_.1.2.2.1) (fun hs_ => ((Kd.R_types (Kd.R_apart' (Kd.R_apart' (HOe5.out) (Kd.N_typed HO_11.out) (by decide)) (Kd.N_typed HO_14.out) (by decide)) BKc9.out (by decide)).1 k_ hs_.symm).1.2)) (fun hn_ => (Kd.fresh' (Kd.N_lt (zN HO_14.out)) k_ hn_)), Or.elim hk_ (fun hs_ => Or.elim hs_ (fun hs_ => hs_.1.2.2.2.1) (fun hs_ => ((Kd.R_types (Kd.R_apart' (Kd.R_apart' (HOe5.out) (Kd.N_typed HO_11.out) (by decide)) (Kd.N_typed HO_14.out) (by decide)) BKc9.out (by decide)).1 k_ hs_.symm).1.1.1.2)) (fun hn_ => (Kd.fresh' (Kd.R_lt (zR HO_130001.out)) k_ hn_)), Or.elim hk_ (fun hs_ => Or.elim hs_ (fun hs_ => hs_.1.2.2.2.2) (fun hs_ => ((Kd.R_types (Kd.R_apart' (Kd.R_apart' (HOe5.out) (Kd.N_typed HO_11.out) (by decide)) (Kd.N_typed HO_14.out) (by decide)) BKc9.out (by decide)).1 k_ hs_.symm).2)) (fun hn_ => (Kd.freshB (g := gbc9) (o := .cells #[.bool tc5, .slice Ao36 tc6.length co36] 113 (0, 0)) (zK BKc9.out) k_ hn_))⟩)) (below_size (zB1 HB.out GEc9.out)))
     replace HO_11 := yNb HO_11 hb
     replace HO_14 := yNb HO_14 hb
     replace HO_130001 := yRb HO_130001 hb
     replace HOe5 := yRb HOe5 hb
     replace BKc9 := yK BKc9 hb
     (try replace HRd5_1 := yCb HRd5_1 hb)
     (try replace HRd6_1 := yCb HRd6_1 hb)
     (try replace HRe1_1 := yCb HRe1_1 hb)
     replace HB := yS1 HB GEc9 hb
     (try clear hb)
     (try clear ho0)
     obtain ⟨Ao64, co64, eo64⟩ := Kd.V_slice HOe9.out
     (first | subst eo64 | (injection eo64 with f1_ f2_ f3_; have f4_ := f1_.symm; have f5_ := f3_.symm; clear f1_ f2_ f3_; subst f4_; subst f5_))
     refine hK.out _ _ ⟨(blk_cell BKc9.out 0).trans rfl, (blk_cell BKc9.out 1).trans rfl, HS2_, HS3_, HS4_, HS5_, HS6_, HS7_⟩ (fun hHeld => ?_)
     clear hK K
     refine norm_ (a' := ?_) ?_ ?_
     rotate_left
     · show Act.put _ (some 89) _ = _
       simp only [Act.put, List.setIfInBounds_toArray, List.set_cons_zero, List.set_cons_succ, i64_w, i32_w]
       rfl
     refine last_ (i := 19) (N := some 90) #[true, true, true, true, true, true, true, true, true, true, true, true, true, true, true, true, true, true, true, true, false, false] rfl rfl (one_of HT_.out (by kernel_rfl)) (by decide) (fun K hK => ?_)
     refine value_ (w1 := ?_) (v := ?_) (by rfl) rfl ?_ ?_
     rotate_left 2
     · go_simp
       constructor
       · rfl
       rfl
     refine hK.out _ _ ?_
     clear hK K
     refine norm_ (a' := ?_) ?_ ?_
     rotate_left
     · show Act.put _ (some 90) _ = _
       simp only [Act.put, List.setIfInBounds_toArray, List.set_cons_zero, List.set_cons_succ, i64_w, i32_w]
       rfl
     refine last_ (i := 20) (N := some 91) #[true, true, true, true, true, true, true, true, true, true, true, true, true, true, true, true, true, true, true, true, true, false] rfl rfl (one_of HT_.out (by kernel_rfl)) (by decide) (fun K hK => ?_)
     refine Kd.N_append_step k113 (w0 := w) w.heap.size (by rfl) (.tmp 71) (.tmp 90) 114 113 (.agg #[(.bool false), (.slice none 0 0)]) 32 rfl Try.underlying114 info113 rfl (by decide) (by omega) (.slice (some ade1) x14_3.length co57) x14_3 (⟨te6, te7⟩ : S113) [.bool te6, .slice Ao64 te7.length co64] (fun k_ => (w.heap.size ≤ k_) ∧ some k_ ≠ (.slice (some add0) x11_2.length co42 : Value).ownBlock ∧ some k_ ≠ (.slice Ao36 tc6.length co36 : Value).ownBlock ∧ k_ ≠ gbc9) (fun k_ => ((fun k_ => (w.heap.size ≤ k_) ∧ some k_ ≠ (.slice (some add0) x11_2.length co42 : Value).ownBlock ∧ some k_ ≠ (.slice Ao36 tc6.length co36 : Value).ownBlock ∧ k_ ≠ gbc9)) k_ ∧ some k_ ≠ (.slice (some ade1) x14_3.length co57 : Value).ownBlock) rfl rfl ?aP (fun _ hk => hk) ?aF ?aO ?aB ?aS ?aL ?_
     (case aP => exact (k113_mkF _ _ (⟨te6, te7⟩ : S113) (Kd.V_reads' (Kd.V_mono (ok' := (fun k_ => ((fun k_ => (w.heap.size ≤ k_) ∧ some k_ ≠ (.slice (some add0) x11_2.length co42 : Value).ownBlock ∧ some k_ ≠ (.slice Ao36 tc6.length co36 : Value).ownBlock ∧ k_ ≠ gbc9)) k_ ∧ some k_ ≠ (.slice (some ade1) x14_3.length co57 : Value).ownBlock)) (HOe9.out) (fun k_ hk => by exact ⟨⟨hk.1, ⟨hk.2.1, ⟨hk.2.2.2.1, hk.2.2.2.2⟩⟩⟩, hk.2.2.1⟩))).2.1 (Kd.V_F (Kd.V_mono (ok' := (fun k_ => ((fun k_ => (w.heap.size ≤ k_) ∧ some k_ ≠ (.slice (some add0) x11_2.length co42 : Value).ownBlock ∧ some k_ ≠ (.slice Ao36 tc6.length co36 : Value).ownBlock ∧ k_ ≠ gbc9)) k_ ∧ some k_ ≠ (.slice (some ade1) x14_3.length co57 : Value).ownBlock)) (HOe9.out) (fun k_ hk => by exact ⟨⟨hk.1, ⟨hk.2.1, ⟨hk.2.2.2.1, hk.2.2.2.2⟩⟩⟩, hk.2.2.1⟩)))))
     (case aB => exact (zB1 HB.out GEc9.out))
     (case aF => exact (fun k_ hk => ⟨(Nat.le_trans (below_size (zB1 HB.out GEc9.out)) hk), Kd.fresh' (Kd.N_lt (zN HO_11.out)) k_ hk, Kd.fresh' (Kd.R_lt (zR HO_130001.out)) k_ hk, Kd.freshB (g := gbc9) (o := .cells #[.bool tc5, .slice Ao36 tc6.length co36] 113 (0, 0)) (zK BKc9.out) k_ hk⟩))
     (case aO => exact (by (with_reducible repeat (first | apply Kd.N_alloc | apply Kd.N_drewN | apply Kd.N_drew)); exact Kd.N_mono HO_14.out (fun _ hk => ⟨hk.1.1, ⟨hk.1.2.1, ⟨hk.1.2.2.1, hk.1.2.2.2⟩⟩⟩)))
     (case aS => exact (below_size (zB1 HB.out GEc9.out)))
     (case aL => have := LMc55.out; omega)
     intro vf1 w63 ho hb hg hat
     rw [← Nyf0.out] at ho
     replace HO_11 := zk (Kd.N_afterv (ok := (fun k_ => (w.heap.size ≤ k_) ∧ some k_ ≠ (.slice Ao36 tc6.length co36 : Value).ownBlock ∧ some k_ ≠ (.slice Ao61 te3.length co61 : Value).ownBlock ∧ k_ ≠ gbc9)) (by (with_reducible repeat (first | apply Kd.N_alloc | apply Kd.N_drewN | apply Kd.N_drew)); exact Kd.N_mono HO_11.out (fun _ hk => ⟨⟨hk.1.1, ⟨hk.1.2.2.1, ⟨hk.2, hk.1.2.2.2⟩⟩⟩, hk.1.2.1⟩)) hg hat)
     replace HO_13 := zk (Kd.V_afterv (ok := (fun k_ => (w.heap.size ≤ k_) ∧ some k_ ≠ (.slice (some add0) x11_2.length co42 : Value).ownBlock ∧ some k_ ≠ (.slice Ao36 tc6.length co36 : Value).ownBlock ∧ some k_ ≠ (.slice Ao61 te3.length co61 : Value).ownBlock ∧ k_ ≠ gbc9)) (by (with_reducible repeat (first | apply Kd.V_alloc | apply Kd.V_drewN | apply Kd.V_drew)); exact Kd.V_mono HO_13.out (fun _ hk => ⟨⟨hk.1.1, ⟨hk.1.2.1, ⟨hk.1.2.2.2.1, ⟨hk.2, hk.1.2.2.2.2⟩⟩⟩⟩, hk.1.2.2.1⟩)) hg hat)
     replace HO_130001 := zk (Kd.R_over' (zR HO_130001.out) (Kd.N_typed (zN HO_14.out)) (by decide) hg)
     replace BKc9 := zk (blk_grown (g := gbc9) (o := .cells #[.bool tc5, .slice Ao36 tc6.length co36] 113 (0, 0)) (zK BKc9.out) hg (Kd.N_away HO_14.out (fun _ hk => hk.1.2.2.2)))
     replace HLd5_1 := zk (Kd.V_afterv (ok := (fun k_ => (w.heap.size ≤ k_) ∧ some k_ ≠ (.slice (some add0) x11_2.length co42 : Value).ownBlock ∧ some k_ ≠ (.slice Ao36 tc6.length co36 : Value).ownBlock ∧ some k_ ≠ (.slice Ao61 te3.length co61 : Value).ownBlock ∧ k_ ≠ gbc9)) (by (with_reducible repeat (first | apply Kd.V_alloc | apply Kd.V_drewN | apply Kd.V_drew)); exact Kd.V_mono HLd5_1.out (fun _ hk => ⟨⟨hk.1.1, ⟨hk.1.2.1, ⟨hk.1.2.2.2.1, ⟨hk.2, hk.1.2.2.2.2⟩⟩⟩⟩, hk.1.2.2.1⟩)) hg hat)
     replace HLd6_1 := zk (Kd.V_afterv (ok := (fun k_ => (w.heap.size ≤ k_) ∧ some k_ ≠ (.slice (some add0) x11_2.length co42 : Value).ownBlock ∧ some k_ ≠ (.slice Ao36 tc6.length co36 : Value).ownBlock ∧ some k_ ≠ (.slice Ao61 te3.length co61 : Value).ownBlock ∧ k_ ≠ gbc9)) (by (with_reducible repeat (first | apply Kd.V_alloc | apply Kd.V_drewN | apply Kd.V_drew)); exact Kd.V_mono HLd6_1.out (fun _ hk => ⟨⟨hk.1.1, ⟨hk.1.2.1, ⟨hk.1.2.2.2.1, ⟨hk.2, hk.1.2.2.2.2⟩⟩⟩⟩, hk.1.2.2.1⟩)) hg hat)
     replace HLe1_1 := zk (Kd.V_afterv (ok := (fun k_ => (w.heap.size ≤ k_) ∧ some k_ ≠ (.slice (some add0) x11_2.length co42 : Value).ownBlock ∧ some k_ ≠ (.slice Ao36 tc6.length co36 : Value).ownBlock ∧ some k_ ≠ (.slice Ao61 te3.length co61 : Value).ownBlock ∧ k_ ≠ gbc9)) (by (with_reducible repeat (first | apply Kd.V_alloc | apply Kd.V_drewN | apply Kd.V_drew)); exact Kd.V_mono HLe1_1.out (fun _ hk => ⟨⟨hk.1.1.1, ⟨hk.1.1.2.1, ⟨hk.1.1.2.2.1, ⟨hk.2, hk.1.1.2.2.2⟩⟩⟩⟩, hk.1.2⟩)) hg hat)
     replace HOe0 := zk (Kd.V_afterv (ok := (fun k_ => (w.heap.size ≤ k_) ∧ some k_ ≠ (.slice (some add0) x11_2.length co42 : Value).ownBlock ∧ some k_ ≠ (.slice Ao36 tc6.length co36 : Value).ownBlock ∧ some k_ ≠ (.slice Ao61 te3.length co61 : Value).ownBlock ∧ k_ ≠ gbc9)) (by (with_reducible repeat (first | apply Kd.V_alloc | apply Kd.V_drewN | apply Kd.V_drew)); exact Kd.V_mono HOe0.out (fun _ hk => ⟨⟨hk.1.1, ⟨hk.1.2.1, ⟨hk.1.2.2.2.1, ⟨hk.2, hk.1.2.2.2.2⟩⟩⟩⟩, hk.1.2.2.1⟩)) hg hat)
     replace HOe5 := zk (Kd.R_over' (zR HOe5.out) (Kd.N_typed (zN HO_14.out)) (by decide) hg)
     replace HOe9 := zk (Kd.V_afterv (ok := (fun k_ => (w.heap.size ≤ k_) ∧ some k_ ≠ (.slice (some add0) x11_2.length co42 : Value).ownBlock ∧ some k_ ≠ (.slice Ao36 tc6.length co36 : Value).ownBlock ∧ k_ ≠ gbc9)) (by (with_reducible repeat (first | apply Kd.V_alloc | apply Kd.V_drewN | apply Kd.V_drew)); exact Kd.V_mono HOe9.out (fun _ hk => ⟨⟨hk.1, ⟨hk.2.1, ⟨hk.2.2.2.1, hk.2.2.2.2⟩⟩⟩, hk.2.2.1⟩)) hg hat)
     replace HB := zk (hb)
     have HOf2 := zk (ho)
     clear HO_14
     clear ho hb hg hat
     refine hK.out _ _ ?_
     clear hK K
     refine norm_ (a' := ?_) ?_ ?_
     rotate_left
     · show Act.put _ (some 91) _ = _
       simp only [Act.put, List.setIfInBounds_toArray, List.set_cons_zero, List.set_cons_succ, i64_w, i32_w]
       rfl
     refine zp (i := 21) (N := some 14) HT_ ?_
     refine done_ (done_of HT_.out (by kernel_rfl)) ?_
     try go_wp2
     go_roundg k3
     case measure => have := HK1.out; have := HK2.out; have := HK3.out; omega
     case rel => exact ⟨(yf0), (wrap64 (x15_3 + 1)), zF, H', ⟨by have := HK1.out; have := HK2.out; have := HK3.out; omega⟩, ⟨by (try simp only [hl5_1]); (with_reducible repeat (first | apply Kd.N_alloc | apply Kd.N_drewN | apply Kd.N_drew)); exact Kd.N_mono HO_11.out (fun _ hk => ⟨hk.1.1, ⟨hk.2, ⟨hk.1.2.1, hk.1.2.2.2⟩⟩⟩)⟩, ⟨by (try simp only [hl5_1]); (with_reducible repeat (first | apply Kd.V_alloc | apply Kd.V_drewN | apply Kd.V_drew)); exact Kd.V_mono HO_13.out (fun _ hk => ⟨hk.1.1, ⟨hk.1.2.1, ⟨hk.2, ⟨hk.1.2.2.1, hk.1.2.2.2.2⟩⟩⟩⟩)⟩, ⟨by (try simp only [hl5_1]); (with_reducible repeat (first | apply Kd.N_alloc | apply Kd.N_drewN | apply Kd.N_drew)); exact HOf2.out⟩, ⟨by (try simp only [hl5_1]); (with_reducible repeat (first | apply Kd.R_alloc | apply Kd.R_drewN | apply Kd.R_drew)); exact Kd.R_mono HO_130001.out (fun _ hk => hk.1)⟩, ⟨by (try simp only [hl5_1]); (with_reducible repeat (first | refine blk_drewN ?_ _ | refine blk_drew ?_ | refine blk_alloc ?_ _)); exact BKc9.out⟩, ⟨zB1 HB.out GEc9.out⟩⟩
   replace H := zg H
   obtain ⟨c65, H⟩ := H
   have LMc65 := zk c65
   clear c65
   obtain ⟨yf3, hyf3⟩ : ∃ y_ : List (List (S113)), y_ = (x11_2 ++ [x14_3]) := ⟨_, rfl⟩
   replace H : (mw_table.l1 k3 a1 yf3 a1 (wrap64 (x54_2 + 1)) tc5 tc6) = some r := zY hyf3 H
   have Nyf3 := zk hyf3
   clear hyf3
   have H' := zk H
   clear H
   obtain ⟨Ao67, co67, rfl⟩ := Kd.N_slice HO_14.out
   go_wp2_with (first | ((with_reducible refine gate_builtin (b := .append) (xs := #[.tmp 92, .tmp 94]) rfl ?_); at_builtin; refine Kd.N_append (Kd.slice 113 k113) (w0 := w) w.heap.size rfl (.tmp 92) (.tmp 94) 115 114 (.slice none 0 0) 24 rfl Try.underlying115 info114 rfl (by decide) (by omega) (.slice (some add0) x11_2.length co42) x11_2 x14_3 [.slice Ao67 x14_3.length co67] (fun k_ => (w.heap.size ≤ k_) ∧ some k_ ≠ (.slice Ao36 tc6.length co36 : Value).ownBlock ∧ k_ ≠ gbc9) (fun k_ => ((fun k_ => (w.heap.size ≤ k_) ∧ some k_ ≠ (.slice Ao36 tc6.length co36 : Value).ownBlock ∧ k_ ≠ gbc9)) k_ ∧ some k_ ≠ (.slice (some add0) x11_2.length co42 : Value).ownBlock) rfl rfl ?aP (fun _ hk => hk) ?aF ?aO ?aB ?aS ?aL ?_; (case aP => exact (Kd.FK_slice_mk (Kd.N_reads' (Kd.N_mono (ok' := (fun k_ => ((fun k_ => (w.heap.size ≤ k_) ∧ some k_ ≠ (.slice Ao36 tc6.length co36 : Value).ownBlock ∧ k_ ≠ gbc9)) k_ ∧ some k_ ≠ (.slice (some add0) x11_2.length co42 : Value).ownBlock)) (HO_14.out) (fun k_ hk => by exact ⟨⟨hk.1, ⟨hk.2.2.1, hk.2.2.2⟩⟩, hk.2.1⟩))).2.1 (Kd.N_F (Kd.N_mono (ok' := (fun k_ => ((fun k_ => (w.heap.size ≤ k_) ∧ some k_ ≠ (.slice Ao36 tc6.length co36 : Value).ownBlock ∧ k_ ≠ gbc9)) k_ ∧ some k_ ≠ (.slice (some add0) x11_2.length co42 : Value).ownBlock)) (HO_14.out) (fun k_ hk => by exact ⟨⟨hk.1, ⟨hk.2.2.1, hk.2.2.2⟩⟩, hk.2.1⟩))))); (case aB => exact (zB1 HB.out GEc9.out)); (case aF => exact (fun k_ hk => ⟨(Nat.le_trans (below_size (zB1 HB.out GEc9.out)) hk), Kd.fresh' (Kd.R_lt (zR HO_130001.out)) k_ hk, Kd.freshB (g := gbc9) (o := .cells #[.bool tc5, .slice Ao36 tc6.length co36] 113 (0, 0)) (zK BKc9.out) k_ hk⟩)); (case aO => exact (by (with_reducible repeat (first | apply Kd.N_alloc | apply Kd.N_drewN | apply Kd.N_drew)); exact Kd.N_mono HO_11.out (fun _ hk => ⟨hk.1, ⟨hk.2.2.1, hk.2.2.2⟩⟩))); (case aS => exact (below_size (zB1 HB.out GEc9.out))); (case aL => have := LMc65.out; omega); intro vf4 w66 ho hb hg hat; rw [← Nyf3.out] at ho; replace HO_13 := zk (Kd.V_afterv (ok := (fun k_ => (w.heap.size ≤ k_) ∧ some k_ ≠ (.slice Ao67 x14_3.length co67 : Value).ownBlock ∧ some k_ ≠ (.slice Ao36 tc6.length co36 : Value).ownBlock ∧ k_ ≠ gbc9)) (by (with_reducible repeat (first | apply Kd.V_alloc | apply Kd.V_drewN | apply Kd.V_drew)); exact Kd.V_mono HO_13.out (fun _ hk => ⟨⟨hk.1, ⟨hk.2.2.1, ⟨hk.2.2.2.1, hk.2.2.2.2⟩⟩⟩, hk.2.1⟩)) hg hat); replace HO_130001 := zk (Kd.R_over' (zR HO_130001.out) (Kd.N_typed (zN HO_11.out)) (by decide) hg); replace BKc9 := zk (blk_grown (g := gbc9) (o := .cells #[.bool tc5, .slice Ao36 tc6.length co36] 113 (0, 0)) (zK BKc9.out) hg (Kd.N_ne HO_11.out BKc9.out (by decide))); replace HB := zk (hb); have HOf5 := zk (ho); clear HO_11 HO_14; clear ho hb hg hat))
   go_roundg k3
   case measure => have := HK1.out; have := HK2.out; have := HK3.out; omega
   case rel => exact ⟨(yf3), (wrap64 (x54_2 + 1)), zF, H', ⟨by have := HK1.out; have := HK2.out; have := HK3.out; omega⟩, ⟨by (try simp only [hl5_1]); (with_reducible repeat (first | apply Kd.N_alloc | apply Kd.N_drewN | apply Kd.N_drew)); exact HOf5.out⟩, ⟨by (try simp only [hl5_1]); (with_reducible repeat (first | apply Kd.R_alloc | apply Kd.R_drewN | apply Kd.R_drew)); exact HO_130001.out⟩, ⟨by (try simp only [hl5_1]); (with_reducible repeat (first | refine blk_drewN ?_ _ | refine blk_drew ?_ | refine blk_alloc ?_ _)); exact BKc9.out⟩, ⟨zB1 HB.out GEc9.out⟩⟩
 obtain rfl := Option.some.inj H
 go_wp2
 go_ret
 exact ⟨_, by first | rfl | (simp [errW_none, errW_some] <;> rfl) | (simp only [← hji3]; first | rfl | (simp [errW_none, errW_some] <;> rfl)) | (simp [*, errW_none, errW_some] <;> rfl), by (with_reducible repeat (first | apply Kd.N_alloc | apply Kd.N_drewN | apply Kd.N_drew)); exact Kd.N_mono HO_11.out (fun _ hk => hk.1), zB1 HB.out GEc9.out⟩
def mw_sums.T10 : Bool × List (List Nat × List Nat) := (true, [([], []), ([], []), ([], []), ([], []), ([2, 3], [2, 3]), ([4], [4]), ([], []), ([], []), ([], []), ([7, 8], [7, 8]), ([9], [9]), ([], []), ([10, 11], [10, 11]), ([12], [12]), ([6, 13], [6, 13]), ([5, 14, 14], [5, 14]), ([0, 1, 0, 1, 2, 3, 4, 5, 6, 7, 8, 9, 10, 11, 12, 13, 14, 15], [0, 1]), ([16, 15, 15, 0, 1, 2, 3, 4, 5, 6, 7, 8, 9, 10, 11, 12, 13, 14, 15], [15, 16])])
def mw_sums.B10 : List Nat := [0, 0, 0, 0, 12, 28, 0, 0, 0, 384, 896, 0, 3968, 8064, 16320, 32764, 65535, 131071]
theorem mw_sums.tab10 : rtab .any (opsOf Try.f104 10) = mw_sums.T10 := by kernel_rfl
theorem mw_sums.bits10 : waitsOk mw_sums.T10.2 mw_sums.B10 = true := by kernel_rfl
set_option maxHeartbeats 8000000 in
set_option maxRecDepth 100000 in
theorem mw_sums.calls (k : Nat) (a0 : Int) (A1 : Option Addr) (c1 : Nat) (l1 : List (S113)) (r : List (S113)) (w : World) (hr1 : Kd.C k113 w A1 l1.length l1) (hc1 : l1.length ≤ c1) (h : mw_sums.f k a0 l1 = some r) :
    Calls Try.prog 104 #[.int .i64 a0, .slice A1 l1.length c1] w fun e w' => ∃ v0_ : Value, e = .returned (v0_) ∧ Kd.N k113 113 w' w.heap.size (fun k_ => (w.heap.size ≤ k_)) v0_ r ∧ Below w.heap.size w w' := by
 have hu113 := Try.underlying113
 have HR1 := zk hr1
 have HC1 := zk hc1
 clear hr1 hc1
 have HB := zk (Below.refl w.heap.size w)
 have H := h
 clear h
 unfold mw_sums.f at H
 replace H := zb H
 obtain ⟨ta1, A3, H⟩ := H
 replace H := zg H
 obtain ⟨c4, H⟩ := H
 have c4b0 := eq_true c4
 have c4b1 := decide_eq_true c4
 clear c4
 replace H := zg H
 obtain ⟨c5, H⟩ := H
 have c5b0 := eq_true c5
 have c5b1 := decide_eq_true c5
 clear c5
 obtain ⟨ya4, hya4⟩ : ∃ y_ : List (S113), y_ = (List.replicate ((l1.length : Int) : Int).toNat z113) := ⟨_, rfl⟩
 replace H : (mw_sums.l0 k l1 ta1 ya4 (ya4.length : Int) 0) = some r := zY hya4 H
 have Nya4 := zk hya4
 clear hya4
 have H' := zk H
 clear H
 go_enter Try.func104, Try.ntmps104
 go_wp2_with (first | ((with_reducible refine gC 94 ?_); refine zG (some 14) Try.func94 #[.int .i64 a0, .int .i64 (wrap64 ((l1.length : Int) - 1))] ?_; (with_reducible refine (mw_table.calls k a0 (wrap64 ((l1.length : Int) - 1)) ta1 _ A3.out).mono ?_); rintro e w6 ⟨va2, rfl, ho0, hb⟩; refine ⟨_, rfl, ?_⟩; have HOa3 := zk (Kd.N_lower (Kd.N_mono (ok' := fun k_ => (w.heap.size ≤ k_)) ho0 (fun k_ hk_ => (Nat.le_trans (below_size (zB HB.out)) hk_))) (below_size (zB HB.out))); replace HB := yS HB hb; (try clear hb ho0)) | ((with_reducible refine gate_dst (N := 17) rfl ?_); refine Kd.N_make k113 _ 113 rfl (N' := 17) rfl 114 _ _ rfl (l1.length : Int) rfl rfl Try.underlying114 (.agg #[(.bool false), (.slice none 0 0)]) 32 info113 rfl (by decide) (by omega) z113 (ok := fun k_ => w6.heap.size ≤ k_) (okp := fun _ => False) (k113_mkF _ _ z113 (Nat.le_refl _) (Kd.F_nil _ _ _)) (fun _ hk => hk.elim) (Nat.le_refl _) zd (Nat.le_trans (Nat.mul_le_mul_right _ (zd : (l1.length : Int).toNat ≤ 8796093022208)) (by omega)) (Below.refl _ _) (Nat.le_refl _) ?_; intro va5 w7 ho8 hb hg_ hnew_; clear hg_ hnew_; (first | rw [← Nya4.out] at ho8 | (simp only [Int.reduceToNat] at ho8; rw [← Nya4.out] at ho8)); have HOa6 := zk (Kd.N_lower (Kd.N_mono (ok' := fun k_ => (w.heap.size ≤ k_) ∧ some k_ ≠ (va2 : Value).ownBlock) ho8 (fun k_ hk_ => ⟨(Nat.le_trans (below_size (zB HB.out)) hk_), (Kd.fresh' (Kd.N_lt (zN HOa3.out)) k_ hk_)⟩)) (below_size (zB HB.out))); replace HOa3 := zk (Kd.N_elder' (zN HOa3.out) (Kd.N_base ho8) hb); replace HB := yS HB hb; clear hb ho8; obtain ⟨Ao9, co9, rfl⟩ := Kd.N_slice HOa6.out))
 go_loopg [20] k (fun kq v20 w' => ∃ (x6_1 : List (S113)) (x20_1 : Int), v20 = .int .i64 x20_1 ∧ Aside0 (mw_sums.l0 kq l1 ta1 x6_1 (ya4.length : Int) x20_1 = some r) ∧ Aside0 (kq ≤ k) ∧ Aside0 (Kd.N (Kd.slice 113 k113) 114 w' w.heap.size (fun k_ => (w.heap.size ≤ k_) ∧ some k_ ≠ ((.slice Ao9 ya4.length co9) : Value).ownBlock) va2 ta1) ∧ Aside0 (Kd.N k113 113 w' w.heap.size (fun k_ => (w.heap.size ≤ k_) ∧ some k_ ≠ (va2 : Value).ownBlock) (.slice Ao9 ya4.length co9) x6_1) ∧ Aside0 (Below w.heap.size w w'))
 case atStart => exact ⟨(ya4), (0), zF, H', ⟨Nat.le_refl _⟩, ⟨zN HOa3.out⟩, ⟨zN HOa6.out⟩, ⟨zB HB.out⟩⟩
 clear H'
 (try clear c4);(try clear c4b0);(try clear c4b1);(try clear c5);(try clear c5b0);(try clear c5b1)
 obtain ⟨x6_1, x20_1, rfl, HA, HK1, HO_5, HO_6, HB⟩ := hrel
 have hl6_1 := (Kd.N_reads' HO_6.out).1
 rw [hl6_1] at HO_6
 (try simp only [hl6_1])
 (try simp only [hl6_1] at HO_5)
 cases gk with | zero => exact absurd HA.out (by simp [mw_sums.l0]) | succ k1 => ?_
 have H := HA.out
 clear HA
 simp only [mw_sums.l0] at H
 replace H := zi H
 rcases H with ⟨c10, H⟩ | ⟨c10, H⟩
 · have c10b0 := decide_eq_true c10
   (try (have c10h0 := c10b0; simp only [hl6_1] at c10h0))
   clear c10
   have H' := zk H
   clear H
   go_wp2
   go_loopg [25] k1 (fun kq v25 w' => ∃ (x6_2 : List (S113)) (x25_2 : Int), v25 = .int .i64 x25_2 ∧ Aside0 (mw_sums.l1 kq l1 ta1 x6_2 x20_1 (ya4.length : Int) x20_1 l1 (l1.length : Int) x25_2 = some r) ∧ Aside0 (kq ≤ k1) ∧ Aside0 (Kd.N (Kd.slice 113 k113) 114 w' w.heap.size (fun k_ => (w.heap.size ≤ k_) ∧ some k_ ≠ ((.slice Ao9 x6_1.length co9) : Value).ownBlock) va2 ta1) ∧ Aside0 (Kd.N k113 113 w' w.heap.size (fun k_ => (w.heap.size ≤ k_) ∧ some k_ ≠ (va2 : Value).ownBlock) (.slice Ao9 x6_1.length co9) x6_2) ∧ Aside0 (Below w.heap.size w w'))
   case atStart => exact ⟨(x6_1), (0), zF, H', ⟨Nat.le_refl _⟩, ⟨by (try simp only [hl6_1]); (with_reducible repeat (first | apply Kd.N_alloc | apply Kd.N_drewN | apply Kd.N_drew)); exact HO_5.out⟩, ⟨by (try simp only [hl6_1]); (with_reducible repeat (first | apply Kd.N_alloc | apply Kd.N_drewN | apply Kd.N_drew)); exact HO_6.out⟩, ⟨zB HB.out⟩⟩
   clear H'
   (try clear c4);(try clear c4b0);(try clear c4b1);(try clear c5);(try clear c5b0);(try clear c5b1);(try clear c10);(try clear c10b0)
   obtain ⟨x6_2, x25_2, rfl, HA, HK2, HO_5, HO_6, HB⟩ := hrel
   have hl6_2 := (Kd.N_reads' HO_6.out).1
   rw [hl6_2] at HO_6
   (try simp only [hl6_2])
   (try simp only [hl6_2] at HO_5)
   cases gk with | zero => exact absurd HA.out (by simp [mw_sums.l1]) | succ k2 => ?_
   have H := HA.out
   clear HA
   simp only [mw_sums.l1] at H
   replace H := zi H
   rcases H with ⟨c11, H⟩ | ⟨c11, H⟩
   · have c11b0 := decide_eq_true c11
     (try (have c11h0 := c11b0; simp only [hl6_1, hl6_2] at c11h0))
     clear c11
     replace H := zgd H
     obtain ⟨c12b0, H⟩ := H
     replace H := zg H
     obtain ⟨c13, H⟩ := H
     have c13b0 := decide_eq_true c13
     (try (have c13h0 := c13b0; simp only [hl6_1, hl6_2] at c13h0))
     clear c13
     replace H := zi H
     rcases H with ⟨c14, H⟩ | ⟨c14, H⟩
     · have c14b0 : decide (0 < (((rd_T113 l1 x25_2).f1).length : Int)) = true := decide_eq_true c14
       (try (have c14h0 := c14b0; simp only [hl6_1, hl6_2] at c14h0))
       have c14b1 : decide (0 < ((rd_T113 l1 x25_2).f1).length) = true := decide_eq_true (by omega)
       (try (have c14h1 := c14b1; simp only [hl6_1, hl6_2] at c14h1))
       clear c14
       replace H := zgd H
       obtain ⟨c15b0, H⟩ := H
       replace H := zg H
       obtain ⟨c16, H⟩ := H
       have c16b0 := decide_eq_true c16
       (try (have c16h0 := c16b0; simp only [hl6_1, hl6_2] at c16h0))
       clear c16
       replace H := zg H
       obtain ⟨c17, H⟩ := H
       have c17b0 := decide_eq_true c17
       (try (have c17h0 := c17b0; simp only [hl6_1, hl6_2] at c17h0))
       clear c17
       replace H := zg H
       obtain ⟨c18, H⟩ := H
       have c18b0 := decide_eq_true c18
       (try (have c18h0 := c18b0; simp only [hl6_1, hl6_2] at c18h0))
       clear c18
       replace H := zb H
       obtain ⟨⟨tb2, tb3⟩, A19, H⟩ := H
       dsimp only at H
       replace H := zb H
       obtain ⟨⟨tb6, tb7⟩, A20, H⟩ := H
       dsimp only at H
       obtain ⟨yc0, hyc0⟩ : ∃ y_ : List (S113), y_ = (x6_2.set (x20_1 : Int).toNat (⟨tb6, tb7⟩ : S113)) := ⟨_, rfl⟩
       replace H : (mw_sums.l1 k2 l1 ta1 yc0 x20_1 (ya4.length : Int) x20_1 l1 (l1.length : Int) (wrap64 (x25_2 + 1))) = some r := zY hyc0 H
       have Nyc0 := zk hyc0
       clear hyc0
       have H' := zk H
       clear H
       have pa7 : 0 ≤ (x25_2 : Int) := zd
       have qa7 : x25_2 < (l1.length : Int) := zd
       obtain ⟨ada7, Aa7_1, ca7_1, ea7, hxa7_0, hxa7_1, hla7_1, hia7_1⟩ := at_T113 HR1.out x25_2 pa7 qa7
       cases ea7
       replace hxa7_0 := (HB.out.cell (World.block_lt_of_cell? w _ hxa7_0)).trans hxa7_0
       replace hxa7_1 := (HB.out.cell (World.block_lt_of_cell? w _ hxa7_1)).trans hxa7_1
       have HRa7_1 := zk hia7_1
       have HCa7_1 := zk hla7_1
       clear hia7_1 hla7_1
       replace pa7 := eq_true pa7
       replace qa7 := eq_true qa7
       try go_wp2_with (first | ((with_reducible refine gate_dst (N := 9) rfl ?_); refine box_event ?hg (N := 9) ?hd (cs := #[.bool false, .slice none 0 0]) (t := 113) ?hr ?_; (case hd => rfl); (case hg => rfl); (case hr => first | (go_simp; done) | (go_simp; rfl)); intro gba8 hg w22 hbox hb; replace HO_5 := zk (Kd.N_below (Kd.N_elderB (zN HO_5.out) gba8 (Nat.le_of_eq hg.symm)) hb); replace HO_6 := zk (Kd.N_below (Kd.N_elderB (zN HO_6.out) gba8 (Nat.le_of_eq hg.symm)) hb); have BKa8 := zk (hbox); have GWa8 := yg hg HB; have GEa8 := yg hg HB; replace HB := yS HB hb; clear hb hbox hg; obtain ⟨hcz23_0, hcz23_1, hfz23_0, hfz23_1⟩ := zz2 BKa8))
       have n0_ : Aside0 (Kd.N (Kd.slice 113 k113) 114 ((w22.setCell ⟨gba8, 0, none⟩ (.bool ((rd_T113 l1 x25_2).f0))).setCell ⟨gba8, 1, none⟩ (.slice Aa7_1 ((rd_T113 l1 x25_2).f1).length ca7_1)) w.heap.size (fun k_ => (w.heap.size ≤ k_) ∧ some k_ ≠ (.slice Ao9 x6_2.length co9 : Value).ownBlock ∧ k_ ≠ gba8) va2 ta1) := ⟨by (with_reducible repeat (first | apply Kd.N_alloc | apply Kd.N_drewN | apply Kd.N_drew)); exact Kd.N_mono (Kd.N_far (p := ⟨gba8, 1, none⟩) (Kd.N_far (p := ⟨gba8, 0, none⟩) (Kd.N_mono HO_5.out (fun k_ hk => (⟨hk, hk.2⟩ : _ ∧ k_ ≠ gba8))) (fun _ hk => hk.2) (.bool ((rd_T113 l1 x25_2).f0))) (fun _ hk => hk.2) (.slice Aa7_1 ((rd_T113 l1 x25_2).f1).length ca7_1)) (fun _ hk => ⟨hk.1.1.1, ⟨hk.1.1.2, hk.1.2⟩⟩)⟩
       have n1_ : Aside0 (Kd.N k113 113 ((w22.setCell ⟨gba8, 0, none⟩ (.bool ((rd_T113 l1 x25_2).f0))).setCell ⟨gba8, 1, none⟩ (.slice Aa7_1 ((rd_T113 l1 x25_2).f1).length ca7_1)) w.heap.size (fun k_ => (w.heap.size ≤ k_) ∧ some k_ ≠ (va2 : Value).ownBlock ∧ k_ ≠ gba8) (.slice Ao9 x6_2.length co9) x6_2) := ⟨by (with_reducible repeat (first | apply Kd.N_alloc | apply Kd.N_drewN | apply Kd.N_drew)); exact Kd.N_mono (Kd.N_far (p := ⟨gba8, 1, none⟩) (Kd.N_far (p := ⟨gba8, 0, none⟩) (Kd.N_mono HO_6.out (fun k_ hk => (⟨hk, hk.2⟩ : _ ∧ k_ ≠ gba8))) (fun _ hk => hk.2) (.bool ((rd_T113 l1 x25_2).f0))) (fun _ hk => hk.2) (.slice Aa7_1 ((rd_T113 l1 x25_2).f1).length ca7_1)) (fun _ hk => ⟨hk.1.1.1, ⟨hk.1.1.2, hk.1.2⟩⟩)⟩
       have n2_ : Aside0 (((w22.setCell ⟨gba8, 0, none⟩ (.bool ((rd_T113 l1 x25_2).f0))).setCell ⟨gba8, 1, none⟩ (.slice Aa7_1 ((rd_T113 l1 x25_2).f1).length ca7_1)).heap[gba8]? = some (.cells #[.bool ((rd_T113 l1 x25_2).f0), .slice Aa7_1 ((rd_T113 l1 x25_2).f1).length ca7_1] 113 (0, 0))) := ⟨zP2 BKa8.out⟩
       have n3_ : Aside0 (Below w.heap.size w ((w22.setCell ⟨gba8, 0, none⟩ (.bool ((rd_T113 l1 x25_2).f0))).setCell ⟨gba8, 1, none⟩ (.slice Aa7_1 ((rd_T113 l1 x25_2).f1).length ca7_1))) := ⟨zB1 HB.out GEa8.out⟩
       (try clear HO_5)
       (try clear HO_6)
       (try clear BKa8)
       (try clear HB)
       generalize ((w22.setCell ⟨gba8, 0, none⟩ (.bool ((rd_T113 l1 x25_2).f0))).setCell ⟨gba8, 1, none⟩ (.slice Aa7_1 ((rd_T113 l1 x25_2).f1).length ca7_1)) = w24 at n0_ n1_ n2_ n3_ ⊢
       have HO_5 := n0_
       have HO_6 := n1_
       have BKa8 := n2_
       have HB := n3_
       clear n0_ n1_ n2_ n3_
       replace HO_5 := zk (Kd.N_drew HO_5.out)
       replace HO_6 := zk (Kd.N_drew HO_6.out)
       replace BKa8 := zk (blk_drew BKa8.out)
       replace HB := zk (below_drew1 HB.out)
       have pa9 : 0 ≤ (x20_1 : Int) := zd
       have qa9 : x20_1 < (x6_2.length : Int) := zd
       obtain ⟨ada9, Aa9_1, ca9_1, ea9, hxa9_0, hxa9_1, hla9_1, hia9_1⟩ := at_T113 (Kd.N_reads' HO_6.out).2.2 x20_1 pa9 qa9
       cases ea9
       obtain ⟨cea9, hcea9, hMea9, hcca9⟩ := Kd.N_get HO_6.out z113 x20_1 pa9 (by first | exact qa9 | exact zd | (have e_ := (Kd.N_reads' HO_6.out).1; omega))
       obtain ⟨uaa9_1, uca9_1, rfl, ula9_1, gea9_1⟩ := k113_openF hMea9
       have hva9_1 := hcca9 1 _ rfl
       rw [add_field _ _ 1 (by omega)] at hva9_1
       replace hva9_1 := Option.some.inj (hva9_1.symm.trans hxa9_1)
       injection hva9_1 with hva_ hvn_ hvc_
       rw [hva_] at gea9_1
       rw [hvc_] at ula9_1
       have HLa9_1 := zk (show Kd.V (Kd.int .u32) 97 _ w.heap.size _ _ ((rd_T113 x6_2 x20_1).f1) from Kd.V_mk ula9_1 gea9_1)
       clear hva_ hvn_ hvc_ gea9_1 ula9_1
       clear hcca9 hcea9
       have HRa9_1 := zk hia9_1
       have HCa9_1 := zk hla9_1
       clear hia9_1 hla9_1
       replace pa9 := eq_true pa9
       replace qa9 := eq_true qa9
       obtain ⟨Ao26, co26, eo26⟩ := Kd.N_slice HO_5.out
       (first | subst eo26 | (injection eo26 with f1_ f2_ f3_; have f4_ := f1_.symm; have f5_ := f3_.symm; clear f1_ f2_ f3_; subst f4_; subst f5_))
       have pb0 : 0 ≤ (x25_2 : Int) := zd
       have qb0 : x25_2 < (ta1.length : Int) := zd
       obtain ⟨adb0, Ab0_0, cb0_0, eb0, hxb0_0, hlb0_0, hib0_0⟩ := at_L6 (Kd.N_reads' HO_5.out).2.2 x25_2 pb0 qb0
       cases eb0
       obtain ⟨ceb0, hceb0, hMeb0, hccb0⟩ := Kd.N_get HO_5.out [] x25_2 pb0 (by first | exact qb0 | exact zd | (have e_ := (Kd.N_reads' HO_5.out).1; omega))
       obtain ⟨uab0_0, ucb0_0, rfl, ulb0_0, geb0_0⟩ := Kd.FK_slice_open hMeb0
       have hvb0_0 := hccb0 0 _ rfl
       rw [Nat.add_zero, show ((Kd.slice 113 k113)).sz = 1 from rfl, Nat.mul_one] at hvb0_0
       replace hvb0_0 := Option.some.inj (hvb0_0.symm.trans hxb0_0)
       injection hvb0_0 with hva_ hvn_ hvc_
       rw [hva_] at geb0_0
       rw [hvc_] at ulb0_0
       have HLb0_0 := zk (show Kd.V k113 113 _ w.heap.size _ _ (rd_L6 ta1 x25_2) from Kd.V_mk ulb0_0 geb0_0)
       clear hva_ hvn_ hvc_ geb0_0 ulb0_0
       clear hccb0 hceb0
       have HRb0_0 := zk hib0_0
       have HCb0_0 := zk hlb0_0
       clear hib0_0 hlb0_0
       replace pb0 := eq_true pb0
       replace qb0 := eq_true qb0
       have pb1 : 0 ≤ (x20_1 : Int) := zd
       have qb1 : x20_1 < ((rd_L6 ta1 x25_2).length : Int) := zd
       obtain ⟨adb1, Ab1_1, cb1_1, eb1, hxb1_0, hxb1_1, hlb1_1, hib1_1⟩ := at_T113 (zCr HRb0_0.out) x20_1 pb1 qb1
       cases eb1
       obtain ⟨ceb1, hceb1, hMeb1, hccb1⟩ := Kd.V_get HLb0_0.out z113 x20_1 pb1 (by first | exact qb1 | exact zd | (have e_ := (Kd.V_reads' HLb0_0.out).1; omega))
       obtain ⟨uab1_1, ucb1_1, rfl, ulb1_1, geb1_1⟩ := k113_openF hMeb1
       have hvb1_1 := hccb1 1 _ rfl
       rw [add_field _ _ 1 (by omega)] at hvb1_1
       replace hvb1_1 := Option.some.inj (hvb1_1.symm.trans hxb1_1)
       injection hvb1_1 with hva_ hvn_ hvc_
       rw [hva_] at geb1_1
       rw [hvc_] at ulb1_1
       have HLb1_1 := zk (show Kd.V (Kd.int .u32) 97 _ w.heap.size _ _ ((rd_T113 (rd_L6 ta1 x25_2) x20_1).f1) from Kd.V_mk ulb1_1 geb1_1)
       clear hva_ hvn_ hvc_ geb1_1 ulb1_1
       clear hccb1 hceb1
       have HRb1_1 := zk hib1_1
       have HCb1_1 := zk hlb1_1
       clear hib1_1 hlb1_1
       replace pb1 := eq_true pb1
       replace qb1 := eq_true qb1
       refine start_ (n := 18) (S := fun w' => w'.cell? ⟨gba8, 0, none⟩ = some (.bool ((rd_T113 l1 x25_2).f0)) ∧ w'.cell? ⟨gba8, 1, none⟩ = some (.slice Aa7_1 ((rd_T113 l1 x25_2).f1).length ca7_1) ∧ w'.cell? (ada9.add ((x20_1).toNat * 2)) = some (.bool ((rd_T113 x6_2 x20_1).f0)) ∧ w'.cell? ⟨(ada9.add ((x20_1).toNat * 2)).block, (ada9.add ((x20_1).toNat * 2)).off + 1, none⟩ = some (.slice Aa9_1 ((rd_T113 x6_2 x20_1).f1).length ca9_1) ∧ w'.cell? (adb0.add (x25_2).toNat) = some (.slice (some adb1) (rd_L6 ta1 x25_2).length cb0_0) ∧ w'.cell? (adb1.add ((x20_1).toNat * 2)) = some (.bool ((rd_T113 (rd_L6 ta1 x25_2) x20_1).f0)) ∧ w'.cell? ⟨(adb1.add ((x20_1).toNat * 2)).block, (adb1.add ((x20_1).toNat * 2)).off + 1, none⟩ = some (.slice Ab1_1 ((rd_T113 (rd_L6 ta1 x25_2) x20_1).f1).length cb1_1)) (ds := [17]) #[false, false, false, false, false, false, false, false, false, false, false, false, false, false, false, false, false, false] (by kernel_rfl) rfl rfl ⟨(blk_cell BKa8.out 0).trans rfl, (blk_cell BKa8.out 1).trans rfl, hxa9_0, hxa9_1, hxb0_0, hxb1_0, hxb1_1⟩ (fun hHeld => ?_); refine with_tabW mw_sums.tab10 mw_sums.bits10 (fun HT_ HW_ => ?_)
       first | (generalize w24.drew = w25 at HO_5 HO_6 BKa8 HB HLa9_1 HLb0_0 HLb1_1 HRa9_1 HRb0_0 HRb1_1 hxa9_0 hxa9_1 hxb0_0 hxb1_0 hxb1_1 hHeld ⊢) | (generalize w24.drew = w25 at HO_5 HO_6 BKa8 HB HLa9_1 HLb0_0 HLb1_1 HRa9_1 HRb0_0 HRb1_1 hxa9_1 hxb0_0 hxb1_0 hxb1_1 hHeld ⊢) | (generalize w24.drew = w25 at HO_5 HO_6 BKa8 HB HLa9_1 HLb0_0 HLb1_1 HRa9_1 HRb0_0 HRb1_1 hxa9_0 hxb0_0 hxb1_0 hxb1_1 hHeld ⊢) | (generalize w24.drew = w25 at HO_5 HO_6 BKa8 HB HLa9_1 HLb0_0 HLb1_1 HRa9_1 HRb0_0 HRb1_1 hxa9_0 hxa9_1 hxb1_0 hxb1_1 hHeld ⊢) | (generalize w24.drew = w25 at HO_5 HO_6 BKa8 HB HLa9_1 HLb0_0 HLb1_1 HRa9_1 HRb0_0 HRb1_1 hxa9_0 hxa9_1 hxb0_0 hxb1_1 hHeld ⊢) | (generalize w24.drew = w25 at HO_5 HO_6 BKa8 HB HLa9_1 HLb0_0 HLb1_1 HRa9_1 HRb0_0 HRb1_1 hxa9_0 hxa9_1 hxb0_0 hxb1_0 hHeld ⊢) | (generalize w24.drew = w25 at HO_5 HO_6 BKa8 HB HLa9_1 HLb0_0 HLb1_1 HRa9_1 HRb0_0 HRb1_1 hxb0_0 hxb1_0 hxb1_1 hHeld ⊢) | (generalize w24.drew = w25 at HO_5 HO_6 BKa8 HB HLa9_1 HLb0_0 HLb1_1 HRa9_1 HRb0_0 HRb1_1 hxa9_1 hxb1_0 hxb1_1 hHeld ⊢) | (generalize w24.drew = w25 at HO_5 HO_6 BKa8 HB HLa9_1 HLb0_0 HLb1_1 HRa9_1 HRb0_0 HRb1_1 hxa9_1 hxb0_0 hxb1_1 hHeld ⊢) | (generalize w24.drew = w25 at HO_5 HO_6 BKa8 HB HLa9_1 HLb0_0 HLb1_1 HRa9_1 HRb0_0 HRb1_1 hxa9_1 hxb0_0 hxb1_0 hHeld ⊢) | (generalize w24.drew = w25 at HO_5 HO_6 BKa8 HB HLa9_1 HLb0_0 HLb1_1 HRa9_1 HRb0_0 HRb1_1 hxa9_0 hxb1_0 hxb1_1 hHeld ⊢) | (generalize w24.drew = w25 at HO_5 HO_6 BKa8 HB HLa9_1 HLb0_0 HLb1_1 HRa9_1 HRb0_0 HRb1_1 hxa9_0 hxb0_0 hxb1_1 hHeld ⊢) | (generalize w24.drew = w25 at HO_5 HO_6 BKa8 HB HLa9_1 HLb0_0 HLb1_1 HRa9_1 HRb0_0 HRb1_1 hxa9_0 hxb0_0 hxb1_0 hHeld ⊢) | (generalize w24.drew = w25 at HO_5 HO_6 BKa8 HB HLa9_1 HLb0_0 HLb1_1 HRa9_1 HRb0_0 HRb1_1 hxa9_0 hxa9_1 hxb1_1 hHeld ⊢) | (generalize w24.drew = w25 at HO_5 HO_6 BKa8 HB HLa9_1 HLb0_0 HLb1_1 HRa9_1 HRb0_0 HRb1_1 hxa9_0 hxa9_1 hxb1_0 hHeld ⊢) | (generalize w24.drew = w25 at HO_5 HO_6 BKa8 HB HLa9_1 HLb0_0 HLb1_1 HRa9_1 HRb0_0 HRb1_1 hxa9_0 hxa9_1 hxb0_0 hHeld ⊢) | (generalize w24.drew = w25 at HO_5 HO_6 BKa8 HB HLa9_1 HLb0_0 HLb1_1 HRa9_1 HRb0_0 HRb1_1 hxb1_0 hxb1_1 hHeld ⊢) | (generalize w24.drew = w25 at HO_5 HO_6 BKa8 HB HLa9_1 HLb0_0 HLb1_1 HRa9_1 HRb0_0 HRb1_1 hxb0_0 hxb1_1 hHeld ⊢) | (generalize w24.drew = w25 at HO_5 HO_6 BKa8 HB HLa9_1 HLb0_0 HLb1_1 HRa9_1 HRb0_0 HRb1_1 hxb0_0 hxb1_0 hHeld ⊢) | (generalize w24.drew = w25 at HO_5 HO_6 BKa8 HB HLa9_1 HLb0_0 HLb1_1 HRa9_1 HRb0_0 HRb1_1 hxa9_1 hxb1_1 hHeld ⊢) | (generalize w24.drew = w25 at HO_5 HO_6 BKa8 HB HLa9_1 HLb0_0 HLb1_1 HRa9_1 HRb0_0 HRb1_1 hxa9_1 hxb1_0 hHeld ⊢) | (generalize w24.drew = w25 at HO_5 HO_6 BKa8 HB HLa9_1 HLb0_0 HLb1_1 HRa9_1 HRb0_0 HRb1_1 hxa9_1 hxb0_0 hHeld ⊢) | (generalize w24.drew = w25 at HO_5 HO_6 BKa8 HB HLa9_1 HLb0_0 HLb1_1 HRa9_1 HRb0_0 HRb1_1 hxa9_0 hxb1_1 hHeld ⊢) | (generalize w24.drew = w25 at HO_5 HO_6 BKa8 HB HLa9_1 HLb0_0 HLb1_1 HRa9_1 HRb0_0 HRb1_1 hxa9_0 hxb1_0 hHeld ⊢) | (generalize w24.drew = w25 at HO_5 HO_6 BKa8 HB HLa9_1 HLb0_0 HLb1_1 HRa9_1 HRb0_0 HRb1_1 hxa9_0 hxb0_0 hHeld ⊢) | (generalize w24.drew = w25 at HO_5 HO_6 BKa8 HB HLa9_1 HLb0_0 HLb1_1 HRa9_1 HRb0_0 HRb1_1 hxa9_0 hxa9_1 hHeld ⊢) | (generalize w24.drew = w25 at HO_5 HO_6 BKa8 HB HLa9_1 HLb0_0 HLb1_1 HRa9_1 HRb0_0 HRb1_1 hxb1_1 hHeld ⊢) | (generalize w24.drew = w25 at HO_5 HO_6 BKa8 HB HLa9_1 HLb0_0 HLb1_1 HRa9_1 HRb0_0 HRb1_1 hxb1_0 hHeld ⊢) | (generalize w24.drew = w25 at HO_5 HO_6 BKa8 HB HLa9_1 HLb0_0 HLb1_1 HRa9_1 HRb0_0 HRb1_1 hxb0_0 hHeld ⊢) | (generalize w24.drew = w25 at HO_5 HO_6 BKa8 HB HLa9_1 HLb0_0 HLb1_1 HRa9_1 HRb0_0 HRb1_1 hxa9_1 hHeld ⊢) | (generalize w24.drew = w25 at HO_5 HO_6 BKa8 HB HLa9_1 HLb0_0 HLb1_1 HRa9_1 HRb0_0 HRb1_1 hxa9_0 hHeld ⊢) | (generalize w24.drew = w25 at HO_5 HO_6 BKa8 HB HLa9_1 HLb0_0 HLb1_1 HRa9_1 HRb0_0 HRb1_1 hHeld ⊢)
       refine zp (i := 0) (N := some 34) HT_ ?_
       refine zp (i := 1) (N := some 35) HT_ ?_
       refine zp (i := 2) (N := some 36) HT_ ?_
       refine zp (i := 3) (N := some 37) HT_ ?_
       refine zp (i := 4) (N := some 38) HT_ ?_
       refine zp (i := 7) (N := some 41) HT_ ?_
       refine zp (i := 8) (N := some 42) HT_ ?_
       refine zp (i := 9) (N := some 43) HT_ ?_
       refine zp (i := 11) (N := some 45) HT_ ?_
       refine take_ (i := 5) (N := some 39) (v := ?_) (a' := ?_) #[true, true, true, true, true, true, false, true, true, true, false, true, false, false, false, false, false, false] rfl rfl (take_ofW HT_.out HW_.out (by kernel_rfl)) (fun _ _ _ h => h) (Or.inl ⟨by rfl, ?_⟩) hHeld ?_ ?_
       rotate_left
       · rintro w' ⟨s0, s1, s2, s3, s4, s5, s6⟩
         go_simp
         with_reducible rfl
       rotate_left
       · simp only [Act.put, List.setIfInBounds_toArray, List.set_cons_zero, List.set_cons_succ, i64_w, i32_w]
         rfl
       refine take_ (i := 6) (N := some 40) (v := ?_) (a' := ?_) #[true, true, true, true, true, true, true, true, true, true, false, true, false, false, false, false, false, false] rfl rfl (take_ofW HT_.out HW_.out (by kernel_rfl)) (fun _ _ _ h => h) (Or.inl ⟨by rfl, ?_⟩) hHeld ?_ ?_
       rotate_left
       · rintro w' ⟨s0, s1, s2, s3, s4, s5, s6⟩
         go_simp
         with_reducible rfl
       rotate_left
       · simp only [Act.put, List.setIfInBounds_toArray, List.set_cons_zero, List.set_cons_succ, i64_w, i32_w]
         rfl
       refine take_ (i := 10) (N := some 44) (v := ?_) (a' := ?_) #[true, true, true, true, true, true, true, true, true, true, true, true, false, false, false, false, false, false] rfl rfl (take_ofW HT_.out HW_.out (by kernel_rfl)) (fun _ _ _ h => h) (Or.inl ⟨by rfl, ?_⟩) hHeld ?_ ?_
       rotate_left
       · rintro w' ⟨s0, s1, s2, s3, s4, s5, s6⟩
         go_simp
         with_reducible rfl
       rotate_left
       · simp only [Act.put, List.setIfInBounds_toArray, List.set_cons_zero, List.set_cons_succ, i64_w, i32_w]
         rfl
       refine zp (i := 12) (N := some 46) HT_ ?_
       refine take_ (i := 13) (N := some 47) (v := ?_) (a' := ?_) #[true, true, true, true, true, true, true, true, true, true, true, true, true, true, false, false, false, false] rfl rfl (take_ofW HT_.out HW_.out (by kernel_rfl)) (fun _ _ _ h => h) (Or.inl ⟨by rfl, ?_⟩) hHeld ?_ ?_
       rotate_left
       · rintro w' ⟨s0, s1, s2, s3, s4, s5, s6⟩
         go_simp
         with_reducible rfl
       rotate_left
       · simp only [Act.put, List.setIfInBounds_toArray, List.set_cons_zero, List.set_cons_succ, i64_w, i32_w]
         rfl
       refine one_ (i := 14) (N := some 48) #[true, true, true, true, true, true, true, true, true, true, true, true, true, true, true, false, false, false] rfl rfl (one_of HT_.out (by kernel_rfl)) (by decide) (fun K hK => ?_)
       refine goes_ Try.func126 (by kernel_rfl) rfl #[.agg #[.bool ((rd_T113 l1 x25_2).f0), .slice Aa7_1 ((rd_T113 l1 x25_2).f1).length ca7_1], .agg #[.bool ((rd_T113 (rd_L6 ta1 x25_2) x20_1).f0), .slice Ab1_1 ((rd_T113 (rd_L6 ta1 x25_2) x20_1).f1).length cb1_1]] (by rfl) rfl rfl (by (try simp only [List.map_toArray, List.map_cons, List.map_nil]); first | done | rfl | (simp only [List.length_drop, List.length_take]; rfl)) ?_
       with_reducible refine (mw_times.calls k2 ((rd_T113 l1 x25_2).f0) (fun k_ => k_ < w.heap.size) _ _ ((rd_T113 l1 x25_2).f1) ((rd_T113 (rd_L6 ta1 x25_2) x20_1).f0) (fun k_ => (((w.heap.size ≤ k_) ∧ (some k_ ≠ (.slice (some ada9) x6_2.length co9 : Value).ownBlock ∧ k_ ≠ gba8)) ∧ some k_ ≠ (.slice (some adb0) ta1.length co26 : Value).ownBlock)) _ _ ((rd_T113 (rd_L6 ta1 x25_2) x20_1).f1) tb2 tb3 _ ?side1 ?side2 A19.out).mono ?_
       (case side1 => exact Kd.V_mk HCa7_1.out (Kd.F_below (Kd.C_F (Kd.heap_int .u32) HRa7_1.out) (zB1 HB.out GEa8.out)))
       (case side2 => exact HLb1_1.out)
       rintro e w27 ⟨vb4, rfl, ho0, hb⟩
       have HS2_ := (hb.cell (World.block_lt_of_cell? _ _ (hHeld.2.2.1))).trans (hHeld.2.2.1)
       have HS3_ := (hb.cell (World.block_lt_of_cell? _ _ (hHeld.2.2.2.1))).trans (hHeld.2.2.2.1)
       have HS4_ := (hb.cell (World.block_lt_of_cell? _ _ (hHeld.2.2.2.2.1))).trans (hHeld.2.2.2.2.1)
       have HS5_ := (hb.cell (World.block_lt_of_cell? _ _ (hHeld.2.2.2.2.2.1))).trans (hHeld.2.2.2.2.2.1)
       have HS6_ := (hb.cell (World.block_lt_of_cell? _ _ (hHeld.2.2.2.2.2.2))).trans (hHeld.2.2.2.2.2.2)
       refine ⟨_, rfl, ?_⟩
       replace HO_5 := yNe HO_5 ho0 hb
       replace HO_6 := yNe HO_6 ho0 hb
       replace HLa9_1 := yVe HLa9_1 ho0 hb
       replace HLb0_0 := yVe HLb0_0 ho0 hb
       replace HLb1_1 := yVe HLb1_1 ho0 hb
       replace ho0 := Kd.R_newM (M := fun k_ => (w.heap.size ≤ k_)) (yt ho0) (below_size (zB1 HB.out GEa8.out)) (fun k_ h_ => h_)
       have HOb5 := yRl1 ho0 HB GEa8
       replace BKa8 := yK BKa8 hb
       (try replace HRa9_1 := yCb HRa9_1 hb)
       (try replace HRb0_0 := yCb HRb0_0 hb)
       (try replace HRb1_1 := yCb HRb1_1 hb)
       replace HB := yS1 HB GEa8 hb
       (try clear hb)
       (try clear ho0)
       obtain ⟨Ao28, co28, eo28⟩ := Kd.R_slice HOb5.out
       (first | subst eo28 | (injection eo28 with f1_ f2_ f3_; have f4_ := f1_.symm; have f5_ := f3_.symm; clear f1_ f2_ f3_; subst f4_; subst f5_))
       refine hK.out _ _ ⟨(blk_cell BKa8.out 0).trans rfl, (blk_cell BKa8.out 1).trans rfl, HS2_, HS3_, HS4_, HS5_, HS6_⟩ (fun hHeld => ?_)
       clear hK K
       refine norm_ (a' := ?_) ?_ ?_
       rotate_left
       · show Act.put _ (some 48) _ = _
         simp only [Act.put, List.setIfInBounds_toArray, List.set_cons_zero, List.set_cons_succ, i64_w, i32_w]
         rfl
       refine one_ (i := 15) (N := some 49) #[true, true, true, true, true, true, true, true, true, true, true, true, true, true, true, true, false, false] rfl rfl (one_of HT_.out (by kernel_rfl)) (by decide) (fun K hK => ?_)
       refine goes_ Try.func128 (by kernel_rfl) rfl #[.agg #[.bool ((rd_T113 x6_2 x20_1).f0), .slice Aa9_1 ((rd_T113 x6_2 x20_1).f1).length ca9_1], .agg #[.bool tb2, .slice Ao28 tb3.length co28]] (by rfl) rfl rfl (by (try simp only [List.map_toArray, List.map_cons, List.map_nil]); first | done | rfl | (simp only [List.length_drop, List.length_take]; rfl)) ?_
       with_reducible refine (mw_plus.calls k2 ((rd_T113 x6_2 x20_1).f0) (fun k_ => ((((w.heap.size ≤ k_) ∧ (some k_ ≠ (.slice (some adb0) ta1.length co26 : Value).ownBlock ∧ k_ ≠ gba8)) ∧ some k_ ≠ (.slice (some ada9) x6_2.length co9 : Value).ownBlock) ∧ some k_ ≠ (.slice Ao28 tb3.length co28 : Value).ownBlock)) _ _ ((rd_T113 x6_2 x20_1).f1) tb2 (fun k_ => some k_ = (.slice Ao28 tb3.length co28 : Value).ownBlock) _ _ tb3 tb6 tb7 _ ?side1 ?side2 A20.out).mono ?_
       (case side1 => exact HLa9_1.out)
       (case side2 => exact Kd.R_V (Kd.R_tight rfl (Kd.R_types (Kd.R_apart' (Kd.R_apart' (HOb5.out) (Kd.N_typed HO_5.out) (by decide)) (Kd.N_typed HO_6.out) (by decide)) BKa8.out (by decide))))
       rintro e w29 ⟨vb8, rfl, ho0, hb⟩
       have HS2_ := (hb.cell (World.block_lt_of_cell? _ _ (hHeld.2.2.1))).trans (hHeld.2.2.1)
       have HS3_ := (hb.cell (World.block_lt_of_cell? _ _ (hHeld.2.2.2.1))).trans (hHeld.2.2.2.1)
       have HS4_ := (hb.cell (World.block_lt_of_cell? _ _ (hHeld.2.2.2.2.1))).trans (hHeld.2.2.2.2.1)
       have HS5_ := (hb.cell (World.block_lt_of_cell? _ _ (hHeld.2.2.2.2.2.1))).trans (hHeld.2.2.2.2.2.1)
       have HS6_ := (hb.cell (World.block_lt_of_cell? _ _ (hHeld.2.2.2.2.2.2))).trans (hHeld.2.2.2.2.2.2)
       refine ⟨_, rfl, ?_⟩
       replace HLa9_1 := yVb HLa9_1 hb
       replace HLb0_0 := yVb HLb0_0 hb
       replace HLb1_1 := yVb HLb1_1 hb
       have HOb9 := zk (Kd.V_lower (Kd.V_mono (ok' := fun k_ => (w.heap.size ≤ k_) ∧ some k_ ≠ (.slice (some adb0) ta1.length co26 : Value).ownBlock ∧ some k_ ≠ (.slice (some ada9) x6_2.length co9 : Value).ownBlock ∧ k_ ≠ gba8) ho0 (fun k_ hk_ => ⟨Or.elim hk_ (fun hs_ => Or.elim hs_ (fun hs_ => hs_.1.1.1) (fun hs_ => ((Kd.R_types (Kd.R_apart' (Kd.R_apart' (HOb5.out) (Kd.N_typed HO_5.out) (by decide)) (Kd.N_typed HO_6.out) (by decide)) BKa8.out (by decide)).1 k_ hs_.symm).1.1.1.1)) (fun hn_ => (Nat.le_trans (below_size (zB1 HB.out GEa8.out)) hn_)), Or.elim hk_ (fun hs_ => Or.elim hs_ (fun hs_ => hs_.1.1.2.1) (fun hs_ => ((Kd.R_types (Kd.R_apart' (Kd.R_apart' (HOb5.out) (Kd.N_typed HO_5.out) (by decide)) (Kd.N_typed HO_6.out) (by decide)) BKa8.out (by decide)).1 k_ hs_.symm).1.1.2)) (fun hn_ => (Kd.fresh' (Kd.N_lt (zN HO_5.out)) k_ hn_)), Or.elim hk_ (fun hs_ => Or.elim hs_ (fun hs_ => hs_.1.2) (fun hs_ => ((Kd.R_types (Kd.R_apart' (Kd.R_apart' (HOb5.out) (Kd.N_typed HO_5.out) (by decide)) (Kd.N_typed HO_6.out) (by decide)) BKa8.out (by decide)).1 k_ hs_.symm).1.2)) (fun hn_ => (Kd.fresh' (Kd.N_lt (zN HO_6.out)) k_ hn_)), Or.elim hk_ (fun hs_ => Or.elim hs_ (fun hs_ => hs_.1.1.2.2) (fun hs_ => ((Kd.R_types (Kd.R_apart' (Kd.R_apart' (HOb5.out) (Kd.N_typed HO_5.out) (by decide)) (Kd.N_typed HO_6.out) (by decide)) BKa8.out (by decide)).1 k_ hs_.symm).2)) (fun hn_ => (Kd.freshB (g := gba8) (o := .cells #[.bool ((rd_T113 l1 x25_2).f0), .slice Aa7_1 ((rd_T113 l1 x25_2).f1).length ca7_1] 113 (0, 0)) (zK BKa8.out) k_ hn_))⟩)) (below_size (zB1 HB.out GEa8.out)))
       replace HO_5 := yNb HO_5 hb
       replace HO_6 := yNb HO_6 hb
       replace HOb5 := yRb HOb5 hb
       replace BKa8 := yK BKa8 hb
       (try replace HRa9_1 := yCb HRa9_1 hb)
       (try replace HRb0_0 := yCb HRb0_0 hb)
       (try replace HRb1_1 := yCb HRb1_1 hb)
       replace HB := yS1 HB GEa8 hb
       (try clear hb)
       (try clear ho0)
       have p21 : 0 ≤ (x20_1 : Int) := zd
       have q21 : (x20_1 : Int) < ((x6_2.length : Int) : Int) := zd
       obtain ⟨go21, co21, eo21, gb21, gl21, cl21, HG21⟩ := Kd.N_form HO_6.out (by omega)
       (first | cases eo21 | (injection eo21 with ea_ en_ ec_; (first | subst ea_ | (injection ea_ with ea_; subst ea_)); subst ec_; clear en_))
       have GB21 := zk gb21
       have GG21 := zk HG21
       clear gb21 gl21 HG21
       (first | simp only [add_plain] at hxa9_0 | skip)
       (first | simp only [add_plain] at hxa9_1 | skip)
       obtain ⟨ce21, hcl21, hM21, hcc21, hfr21⟩ := Kd.N_elem HO_6.out z113 (x20_1 : Int) p21 q21
       obtain ⟨ua21_1, uc21_1, rfl, ul21_1, ge21_1⟩ := k113_openF hM21
       have hx21_0 : World.cell? _ ⟨go21, (x20_1 : Int).toNat * 2, none⟩ = some (.bool ((rd_T113 x6_2 x20_1).f0)) := hcc21 0 _ rfl
       have hx21_1 : World.cell? _ ⟨go21, (x20_1 : Int).toNat * 2 + 1, none⟩ = some (.slice ua21_1 ((rd_T113 x6_2 x20_1).f1).length uc21_1) := hcc21 1 _ rfl
       have hf21_0 : World.frozen? _ ⟨go21, (x20_1 : Int).toNat * 2, none⟩ = false := hfr21 0
       have hf21_1 : World.frozen? _ ⟨go21, (x20_1 : Int).toNat * 2 + 1, none⟩ = false := hfr21 1
       clear hcl21 hcc21 hfr21 hM21
       replace p21 := eq_true p21
       replace q21 := eq_true q21
       obtain ⟨Ao31, co31, eo31⟩ := Kd.V_slice HOb9.out
       (first | subst eo31 | (injection eo31 with f1_ f2_ f3_; have f4_ := f1_.symm; have f5_ := f3_.symm; clear f1_ f2_ f3_; subst f4_; subst f5_))
       have HX30 := zk (show Kd.N k113 113 _ w.heap.size (fun k_ => (w.heap.size ≤ k_) ∧ some k_ ≠ (.slice (some adb0) ta1.length co26 : Value).ownBlock ∧ some k_ ≠ (.slice Ao28 tb3.length co28 : Value).ownBlock ∧ k_ ≠ gba8) (.slice (some ⟨go21, 0, none⟩) x6_2.length co9) x6_2 from (Kd.N_mono (HO_6.out) (fun k_ hk => ⟨hk.1.1, ⟨hk.1.2.1, ⟨hk.2, hk.1.2.2⟩⟩⟩)))
       replace HX30 := zk (show Kd.N k113 113 _ w.heap.size (fun k_ => (w.heap.size ≤ k_) ∧ some k_ ≠ (.slice (some adb0) ta1.length co26 : Value).ownBlock ∧ k_ ≠ gba8) (.slice (some ⟨go21, 0, none⟩) x6_2.length co9) x6_2 from Kd.N_mono HX30.out (fun k_ hk => ⟨hk.1, ⟨hk.2.1, hk.2.2.2⟩⟩))
       obtain ⟨ce30, hcl30, hM30, hcc30, hfr30⟩ := Kd.N_elem HX30.out z113 (x20_1 : Int) zd (by have h_ : (x20_1 : Int) < ((x6_2.length : Int) : Int) := zd; first | exact h_ | (have e_ := (Kd.N_reads' HO_6.out).1; omega) | simpa using h_)
       obtain ⟨ua30_1, uc30_1, rfl, ul30_1, ge30_1⟩ := k113_openF hM30
       have HP30 := (Kd.N_seg HX30.out (x20_1 : Int) zd (by have h_ : (x20_1 : Int) < ((x6_2.length : Int) : Int) := zd; first | exact h_ | (have e_ := (Kd.N_reads' HO_6.out).1; omega) | simpa using h_) (seg := [.bool tb6, .slice Ao31 tb7.length co31]) (j := 0) hcl30 hcc30 (show 2 ≤ 2 from by decide) (x' := (⟨tb6, tb7⟩ : S113)) (k113_mkF _ _ (⟨tb6, tb7⟩ : S113) (Kd.V_reads' (Kd.V_mono (ok' := (fun k_ => ((fun k_ => (w.heap.size ≤ k_) ∧ some k_ ≠ (.slice (some adb0) ta1.length co26 : Value).ownBlock ∧ k_ ≠ gba8)) k_ ∧ k_ ≠ go21)) (HOb9.out) (fun k_ hk => by exact ⟨⟨hk.1, ⟨hk.2.1, hk.2.2.2⟩⟩, fun e_ => (hk.2.2.1) (by rw [e_]; rfl)⟩))).2.1 (Kd.V_F (Kd.V_mono (ok' := (fun k_ => ((fun k_ => (w.heap.size ≤ k_) ∧ some k_ ≠ (.slice (some adb0) ta1.length co26 : Value).ownBlock ∧ k_ ≠ gba8)) k_ ∧ k_ ≠ go21)) (HOb9.out) (fun k_ hk => by exact ⟨⟨hk.1, ⟨hk.2.1, hk.2.2.2⟩⟩, fun e_ => (hk.2.2.1) (by rw [e_]; rfl)⟩)))) (fun _ hk => hk)).1
       rw [← Nyc0.out] at HP30
       have HQ30 := zk HP30
       clear hcl30 hcc30 hfr30 hM30 HP30
       refine hK.out _ _ ⟨(blk_cell BKa8.out 0).trans rfl, (blk_cell BKa8.out 1).trans rfl, HS2_, HS3_, HS4_, HS5_, HS6_⟩ (fun hHeld => ?_)
       clear hK K
       refine norm_ (a' := ?_) ?_ ?_
       rotate_left
       · show Act.put _ (some 49) _ = _
         simp only [Act.put, List.setIfInBounds_toArray, List.set_cons_zero, List.set_cons_succ, i64_w, i32_w]
         rfl
       refine zp (i := 16) (N := some 50) HT_ ?_
       refine last_ (i := 17) (N := none) #[true, true, true, true, true, true, true, true, true, true, true, true, true, true, true, true, true, true] rfl rfl (one_of HT_.out (by kernel_rfl)) (by decide) (fun K hK => ?_)
       refine skip_ (w1 := ?_) (by rfl) rfl ?_ ?_
       rotate_left
       · go_simp
         rfl
       refine hK.out _ _ ?_
       clear hK K
       refine done_ (done_of HT_.out (by kernel_rfl)) ?_
       try go_wp2
       (try simp only [← hl6_2])
       go_roundg k2
       case measure => have := HK1.out; have := HK2.out; omega
       case rel => exact ⟨(yc0), (wrap64 (x25_2 + 1)), zF, H', ⟨zo2 HK1 HK2⟩, ⟨by (try simp only [hl6_1]); (try simp only [hl6_2]); (with_reducible repeat (first | apply Kd.N_alloc | apply Kd.N_drewN | apply Kd.N_drew)); exact Kd.N_mono (Kd.N_far (p := ⟨go21, (x20_1 : Int).toNat * 2 + 1, none⟩) (Kd.N_far (p := ⟨go21, (x20_1 : Int).toNat * 2, none⟩) (Kd.N_mono HO_5.out (fun k_ hk => (⟨hk, fun e_ => hk.1.2.1 (by rw [e_]; rfl)⟩ : _ ∧ k_ ≠ go21))) (fun _ hk => hk.2) (.bool tb6)) (fun _ hk => hk.2) (.slice Ao31 tb7.length co31)) (fun _ hk => ⟨hk.1.1.1, hk.1.1.2.1⟩)⟩, ⟨by (try simp only [hl6_1]); (try simp only [hl6_2]); (with_reducible repeat (first | apply Kd.N_alloc | apply Kd.N_drewN | apply Kd.N_drew)); exact Kd.N_mono HQ30.out (fun _ hk => ⟨hk.1, hk.2.1⟩)⟩, ⟨zB3 HB.out GB21.out GB21.out GEa8.out⟩⟩
     have c14b0 : decide (0 < (((rd_T113 l1 x25_2).f1).length : Int)) = false := decide_eq_false c14
     (try (have c14h0 := c14b0; simp only [hl6_1, hl6_2] at c14h0))
     have c14b1 : decide (0 < ((rd_T113 l1 x25_2).f1).length) = false := decide_eq_false (by omega)
     (try (have c14h1 := c14b1; simp only [hl6_1, hl6_2] at c14h1))
     clear c14
     have H' := zk H
     clear H
     have pa7 : 0 ≤ (x25_2 : Int) := zd
     have qa7 : x25_2 < (l1.length : Int) := zd
     obtain ⟨ada7, Aa7_1, ca7_1, ea7, hxa7_0, hxa7_1, hla7_1, hia7_1⟩ := at_T113 HR1.out x25_2 pa7 qa7
     cases ea7
     replace hxa7_0 := (HB.out.cell (World.block_lt_of_cell? w _ hxa7_0)).trans hxa7_0
     replace hxa7_1 := (HB.out.cell (World.block_lt_of_cell? w _ hxa7_1)).trans hxa7_1
     have HRa7_1 := zk hia7_1
     have HCa7_1 := zk hla7_1
     clear hia7_1 hla7_1
     replace pa7 := eq_true pa7
     replace qa7 := eq_true qa7
     go_wp2_with (first | ((with_reducible refine gate_dst (N := 9) rfl ?_); refine box_event ?hg (N := 9) ?hd (cs := #[.bool false, .slice none 0 0]) (t := 113) ?hr ?_; (case hd => rfl); (case hg => rfl); (case hr => first | (go_simp; done) | (go_simp; rfl)); intro gba8 hg w32 hbox hb; replace HO_5 := zk (Kd.N_below (Kd.N_elderB (zN HO_5.out) gba8 (Nat.le_of_eq hg.symm)) hb); replace HO_6 := zk (Kd.N_below (Kd.N_elderB (zN HO_6.out) gba8 (Nat.le_of_eq hg.symm)) hb); have BKa8 := zk (hbox); have GWa8 := yg hg HB; have GEa8 := yg hg HB; replace HB := yS HB hb; clear hb hbox hg; obtain ⟨hcz33_0, hcz33_1, hfz33_0, hfz33_1⟩ := zz2 BKa8))
     (try simp only [← hl6_2])
     go_roundg k2
     case measure => have := HK1.out; have := HK2.out; omega
     case rel => exact ⟨(x6_2), (wrap64 (x25_2 + 1)), zF, H', ⟨zo2 HK1 HK2⟩, ⟨by (try simp only [hl6_1]); (try simp only [hl6_2]); (with_reducible repeat (first | apply Kd.N_alloc | apply Kd.N_drewN | apply Kd.N_drew)); exact Kd.N_mono (Kd.N_far (p := ⟨gba8, 1, none⟩) (Kd.N_far (p := ⟨gba8, 0, none⟩) (Kd.N_mono HO_5.out (fun k_ hk => (⟨hk, hk.2⟩ : _ ∧ k_ ≠ gba8))) (fun _ hk => hk.2) (.bool ((rd_T113 l1 x25_2).f0))) (fun _ hk => hk.2) (.slice Aa7_1 ((rd_T113 l1 x25_2).f1).length ca7_1)) (fun _ hk => ⟨hk.1.1.1, hk.1.1.2⟩)⟩, ⟨by (try simp only [hl6_1]); (try simp only [hl6_2]); (with_reducible repeat (first | apply Kd.N_alloc | apply Kd.N_drewN | apply Kd.N_drew)); exact Kd.N_mono (Kd.N_far (p := ⟨gba8, 1, none⟩) (Kd.N_far (p := ⟨gba8, 0, none⟩) (Kd.N_mono HO_6.out (fun k_ hk => (⟨hk, hk.2⟩ : _ ∧ k_ ≠ gba8))) (fun _ hk => hk.2) (.bool ((rd_T113 l1 x25_2).f0))) (fun _ hk => hk.2) (.slice Aa7_1 ((rd_T113 l1 x25_2).f1).length ca7_1)) (fun _ hk => ⟨hk.1.1.1, hk.1.1.2⟩)⟩, ⟨zB1 HB.out GEa8.out⟩⟩
   have c11b0 := decide_eq_false c11
   (try (have c11h0 := c11b0; simp only [hl6_1, hl6_2] at c11h0))
   clear c11
   have H' := zk H
   clear H
   go_wp2
   (try simp only [← hl6_1, ← hl6_2])
   go_roundg k2
   case measure => have := HK1.out; have := HK2.out; omega
   case rel => exact ⟨(x6_2), (wrap64 (x20_1 + 1)), zF, H', ⟨zo2 HK1 HK2⟩, ⟨by (try simp only [hl6_1]); (try simp only [hl6_2]); (with_reducible repeat (first | apply Kd.N_alloc | apply Kd.N_drewN | apply Kd.N_drew)); exact HO_5.out⟩, ⟨by (try simp only [hl6_1]); (try simp only [hl6_2]); (with_reducible repeat (first | apply Kd.N_alloc | apply Kd.N_drewN | apply Kd.N_drew)); exact HO_6.out⟩, ⟨zB HB.out⟩⟩
 have c10b0 := decide_eq_false c10
 (try (have c10h0 := c10b0; simp only [hl6_1] at c10h0))
 clear c10
 obtain rfl := Option.some.inj H
 go_wp2
 go_ret
 exact ⟨_, zE, by (with_reducible repeat (first | apply Kd.N_alloc | apply Kd.N_drewN | apply Kd.N_drew)); exact Kd.N_mono HO_6.out (fun _ hk => hk.1), zB HB.out⟩
end Go.Proofs.Ytifkbghnmhineaa.PAll
section
set_option linter.unusedVariables false
set_option linter.unusedSimpArgs false
namespace Go.Proofs.Ytifkbghnmhineaa.PAll
open Go Go.RowKit Go.Proofs.YtifkbghnmhineaaW.PrintWords Go.Proofs.YtifkbghnmhineaaW.PrintLast Go.Proofs.YtifkbghnmhineaaW.PrintMore
def Wn (g cap : Nat) (pre post : List Int) (w : World) (base : Nat) (ok : Nat → Prop) (v : Value) (xs : List Int) : Prop :=
 (∃ c, v = .slice (some ⟨g, pre.length, none⟩) xs.length c ∧ xs.length ≤ c) ∧ (Kd.int .u32).R 97 w base ok (.slice (some ⟨g, 0, none⟩) (pre ++ (xs ++ post)).length cap) (pre ++ (xs ++ post))
section
variable {g cap : Nat} {pre post : List Int} {w w1 : World} {base : Nat} {ok ok' : Nat → Prop} {v : Value} {xs : List Int}
theorem Wn.alloc (h : Wn g cap pre post w base ok v xs) (o : Obj) : Wn g cap pre post (w.alloc o) base ok v xs := ⟨h.1, Kd.R_alloc h.2 o⟩
theorem Wn.drewN (h : Wn g cap pre post w base ok v xs) (m : Nat) : Wn g cap pre post (w.drewN m) base ok v xs := ⟨h.1, Kd.R_drewN h.2 m⟩
theorem Wn.drew (h : Wn g cap pre post w base ok v xs) : Wn g cap pre post w.drew base ok v xs := ⟨h.1, Kd.R_drew h.2⟩
theorem Wn.at_ {m : Nat} (hq : w.drewN m = w1) (h : Wn g cap pre post w base ok v xs) : Wn g cap pre post w1 base ok v xs := by subst hq; exact h.drewN m
theorem Wn.mono (h : Wn g cap pre post w base ok v xs) (hok : ∀ k, ok k → ok' k) : Wn g cap pre post w base ok' v xs := ⟨h.1, Kd.R_mono h.2 hok⟩
theorem Wn.own (h : Wn g cap pre post w base ok v xs) : ∀ k, v.ownBlock = some k → ok k := by
 obtain ⟨⟨c, rfl, _⟩, hr⟩ := h
 exact fun k hk => hr.1 k hk
theorem Wn.slice (h : Wn g cap pre post w base ok v xs) : ∃ A c, v = .slice A xs.length c := by
 obtain ⟨⟨c, e, _⟩, _⟩ := h
 exact ⟨_, c, e⟩
theorem Wn.reads' {A : Option Addr} {n c : Nat} (h : Wn g cap pre post w base ok (.slice A n c) xs) : n = xs.length ∧ n ≤ c ∧ (Kd.int .u32).C w A xs.length xs := by
 obtain ⟨⟨c', e, hc⟩, hr⟩ := h
 injection e with e1 e2 e3
 subst e1 e2 e3
 refine ⟨rfl, hc, ?_⟩
 have hC := (Kd.R_reads' hr).2.2
 have hl : (pre ++ (xs ++ post)).length = pre.length + (xs.length + post.length) := by simp
 have := Kd.C_mid (lo := pre.length) (hi := pre.length + xs.length) (c := (pre ++ (xs ++ post)).length + 1) hC (by omega) (by omega) (by omega)
 rw [if_neg (by omega)] at this
 have hx : ((pre ++ (xs ++ post)).take (pre.length + xs.length)).drop pre.length = xs := by
  rw [List.take_append, List.take_of_length_le (by omega), Nat.add_sub_cancel_left, List.take_append, List.take_of_length_le (Nat.le_refl _), Nat.sub_self, List.take_zero, List.append_nil, List.drop_left]
 rw [hx] at this
 have ha : ((some (⟨g, 0, none⟩ : Addr)).map (·.add (pre.length * (Kd.int .u32).sz))) = some ⟨g, pre.length, none⟩ := by
  show some ((⟨g, 0, none⟩ : Addr).add (pre.length * 1)) = _
  simp [Addr.add]
  intro e; simp [e]
 rw [ha] at this
 exact this
theorem Wn.form (h : Wn g cap pre post w base ok v xs) (hp : 0 < xs.length) : ∃ c, v = .slice (some ⟨g, pre.length, none⟩) xs.length c ∧ base ≤ g ∧ g < w.heap.size ∧ ∃ cells, w.heap[g]? = some (.cells cells 97 (0, 0)) := by
 obtain ⟨⟨c, e, _⟩, hr⟩ := h
 obtain ⟨g', cap', e', hb, hl, hc⟩ := Kd.R_form hr (by simp; omega)
 injection e' with e1
 injection e1 with e1
 injection e1 with e1
 subst e1
 exact ⟨c, e, hb, hl, hc⟩
theorem rd_mid (pre xs post : List Int) (i : Int) (h0 : 0 ≤ i) (h1 : i < xs.length) : rd (pre ++ (xs ++ post)) ((pre.length : Int) + i) = rd xs i := by
 unfold rd
 rw [show ((pre.length : Int) + i).toNat = pre.length + i.toNat by omega]
 rw [List.getD_eq_getElem?_getD, List.getD_eq_getElem?_getD, List.getElem?_append_right (by omega), Nat.add_sub_cancel_left, List.getElem?_append_left (by omega)]
theorem Wn.celln {A : Option Addr} {n c : Nat} (h : Wn g cap pre post w base ok (.slice A n c) xs) (i : Int) (h0 : 0 ≤ i) (hi : i < n) : w.cell? ⟨g, pre.length + i.toNat, none⟩ = some (.int .u32 (rd xs i)) ∧ w.frozen? ⟨g, pre.length + i.toNat, none⟩ = false := by
 have hn := h.reads'.1
 have := Kd.R_celln 0 h.2 ((pre.length : Int) + i) (by omega) (by simp; omega)
 rw [show ((pre.length : Int) + i).toNat = pre.length + i.toNat by omega] at this
 rw [show rdOf (0 : Int) (pre ++ (xs ++ post)) ((pre.length : Int) + i) = rd xs i from rd_mid pre xs post i h0 (by omega)] at this
 exact this
theorem Wn.putg {A : Option Addr} {n c : Nat} (h : Wn g cap pre post w base ok (.slice A n c) xs) (i : Int) (h0 : 0 ≤ i) (hi : i < n) (x : Int) : Wn g cap pre post (w.setCell ⟨g, pre.length + i.toNat, none⟩ (.int .u32 x)) base ok (.slice A n c) (xs.set i.toNat x) ∧ w.grownBy (w.setCell ⟨g, pre.length + i.toNat, none⟩ (.int .u32 x)) (some g) := by
 have hn := h.reads'.1
 have := Kd.R_putg h.2 ((pre.length : Int) + i) x
 rw [show ((pre.length : Int) + i).toNat = pre.length + i.toNat by omega] at this
 have e : (pre ++ (xs ++ post)).set (pre.length + i.toNat) x = pre ++ (xs.set i.toNat x ++ post) := by
  rw [List.set_append_right _ _ (by omega), Nat.add_sub_cancel_left, List.set_append_left _ _ (by omega)]
 rw [e] at this
 refine ⟨⟨?_, ?_⟩, this.2⟩
 ·obtain ⟨⟨c', e, hc⟩, _⟩ := h
  exact ⟨c', by rw [List.length_set]; exact e, by rw [List.length_set]; exact hc⟩
 ·have hl : (pre ++ (xs.set i.toNat x ++ post)).length = (pre ++ (xs ++ post)).length := by simp
  rw [hl]
  exact this.1
end
theorem add_at (g o n : Nat) : (⟨g, o, none⟩ : Addr).add n = ⟨g, o + n, none⟩ := by
 unfold Addr.add
 split
 ·rename_i h; rw [h]; rfl
 ·rfl
theorem Wn.make {w : World} {base g lo hi n co c : Nat} {ok : Nat → Prop} {Ao A : Option Addr} {x y : List Int} (hR : (Kd.int .u32).R 97 w base ok (.slice Ao n co) x) (hA : Ao = some ⟨g, 0, none⟩) (hA2 : A = if co = lo then Ao else Ao.map (·.add (lo * 1))) (hc : y.length ≤ c) (hy : y = (x.take hi).drop lo) (h1 : lo ≤ hi) (h2 : hi ≤ x.length) (hp : 0 < y.length) :
  Wn g co (x.take lo) (x.drop hi) w base ok (.slice A y.length c) y := by
 obtain ⟨hn, hco, _⟩ := Kd.R_reads' hR
 have hl : y.length = hi - lo := by rw [hy, List.length_drop, List.length_take]; omega
 have e : x.take lo ++ (y ++ x.drop hi) = x := by
  rw [hy]
  have h3 : (x.take hi).take lo = x.take lo := by rw [List.take_take, Nat.min_eq_left h1]
  rw [← List.append_assoc, ← h3, List.take_append_drop, List.take_append_drop]
 refine ⟨⟨c, ?_, hc⟩, ?_⟩
 ·rw [hA2, if_neg (by omega), hA]
  congr 1
  rw [List.length_take, Nat.min_eq_left (by omega)]
  simp [Addr.add]
  intro e; simp [e]
 ·rw [e, ← hn, ← hA]; exact hR
theorem Wn.back {g co n base : Nat} {pre post r : List Int} {w : World} {ok : Nat → Prop} {v : Value} {Ao : Option Addr} (h : Wn g co pre post w base ok v r) (hA : Ao = some ⟨g, 0, none⟩) (hn : n = (pre ++ (r ++ post)).length) : (Kd.int .u32).R 97 w base ok (.slice Ao n co) (pre ++ (r ++ post)) := by
 subst hA hn; exact h.2
theorem zW {P Q : Prop} (h : P) (f : P → Q := by intro h; (with_reducible repeat (first | apply Wn.alloc | apply Wn.drewN | apply Wn.drew)); exact h) : Q := f h
end Go.Proofs.Ytifkbghnmhineaa.PAll
end
namespace Go.Proofs.Ytifkbghnmhineaa.PAll
open Go.RowKit Go.Proofs.YtifkbghnmhineaaW.PrintWords Go.Proofs.YtifkbghnmhineaaW.PrintLast Go.Proofs.YtifkbghnmhineaaW.PrintMore
attribute [local go_sem] max2_int min2_int max_two min_two max_three min_three max_four min_four
set_option linter.unusedVariables false
set_option linter.unusedSimpArgs false
set_option maxHeartbeats 8000000 in
set_option maxRecDepth 100000 in
theorem bits_LeadingZeros32.calls (a0 : Int) (r : Int) (w : World) (h : bits_LeadingZeros32.f a0 = some r) :
    Calls Try.prog 138 #[.int .u32 a0] w fun e w' => e = .returned (.int .i64 r) ∧ Drawn0 w w' := by
 have H := h
 clear h
 unfold bits_LeadingZeros32.f at H
 replace H := zb H
 obtain ⟨ta1, A2, H⟩ := H
 obtain rfl := Option.some.inj H
 go_enter Try.func138, Try.ntmps138
 go_wp2_with (first | ((with_reducible refine gC 121 ?_); refine zG (some 4) Try.func121 #[.int .u32 a0] ?_; (with_reducible refine (bits_Len32.calls a0 ta1 _ A2.out).mono ?_); rintro e w' ⟨rfl, ⟨nd, rfl⟩⟩; refine ⟨_, rfl, ?_⟩))
 go_ret
 exact ⟨zF, by repeat (first | exact Drawn0.refl _ | apply Drawn0.step)⟩
set_option maxHeartbeats 8000000 in
set_option maxRecDepth 100000 in
theorem nat_shift.calls (k : Nat) (A0 : Option Addr) (c0 : Nat) (l0 : List Int) (a1 : Int) (r : List Int) (w : World) (hr0 : Kd.C (Kd.int .u32) w A0 l0.length l0) (hc0 : l0.length ≤ c0) (h : nat_shift.f k l0 a1 = some r) :
    Calls Try.prog 139 #[.slice A0 l0.length c0, .int .i64 a1] w fun e w' => ∃ v0_ : Value, e = .returned (v0_) ∧ Kd.R (Kd.int .u32) 97 w' w.heap.size (fun _ => True) v0_ r ∧ Below w.heap.size w w' := by
 have HR0 := zk hr0
 have HC0 := zk hc0
 clear hr0 hc0
 have HB := zk (Below.refl w.heap.size w)
 have H := h
 clear h
 unfold nat_shift.f at H
 obtain ⟨ji3, hji3⟩ : ∃ j_ : Int, (wrap64 ((l0.length : Int) + 1)) = j_ := ⟨_, rfl⟩
 replace H : (if 0 ≤ (ji3) then (if (ji3 : Int).toNat ≤ 70368744177664 then (nat_shift.l0 k l0 a1 (List.replicate (ji3 : Int).toNat 0) 0 l0 (l0.length : Int) 0) else (none)) else (none)) = some r := by first | (rw [hji3] at H; exact H) | (simp only [hji3] at H ⊢; exact H)
 have hji3w : (IntKind.i64.wrap ((l0.length : Int) + 1)) = ji3 := (i64_w _).trans hji3
 replace H := zg H
 obtain ⟨c4, H⟩ := H
 have c4b0 := eq_true c4
 have c4b1 := decide_eq_true c4
 clear c4
 replace H := zg H
 obtain ⟨c5, H⟩ := H
 have c5b0 := eq_true c5
 have c5b1 := decide_eq_true c5
 clear c5
 obtain ⟨ya1, hya1⟩ : ∃ y_ : List Int, y_ = (List.replicate (ji3 : Int).toNat 0) := ⟨_, rfl⟩
 replace H : (nat_shift.l0 k l0 a1 ya1 0 l0 (l0.length : Int) 0) = some r := zY hya1 H
 have Nya1 := zk hya1
 clear hya1
 have H' := zk H
 clear H
 go_enter Try.func139, Try.ntmps139
 go_wp2_with (first | ((with_reducible refine gate_dst (N := 13) rfl ?_); refine Kd.R_make (Kd.int .u32) _ 97 rfl (N := 13) rfl 29 _ _ rfl ji3 rfl rfl Try.underlying29 (.int .u32 0) 4 info97 rfl (by decide) (by omega) 0 (ok := fun _ => True) (okp := fun _ => True) rfl (fun _ hk => hk) trivial zd (Nat.le_trans (Nat.mul_le_mul_right _ (zd : ji3.toNat ≤ 70368744177664)) (by omega)) (Below.refl _ _) (Nat.le_refl _) ?_; intro va2 w6 ho7 hb hg_ hnew_; clear hg_ hnew_; (first | rw [← Nya1.out] at ho7 | (simp only [Int.reduceToNat] at ho7; rw [← Nya1.out] at ho7)); have HOa3 := yRl ho7 HB; replace HB := yS HB hb; clear hb ho7))
 go_loopg [6, 16] k (fun kq v6 v16 w' => ∃ (x5_1 : List Int) (x6_1 : Int) (x16_1 : Int), v6 = .int .u64 x6_1 ∧ v16 = .int .i64 x16_1 ∧ Aside0 (nat_shift.l0 kq l0 a1 x5_1 x6_1 l0 (l0.length : Int) x16_1 = some r) ∧ Aside0 (kq ≤ k) ∧ Aside0 (Kd.R (Kd.int .u32) 97 w' w.heap.size (fun _ => True) va2 x5_1) ∧ Aside0 (Below w.heap.size w w'))
 case atStart => exact ⟨(ya1), (0), (0), zF, zF, H', ⟨Nat.le_refl _⟩, ⟨zR HOa3.out⟩, ⟨zB HB.out⟩⟩
 clear H'
 (try clear c4);(try clear c4b0);(try clear c4b1);(try clear c5);(try clear c5b0);(try clear c5b1)
 obtain ⟨x5_1, x6_1, x16_1, rfl, rfl, HA, HK1, HO_5, HB⟩ := hrel
 cases gk with | zero => exact absurd HA.out (by simp [nat_shift.l0]) | succ k1 => ?_
 have H := HA.out
 clear HA
 simp only [nat_shift.l0] at H
 replace H := zid H
 rcases H with ⟨c8b0, H⟩ | ⟨c8b0, H⟩
 · replace H := zgd H
   obtain ⟨c9b0, H⟩ := H
   replace H := zgd H
   obtain ⟨c10b0, H⟩ := H
   replace H := zg H
   obtain ⟨c11, H⟩ := H
   have c11b0 := eq_true c11
   have c11b1 := decide_eq_true c11
   clear c11
   obtain ⟨ji12, hji12⟩ : ∃ j_ : Int, (shl .u64 (IntKind.u64.wrap (rd l0 x16_1)) a1) = j_ := ⟨_, rfl⟩
   replace H : (if x16_1 < (x5_1.length : Int) then (nat_shift.l0 k1 l0 a1 (x5_1.set (x16_1 : Int).toNat ((Go.bits .or .u64 (ji12) x6_1) % 4294967296)) ((Go.bits .or .u64 (ji12) x6_1) / 4294967296) l0 (l0.length : Int) (wrap64 (x16_1 + 1))) else (none)) = some r := by first | (rw [hji12] at H; exact H) | (simp only [hji12] at H ⊢; exact H)
   have hji12_ : (IntKind.u64.wrap ((IntKind.u64.wrap (rd l0 x16_1)) * 2 ^ min a1.toNat 64)) = ji12 := hji12
   have hji12z : a1 ≤ 64 → (IntKind.u64.wrap ((IntKind.u64.wrap (rd l0 x16_1)) * 2 ^ a1.toNat)) = ji12 := shl_small hji12
   replace H := zgd H
   obtain ⟨c13b0, H⟩ := H
   obtain ⟨ya5, hya5⟩ : ∃ y_ : List Int, y_ = (x5_1.set (x16_1 : Int).toNat ((Go.bits .or .u64 (ji12) x6_1) % 4294967296)) := ⟨_, rfl⟩
   replace H : (nat_shift.l0 k1 l0 a1 ya5 ((Go.bits .or .u64 (ji12) x6_1) / 4294967296) l0 (l0.length : Int) (wrap64 (x16_1 + 1))) = some r := zY hya5 H
   have Nya5 := zk hya5
   clear hya5
   have H' := zk H
   clear H
   have pa4 : 0 ≤ (x16_1 : Int) := zd
   have qa4 : x16_1 < (l0.length : Int) := zd
   obtain ⟨ada4, ea4, hxa4_0⟩ := Kd.at_int HR0.out x16_1 pa4 qa4
   cases ea4
   replace hxa4_0 := (HB.out.cell (World.block_lt_of_cell? w _ hxa4_0)).trans hxa4_0
   replace pa4 := eq_true pa4
   replace qa4 := eq_true qa4
   have p14 : 0 ≤ (x16_1 : Int) := zd
   have q14 : (x16_1 : Int) < ((x5_1.length : Int) : Int) := zd
   obtain ⟨go14, co14, eo14, gb14, gl14, cl14, HG14⟩ := Kd.R_form HO_5.out (by omega)
   (first | cases eo14 | (injection eo14 with ea_ en_ ec_; (first | subst ea_ | (injection ea_ with ea_; subst ea_)); subst ec_; clear en_))
   have GB14 := zk gb14
   have GG14 := zk HG14
   clear gb14 gl14 HG14
   obtain ⟨hx14_0, hf14_0⟩ := Kd.R_celln 0 HO_5.out (x16_1 : Int) p14 q14
   replace p14 := eq_true p14
   replace q14 := eq_true q14
   have HP15 := Kd.R_putg HO_5.out (x16_1 : Int) ((Go.bits .or .u64 (ji12) x6_1) % 4294967296)
   go_wp2_with (first | ((with_reducible refine gate_store (t := 97) (p := 31) rfl ?_); refine store_event (t := 97) (p := 31) (v := ?vo_w16) (w1 := (wr.setCell ⟨go14, (x16_1 : Int).toNat, none⟩ (.int .u32 ((Go.bits .or .u64 (ji12) x6_1) % 4294967296)))) ?hg ?ho ?hn ?hr ?_; (case ho => rfl); (case hg => rfl); (case hn => rfl); (case hr => first | (go_simp; done) | (go_simp; rfl)); intro w16 hw; have hg : wr.grownBy w16 (some go14) := (by rw [hw]; exact HP15.2); have hp_ : Kd.R (Kd.int .u32) 97 w16 w.heap.size (fun _ => True) (.slice (some ⟨go14, 0, none⟩) x5_1.length co14) ya5 := (by rw [hw, Nya5.out]; exact HP15.1); clear HP15; replace HO_5 := zk (hp_); replace HB := zk ((by rw [hw]; exact below_set (HB.out) GB14.out : Below w.heap.size w w16)); clear hg hw hp_))
   go_roundg k1
   case measure => have := HK1.out; omega
   case rel => exact ⟨(ya5), ((Go.bits .or .u64 (ji12) x6_1) / 4294967296), (wrap64 (x16_1 + 1)), (by first | rfl | (simp; done) | (simp only [← hji12] <;> (first | rfl | simp)) | (simp [*]; done)), zF, H', ⟨zo1 HK1⟩, ⟨zR HO_5.out⟩, ⟨zB HB.out⟩⟩
 replace H := zg H
 obtain ⟨c17, H⟩ := H
 have c17b0 := decide_eq_true c17
 have c17b1 : decide (0 ≤ l0.length) = true := decide_eq_true (by omega)
 clear c17
 replace H := zg H
 obtain ⟨c18, H⟩ := H
 have c18b0 := decide_eq_true c18
 have c18b1 : decide (l0.length < x5_1.length) = true := decide_eq_true (Int.ofNat_lt.mp c18)
 clear c18
 obtain ⟨ya6, hya6⟩ : ∃ y_ : List Int, y_ = (x5_1.set ((l0.length : Int) : Int).toNat ((x6_1) % 4294967296)) := ⟨_, rfl⟩
 replace H : (some ya6) = some r := zY hya6 H
 have Nya6 := zk hya6
 clear hya6
 obtain rfl := Option.some.inj H
 have p19 : 0 ≤ ((l0.length : Int) : Int) := zd
 have q19 : ((l0.length : Int) : Int) < ((x5_1.length : Int) : Int) := zd
 obtain ⟨go19, co19, eo19, gb19, gl19, cl19, HG19⟩ := Kd.R_form HO_5.out (by omega)
 (first | cases eo19 | (injection eo19 with ea_ en_ ec_; (first | subst ea_ | (injection ea_ with ea_; subst ea_)); subst ec_; clear en_))
 have GB19 := zk gb19
 have GG19 := zk HG19
 clear gb19 gl19 HG19
 obtain ⟨hx19_0, hf19_0⟩ := Kd.R_celln 0 HO_5.out ((l0.length : Int) : Int) p19 q19
 replace p19 := eq_true p19
 replace q19 := eq_true q19
 obtain ⟨hy20_, hz20_⟩ := Kd.R_celln 0 HO_5.out ((l0.length : Int) : Int) zd zd
 (try simp only [Go.IntWalk.toNatUp] at hy20_ hz20_)
 have HP20 := Kd.R_putg HO_5.out ((l0.length : Int) : Int) ((x6_1) % 4294967296)
 go_wp2_with (first | ((with_reducible refine gate_store (t := 97) (p := 40) rfl ?_); refine store_event (t := 97) (p := 40) (v := ?vo_w21) (w1 := (wr.setCell ⟨go19, ((l0.length : Int) : Int).toNat, none⟩ (.int .u32 ((x6_1) % 4294967296)))) ?hg ?ho ?hn ?hr ?_; (case ho => rfl); (case hg => rfl); (case hn => rfl); (case hr => first | (go_simp; done) | (go_simp; rfl)); intro w21 hw; have hg : wr.grownBy w21 (some go19) := (by rw [hw]; exact HP20.2); have hp_ : Kd.R (Kd.int .u32) 97 w21 w.heap.size (fun _ => True) (.slice (some ⟨go19, 0, none⟩) x5_1.length co19) ya6 := (by rw [hw, Nya6.out]; exact HP20.1); clear HP20; replace HO_5 := zk (hp_); replace HB := zk ((by rw [hw]; exact below_set (HB.out) GB19.out : Below w.heap.size w w21)); clear hg hw hp_))
 go_ret
 exact ⟨_, by first | rfl | (simp [errW_none, errW_some] <;> rfl) | (simp only [← hji3]; first | rfl | (simp [errW_none, errW_some] <;> rfl)) | (simp [*, errW_none, errW_some] <;> rfl), zR HO_5.out, zB HB.out⟩
theorem nat_step.pos {k : Nat} {a b : List Int} {r : Int × List Int} (h : nat_step.f k a b = some r) : 0 < a.length := by
  unfold nat_step.f at h
  by_cases h1 : 0 ≤ (b.length : Int)
  · rw [if_pos h1] at h
    by_cases h2 : (b.length : Int) < (a.length : Int)
    · omega
    · rw [if_neg h2] at h; cases h
  · rw [if_neg h1] at h; cases h
set_option maxHeartbeats 8000000 in
set_option maxRecDepth 100000 in
theorem nat_step.calls (k : Nat) (gW capW : Nat) (preW postW : List Int) (P0_ : Nat → Prop) (u9000_ : Value) (l0 : List Int) (A1 : Option Addr) (c1 : Nat) (l1 : List Int) (r1 : Int) (r2 : List Int) (w0 w : World) (hB : Below w0.heap.size w0 w) (ho0 : Wn gW capW preW postW w w0.heap.size P0_ u9000_ l0) (hr1 : ∀ W_, Kept w W_ (fun k_ => P0_ k_) → Kd.C (Kd.int .u32) W_ A1 l1.length l1) (hc1 : l1.length ≤ c1) (h : nat_step.f k l0 l1 = some (r1, r2)) :
    Calls Try.prog 140 #[u9000_, .slice A1 l1.length c1] w fun e w' => e = .returned (.int .u32 r1) ∧ Wn gW capW preW postW w' w0.heap.size (fun k_ => (P0_ k_ ∨ w.heap.size ≤ k_)) u9000_ r2 ∧ Below w0.heap.size w0 w' ∧ Kept w w' (fun k_ => P0_ k_) := by
 have HO0 := zk (show Wn gW capW preW postW w w0.heap.size (fun k_ => (P0_ k_ ∨ w.heap.size ≤ k_)) u9000_ l0 from Wn.mono ho0 (fun k_ hk => (.inl hk)))
 have HR1 := zk hr1
 have HC1 := zk hc1
 clear hr1 hc1
 have HK := zk (Kept.refl w (fun k_ => P0_ k_))
 have HW0 := zk hB.size
 have HB := zk hB
 clear hB
 have H := h
 clear h
 unfold nat_step.f at H
 replace H := zg H
 obtain ⟨c3, H⟩ := H
 have c3b0 := decide_eq_true c3
 have c3b1 : decide (0 ≤ l1.length) = true := decide_eq_true (by omega)
 clear c3
 replace H := zg H
 obtain ⟨c4, H⟩ := H
 have c4b0 := decide_eq_true c4
 have c4b1 : decide (l1.length < l0.length) = true := decide_eq_true (Int.ofNat_lt.mp c4)
 clear c4
 obtain ⟨ji5, hji5⟩ : ∃ j_ : Int, (wrap64 ((l1.length : Int) - 1)) = j_ := ⟨_, rfl⟩
 replace H : (if 0 ≤ (ji5) then (if (ji5) < (l0.length : Int) then (if (ji5) < (l1.length : Int) then (if (IntKind.u64.wrap (rd l1 (ji5))) = 0 then (none) else (nat_step.l0 k l0 l1 (l1.length : Int) (IntKind.u64.wrap (Int.tdiv (Go.bits .or .u64 (IntKind.u64.wrap ((IntKind.u64.wrap (rd l0 (l1.length : Int))) * 4294967296)) (IntKind.u64.wrap (rd l0 (ji5)))) (IntKind.u64.wrap (rd l1 (ji5))))) (Int.tmod (Go.bits .or .u64 (IntKind.u64.wrap ((IntKind.u64.wrap (rd l0 (l1.length : Int))) * 4294967296)) (IntKind.u64.wrap (rd l0 (ji5)))) (IntKind.u64.wrap (rd l1 (ji5)))))) else (none)) else (none)) else (none)) = some (r1, r2) := by first | (rw [hji5] at H; exact H) | (simp only [hji5] at H ⊢; exact H)
 have hji5w : (IntKind.i64.wrap ((l1.length : Int) - 1)) = ji5 := (i64_w _).trans hji5
 replace H := zgd H
 obtain ⟨c6b0, H⟩ := H
 replace H := zgd H
 obtain ⟨c7b0, H⟩ := H
 replace H := zgd H
 obtain ⟨c8b0, H⟩ := H
 replace H := zh H
 obtain ⟨c9, H⟩ := H
 have c9b0 := beq_eq_false_iff_ne.mpr c9
 have c9b1 := bne_iff_ne.mpr c9
 have HC10 := zk H
 clear H
 obtain ⟨Ao11, co11, rfl⟩ := Wn.slice HO0.out
 have pa1 : 0 ≤ ((l1.length : Int) : Int) := zd
 have qa1 : (l1.length : Int) < (l0.length : Int) := zd
 obtain ⟨ada1, ea1, hxa1_0⟩ := Kd.at_int (Wn.reads' HO0.out).2.2 (l1.length : Int) pa1 qa1
 cases ea1
 (try simp only [Go.IntWalk.toNatUp] at hxa1_0)
 replace pa1 := eq_true pa1
 replace qa1 := eq_true qa1
 have pa2 : 0 ≤ ((ji5) : Int) := zd
 have qa2 : (ji5) < (l0.length : Int) := zd
 obtain ⟨ada2, ea2, hxa2_0⟩ := Kd.at_int (Wn.reads' HO0.out).2.2 (ji5) pa2 qa2
 obtain rfl : ada1 = ada2 := (by injection ea2)
 replace pa2 := eq_true pa2
 replace qa2 := eq_true qa2
 have pa3 : 0 ≤ ((ji5) : Int) := zd
 have qa3 : (ji5) < (l1.length : Int) := zd
 obtain ⟨ada3, ea3, hxa3_0⟩ := Kd.at_int (Kd.C_kept_now HR1.out HK.out) (ji5) pa3 qa3
 cases ea3
 replace pa3 := eq_true pa3
 replace qa3 := eq_true qa3
 have pa4 : 0 ≤ ((ji5) : Int) := zd
 have qa4 : (ji5) < (l1.length : Int) := zd
 obtain ⟨ada4, ea4, hxa4_0⟩ := Kd.at_int (Kd.C_kept_now HR1.out HK.out) (ji5) pa4 qa4
 obtain rfl : ada3 = ada4 := (by injection ea4)
 replace pa4 := eq_true pa4
 replace qa4 := eq_true qa4
 go_enter Try.func140, Try.ntmps140
 go_upto_block 0 with (fail)
 repeat (go_quiet (fail); go_upto_block 0 with (fail))
 go_cut [7] (fun v7 wc => ∃ (kq : Nat) (x7_9 : Int), v7 = .int .u64 x7_9 ∧ Aside0 (nat_step.j1 kq l0 l1 (l1.length : Int) x7_9 = some (r1, r2)) ∧ Aside0 (kq ≤ k) ∧ Aside0 (Wn gW capW preW postW wc w0.heap.size (fun k_ => (P0_ k_ ∨ w.heap.size ≤ k_)) (.slice (some ada1) l0.length co11) l0) ∧ Aside0 (Kept w wc (fun k_ => P0_ k_)) ∧ Aside0 (Below w0.heap.size w0 wc))
 case first =>
  have H := HC10.out
  clear HC10
  have H' := zk H
  clear H
  go_wp2
  repeat (go_quiet (fail); try go_wp2)
  go_loopg [7, 8] k (fun kq v7 v8 w' => ∃ (x7_1 : Int) (x8_1 : Int), v7 = .int .u64 x7_1 ∧ v8 = .int .u64 x8_1 ∧ Aside0 (nat_step.l0 kq l0 l1 (l1.length : Int) x7_1 x8_1 = some (r1, r2)) ∧ Aside0 (kq ≤ k) ∧ Aside0 (Wn gW capW preW postW w' w0.heap.size (fun k_ => (P0_ k_ ∨ w.heap.size ≤ k_)) (.slice (some ada1) l0.length co11) l0) ∧ Aside0 (Kept w w' (fun k_ => P0_ k_)) ∧ Aside0 (Below w0.heap.size w0 w'))
  case atStart => exact ⟨(IntKind.u64.wrap (Int.tdiv (Go.bits .or .u64 (IntKind.u64.wrap ((IntKind.u64.wrap (rd l0 (l1.length : Int))) * 4294967296)) (IntKind.u64.wrap (rd l0 (ji5)))) (IntKind.u64.wrap (rd l1 (ji5))))), (Int.tmod (Go.bits .or .u64 (IntKind.u64.wrap ((IntKind.u64.wrap (rd l0 (l1.length : Int))) * 4294967296)) (IntKind.u64.wrap (rd l0 (ji5)))) (IntKind.u64.wrap (rd l1 (ji5)))), (by first | rfl | (simp; done) | (simp only [← hji5] <;> (first | rfl | simp)) | (simp [*]; done)), (by first | rfl | (simp; done) | (simp only [← hji5] <;> (first | rfl | simp)) | (simp [*]; done)), H', ⟨Nat.le_refl _⟩, ⟨zW HO0.out⟩, ⟨by repeat (first | (with_reducible first | exact HK.out | apply Kept.alloc | apply Kept.drewN | apply Kept.drew) | exact HK.out)⟩, ⟨zB HB.out⟩⟩
  clear H'
  (try clear c3);(try clear c3b0);(try clear c3b1);(try clear c4);(try clear c4b0);(try clear c4b1);(try clear c6b0);(try clear c7b0);(try clear c8b0);(try clear c9);(try clear c9b0);(try clear c9b1);(try clear hxa1_0);(try clear hxa2_0);(try clear hxa3_0);(try clear hxa4_0);(try clear pa1);(try clear pa2);(try clear pa3);(try clear pa4);(try clear qa1);(try clear qa2);(try clear qa3);(try clear qa4)
  obtain ⟨x7_1, x8_1, rfl, rfl, HA, HK1, HO_0, HK, HB⟩ := hrel
  cases gk with | zero => exact absurd HA.out (by simp [nat_step.l0]) | succ k1 => ?_
  have H := HA.out
  clear HA
  simp only [nat_step.l0] at H
  replace H := zid H
  rcases H with ⟨c12b0, H⟩ | ⟨c12b0, H⟩
  · (first | rw [c12b0] | (simp only [i64_w, i32_w]; rw [c12b0]) | rw [c12b1] | skip)
    replace H := zi H
    rcases H with ⟨c13, H⟩ | ⟨c13, H⟩
    · have c13b0 : decide (4294967296 ≤ x7_1) = true := decide_eq_true c13
      clear c13
      (try clear hji5w)
      obtain ⟨ji14, hji14⟩ : ∃ j_ : Int, (wrap64 ((l1.length : Int) - 1)) = j_ := ⟨_, rfl⟩
      replace H : (if 0 ≤ (ji14) then (if (ji14) < (l1.length : Int) then (nat_step.l0 k1 l0 l1 (l1.length : Int) (IntKind.u64.wrap (x7_1 - 1)) (IntKind.u64.wrap (x8_1 + (IntKind.u64.wrap (rd l1 (ji14)))))) else (none)) else (none)) = some (r1, r2) := by first | (rw [hji14] at H; exact H) | (simp only [hji14] at H ⊢; exact H)
      have hji14w : (IntKind.i64.wrap ((l1.length : Int) - 1)) = ji14 := (i64_w _).trans hji14
      replace H := zgd H
      obtain ⟨c15b0, H⟩ := H
      replace H := zgd H
      obtain ⟨c16b0, H⟩ := H
      have H' := zk H
      clear H
      have pa5 : 0 ≤ ((ji14) : Int) := zd
      have qa5 : (ji14) < (l1.length : Int) := zd
      obtain ⟨ada5, ea5, hxa5_0⟩ := Kd.at_int (Kd.C_kept_now HR1.out HK.out) (ji14) pa5 qa5
      obtain rfl : ada3 = ada5 := (by injection ea5)
      replace pa5 := eq_true pa5
      replace qa5 := eq_true qa5
      go_wp2
      repeat (go_quiet (fail); try go_wp2)
      (try simp only [add_at] at *)
      (try simp only [add_plain] at *)
      go_roundg k1
      case measure => have := HK1.out; omega
      case rel => exact ⟨(IntKind.u64.wrap (x7_1 - 1)), (IntKind.u64.wrap (x8_1 + (IntKind.u64.wrap (rd l1 (ji14))))), zF, (by first | rfl | (simp; done) | (simp only [← hji14] <;> (first | rfl | simp)) | (simp [*]; done)), H', ⟨zo1 HK1⟩, ⟨zW HO_0.out⟩, ⟨by repeat (first | (with_reducible first | exact HK.out | apply Kept.alloc | apply Kept.drewN | apply Kept.drew) | exact HK.out)⟩, ⟨zB HB.out⟩⟩
    have c13b0 : decide (4294967296 ≤ x7_1) = false := decide_eq_false c13
    clear c13
    obtain ⟨ji17, hji17⟩ : ∃ j_ : Int, (wrap64 ((l1.length : Int) - 2)) = j_ := ⟨_, rfl⟩
    replace H : (if 0 ≤ (ji17) then (if (ji17) < (l1.length : Int) then (if (ji17) < (l0.length : Int) then (if (IntKind.u64.wrap (x7_1 * (IntKind.u64.wrap (rd l1 (ji17))))) > (Go.bits .or .u64 (IntKind.u64.wrap (x8_1 * 4294967296)) (IntKind.u64.wrap (rd l0 (ji17)))) then (if 0 ≤ (wrap64 ((l1.length : Int) - 1)) then (if (wrap64 ((l1.length : Int) - 1)) < (l1.length : Int) then (nat_step.l0 k1 l0 l1 (l1.length : Int) (IntKind.u64.wrap (x7_1 - 1)) (IntKind.u64.wrap (x8_1 + (IntKind.u64.wrap (rd l1 (wrap64 ((l1.length : Int) - 1))))))) else (none)) else (none)) else (nat_step.j1 k1 l0 l1 (l1.length : Int) x7_1)) else (none)) else (none)) else (none)) = some (r1, r2) := by first | (rw [hji17] at H; exact H) | (simp only [hji17] at H ⊢; exact H)
    have hji17w : (IntKind.i64.wrap ((l1.length : Int) - 2)) = ji17 := (i64_w _).trans hji17
    replace H := zgd H
    obtain ⟨c18b0, H⟩ := H
    replace H := zgd H
    obtain ⟨c19b0, H⟩ := H
    replace H := zgd H
    obtain ⟨c20b0, H⟩ := H
    replace H := zi H
    rcases H with ⟨c21, H⟩ | ⟨c21, H⟩
    · have c21b0 : decide ((Go.bits .or .u64 (IntKind.u64.wrap (x8_1 * 4294967296)) (IntKind.u64.wrap (rd l0 (ji17)))) < (IntKind.u64.wrap (x7_1 * (IntKind.u64.wrap (rd l1 (ji17)))))) = true := decide_eq_true c21
      clear c21
      (try clear hji5w)
      obtain ⟨ji22, hji22⟩ : ∃ j_ : Int, (wrap64 ((l1.length : Int) - 1)) = j_ := ⟨_, rfl⟩
      replace H : (if 0 ≤ (ji22) then (if (ji22) < (l1.length : Int) then (nat_step.l0 k1 l0 l1 (l1.length : Int) (IntKind.u64.wrap (x7_1 - 1)) (IntKind.u64.wrap (x8_1 + (IntKind.u64.wrap (rd l1 (ji22)))))) else (none)) else (none)) = some (r1, r2) := by first | (rw [hji22] at H; exact H) | (simp only [hji22] at H ⊢; exact H)
      have hji22w : (IntKind.i64.wrap ((l1.length : Int) - 1)) = ji22 := (i64_w _).trans hji22
      replace H := zgd H
      obtain ⟨c23b0, H⟩ := H
      replace H := zgd H
      obtain ⟨c24b0, H⟩ := H
      have H' := zk H
      clear H
      have pa6 : 0 ≤ ((ji17) : Int) := zd
      have qa6 : (ji17) < (l1.length : Int) := zd
      obtain ⟨ada6, ea6, hxa6_0⟩ := Kd.at_int (Kd.C_kept_now HR1.out HK.out) (ji17) pa6 qa6
      obtain rfl : ada3 = ada6 := (by injection ea6)
      replace pa6 := eq_true pa6
      replace qa6 := eq_true qa6
      have pa7 : 0 ≤ ((ji17) : Int) := zd
      have qa7 : (ji17) < (l0.length : Int) := zd
      obtain ⟨ada7, ea7, hxa7_0⟩ := Kd.at_int (Wn.reads' HO_0.out).2.2 (ji17) pa7 qa7
      obtain rfl : ada1 = ada7 := (by injection ea7)
      replace pa7 := eq_true pa7
      replace qa7 := eq_true qa7
      have pa8 : 0 ≤ ((ji22) : Int) := zd
      have qa8 : (ji22) < (l1.length : Int) := zd
      obtain ⟨ada8, ea8, hxa8_0⟩ := Kd.at_int (Kd.C_kept_now HR1.out HK.out) (ji22) pa8 qa8
      obtain rfl : ada3 = ada8 := (by injection ea8)
      replace pa8 := eq_true pa8
      replace qa8 := eq_true qa8
      go_wp2
      repeat (go_quiet (fail); try go_wp2)
      (try simp only [add_at] at *)
      (try simp only [add_plain] at *)
      go_roundg k1
      case measure => have := HK1.out; omega
      case rel => exact ⟨(IntKind.u64.wrap (x7_1 - 1)), (IntKind.u64.wrap (x8_1 + (IntKind.u64.wrap (rd l1 (ji22))))), zF, (by first | rfl | (simp; done) | (simp only [← hji22] <;> (first | rfl | simp)) | (simp [*]; done)), H', ⟨zo1 HK1⟩, ⟨zW HO_0.out⟩, ⟨by repeat (first | (with_reducible first | exact HK.out | apply Kept.alloc | apply Kept.drewN | apply Kept.drew) | exact HK.out)⟩, ⟨zB HB.out⟩⟩
    have c21b0 : decide ((Go.bits .or .u64 (IntKind.u64.wrap (x8_1 * 4294967296)) (IntKind.u64.wrap (rd l0 (ji17)))) < (IntKind.u64.wrap (x7_1 * (IntKind.u64.wrap (rd l1 (ji17)))))) = false := decide_eq_false c21
    clear c21
    have H' := zk H
    clear H
    have pa6 : 0 ≤ ((ji17) : Int) := zd
    have qa6 : (ji17) < (l1.length : Int) := zd
    obtain ⟨ada6, ea6, hxa6_0⟩ := Kd.at_int (Kd.C_kept_now HR1.out HK.out) (ji17) pa6 qa6
    obtain rfl : ada3 = ada6 := (by injection ea6)
    replace pa6 := eq_true pa6
    replace qa6 := eq_true qa6
    have pa7 : 0 ≤ ((ji17) : Int) := zd
    have qa7 : (ji17) < (l0.length : Int) := zd
    obtain ⟨ada7, ea7, hxa7_0⟩ := Kd.at_int (Wn.reads' HO_0.out).2.2 (ji17) pa7 qa7
    obtain rfl : ada1 = ada7 := (by injection ea7)
    replace pa7 := eq_true pa7
    replace qa7 := eq_true qa7
    go_wp2
    repeat (go_quiet (fail); try go_wp2)
    go_meet
    case rel => exact ⟨_, (x7_1), zF, H', ⟨by have := HK1.out; first | omega | exact Nat.le_refl _⟩, ⟨zW HO_0.out⟩, ⟨by repeat (first | (with_reducible first | exact HK.out | apply Kept.alloc | apply Kept.drewN | apply Kept.drew) | exact HK.out)⟩, ⟨zB HB.out⟩⟩
  (first | rw [c12b0] | (simp only [i64_w, i32_w]; rw [c12b0]) | rw [c12b1] | skip)
  have H' := zk H
  clear H
  go_wp2
  repeat (go_quiet (fail); try go_wp2)
  go_meet
  case rel => exact ⟨_, (x7_1), zF, H', ⟨by have := HK1.out; first | omega | exact Nat.le_refl _⟩, ⟨zW HO_0.out⟩, ⟨by repeat (first | (with_reducible first | exact HK.out | apply Kept.alloc | apply Kept.drewN | apply Kept.drew) | exact HK.out)⟩, ⟨zB HB.out⟩⟩
 clear HC10
 (try clear c3);(try clear c3b0);(try clear c3b1);(try clear c4);(try clear c4b0);(try clear c4b1);(try clear c6b0);(try clear c7b0);(try clear c8b0);(try clear c9);(try clear c9b0);(try clear c9b1);(try clear c12b0);(try clear c13);(try clear c13b0);(try clear c15b0);(try clear c16b0);(try clear c18b0);(try clear c19b0);(try clear c20b0);(try clear c21);(try clear c21b0);(try clear c23b0);(try clear c24b0);(try clear hxa1_0);(try clear hxa2_0);(try clear hxa3_0);(try clear hxa4_0);(try clear hxa5_0);(try clear hxa6_0);(try clear hxa7_0);(try clear hxa8_0);(try clear pa1);(try clear pa2);(try clear pa3);(try clear pa4);(try clear pa5);(try clear pa6);(try clear pa7);(try clear pa8);(try clear qa1);(try clear qa2);(try clear qa3);(try clear qa4);(try clear qa5);(try clear qa6);(try clear qa7);(try clear qa8)
 obtain ⟨kq, x7_9, rfl, HA, HJ9, HO_0, HK, HB⟩ := hcut
 cases kq with | zero => exact absurd HA.out (by simp [nat_step.j1]) | succ kj9 => ?_
 have H := HA.out
 clear HA
 simp only [nat_step.j1] at H
 have H' := zk H
 clear H
 go_wp2
 repeat (go_quiet (fail); try go_wp2)
 go_loopg [9, 10, 86] kj9 (fun kq v9 v10 v86 w' => ∃ (x0_2 : List Int) (x9_2 : Int) (x10_2 : Int) (x86_2 : Int), v9 = .int .u64 x9_2 ∧ v10 = .int .u64 x10_2 ∧ v86 = .int .i64 x86_2 ∧ Aside0 (nat_step.l1 kq x0_2 l1 (l1.length : Int) x7_9 x9_2 x10_2 (l1.length : Int) x86_2 = some (r1, r2)) ∧ Aside0 (kq ≤ kj9) ∧ Aside0 (Wn gW capW preW postW w' w0.heap.size (fun k_ => (P0_ k_ ∨ w.heap.size ≤ k_)) (.slice (some ada1) l0.length co11) x0_2) ∧ Aside0 (Kept w w' (fun k_ => P0_ k_)) ∧ Aside0 (Below w0.heap.size w0 w'))
 case atStart => exact ⟨(l0), (0), (0), (0), zF, zF, zF, H', ⟨Nat.le_refl _⟩, ⟨zW HO_0.out⟩, ⟨by repeat (first | (with_reducible first | exact HK.out | apply Kept.alloc | apply Kept.drewN | apply Kept.drew) | exact HK.out)⟩, ⟨zB HB.out⟩⟩
 clear H'
 (try clear c3);(try clear c3b0);(try clear c3b1);(try clear c4);(try clear c4b0);(try clear c4b1);(try clear c6b0);(try clear c7b0);(try clear c8b0);(try clear c9);(try clear c9b0);(try clear c9b1);(try clear c12b0);(try clear c13);(try clear c13b0);(try clear c15b0);(try clear c16b0);(try clear c18b0);(try clear c19b0);(try clear c20b0);(try clear c21);(try clear c21b0);(try clear c23b0);(try clear c24b0);(try clear hxa1_0);(try clear hxa2_0);(try clear hxa3_0);(try clear hxa4_0);(try clear hxa5_0);(try clear hxa6_0);(try clear hxa7_0);(try clear hxa8_0);(try clear pa1);(try clear pa2);(try clear pa3);(try clear pa4);(try clear pa5);(try clear pa6);(try clear pa7);(try clear pa8);(try clear qa1);(try clear qa2);(try clear qa3);(try clear qa4);(try clear qa5);(try clear qa6);(try clear qa7);(try clear qa8)
 obtain ⟨x0_2, x9_2, x10_2, x86_2, rfl, rfl, rfl, HA, HK2, HO_0, HK, HB⟩ := hrel
 have hl0_2 := (Wn.reads' HO_0.out).1
 rw [hl0_2] at HO_0
 (try simp only [hl0_2])
 cases gk with | zero => exact absurd HA.out (by simp [nat_step.l1]) | succ k2 => ?_
 have H := HA.out
 clear HA
 simp only [nat_step.l1] at H
 replace H := zi H
 rcases H with ⟨c25, H⟩ | ⟨c25, H⟩
 · have c25b0 := decide_eq_true c25
   (try (have c25h0 := c25b0; simp only [hl0_2] at c25h0))
   clear c25
   replace H := zgd H
   obtain ⟨c26b0, H⟩ := H
   replace H := zg H
   obtain ⟨c27, H⟩ := H
   have c27b0 := decide_eq_true c27
   (try (have c27h0 := c27b0; simp only [hl0_2] at c27h0))
   clear c27
   replace H := zg H
   obtain ⟨c28, H⟩ := H
   have c28b0 := decide_eq_true c28
   (try (have c28h0 := c28b0; simp only [hl0_2] at c28h0))
   clear c28
   obtain ⟨yb1, hyb1⟩ : ∃ y_ : List Int, y_ = (x0_2.set (x86_2 : Int).toNat ((IntKind.u64.wrap ((IntKind.u64.wrap ((IntKind.u64.wrap (rd x0_2 x86_2)) - ((IntKind.u64.wrap ((IntKind.u64.wrap (x7_9 * (IntKind.u64.wrap (rd l1 x86_2)))) + x10_2)) % 4294967296))) - x9_2)) % 4294967296)) := ⟨_, rfl⟩
   replace H : (nat_step.l1 k2 yb1 l1 (l1.length : Int) x7_9 ((IntKind.u64.wrap ((IntKind.u64.wrap ((IntKind.u64.wrap (rd x0_2 x86_2)) - ((IntKind.u64.wrap ((IntKind.u64.wrap (x7_9 * (IntKind.u64.wrap (rd l1 x86_2)))) + x10_2)) % 4294967296))) - x9_2)) / 9223372036854775808) ((IntKind.u64.wrap ((IntKind.u64.wrap (x7_9 * (IntKind.u64.wrap (rd l1 x86_2)))) + x10_2)) / 4294967296) (l1.length : Int) (wrap64 (x86_2 + 1))) = some (r1, r2) := zY hyb1 H
   have Nyb1 := zk hyb1
   clear hyb1
   have H' := zk H
   clear H
   have pa9 : 0 ≤ (x86_2 : Int) := zd
   have qa9 : x86_2 < (l1.length : Int) := zd
   obtain ⟨ada9, ea9, hxa9_0⟩ := Kd.at_int (Kd.C_kept_now HR1.out HK.out) x86_2 pa9 qa9
   obtain rfl : ada3 = ada9 := (by injection ea9)
   replace pa9 := eq_true pa9
   replace qa9 := eq_true qa9
   have pb0 : 0 ≤ (x86_2 : Int) := zd
   have qb0 : x86_2 < (x0_2.length : Int) := zd
   obtain ⟨adb0, eb0, hxb0_0⟩ := Kd.at_int (Wn.reads' HO_0.out).2.2 x86_2 pb0 qb0
   obtain rfl : ada1 = adb0 := (by injection eb0)
   replace pb0 := eq_true pb0
   replace qb0 := eq_true qb0
   have p29 : 0 ≤ (x86_2 : Int) := zd
   have q29 : (x86_2 : Int) < ((x0_2.length : Int) : Int) := zd
   obtain ⟨co29, eo29, gb29, gl29, cl29, HG29⟩ := Wn.form HO_0.out (by omega)
   (first | cases eo29 | (injection eo29 with ea_ en_ ec_; (first | subst ea_ | (injection ea_ with ea_; subst ea_)); subst ec_; clear en_))
   have GB29 := zk gb29
   have GG29 := zk HG29
   clear gb29 gl29 HG29
   have HMgo29 := zk (show (P0_ gW ∨ w.heap.size ≤ gW) from (Wn.own HO_0.out _ rfl))
   (first | simp only [add_at] at hxa1_0 | skip)
   (first | simp only [add_at] at hxa2_0 | skip)
   (first | simp only [add_at] at hxa7_0 | skip)
   (first | simp only [add_at] at hxb0_0 | skip)
   obtain ⟨hx29_0, hf29_0⟩ := Wn.celln HO_0.out (x86_2 : Int) p29 q29
   replace p29 := eq_true p29
   replace q29 := eq_true q29
   obtain ⟨hy30_, hz30_⟩ := Wn.celln HO_0.out (x86_2 : Int) zd zd
   have HP30 := Wn.putg HO_0.out (x86_2 : Int) zd zd ((IntKind.u64.wrap ((IntKind.u64.wrap ((IntKind.u64.wrap (rd x0_2 x86_2)) - ((IntKind.u64.wrap ((IntKind.u64.wrap (x7_9 * (IntKind.u64.wrap (rd l1 x86_2)))) + x10_2)) % 4294967296))) - x9_2)) % 4294967296)
   go_wp2_with (first | ((with_reducible refine gate_store (t := 97) (p := 115) rfl ?_); (try (rw [drewN_self wr]; generalize hq_ : World.drewN wr _ = wr; have n0_ := zk (Wn.at_ hq_ HO_0.out); have n1_ := zk (kept_at hq_ HK.out); have n2_ := zk (below_at hq_ HB.out); clear hq_ HO_0 HK HB; have HO_0 := n0_; have HK := n1_; have HB := n2_; clear n0_ n1_ n2_; (try (obtain ⟨hy30_, hz30_⟩ := Wn.celln HO_0.out (x86_2 : Int) zd zd)); (try (have HP30 := Wn.putg HO_0.out (x86_2 : Int) zd zd ((IntKind.u64.wrap ((IntKind.u64.wrap ((IntKind.u64.wrap (rd x0_2 x86_2)) - ((IntKind.u64.wrap ((IntKind.u64.wrap (x7_9 * (IntKind.u64.wrap (rd l1 x86_2)))) + x10_2)) % 4294967296))) - x9_2)) % 4294967296))))); refine store_event (t := 97) (p := 115) (v := ?vo_w31) (w1 := (wr.setCell ⟨gW, preW.length + (x86_2 : Int).toNat, none⟩ (.int .u32 ((IntKind.u64.wrap ((IntKind.u64.wrap ((IntKind.u64.wrap (rd x0_2 x86_2)) - ((IntKind.u64.wrap ((IntKind.u64.wrap (x7_9 * (IntKind.u64.wrap (rd l1 x86_2)))) + x10_2)) % 4294967296))) - x9_2)) % 4294967296)))) ?hg ?ho ?hn ?hr ?_; (case ho => rfl); (case hg => rfl); (case hn => rfl); (case hr => first | (go_simp; done) | (go_simp; rfl)); intro w31 hw; have hg : wr.grownBy w31 (some gW) := (by rw [hw]; exact HP30.2); have hp_ : Wn gW capW preW postW w31 w0.heap.size (fun k_ => (P0_ k_ ∨ w.heap.size ≤ k_)) (.slice (some ⟨gW, preW.length, none⟩) x0_2.length co11) yb1 := (by rw [hw, Nyb1.out]; exact HP30.1); clear HP30; replace HB := zk ((by rw [hw]; exact below_set (HB.out) GB29.out : Below w0.heap.size w0 w31)); replace HK := zk (Kept.of_grown (S := (fun k_ => P0_ k_)) hg (by repeat (first | (with_reducible first | exact HK.out | apply Kept.alloc | apply Kept.drewN | apply Kept.drew) | exact HK.out)) (fun k_ e_ => (Wn.own HO_0.out k_ e_))); replace HO_0 := zk (hp_); clear hg hw hp_))
   repeat (go_quiet (first | ((with_reducible refine gate_store (t := 97) (p := 115) rfl ?_); (try (rw [drewN_self wr]; generalize hq_ : World.drewN wr _ = wr; have n0_ := zk (Wn.at_ hq_ HO_0.out); have n1_ := zk (kept_at hq_ HK.out); have n2_ := zk (below_at hq_ HB.out); clear hq_ HO_0 HK HB; have HO_0 := n0_; have HK := n1_; have HB := n2_; clear n0_ n1_ n2_; (try (obtain ⟨hy30_, hz30_⟩ := Wn.celln HO_0.out (x86_2 : Int) zd zd)); (try (have HP30 := Wn.putg HO_0.out (x86_2 : Int) zd zd ((IntKind.u64.wrap ((IntKind.u64.wrap ((IntKind.u64.wrap (rd x0_2 x86_2)) - ((IntKind.u64.wrap ((IntKind.u64.wrap (x7_9 * (IntKind.u64.wrap (rd l1 x86_2)))) + x10_2)) % 4294967296))) - x9_2)) % 4294967296))))); refine store_event (t := 97) (p := 115) (v := ?vo_w31) (w1 := (wr.setCell ⟨gW, preW.length + (x86_2 : Int).toNat, none⟩ (.int .u32 ((IntKind.u64.wrap ((IntKind.u64.wrap ((IntKind.u64.wrap (rd x0_2 x86_2)) - ((IntKind.u64.wrap ((IntKind.u64.wrap (x7_9 * (IntKind.u64.wrap (rd l1 x86_2)))) + x10_2)) % 4294967296))) - x9_2)) % 4294967296)))) ?hg ?ho ?hn ?hr ?_; (case ho => rfl); (case hg => rfl); (case hn => rfl); (case hr => first | (go_simp; done) | (go_simp; rfl)); intro w31 hw; have hg : wr.grownBy w31 (some gW) := (by rw [hw]; exact HP30.2); have hp_ : Wn gW capW preW postW w31 w0.heap.size (fun k_ => (P0_ k_ ∨ w.heap.size ≤ k_)) (.slice (some ⟨gW, preW.length, none⟩) x0_2.length co11) yb1 := (by rw [hw, Nyb1.out]; exact HP30.1); clear HP30; replace HB := zk ((by rw [hw]; exact below_set (HB.out) GB29.out : Below w0.heap.size w0 w31)); replace HK := zk (Kept.of_grown (S := (fun k_ => P0_ k_)) hg (by repeat (first | (with_reducible first | exact HK.out | apply Kept.alloc | apply Kept.drewN | apply Kept.drew) | exact HK.out)) (fun k_ e_ => (Wn.own HO_0.out k_ e_))); replace HO_0 := zk (hp_); clear hg hw hp_)); try go_wp2_with (first | ((with_reducible refine gate_store (t := 97) (p := 115) rfl ?_); (try (rw [drewN_self wr]; generalize hq_ : World.drewN wr _ = wr; have n0_ := zk (Wn.at_ hq_ HO_0.out); have n1_ := zk (kept_at hq_ HK.out); have n2_ := zk (below_at hq_ HB.out); clear hq_ HO_0 HK HB; have HO_0 := n0_; have HK := n1_; have HB := n2_; clear n0_ n1_ n2_; (try (obtain ⟨hy30_, hz30_⟩ := Wn.celln HO_0.out (x86_2 : Int) zd zd)); (try (have HP30 := Wn.putg HO_0.out (x86_2 : Int) zd zd ((IntKind.u64.wrap ((IntKind.u64.wrap ((IntKind.u64.wrap (rd x0_2 x86_2)) - ((IntKind.u64.wrap ((IntKind.u64.wrap (x7_9 * (IntKind.u64.wrap (rd l1 x86_2)))) + x10_2)) % 4294967296))) - x9_2)) % 4294967296))))); refine store_event (t := 97) (p := 115) (v := ?vo_w31) (w1 := (wr.setCell ⟨gW, preW.length + (x86_2 : Int).toNat, none⟩ (.int .u32 ((IntKind.u64.wrap ((IntKind.u64.wrap ((IntKind.u64.wrap (rd x0_2 x86_2)) - ((IntKind.u64.wrap ((IntKind.u64.wrap (x7_9 * (IntKind.u64.wrap (rd l1 x86_2)))) + x10_2)) % 4294967296))) - x9_2)) % 4294967296)))) ?hg ?ho ?hn ?hr ?_; (case ho => rfl); (case hg => rfl); (case hn => rfl); (case hr => first | (go_simp; done) | (go_simp; rfl)); intro w31 hw; have hg : wr.grownBy w31 (some gW) := (by rw [hw]; exact HP30.2); have hp_ : Wn gW capW preW postW w31 w0.heap.size (fun k_ => (P0_ k_ ∨ w.heap.size ≤ k_)) (.slice (some ⟨gW, preW.length, none⟩) x0_2.length co11) yb1 := (by rw [hw, Nyb1.out]; exact HP30.1); clear HP30; have n0_ := zk (hp_); have n1_ := zk ((by rw [hw]; exact below_set (HB.out) GB29.out : Below w0.heap.size w0 w31)); have n2_ := zk (Kept.of_grown (S := (fun k_ => P0_ k_)) hg (by repeat (first | (with_reducible first | exact HK.out | apply Kept.alloc | apply Kept.drewN | apply Kept.drew) | exact HK.out)) (fun k_ e_ => (Wn.own HO_0.out k_ e_))); clear HO_0; clear HB; clear HK; have HO_0 := n0_; have HB := n1_; have HK := n2_; clear n0_ n1_ n2_; clear hg hw hp_)))
   (try simp only [← hl0_2])
   (try simp only [add_at] at *)
   (try simp only [add_plain] at *)
   go_roundg k2
   case measure => have := HJ9.out; have := HK2.out; omega
   case rel => exact ⟨(yb1), ((IntKind.u64.wrap ((IntKind.u64.wrap ((IntKind.u64.wrap (rd x0_2 x86_2)) - ((IntKind.u64.wrap ((IntKind.u64.wrap (x7_9 * (IntKind.u64.wrap (rd l1 x86_2)))) + x10_2)) % 4294967296))) - x9_2)) / 9223372036854775808), ((IntKind.u64.wrap ((IntKind.u64.wrap (x7_9 * (IntKind.u64.wrap (rd l1 x86_2)))) + x10_2)) / 4294967296), (wrap64 (x86_2 + 1)), zF, zF, zF, H', ⟨zo2 HJ9 HK2⟩, ⟨by (try simp only [hl0_2]); (with_reducible repeat (first | apply Wn.alloc | apply Wn.drewN | apply Wn.drew)); exact HO_0.out⟩, ⟨by repeat (first | (with_reducible first | exact HK.out | apply Kept.alloc | apply Kept.drewN | apply Kept.drew) | exact HK.out)⟩, ⟨zB HB.out⟩⟩
 have c25b0 := decide_eq_false c25
 (try (have c25h0 := c25b0; simp only [hl0_2] at c25h0))
 clear c25
 replace H := zg H
 obtain ⟨c32, H⟩ := H
 have c32b0 := decide_eq_true c32
 (try (have c32h0 := c32b0; simp only [hl0_2] at c32h0))
 have c32b1 : decide (0 ≤ l1.length) = true := decide_eq_true (by omega)
 (try (have c32h1 := c32b1; simp only [hl0_2] at c32h1))
 clear c32
 replace H := zg H
 obtain ⟨c33, H⟩ := H
 have c33b0 := decide_eq_true c33
 (try (have c33h0 := c33b0; simp only [hl0_2] at c33h0))
 have c33b1 : decide (l1.length < x0_2.length) = true := decide_eq_true (Int.ofNat_lt.mp c33)
 (try (have c33h1 := c33b1; simp only [hl0_2] at c33h1))
 clear c33
 obtain ⟨yb3, hyb3⟩ : ∃ y_ : List Int, y_ = (x0_2.set ((l1.length : Int) : Int).toNat ((IntKind.u64.wrap ((IntKind.u64.wrap ((IntKind.u64.wrap (rd x0_2 (l1.length : Int))) - x10_2)) - x9_2)) % 4294967296)) := ⟨_, rfl⟩
 replace H : (if ((IntKind.u64.wrap ((IntKind.u64.wrap ((IntKind.u64.wrap (rd x0_2 (l1.length : Int))) - x10_2)) - x9_2)) / 9223372036854775808) = 0 then (some ((x7_9) % 4294967296, yb3)) else (nat_step.l2 k2 yb3 l1 (l1.length : Int) x7_9 0 (l1.length : Int) 0)) = some (r1, r2) := zY hyb3 H
 have Nyb3 := zk hyb3
 clear hyb3
 replace H := zi H
 rcases H with ⟨c35, H⟩ | ⟨c35, H⟩
 · have c35b0 := beq_iff_eq.mpr c35
   (try (have c35h0 := c35b0; simp only [hl0_2] at c35h0))
   have c35b1 := bne_eq_false_iff_eq.mpr c35
   (try (have c35h1 := c35b1; simp only [hl0_2] at c35h1))
   clear c35
   simp only [Option.some.injEq, Prod.mk.injEq] at H
   obtain ⟨rfl, rfl⟩ := H
   have pb2 : 0 ≤ ((l1.length : Int) : Int) := zd
   have qb2 : (l1.length : Int) < (x0_2.length : Int) := zd
   obtain ⟨adb2, eb2, hxb2_0⟩ := Kd.at_int (Wn.reads' HO_0.out).2.2 (l1.length : Int) pb2 qb2
   obtain rfl : ada1 = adb2 := (by injection eb2)
   (try simp only [Go.IntWalk.toNatUp] at hxb2_0)
   (try simp only [hl0_2] at pb2)
   (try simp only [hl0_2] at qb2)
   (try simp only [hl0_2] at hxb2_0)
   replace pb2 := eq_true pb2
   replace qb2 := eq_true qb2
   have p34 : 0 ≤ ((l1.length : Int) : Int) := zd
   have q34 : ((l1.length : Int) : Int) < ((x0_2.length : Int) : Int) := zd
   obtain ⟨co34, eo34, gb34, gl34, cl34, HG34⟩ := Wn.form HO_0.out (by omega)
   (first | cases eo34 | (injection eo34 with ea_ en_ ec_; (first | subst ea_ | (injection ea_ with ea_; subst ea_)); subst ec_; clear en_))
   have GB34 := zk gb34
   have GG34 := zk HG34
   clear gb34 gl34 HG34
   have HMgo34 := zk (show (P0_ gW ∨ w.heap.size ≤ gW) from (Wn.own HO_0.out _ rfl))
   (first | simp only [add_at] at hxb2_0 | skip)
   obtain ⟨hx34_0, hf34_0⟩ := Wn.celln HO_0.out ((l1.length : Int) : Int) p34 q34
   replace p34 := eq_true p34
   replace q34 := eq_true q34
   obtain ⟨hy36_, hz36_⟩ := Wn.celln HO_0.out ((l1.length : Int) : Int) zd zd
   (try simp only [Go.IntWalk.toNatUp] at hy36_ hz36_)
   have HP36 := Wn.putg HO_0.out ((l1.length : Int) : Int) zd zd ((IntKind.u64.wrap ((IntKind.u64.wrap ((IntKind.u64.wrap (rd x0_2 (l1.length : Int))) - x10_2)) - x9_2)) % 4294967296)
   go_wp2_with (first | ((with_reducible refine gate_store (t := 97) (p := 132) rfl ?_); (try (rw [drewN_self wr]; generalize hq_ : World.drewN wr _ = wr; have n0_ := zk (Wn.at_ hq_ HO_0.out); have n1_ := zk (kept_at hq_ HK.out); have n2_ := zk (below_at hq_ HB.out); clear hq_ HO_0 HK HB; have HO_0 := n0_; have HK := n1_; have HB := n2_; clear n0_ n1_ n2_; (try (obtain ⟨hy36_, hz36_⟩ := Wn.celln HO_0.out ((l1.length : Int) : Int) zd zd)); (try (try simp only [Go.IntWalk.toNatUp] at hy36_ hz36_)); (try (have HP36 := Wn.putg HO_0.out ((l1.length : Int) : Int) zd zd ((IntKind.u64.wrap ((IntKind.u64.wrap ((IntKind.u64.wrap (rd x0_2 (l1.length : Int))) - x10_2)) - x9_2)) % 4294967296))))); refine store_event (t := 97) (p := 132) (v := ?vo_w37) (w1 := (wr.setCell ⟨gW, preW.length + ((l1.length : Int) : Int).toNat, none⟩ (.int .u32 ((IntKind.u64.wrap ((IntKind.u64.wrap ((IntKind.u64.wrap (rd x0_2 (l1.length : Int))) - x10_2)) - x9_2)) % 4294967296)))) ?hg ?ho ?hn ?hr ?_; (case ho => rfl); (case hg => rfl); (case hn => rfl); (case hr => first | (go_simp; done) | (go_simp; rfl)); intro w37 hw; have hg : wr.grownBy w37 (some gW) := (by rw [hw]; exact HP36.2); have hp_ : Wn gW capW preW postW w37 w0.heap.size (fun k_ => (P0_ k_ ∨ w.heap.size ≤ k_)) (.slice (some ⟨gW, preW.length, none⟩) x0_2.length co11) yb3 := (by rw [hw, Nyb3.out]; exact HP36.1); clear HP36; replace HB := zk ((by rw [hw]; exact below_set (HB.out) GB34.out : Below w0.heap.size w0 w37)); replace HK := zk (Kept.of_grown (S := (fun k_ => P0_ k_)) hg (by repeat (first | (with_reducible first | exact HK.out | apply Kept.alloc | apply Kept.drewN | apply Kept.drew) | exact HK.out)) (fun k_ e_ => (Wn.own HO_0.out k_ e_))); replace HO_0 := zk (hp_); clear hg hw hp_))
   repeat (go_quiet (first | ((with_reducible refine gate_store (t := 97) (p := 132) rfl ?_); (try (rw [drewN_self wr]; generalize hq_ : World.drewN wr _ = wr; have n0_ := zk (Wn.at_ hq_ HO_0.out); have n1_ := zk (kept_at hq_ HK.out); have n2_ := zk (below_at hq_ HB.out); clear hq_ HO_0 HK HB; have HO_0 := n0_; have HK := n1_; have HB := n2_; clear n0_ n1_ n2_; (try (obtain ⟨hy36_, hz36_⟩ := Wn.celln HO_0.out ((l1.length : Int) : Int) zd zd)); (try (try simp only [Go.IntWalk.toNatUp] at hy36_ hz36_)); (try (have HP36 := Wn.putg HO_0.out ((l1.length : Int) : Int) zd zd ((IntKind.u64.wrap ((IntKind.u64.wrap ((IntKind.u64.wrap (rd x0_2 (l1.length : Int))) - x10_2)) - x9_2)) % 4294967296))))); refine store_event (t := 97) (p := 132) (v := ?vo_w37) (w1 := (wr.setCell ⟨gW, preW.length + ((l1.length : Int) : Int).toNat, none⟩ (.int .u32 ((IntKind.u64.wrap ((IntKind.u64.wrap ((IntKind.u64.wrap (rd x0_2 (l1.length : Int))) - x10_2)) - x9_2)) % 4294967296)))) ?hg ?ho ?hn ?hr ?_; (case ho => rfl); (case hg => rfl); (case hn => rfl); (case hr => first | (go_simp; done) | (go_simp; rfl)); intro w37 hw; have hg : wr.grownBy w37 (some gW) := (by rw [hw]; exact HP36.2); have hp_ : Wn gW capW preW postW w37 w0.heap.size (fun k_ => (P0_ k_ ∨ w.heap.size ≤ k_)) (.slice (some ⟨gW, preW.length, none⟩) x0_2.length co11) yb3 := (by rw [hw, Nyb3.out]; exact HP36.1); clear HP36; replace HB := zk ((by rw [hw]; exact below_set (HB.out) GB34.out : Below w0.heap.size w0 w37)); replace HK := zk (Kept.of_grown (S := (fun k_ => P0_ k_)) hg (by repeat (first | (with_reducible first | exact HK.out | apply Kept.alloc | apply Kept.drewN | apply Kept.drew) | exact HK.out)) (fun k_ e_ => (Wn.own HO_0.out k_ e_))); replace HO_0 := zk (hp_); clear hg hw hp_)); try go_wp2_with (first | ((with_reducible refine gate_store (t := 97) (p := 132) rfl ?_); (try (rw [drewN_self wr]; generalize hq_ : World.drewN wr _ = wr; have n0_ := zk (Wn.at_ hq_ HO_0.out); have n1_ := zk (kept_at hq_ HK.out); have n2_ := zk (below_at hq_ HB.out); clear hq_ HO_0 HK HB; have HO_0 := n0_; have HK := n1_; have HB := n2_; clear n0_ n1_ n2_; (try (obtain ⟨hy36_, hz36_⟩ := Wn.celln HO_0.out ((l1.length : Int) : Int) zd zd)); (try (try simp only [Go.IntWalk.toNatUp] at hy36_ hz36_)); (try (have HP36 := Wn.putg HO_0.out ((l1.length : Int) : Int) zd zd ((IntKind.u64.wrap ((IntKind.u64.wrap ((IntKind.u64.wrap (rd x0_2 (l1.length : Int))) - x10_2)) - x9_2)) % 4294967296))))); refine store_event (t := 97) (p := 132) (v := ?vo_w37) (w1 := (wr.setCell ⟨gW, preW.length + ((l1.length : Int) : Int).toNat, none⟩ (.int .u32 ((IntKind.u64.wrap ((IntKind.u64.wrap ((IntKind.u64.wrap (rd x0_2 (l1.length : Int))) - x10_2)) - x9_2)) % 4294967296)))) ?hg ?ho ?hn ?hr ?_; (case ho => rfl); (case hg => rfl); (case hn => rfl); (case hr => first | (go_simp; done) | (go_simp; rfl)); intro w37 hw; have hg : wr.grownBy w37 (some gW) := (by rw [hw]; exact HP36.2); have hp_ : Wn gW capW preW postW w37 w0.heap.size (fun k_ => (P0_ k_ ∨ w.heap.size ≤ k_)) (.slice (some ⟨gW, preW.length, none⟩) x0_2.length co11) yb3 := (by rw [hw, Nyb3.out]; exact HP36.1); clear HP36; have n0_ := zk (hp_); have n1_ := zk ((by rw [hw]; exact below_set (HB.out) GB34.out : Below w0.heap.size w0 w37)); have n2_ := zk (Kept.of_grown (S := (fun k_ => P0_ k_)) hg (by repeat (first | (with_reducible first | exact HK.out | apply Kept.alloc | apply Kept.drewN | apply Kept.drew) | exact HK.out)) (fun k_ e_ => (Wn.own HO_0.out k_ e_))); clear HO_0; clear HB; clear HK; have HO_0 := n0_; have HB := n1_; have HK := n2_; clear n0_ n1_ n2_; clear hg hw hp_)))
   go_ret
   exact ⟨by first | rfl | (simp [errW_none, errW_some] <;> rfl) | (simp only [← hji5]; first | rfl | (simp [errW_none, errW_some] <;> rfl)) | (simp [*, errW_none, errW_some] <;> rfl), (by first | exact (zW HO_0.out) | (simp only [hl0_2]; exact (zW HO_0.out))), zB HB.out, by repeat (first | (with_reducible first | exact HK.out | apply Kept.alloc | apply Kept.drewN | apply Kept.drew) | exact HK.out)⟩
 have c35b0 := beq_eq_false_iff_ne.mpr c35
 (try (have c35h0 := c35b0; simp only [hl0_2] at c35h0))
 have c35b1 := bne_iff_ne.mpr c35
 (try (have c35h1 := c35b1; simp only [hl0_2] at c35h1))
 have H' := zk H
 clear H
 have pb2 : 0 ≤ ((l1.length : Int) : Int) := zd
 have qb2 : (l1.length : Int) < (x0_2.length : Int) := zd
 obtain ⟨adb2, eb2, hxb2_0⟩ := Kd.at_int (Wn.reads' HO_0.out).2.2 (l1.length : Int) pb2 qb2
 obtain rfl : ada1 = adb2 := (by injection eb2)
 (try simp only [Go.IntWalk.toNatUp] at hxb2_0)
 (try simp only [hl0_2] at pb2)
 (try simp only [hl0_2] at qb2)
 (try simp only [hl0_2] at hxb2_0)
 replace pb2 := eq_true pb2
 replace qb2 := eq_true qb2
 have p34 : 0 ≤ ((l1.length : Int) : Int) := zd
 have q34 : ((l1.length : Int) : Int) < ((x0_2.length : Int) : Int) := zd
 obtain ⟨co34, eo34, gb34, gl34, cl34, HG34⟩ := Wn.form HO_0.out (by omega)
 (first | cases eo34 | (injection eo34 with ea_ en_ ec_; (first | subst ea_ | (injection ea_ with ea_; subst ea_)); subst ec_; clear en_))
 have GB34 := zk gb34
 have GG34 := zk HG34
 clear gb34 gl34 HG34
 have HMgo34 := zk (show (P0_ gW ∨ w.heap.size ≤ gW) from (Wn.own HO_0.out _ rfl))
 (first | simp only [add_at] at hxb2_0 | skip)
 obtain ⟨hx34_0, hf34_0⟩ := Wn.celln HO_0.out ((l1.length : Int) : Int) p34 q34
 replace p34 := eq_true p34
 replace q34 := eq_true q34
 obtain ⟨hy38_, hz38_⟩ := Wn.celln HO_0.out ((l1.length : Int) : Int) zd zd
 (try simp only [Go.IntWalk.toNatUp] at hy38_ hz38_)
 have HP38 := Wn.putg HO_0.out ((l1.length : Int) : Int) zd zd ((IntKind.u64.wrap ((IntKind.u64.wrap ((IntKind.u64.wrap (rd x0_2 (l1.length : Int))) - x10_2)) - x9_2)) % 4294967296)
 go_wp2_with (first | ((with_reducible refine gate_store (t := 97) (p := 132) rfl ?_); (try (rw [drewN_self wr]; generalize hq_ : World.drewN wr _ = wr; have n0_ := zk (Wn.at_ hq_ HO_0.out); have n1_ := zk (kept_at hq_ HK.out); have n2_ := zk (below_at hq_ HB.out); clear hq_ HO_0 HK HB; have HO_0 := n0_; have HK := n1_; have HB := n2_; clear n0_ n1_ n2_; (try (obtain ⟨hy38_, hz38_⟩ := Wn.celln HO_0.out ((l1.length : Int) : Int) zd zd)); (try (try simp only [Go.IntWalk.toNatUp] at hy38_ hz38_)); (try (have HP38 := Wn.putg HO_0.out ((l1.length : Int) : Int) zd zd ((IntKind.u64.wrap ((IntKind.u64.wrap ((IntKind.u64.wrap (rd x0_2 (l1.length : Int))) - x10_2)) - x9_2)) % 4294967296))))); refine store_event (t := 97) (p := 132) (v := ?vo_w39) (w1 := (wr.setCell ⟨gW, preW.length + ((l1.length : Int) : Int).toNat, none⟩ (.int .u32 ((IntKind.u64.wrap ((IntKind.u64.wrap ((IntKind.u64.wrap (rd x0_2 (l1.length : Int))) - x10_2)) - x9_2)) % 4294967296)))) ?hg ?ho ?hn ?hr ?_; (case ho => rfl); (case hg => rfl); (case hn => rfl); (case hr => first | (go_simp; done) | (go_simp; rfl)); intro w39 hw; have hg : wr.grownBy w39 (some gW) := (by rw [hw]; exact HP38.2); have hp_ : Wn gW capW preW postW w39 w0.heap.size (fun k_ => (P0_ k_ ∨ w.heap.size ≤ k_)) (.slice (some ⟨gW, preW.length, none⟩) x0_2.length co11) yb3 := (by rw [hw, Nyb3.out]; exact HP38.1); clear HP38; replace HB := zk ((by rw [hw]; exact below_set (HB.out) GB34.out : Below w0.heap.size w0 w39)); replace HK := zk (Kept.of_grown (S := (fun k_ => P0_ k_)) hg (by repeat (first | (with_reducible first | exact HK.out | apply Kept.alloc | apply Kept.drewN | apply Kept.drew) | exact HK.out)) (fun k_ e_ => (Wn.own HO_0.out k_ e_))); replace HO_0 := zk (hp_); clear hg hw hp_))
 repeat (go_quiet (first | ((with_reducible refine gate_store (t := 97) (p := 132) rfl ?_); (try (rw [drewN_self wr]; generalize hq_ : World.drewN wr _ = wr; have n0_ := zk (Wn.at_ hq_ HO_0.out); have n1_ := zk (kept_at hq_ HK.out); have n2_ := zk (below_at hq_ HB.out); clear hq_ HO_0 HK HB; have HO_0 := n0_; have HK := n1_; have HB := n2_; clear n0_ n1_ n2_; (try (obtain ⟨hy38_, hz38_⟩ := Wn.celln HO_0.out ((l1.length : Int) : Int) zd zd)); (try (try simp only [Go.IntWalk.toNatUp] at hy38_ hz38_)); (try (have HP38 := Wn.putg HO_0.out ((l1.length : Int) : Int) zd zd ((IntKind.u64.wrap ((IntKind.u64.wrap ((IntKind.u64.wrap (rd x0_2 (l1.length : Int))) - x10_2)) - x9_2)) % 4294967296))))); refine store_event (t := 97) (p := 132) (v := ?vo_w39) (w1 := (wr.setCell ⟨gW, preW.length + ((l1.length : Int) : Int).toNat, none⟩ (.int .u32 ((IntKind.u64.wrap ((IntKind.u64.wrap ((IntKind.u64.wrap (rd x0_2 (l1.length : Int))) - x10_2)) - x9_2)) % 4294967296)))) ?hg ?ho ?hn ?hr ?_; (case ho => rfl); (case hg => rfl); (case hn => rfl); (case hr => first | (go_simp; done) | (go_simp; rfl)); intro w39 hw; have hg : wr.grownBy w39 (some gW) := (by rw [hw]; exact HP38.2); have hp_ : Wn gW capW preW postW w39 w0.heap.size (fun k_ => (P0_ k_ ∨ w.heap.size ≤ k_)) (.slice (some ⟨gW, preW.length, none⟩) x0_2.length co11) yb3 := (by rw [hw, Nyb3.out]; exact HP38.1); clear HP38; replace HB := zk ((by rw [hw]; exact below_set (HB.out) GB34.out : Below w0.heap.size w0 w39)); replace HK := zk (Kept.of_grown (S := (fun k_ => P0_ k_)) hg (by repeat (first | (with_reducible first | exact HK.out | apply Kept.alloc | apply Kept.drewN | apply Kept.drew) | exact HK.out)) (fun k_ e_ => (Wn.own HO_0.out k_ e_))); replace HO_0 := zk (hp_); clear hg hw hp_)); try go_wp2_with (first | ((with_reducible refine gate_store (t := 97) (p := 132) rfl ?_); (try (rw [drewN_self wr]; generalize hq_ : World.drewN wr _ = wr; have n0_ := zk (Wn.at_ hq_ HO_0.out); have n1_ := zk (kept_at hq_ HK.out); have n2_ := zk (below_at hq_ HB.out); clear hq_ HO_0 HK HB; have HO_0 := n0_; have HK := n1_; have HB := n2_; clear n0_ n1_ n2_; (try (obtain ⟨hy38_, hz38_⟩ := Wn.celln HO_0.out ((l1.length : Int) : Int) zd zd)); (try (try simp only [Go.IntWalk.toNatUp] at hy38_ hz38_)); (try (have HP38 := Wn.putg HO_0.out ((l1.length : Int) : Int) zd zd ((IntKind.u64.wrap ((IntKind.u64.wrap ((IntKind.u64.wrap (rd x0_2 (l1.length : Int))) - x10_2)) - x9_2)) % 4294967296))))); refine store_event (t := 97) (p := 132) (v := ?vo_w39) (w1 := (wr.setCell ⟨gW, preW.length + ((l1.length : Int) : Int).toNat, none⟩ (.int .u32 ((IntKind.u64.wrap ((IntKind.u64.wrap ((IntKind.u64.wrap (rd x0_2 (l1.length : Int))) - x10_2)) - x9_2)) % 4294967296)))) ?hg ?ho ?hn ?hr ?_; (case ho => rfl); (case hg => rfl); (case hn => rfl); (case hr => first | (go_simp; done) | (go_simp; rfl)); intro w39 hw; have hg : wr.grownBy w39 (some gW) := (by rw [hw]; exact HP38.2); have hp_ : Wn gW capW preW postW w39 w0.heap.size (fun k_ => (P0_ k_ ∨ w.heap.size ≤ k_)) (.slice (some ⟨gW, preW.length, none⟩) x0_2.length co11) yb3 := (by rw [hw, Nyb3.out]; exact HP38.1); clear HP38; have n0_ := zk (hp_); have n1_ := zk ((by rw [hw]; exact below_set (HB.out) GB34.out : Below w0.heap.size w0 w39)); have n2_ := zk (Kept.of_grown (S := (fun k_ => P0_ k_)) hg (by repeat (first | (with_reducible first | exact HK.out | apply Kept.alloc | apply Kept.drewN | apply Kept.drew) | exact HK.out)) (fun k_ e_ => (Wn.own HO_0.out k_ e_))); clear HO_0; clear HB; clear HK; have HO_0 := n0_; have HB := n1_; have HK := n2_; clear n0_ n1_ n2_; clear hg hw hp_)))
 go_loopg [10, 140] k2 (fun kq v10 ve0 w' => ∃ (x0_3 : List Int) (x10_3 : Int) (xe0_3 : Int), v10 = .int .u64 x10_3 ∧ ve0 = .int .i64 xe0_3 ∧ Aside0 (nat_step.l2 kq x0_3 l1 (l1.length : Int) x7_9 x10_3 (l1.length : Int) xe0_3 = some (r1, r2)) ∧ Aside0 (kq ≤ k2) ∧ Aside0 (Wn gW capW preW postW w' w0.heap.size (fun k_ => (P0_ k_ ∨ w.heap.size ≤ k_)) (.slice (some ⟨gW, preW.length, none⟩) x0_2.length co11) x0_3) ∧ Aside0 (Kept w w' (fun k_ => P0_ k_)) ∧ Aside0 (Below w0.heap.size w0 w'))
 case atStart => exact ⟨(yb3), (0), (0), zF, zF, H', ⟨Nat.le_refl _⟩, ⟨by (try simp only [hl0_2]); (with_reducible repeat (first | apply Wn.alloc | apply Wn.drewN | apply Wn.drew)); exact HO_0.out⟩, ⟨by repeat (first | (with_reducible first | exact HK.out | apply Kept.alloc | apply Kept.drewN | apply Kept.drew) | exact HK.out)⟩, ⟨zB HB.out⟩⟩
 clear H'
 (try clear c3);(try clear c3b0);(try clear c3b1);(try clear c4);(try clear c4b0);(try clear c4b1);(try clear c6b0);(try clear c7b0);(try clear c8b0);(try clear c9);(try clear c9b0);(try clear c9b1);(try clear c12b0);(try clear c13);(try clear c13b0);(try clear c15b0);(try clear c16b0);(try clear c18b0);(try clear c19b0);(try clear c20b0);(try clear c21);(try clear c21b0);(try clear c23b0);(try clear c24b0);(try clear c25);(try clear c25b0);(try clear c26b0);(try clear c27);(try clear c27b0);(try clear c28);(try clear c28b0);(try clear p29);(try clear q29);(try clear c32);(try clear c32b0);(try clear c32b1);(try clear c33);(try clear c33b0);(try clear c33b1);(try clear p34);(try clear q34);(try clear c35);(try clear c35b0);(try clear c35b1);(try clear hxa1_0);(try clear hxa2_0);(try clear hxa3_0);(try clear hxa4_0);(try clear hxa5_0);(try clear hxa6_0);(try clear hxa7_0);(try clear hxa8_0);(try clear hxa9_0);(try clear hxb0_0);(try clear hxb2_0);(try clear hx29_0);(try clear hx34_0);(try clear pa1);(try clear pa2);(try clear pa3);(try clear pa4);(try clear pa5);(try clear pa6);(try clear pa7);(try clear pa8);(try clear pa9);(try clear pb0);(try clear pb2);(try clear qa1);(try clear qa2);(try clear qa3);(try clear qa4);(try clear qa5);(try clear qa6);(try clear qa7);(try clear qa8);(try clear qa9);(try clear qb0);(try clear qb2)
 obtain ⟨x0_3, x10_3, xe0_3, rfl, rfl, HA, HK3, HO_0, HK, HB⟩ := hrel
 have hl0_3 := (Wn.reads' HO_0.out).1
 rw [hl0_3] at HO_0
 (try simp only [hl0_3])
 cases gk with | zero => exact absurd HA.out (by simp [nat_step.l2]) | succ k3 => ?_
 have H := HA.out
 clear HA
 simp only [nat_step.l2] at H
 replace H := zi H
 rcases H with ⟨c40, H⟩ | ⟨c40, H⟩
 · have c40b0 := decide_eq_true c40
   (try (have c40h0 := c40b0; simp only [hl0_2, hl0_3] at c40h0))
   clear c40
   replace H := zgd H
   obtain ⟨c41b0, H⟩ := H
   replace H := zg H
   obtain ⟨c42, H⟩ := H
   have c42b0 := decide_eq_true c42
   (try (have c42h0 := c42b0; simp only [hl0_2, hl0_3] at c42h0))
   clear c42
   replace H := zg H
   obtain ⟨c43, H⟩ := H
   have c43b0 := decide_eq_true c43
   (try (have c43h0 := c43b0; simp only [hl0_2, hl0_3] at c43h0))
   clear c43
   obtain ⟨yb6, hyb6⟩ : ∃ y_ : List Int, y_ = (x0_3.set (xe0_3 : Int).toNat ((IntKind.u64.wrap ((IntKind.u64.wrap ((IntKind.u64.wrap (rd x0_3 xe0_3)) + (IntKind.u64.wrap (rd l1 xe0_3)))) + x10_3)) % 4294967296)) := ⟨_, rfl⟩
   replace H : (nat_step.l2 k3 yb6 l1 (l1.length : Int) x7_9 ((IntKind.u64.wrap ((IntKind.u64.wrap ((IntKind.u64.wrap (rd x0_3 xe0_3)) + (IntKind.u64.wrap (rd l1 xe0_3)))) + x10_3)) / 4294967296) (l1.length : Int) (wrap64 (xe0_3 + 1))) = some (r1, r2) := zY hyb6 H
   have Nyb6 := zk hyb6
   clear hyb6
   have H' := zk H
   clear H
   have pb4 : 0 ≤ (xe0_3 : Int) := zd
   have qb4 : xe0_3 < (x0_3.length : Int) := zd
   obtain ⟨adb4, eb4, hxb4_0⟩ := Kd.at_int (Wn.reads' HO_0.out).2.2 xe0_3 pb4 qb4
   obtain rfl : (⟨gW, preW.length, none⟩ : Addr) = adb4 := (by injection eb4)
   (first | simp only [add_at] at hxb4_0 | simp only [add_at] at hxb4_0 | simp only [Addr.add, Nat.zero_add] at hxb4_0 | skip)
   replace pb4 := eq_true pb4
   replace qb4 := eq_true qb4
   have pb5 : 0 ≤ (xe0_3 : Int) := zd
   have qb5 : xe0_3 < (l1.length : Int) := zd
   obtain ⟨adb5, eb5, hxb5_0⟩ := Kd.at_int (Kd.C_kept_now HR1.out HK.out) xe0_3 pb5 qb5
   obtain rfl : ada3 = adb5 := (by injection eb5)
   replace pb5 := eq_true pb5
   replace qb5 := eq_true qb5
   have p44 : 0 ≤ (xe0_3 : Int) := zd
   have q44 : (xe0_3 : Int) < ((x0_3.length : Int) : Int) := zd
   obtain ⟨hx44_0, hf44_0⟩ := Wn.celln HO_0.out (xe0_3 : Int) p44 q44
   replace p44 := eq_true p44
   replace q44 := eq_true q44
   obtain ⟨hy45_, hz45_⟩ := Wn.celln HO_0.out (xe0_3 : Int) zd zd
   have HP45 := Wn.putg HO_0.out (xe0_3 : Int) zd zd ((IntKind.u64.wrap ((IntKind.u64.wrap ((IntKind.u64.wrap (rd x0_3 xe0_3)) + (IntKind.u64.wrap (rd l1 xe0_3)))) + x10_3)) % 4294967296)
   go_wp2_with (first | ((with_reducible refine gate_store (t := 97) (p := 160) rfl ?_); (try (rw [drewN_self wr]; generalize hq_ : World.drewN wr _ = wr; have n0_ := zk (Wn.at_ hq_ HO_0.out); have n1_ := zk (kept_at hq_ HK.out); have n2_ := zk (below_at hq_ HB.out); clear hq_ HO_0 HK HB; have HO_0 := n0_; have HK := n1_; have HB := n2_; clear n0_ n1_ n2_; (try (obtain ⟨hy45_, hz45_⟩ := Wn.celln HO_0.out (xe0_3 : Int) zd zd)); (try (have HP45 := Wn.putg HO_0.out (xe0_3 : Int) zd zd ((IntKind.u64.wrap ((IntKind.u64.wrap ((IntKind.u64.wrap (rd x0_3 xe0_3)) + (IntKind.u64.wrap (rd l1 xe0_3)))) + x10_3)) % 4294967296))))); refine store_event (t := 97) (p := 160) (v := ?vo_w46) (w1 := (wr.setCell ⟨gW, preW.length + (xe0_3 : Int).toNat, none⟩ (.int .u32 ((IntKind.u64.wrap ((IntKind.u64.wrap ((IntKind.u64.wrap (rd x0_3 xe0_3)) + (IntKind.u64.wrap (rd l1 xe0_3)))) + x10_3)) % 4294967296)))) ?hg ?ho ?hn ?hr ?_; (case ho => rfl); (case hg => rfl); (case hn => rfl); (case hr => first | (go_simp; done) | (go_simp; rfl)); intro w46 hw; have hg : wr.grownBy w46 (some gW) := (by rw [hw]; exact HP45.2); have hp_ : Wn gW capW preW postW w46 w0.heap.size (fun k_ => (P0_ k_ ∨ w.heap.size ≤ k_)) (.slice (some ⟨gW, preW.length, none⟩) x0_3.length co11) yb6 := (by rw [hw, Nyb6.out]; exact HP45.1); clear HP45; replace HB := zk ((by rw [hw]; exact below_set (HB.out) GB34.out : Below w0.heap.size w0 w46)); replace HK := zk (Kept.of_grown (S := (fun k_ => P0_ k_)) hg (by repeat (first | (with_reducible first | exact HK.out | apply Kept.alloc | apply Kept.drewN | apply Kept.drew) | exact HK.out)) (fun k_ e_ => (Wn.own HO_0.out k_ e_))); replace HO_0 := zk (hp_); clear hg hw hp_))
   repeat (go_quiet (first | ((with_reducible refine gate_store (t := 97) (p := 160) rfl ?_); (try (rw [drewN_self wr]; generalize hq_ : World.drewN wr _ = wr; have n0_ := zk (Wn.at_ hq_ HO_0.out); have n1_ := zk (kept_at hq_ HK.out); have n2_ := zk (below_at hq_ HB.out); clear hq_ HO_0 HK HB; have HO_0 := n0_; have HK := n1_; have HB := n2_; clear n0_ n1_ n2_; (try (obtain ⟨hy45_, hz45_⟩ := Wn.celln HO_0.out (xe0_3 : Int) zd zd)); (try (have HP45 := Wn.putg HO_0.out (xe0_3 : Int) zd zd ((IntKind.u64.wrap ((IntKind.u64.wrap ((IntKind.u64.wrap (rd x0_3 xe0_3)) + (IntKind.u64.wrap (rd l1 xe0_3)))) + x10_3)) % 4294967296))))); refine store_event (t := 97) (p := 160) (v := ?vo_w46) (w1 := (wr.setCell ⟨gW, preW.length + (xe0_3 : Int).toNat, none⟩ (.int .u32 ((IntKind.u64.wrap ((IntKind.u64.wrap ((IntKind.u64.wrap (rd x0_3 xe0_3)) + (IntKind.u64.wrap (rd l1 xe0_3)))) + x10_3)) % 4294967296)))) ?hg ?ho ?hn ?hr ?_; (case ho => rfl); (case hg => rfl); (case hn => rfl); (case hr => first | (go_simp; done) | (go_simp; rfl)); intro w46 hw; have hg : wr.grownBy w46 (some gW) := (by rw [hw]; exact HP45.2); have hp_ : Wn gW capW preW postW w46 w0.heap.size (fun k_ => (P0_ k_ ∨ w.heap.size ≤ k_)) (.slice (some ⟨gW, preW.length, none⟩) x0_3.length co11) yb6 := (by rw [hw, Nyb6.out]; exact HP45.1); clear HP45; replace HB := zk ((by rw [hw]; exact below_set (HB.out) GB34.out : Below w0.heap.size w0 w46)); replace HK := zk (Kept.of_grown (S := (fun k_ => P0_ k_)) hg (by repeat (first | (with_reducible first | exact HK.out | apply Kept.alloc | apply Kept.drewN | apply Kept.drew) | exact HK.out)) (fun k_ e_ => (Wn.own HO_0.out k_ e_))); replace HO_0 := zk (hp_); clear hg hw hp_)); try go_wp2_with (first | ((with_reducible refine gate_store (t := 97) (p := 160) rfl ?_); (try (rw [drewN_self wr]; generalize hq_ : World.drewN wr _ = wr; have n0_ := zk (Wn.at_ hq_ HO_0.out); have n1_ := zk (kept_at hq_ HK.out); have n2_ := zk (below_at hq_ HB.out); clear hq_ HO_0 HK HB; have HO_0 := n0_; have HK := n1_; have HB := n2_; clear n0_ n1_ n2_; (try (obtain ⟨hy45_, hz45_⟩ := Wn.celln HO_0.out (xe0_3 : Int) zd zd)); (try (have HP45 := Wn.putg HO_0.out (xe0_3 : Int) zd zd ((IntKind.u64.wrap ((IntKind.u64.wrap ((IntKind.u64.wrap (rd x0_3 xe0_3)) + (IntKind.u64.wrap (rd l1 xe0_3)))) + x10_3)) % 4294967296))))); refine store_event (t := 97) (p := 160) (v := ?vo_w46) (w1 := (wr.setCell ⟨gW, preW.length + (xe0_3 : Int).toNat, none⟩ (.int .u32 ((IntKind.u64.wrap ((IntKind.u64.wrap ((IntKind.u64.wrap (rd x0_3 xe0_3)) + (IntKind.u64.wrap (rd l1 xe0_3)))) + x10_3)) % 4294967296)))) ?hg ?ho ?hn ?hr ?_; (case ho => rfl); (case hg => rfl); (case hn => rfl); (case hr => first | (go_simp; done) | (go_simp; rfl)); intro w46 hw; have hg : wr.grownBy w46 (some gW) := (by rw [hw]; exact HP45.2); have hp_ : Wn gW capW preW postW w46 w0.heap.size (fun k_ => (P0_ k_ ∨ w.heap.size ≤ k_)) (.slice (some ⟨gW, preW.length, none⟩) x0_3.length co11) yb6 := (by rw [hw, Nyb6.out]; exact HP45.1); clear HP45; have n0_ := zk (hp_); have n1_ := zk ((by rw [hw]; exact below_set (HB.out) GB34.out : Below w0.heap.size w0 w46)); have n2_ := zk (Kept.of_grown (S := (fun k_ => P0_ k_)) hg (by repeat (first | (with_reducible first | exact HK.out | apply Kept.alloc | apply Kept.drewN | apply Kept.drew) | exact HK.out)) (fun k_ e_ => (Wn.own HO_0.out k_ e_))); clear HO_0; clear HB; clear HK; have HO_0 := n0_; have HB := n1_; have HK := n2_; clear n0_ n1_ n2_; clear hg hw hp_)))
   (try simp only [← hl0_3])
   (try simp only [add_at] at *)
   (try simp only [add_plain] at *)
   go_roundg k3
   case measure => have := HJ9.out; have := HK2.out; have := HK3.out; omega
   case rel => exact ⟨(yb6), ((IntKind.u64.wrap ((IntKind.u64.wrap ((IntKind.u64.wrap (rd x0_3 xe0_3)) + (IntKind.u64.wrap (rd l1 xe0_3)))) + x10_3)) / 4294967296), (wrap64 (xe0_3 + 1)), zF, zF, H', ⟨by have := HJ9.out; have := HK2.out; have := HK3.out; omega⟩, ⟨by (try simp only [hl0_2]); (try simp only [hl0_3]); (with_reducible repeat (first | apply Wn.alloc | apply Wn.drewN | apply Wn.drew)); exact HO_0.out⟩, ⟨by repeat (first | (with_reducible first | exact HK.out | apply Kept.alloc | apply Kept.drewN | apply Kept.drew) | exact HK.out)⟩, ⟨zB HB.out⟩⟩
 have c40b0 := decide_eq_false c40
 (try (have c40h0 := c40b0; simp only [hl0_2, hl0_3] at c40h0))
 clear c40
 replace H := zg H
 obtain ⟨c47, H⟩ := H
 have c47b0 := decide_eq_true c47
 (try (have c47h0 := c47b0; simp only [hl0_2, hl0_3] at c47h0))
 have c47b1 : decide (0 ≤ l1.length) = true := decide_eq_true (by omega)
 (try (have c47h1 := c47b1; simp only [hl0_2, hl0_3] at c47h1))
 clear c47
 replace H := zg H
 obtain ⟨c48, H⟩ := H
 have c48b0 := decide_eq_true c48
 (try (have c48h0 := c48b0; simp only [hl0_2, hl0_3] at c48h0))
 have c48b1 : decide (l1.length < x0_3.length) = true := decide_eq_true (Int.ofNat_lt.mp c48)
 (try (have c48h1 := c48b1; simp only [hl0_2, hl0_3] at c48h1))
 clear c48
 obtain ⟨yb8, hyb8⟩ : ∃ y_ : List Int, y_ = (x0_3.set ((l1.length : Int) : Int).toNat (((rd x0_3 (l1.length : Int)) + ((x10_3) % 4294967296)) % 4294967296)) := ⟨_, rfl⟩
 replace H : (some ((IntKind.u64.wrap (x7_9 - 1)) % 4294967296, yb8)) = some (r1, r2) := zY hyb8 H
 have Nyb8 := zk hyb8
 clear hyb8
 simp only [Option.some.injEq, Prod.mk.injEq] at H
 obtain ⟨rfl, rfl⟩ := H
 have pb7 : 0 ≤ ((l1.length : Int) : Int) := zd
 have qb7 : (l1.length : Int) < (x0_3.length : Int) := zd
 obtain ⟨adb7, eb7, hxb7_0⟩ := Kd.at_int (Wn.reads' HO_0.out).2.2 (l1.length : Int) pb7 qb7
 obtain rfl : (⟨gW, preW.length, none⟩ : Addr) = adb7 := (by injection eb7)
 (first | simp only [add_at] at hxb7_0 | simp only [add_at] at hxb7_0 | simp only [Addr.add, Nat.zero_add] at hxb7_0 | skip)
 (try simp only [Go.IntWalk.toNatUp] at hxb7_0)
 (try simp only [hl0_2, hl0_3] at pb7)
 (try simp only [hl0_2, hl0_3] at qb7)
 (try simp only [hl0_2, hl0_3] at hxb7_0)
 replace pb7 := eq_true pb7
 replace qb7 := eq_true qb7
 have p49 : 0 ≤ ((l1.length : Int) : Int) := zd
 have q49 : ((l1.length : Int) : Int) < ((x0_3.length : Int) : Int) := zd
 obtain ⟨hx49_0, hf49_0⟩ := Wn.celln HO_0.out ((l1.length : Int) : Int) p49 q49
 replace p49 := eq_true p49
 replace q49 := eq_true q49
 obtain ⟨hy50_, hz50_⟩ := Wn.celln HO_0.out ((l1.length : Int) : Int) zd zd
 (try simp only [Go.IntWalk.toNatUp] at hy50_ hz50_)
 have HP50 := Wn.putg HO_0.out ((l1.length : Int) : Int) zd zd (((rd x0_3 (l1.length : Int)) + ((x10_3) % 4294967296)) % 4294967296)
 go_wp2_with (first | ((with_reducible refine gate_store (t := 97) (p := 171) rfl ?_); (try (rw [drewN_self wr]; generalize hq_ : World.drewN wr _ = wr; have n0_ := zk (Wn.at_ hq_ HO_0.out); have n1_ := zk (kept_at hq_ HK.out); have n2_ := zk (below_at hq_ HB.out); clear hq_ HO_0 HK HB; have HO_0 := n0_; have HK := n1_; have HB := n2_; clear n0_ n1_ n2_; (try (obtain ⟨hy50_, hz50_⟩ := Wn.celln HO_0.out ((l1.length : Int) : Int) zd zd)); (try (try simp only [Go.IntWalk.toNatUp] at hy50_ hz50_)); (try (have HP50 := Wn.putg HO_0.out ((l1.length : Int) : Int) zd zd (((rd x0_3 (l1.length : Int)) + ((x10_3) % 4294967296)) % 4294967296))))); refine store_event (t := 97) (p := 171) (v := ?vo_w51) (w1 := (wr.setCell ⟨gW, preW.length + ((l1.length : Int) : Int).toNat, none⟩ (.int .u32 (((rd x0_3 (l1.length : Int)) + ((x10_3) % 4294967296)) % 4294967296)))) ?hg ?ho ?hn ?hr ?_; (case ho => rfl); (case hg => rfl); (case hn => rfl); (case hr => first | (go_simp; done) | (go_simp; rfl)); intro w51 hw; have hg : wr.grownBy w51 (some gW) := (by rw [hw]; exact HP50.2); have hp_ : Wn gW capW preW postW w51 w0.heap.size (fun k_ => (P0_ k_ ∨ w.heap.size ≤ k_)) (.slice (some ⟨gW, preW.length, none⟩) x0_3.length co11) yb8 := (by rw [hw, Nyb8.out]; exact HP50.1); clear HP50; replace HB := zk ((by rw [hw]; exact below_set (HB.out) GB34.out : Below w0.heap.size w0 w51)); replace HK := zk (Kept.of_grown (S := (fun k_ => P0_ k_)) hg (by repeat (first | (with_reducible first | exact HK.out | apply Kept.alloc | apply Kept.drewN | apply Kept.drew) | exact HK.out)) (fun k_ e_ => (Wn.own HO_0.out k_ e_))); replace HO_0 := zk (hp_); clear hg hw hp_))
 repeat (go_quiet (first | ((with_reducible refine gate_store (t := 97) (p := 171) rfl ?_); (try (rw [drewN_self wr]; generalize hq_ : World.drewN wr _ = wr; have n0_ := zk (Wn.at_ hq_ HO_0.out); have n1_ := zk (kept_at hq_ HK.out); have n2_ := zk (below_at hq_ HB.out); clear hq_ HO_0 HK HB; have HO_0 := n0_; have HK := n1_; have HB := n2_; clear n0_ n1_ n2_; (try (obtain ⟨hy50_, hz50_⟩ := Wn.celln HO_0.out ((l1.length : Int) : Int) zd zd)); (try (try simp only [Go.IntWalk.toNatUp] at hy50_ hz50_)); (try (have HP50 := Wn.putg HO_0.out ((l1.length : Int) : Int) zd zd (((rd x0_3 (l1.length : Int)) + ((x10_3) % 4294967296)) % 4294967296))))); refine store_event (t := 97) (p := 171) (v := ?vo_w51) (w1 := (wr.setCell ⟨gW, preW.length + ((l1.length : Int) : Int).toNat, none⟩ (.int .u32 (((rd x0_3 (l1.length : Int)) + ((x10_3) % 4294967296)) % 4294967296)))) ?hg ?ho ?hn ?hr ?_; (case ho => rfl); (case hg => rfl); (case hn => rfl); (case hr => first | (go_simp; done) | (go_simp; rfl)); intro w51 hw; have hg : wr.grownBy w51 (some gW) := (by rw [hw]; exact HP50.2); have hp_ : Wn gW capW preW postW w51 w0.heap.size (fun k_ => (P0_ k_ ∨ w.heap.size ≤ k_)) (.slice (some ⟨gW, preW.length, none⟩) x0_3.length co11) yb8 := (by rw [hw, Nyb8.out]; exact HP50.1); clear HP50; replace HB := zk ((by rw [hw]; exact below_set (HB.out) GB34.out : Below w0.heap.size w0 w51)); replace HK := zk (Kept.of_grown (S := (fun k_ => P0_ k_)) hg (by repeat (first | (with_reducible first | exact HK.out | apply Kept.alloc | apply Kept.drewN | apply Kept.drew) | exact HK.out)) (fun k_ e_ => (Wn.own HO_0.out k_ e_))); replace HO_0 := zk (hp_); clear hg hw hp_)); try go_wp2_with (first | ((with_reducible refine gate_store (t := 97) (p := 171) rfl ?_); (try (rw [drewN_self wr]; generalize hq_ : World.drewN wr _ = wr; have n0_ := zk (Wn.at_ hq_ HO_0.out); have n1_ := zk (kept_at hq_ HK.out); have n2_ := zk (below_at hq_ HB.out); clear hq_ HO_0 HK HB; have HO_0 := n0_; have HK := n1_; have HB := n2_; clear n0_ n1_ n2_; (try (obtain ⟨hy50_, hz50_⟩ := Wn.celln HO_0.out ((l1.length : Int) : Int) zd zd)); (try (try simp only [Go.IntWalk.toNatUp] at hy50_ hz50_)); (try (have HP50 := Wn.putg HO_0.out ((l1.length : Int) : Int) zd zd (((rd x0_3 (l1.length : Int)) + ((x10_3) % 4294967296)) % 4294967296))))); refine store_event (t := 97) (p := 171) (v := ?vo_w51) (w1 := (wr.setCell ⟨gW, preW.length + ((l1.length : Int) : Int).toNat, none⟩ (.int .u32 (((rd x0_3 (l1.length : Int)) + ((x10_3) % 4294967296)) % 4294967296)))) ?hg ?ho ?hn ?hr ?_; (case ho => rfl); (case hg => rfl); (case hn => rfl); (case hr => first | (go_simp; done) | (go_simp; rfl)); intro w51 hw; have hg : wr.grownBy w51 (some gW) := (by rw [hw]; exact HP50.2); have hp_ : Wn gW capW preW postW w51 w0.heap.size (fun k_ => (P0_ k_ ∨ w.heap.size ≤ k_)) (.slice (some ⟨gW, preW.length, none⟩) x0_3.length co11) yb8 := (by rw [hw, Nyb8.out]; exact HP50.1); clear HP50; have n0_ := zk (hp_); have n1_ := zk ((by rw [hw]; exact below_set (HB.out) GB34.out : Below w0.heap.size w0 w51)); have n2_ := zk (Kept.of_grown (S := (fun k_ => P0_ k_)) hg (by repeat (first | (with_reducible first | exact HK.out | apply Kept.alloc | apply Kept.drewN | apply Kept.drew) | exact HK.out)) (fun k_ e_ => (Wn.own HO_0.out k_ e_))); clear HO_0; clear HB; clear HK; have HO_0 := n0_; have HB := n1_; have HK := n2_; clear n0_ n1_ n2_; clear hg hw hp_)))
 go_ret
 exact ⟨by first | rfl | (simp [errW_none, errW_some] <;> rfl) | (simp only [← hji5]; first | rfl | (simp [errW_none, errW_some] <;> rfl)) | (simp [*, errW_none, errW_some] <;> rfl), (by first | exact (zW HO_0.out) | (simp only [hl0_2, hl0_3]; exact (zW HO_0.out))), zB HB.out, by repeat (first | (with_reducible first | exact HK.out | apply Kept.alloc | apply Kept.drewN | apply Kept.drew) | exact HK.out)⟩
def nat_long.T14 : Bool × List (List Nat × List Nat) := (true, [([], []), ([], []), ([], []), ([], []), ([2, 3], [2, 3]), ([4], [4]), ([5], [5]), ([], []), ([], []), ([8], [8]), ([7, 9], [7, 9]), ([10], [10]), ([11], [11]), ([12], [12]), ([6, 13], [6, 13]), ([], []), ([14, 15], [14, 15]), ([16], [16]), ([0, 1, 0, 1, 2, 3, 4, 5, 6, 7, 8, 9, 10, 11, 12, 13, 14, 15, 16, 17], [0, 1]), ([18, 17, 0, 1, 2, 3, 4, 5, 6, 7, 8, 9, 10, 11, 12, 13, 14, 15, 16, 17], [17, 18])])
def nat_long.B14 : List Nat := [0, 0, 0, 0, 12, 28, 60, 0, 0, 256, 896, 1920, 3968, 8064, 16380, 0, 65532, 131068, 262143, 524287]
theorem nat_long.tab14 : rtab .any (opsOf Try.f129 14) = nat_long.T14 := by kernel_rfl
theorem nat_long.bits14 : waitsOk nat_long.T14.2 nat_long.B14 = true := by kernel_rfl
set_option maxHeartbeats 8000000 in
set_option maxRecDepth 100000 in
theorem nat_long.calls (k : Nat) (A0 : Option Addr) (c0 : Nat) (l0 : List Int) (A1 : Option Addr) (c1 : Nat) (l1 : List Int) (r1 : List Int) (r2 : List Int) (w : World) (hr0 : Kd.C (Kd.int .u32) w A0 l0.length l0) (hc0 : l0.length ≤ c0) (hr1 : Kd.C (Kd.int .u32) w A1 l1.length l1) (hc1 : l1.length ≤ c1) (h : nat_long.f k l0 l1 = some (r1, r2)) :
    Calls Try.prog 129 #[.slice A0 l0.length c0, .slice A1 l1.length c1] w fun e w' => ∃ v0_ v1_ : Value, e = .returned (.tuple #[v0_, v1_]) ∧ Kd.R (Kd.int .u32) 97 w' w.heap.size (fun k_ => some k_ ≠ (v1_ : Value).ownBlock) v0_ r1 ∧ Kd.R (Kd.int .u32) 97 w' w.heap.size (fun k_ => some k_ ≠ (v0_ : Value).ownBlock) v1_ r2 ∧ Below w.heap.size w w' := by
 have HR0 := zk hr0
 have HC0 := zk hc0
 clear hr0 hc0
 have HR1 := zk hr1
 have HC1 := zk hc1
 clear hr1 hc1
 have HB := zk (Below.refl w.heap.size w)
 have H := h
 clear h
 unfold nat_long.f at H
 obtain ⟨ji3, hji3⟩ : ∃ j_ : Int, (wrap64 ((l1.length : Int) - 1)) = j_ := ⟨_, rfl⟩
 replace H : (if 0 ≤ (ji3) then (if (ji3) < (l1.length : Int) then ((bits_LeadingZeros32.f (rd l1 (ji3))).bind fun ta2 => ((nat_shift.f k l1 ta2).bind fun ta3 => ((nat_short.f k ta3).bind fun ta6 => ((nat_shift.f k l0 ta2).bind fun ta9 => (if 0 ≤ (wrap64 ((ta9.length : Int) - (ta6.length : Int))) then (if (wrap64 ((ta9.length : Int) - (ta6.length : Int)) : Int).toNat ≤ 70368744177664 then (nat_long.l0 k (List.replicate (wrap64 ((ta9.length : Int) - (ta6.length : Int)) : Int).toNat 0) ta2 ta6 ta9 (ta6.length : Int) (wrap64 ((wrap64 ((ta9.length : Int) - (ta6.length : Int))) - 1))) else (none)) else (none)))))) else (none)) else (none)) = some (r1, r2) := by first | (rw [hji3] at H; exact H) | (simp only [hji3] at H ⊢; exact H)
 have hji3w : (IntKind.i64.wrap ((l1.length : Int) - 1)) = ji3 := (i64_w _).trans hji3
 replace H := zgd H
 obtain ⟨c4b0, H⟩ := H
 replace H := zgd H
 obtain ⟨c5b0, H⟩ := H
 replace H := zb H
 obtain ⟨ta2, A6, H⟩ := H
 replace H := zb H
 obtain ⟨ta3, A7, H⟩ := H
 replace H := zb H
 obtain ⟨ta6, A8, H⟩ := H
 replace H := zb H
 obtain ⟨ta9, A9, H⟩ := H
 obtain ⟨ji10, hji10⟩ : ∃ j_ : Int, (wrap64 ((ta9.length : Int) - (ta6.length : Int))) = j_ := ⟨_, rfl⟩
 replace H : (if 0 ≤ (ji10) then (if (ji10 : Int).toNat ≤ 70368744177664 then (nat_long.l0 k (List.replicate (ji10 : Int).toNat 0) ta2 ta6 ta9 (ta6.length : Int) (wrap64 ((ji10) - 1))) else (none)) else (none)) = some (r1, r2) := by first | (rw [hji10] at H; exact H) | (simp only [hji10] at H ⊢; exact H)
 (try rw [hji10] at A6)
 (try rw [hji10] at A7)
 (try rw [hji10] at A8)
 (try rw [hji10] at A9)
 have hji10w : (IntKind.i64.wrap ((ta9.length : Int) - (ta6.length : Int))) = ji10 := (i64_w _).trans hji10
 replace H := zg H
 obtain ⟨c11, H⟩ := H
 have c11b0 := eq_true c11
 have c11b1 := decide_eq_true c11
 clear c11
 replace H := zg H
 obtain ⟨c12, H⟩ := H
 have c12b0 := eq_true c12
 have c12b1 := decide_eq_true c12
 clear c12
 obtain ⟨yb2, hyb2⟩ : ∃ y_ : List Int, y_ = (List.replicate (ji10 : Int).toNat 0) := ⟨_, rfl⟩
 replace H : (nat_long.l0 k yb2 ta2 ta6 ta9 (ta6.length : Int) (wrap64 ((ji10) - 1))) = some (r1, r2) := zY hyb2 H
 have Nyb2 := zk hyb2
 clear hyb2
 have H' := zk H
 clear H
 have pa1 : 0 ≤ ((ji3) : Int) := zd
 have qa1 : (ji3) < (l1.length : Int) := zd
 obtain ⟨ada1, ea1, hxa1_0⟩ := Kd.at_int HR1.out (ji3) pa1 qa1
 cases ea1
 replace pa1 := eq_true pa1
 replace qa1 := eq_true qa1
 go_enter Try.func129, Try.ntmps129
 go_wp2_with (first | ((with_reducible refine gC 138 ?_); refine goesL_ (some 18) rfl rfl Try.func138 (by kernel_rfl) rfl #[.int .u32 (rd l1 (ji3))] rfl (by (try simp only [List.map_toArray, List.map_cons, List.map_nil]); first | done | (simp only [hji3]; rfl) | rfl | (simp only [List.length_drop, List.length_take]; rfl)) ?_; (with_reducible refine (bits_LeadingZeros32.calls (rd l1 (ji3)) ta2 _ A6.out).mono ?_); rintro e w' ⟨rfl, ⟨nd, rfl⟩⟩; refine ⟨_, rfl, ?_⟩) | ((with_reducible refine gC 139 ?_); refine zG (some 21) Try.func139 #[.slice (some ada1) l1.length c1, .int .i64 ta2] ?_; (with_reducible refine (nat_shift.calls k _ _ l1 ta2 ta3 _ ?side1 ?side2 A7.out).mono ?_); (case side1 => exact zC HR1.out); (case side2 => exact HC1.out); rintro e w13 ⟨va4, rfl, ho0, hb⟩; refine ⟨_, rfl, ?_⟩; have HOa5 := yRl ho0 HB; replace HB := yS HB hb; (try clear hb ho0); obtain ⟨Ao14, co14, rfl⟩ := Kd.R_slice HOa5.out) | ((with_reducible refine gC 118 ?_); refine zG (some 22) Try.func118 #[.slice Ao14 ta3.length co14] ?_; (with_reducible refine (nat_short.calls k (fun k_ => some k_ = (.slice Ao14 ta3.length co14 : Value).ownBlock) _ _ ta3 ta6 _ ?side1 A8.out).mono ?_); (case side1 => exact Kd.R_V (Kd.R_tight rfl (HOa5.out))); rintro e w15 ⟨va7, rfl, ho0, hb⟩; refine ⟨_, rfl, ?_⟩; replace HOa5 := yRb HOa5 hb; have HOa8 := yVm ho0 HB; replace HB := yS HB hb; (try clear hb ho0)) | ((with_reducible refine gC 139 ?_); refine zG (some 25) Try.func139 #[.slice A0 l0.length c0, .int .i64 ta2] ?_; (with_reducible refine (nat_shift.calls k _ _ l0 ta2 ta9 _ ?side1 ?side2 A9.out).mono ?_); (case side1 => exact zC (Kd.C_below HR0.out HB.out)); (case side2 => exact HC0.out); rintro e w16 ⟨vb0, rfl, ho0, hb⟩; refine ⟨_, rfl, ?_⟩; replace HOa8 := yVe HOa8 ho0 hb; replace ho0 := yn ho0 HOa5; have HOb1 := yRl ho0 HB; replace HOa5 := yRe HOa5 ho0 hb; replace HB := yS HB hb; (try clear hb ho0); obtain ⟨Ao17, co17, rfl⟩ := Kd.V_slice HOa8.out; obtain ⟨Ao18, co18, rfl⟩ := Kd.R_slice HOb1.out) | ((with_reducible refine gate_dst (N := 32) rfl ?_); refine Kd.R_make (Kd.int .u32) _ 97 rfl (N := 32) rfl 29 _ _ rfl ji10 rfl rfl Try.underlying29 (.int .u32 0) 4 info97 rfl (by decide) (by omega) 0 (ok := fun _ => True) (okp := fun _ => True) rfl (fun _ hk => hk) trivial zd (Nat.le_trans (Nat.mul_le_mul_right _ (zd : ji10.toNat ≤ 70368744177664)) (by omega)) (Below.refl _ _) (Nat.le_refl _) ?_; intro vb3 w19 ho20 hb hg_ hnew_; clear hg_ hnew_; (first | rw [← Nyb2.out] at ho20 | (simp only [Int.reduceToNat] at ho20; rw [← Nyb2.out] at ho20)); replace HOa8 := yVe HOa8 ho20 hb; replace ho20 := yn ho20 HOa5; replace ho20 := yn ho20 HOb1; have HOb4 := yRl ho20 HB; replace HOa5 := yRe HOa5 ho20 hb; replace HOb1 := yRe HOb1 ho20 hb; replace HB := yS HB hb; clear hb ho20))
 go_loopg [10] k (fun kq v10 w' => ∃ (x4_1 : List Int) (x7_1 : List Int) (x8_1 : List Int) (x10_1 : Int), v10 = .int .i64 x10_1 ∧ Aside0 (nat_long.l0 kq x4_1 ta2 x7_1 x8_1 (ta6.length : Int) x10_1 = some (r1, r2)) ∧ Aside0 (kq ≤ k) ∧ Aside0 (Kd.R (Kd.int .u32) 97 w' w.heap.size (fun k_ => some k_ ≠ ((.slice Ao18 ta9.length co18) : Value).ownBlock) vb3 x4_1) ∧ Aside0 (Kd.V (Kd.int .u32) 97 w' w.heap.size (fun k_ => some k_ ≠ (vb3 : Value).ownBlock ∧ some k_ ≠ ((.slice Ao18 ta9.length co18) : Value).ownBlock) (.slice Ao17 ta6.length co17) x7_1) ∧ Aside0 (Kd.R (Kd.int .u32) 97 w' w.heap.size (fun k_ => some k_ ≠ (vb3 : Value).ownBlock) (.slice Ao18 ta9.length co18) x8_1) ∧ Aside0 (Below w.heap.size w w'))
 case atStart => exact ⟨(yb2), (ta6), (ta9), (wrap64 ((ji10) - 1)), (by first | rfl | (simp; done) | (simp only [← hji10] <;> (first | rfl | simp)) | (simp [*]; done)), H', ⟨Nat.le_refl _⟩, ⟨by (with_reducible repeat (first | apply Kd.R_alloc | apply Kd.R_drewN | apply Kd.R_drew)); exact Kd.R_mono HOb4.out (fun _ hk => hk.2)⟩, ⟨by (with_reducible repeat (first | apply Kd.V_alloc | apply Kd.V_drewN | apply Kd.V_drew)); exact Kd.V_mono HOa8.out (fun _ hk => ⟨hk.2, hk.1.2⟩)⟩, ⟨by (with_reducible repeat (first | apply Kd.R_alloc | apply Kd.R_drewN | apply Kd.R_drew)); exact Kd.R_mono HOb1.out (fun _ hk => hk.2)⟩, ⟨zB HB.out⟩⟩
 clear H'
 (try clear c4b0);(try clear c5b0);(try clear c11);(try clear c11b0);(try clear c11b1);(try clear c12);(try clear c12b0);(try clear c12b1);(try clear hxa1_0);(try clear pa1);(try clear qa1)
 obtain ⟨x4_1, x7_1, x8_1, x10_1, rfl, HA, HK1, HO_4, HO_7, HO_8, HB⟩ := hrel
 have hl7_1 := (Kd.V_reads' HO_7.out).1
 rw [hl7_1] at HO_7
 (try simp only [hl7_1])
 (try simp only [hl7_1] at HO_4)
 (try simp only [hl7_1] at HO_8)
 have hl8_1 := (Kd.R_reads' HO_8.out).1
 rw [hl8_1] at HO_8
 (try simp only [hl8_1])
 (try simp only [hl8_1] at HO_4)
 (try simp only [hl8_1] at HO_7)
 cases gk with | zero => exact absurd HA.out (by simp [nat_long.l0]) | succ k1 => ?_
 have H := HA.out
 clear HA
 simp only [nat_long.l0] at H
 replace H := zi H
 rcases H with ⟨c21, H⟩ | ⟨c21, H⟩
 · have c21b0 : decide (0 ≤ x10_1) = true := decide_eq_true c21
   clear c21
   replace H := zg H
   obtain ⟨c22, H⟩ := H
   have c22b0 := eq_true c22
   have c22b1 := decide_eq_true c22
   clear c22
   replace H := zg H
   obtain ⟨c23, H⟩ := H
   have c23b0 := eq_true c23
   have c23b1 := decide_eq_true c23
   replace H := zg H
   obtain ⟨c24, H⟩ := H
   have c24b0 := eq_true c24
   have c24b1 := decide_eq_true c24
   obtain ⟨yb5, hyb5⟩ : ∃ y_ : List Int, y_ = ((x8_1.take ((wrap64 ((wrap64 (x10_1 + (ta6.length : Int))) + 1)) : Int).toNat).drop (x10_1 : Int).toNat) := ⟨_, rfl⟩
   replace H : ((nat_step.f k1 yb5 x7_1).bind fun btb9 => (if x10_1 < (x4_1.length : Int) then (nat_long.l0 k1 (x4_1.set (x10_1 : Int).toNat btb9.1) ta2 x7_1 (x8_1.take (x10_1 : Int).toNat ++ (btb9.2 ++ x8_1.drop ((wrap64 ((wrap64 (x10_1 + (ta6.length : Int))) + 1)) : Int).toNat)) (ta6.length : Int) (wrap64 (x10_1 - 1))) else (none))) = some (r1, r2) := zY hyb5 H
   have Nyb5 := zk hyb5
   clear hyb5
   replace H := zb H
   obtain ⟨⟨tb9, tc0⟩, A25, H⟩ := H
   dsimp only at H
   replace H := zg H
   obtain ⟨c26, H⟩ := H
   have c26b0 := decide_eq_true c26
   (try (have c26h0 := c26b0; simp only [hl7_1, hl8_1] at c26h0))
   clear c26
   obtain ⟨yc1, hyc1⟩ : ∃ y_ : List Int, y_ = (x4_1.set (x10_1 : Int).toNat tb9) := ⟨_, rfl⟩
   replace H : (nat_long.l0 k1 yc1 ta2 x7_1 (x8_1.take (x10_1 : Int).toNat ++ (tc0 ++ x8_1.drop ((wrap64 ((wrap64 (x10_1 + (ta6.length : Int))) + 1)) : Int).toNat)) (ta6.length : Int) (wrap64 (x10_1 - 1))) = some (r1, r2) := zY hyc1 H
   obtain ⟨y8, hy8⟩ : ∃ y_ : List Int, y_ = (x8_1.take (x10_1 : Int).toNat ++ (tc0 ++ x8_1.drop ((wrap64 ((wrap64 (x10_1 + (ta6.length : Int))) + 1)) : Int).toNat)) := ⟨_, rfl⟩
   rw [← hy8] at H
   have Ny8 := zk hy8
   clear hy8
   have Nyc1 := zk hyc1
   clear hyc1
   have H' := zk H
   clear H
   have q28 : ((wrap64 ((wrap64 (x10_1 + (ta6.length : Int))) + 1)) : Int) ≤ ((x8_1.length : Int) : Int) := zd
   obtain ⟨i028, hi028, _, hsz28, _⟩ := info_parts info97
   have hroom28 : x8_1.length ≤ co18 := (Kd.R_reads' HO_8.out).2.1
   have hC28 : Kd.C (Kd.int .u32) _ Ao18 x8_1.length x8_1 := (Kd.R_reads' HO_8.out).2.2
   have ql28 : (x10_1 : Int) ≤ ((wrap64 ((wrap64 (x10_1 + (ta6.length : Int))) + 1)) : Int) := zd
   have q028 : (0 : Int) ≤ (x10_1 : Int) := zd
   have hcut28 := cut_mid (P := Try.prog) 29 97 .i64 .i64 Try.underlying29 hi028 1 hsz28 Ao18 x8_1.length co18 x10_1 (wrap64 ((wrap64 (x10_1 + (ta6.length : Int))) + 1)) q028 ql28 q28 hroom28
   have hr28 := Kd.C_mid (lo := (x10_1 : Int).toNat) (hi := ((wrap64 ((wrap64 (x10_1 + (ta6.length : Int))) + 1)) : Int).toNat) (c := co18) hC28 (by omega) (by omega) hroom28
   obtain ⟨A28, hA28⟩ : ∃ A1, A1 = (if co18 = (x10_1 : Int).toNat then Ao18 else (Ao18 : Option Addr).map (·.add ((x10_1 : Int).toNat * 1))) := ⟨_, rfl⟩
   obtain ⟨c28, hc28⟩ : ∃ c1, c1 = co18 - (x10_1 : Int).toNat := ⟨_, rfl⟩
   have hy28 : yb5.length = ((wrap64 ((wrap64 (x10_1 + (ta6.length : Int))) + 1)) : Int).toNat - (x10_1 : Int).toNat := (by rw [Nyb5.out, List.length_drop, List.length_take] <;> omega)
   rw [show ((x8_1).take ((wrap64 ((wrap64 (x10_1 + (ta6.length : Int))) + 1)) : Int).toNat).drop (x10_1 : Int).toNat = yb5 from Nyb5.out.symm] at hr28
   replace hr28 : Kd.C (Kd.int .u32) _ A28 yb5.length yb5 := (by rw [hA28]; exact hr28)
   rw [← hy28, ← hA28, ← hc28] at hcut28
   have HRb8 := zk hr28
   have HCb8 := zk (show yb5.length ≤ c28 from by rw [hy28, hc28]; exact Nat.sub_le_sub_right (Nat.le_trans (by omega) hroom28) _)
   clear hr28 hC28 hroom28 hi028 hsz28 hc28
   have KY28 := zk hy28
   have KA28 := zk hA28
   clear hy28 hA28
   have KL28 := zk (show ((wrap64 ((wrap64 (x10_1 + (ta6.length : Int))) + 1)) : Int).toNat ≤ x8_1.length from by omega)
   have KM28 := zk (show (x10_1 : Int).toNat ≤ ((wrap64 ((wrap64 (x10_1 + (ta6.length : Int))) + 1)) : Int).toNat from by omega)
   replace q28 := eq_true q28
   (try simp only [hl7_1] at hcut28)
   have HP8 := zk (nat_step.pos A25.out)
   obtain ⟨g8, cap8, e8, _, _, _, _⟩ := Kd.R_form HO_8.out (by have h1_ := HP8.out; have h2_ := KY28.out; have h3_ := KL28.out; omega)
   have HA18 : Aside0 (Ao18 = some ⟨g8, 0, none⟩) := ⟨by injection e8⟩
   clear e8
   go_wp2_with (first | ((with_reducible refine gC 140 ?_); refine zG (some 52) Try.func140 #[.slice A28 yb5.length c28, .slice Ao17 x7_1.length co17] ?_; (with_reducible refine (nat_step.calls k1 g8 co18 (x8_1.take (x10_1 : Int).toNat) (x8_1.drop ((wrap64 ((wrap64 (x10_1 + (ta6.length : Int))) + 1)) : Int).toNat) (fun k_ => some k_ = (.slice Ao18 x8_1.length co18 : Value).ownBlock) (.slice A28 yb5.length c28) yb5 _ _ x7_1 tb9 tc0 w _ ?side1 ?side2 ?side3 ?side4 A25.out).mono ?_); (case side1 => repeat (first | (with_reducible first | exact HB.out | apply below_alloc | apply pw_below_drewN | apply below_drew1) | exact HB.out)); (case side2 => exact Wn.make (Kd.R_tight rfl HO_8.out) HA18.out KA28.out HCb8.out Nyb5.out KM28.out KL28.out HP8.out); (case side3 => exact Kd.C_kept_ownV (HO_7.out) (fun k_ hk_ hs_ => (hk_.2) hs_)); (case side4 => exact (Kd.V_reads' HO_7.out).2.1); rintro e w29 ⟨rfl, hy0, hb, hkp⟩; refine ⟨_, rfl, ?_⟩; have n0_ := zk (Kd.R_mono (ok' := fun k_ => some k_ ≠ (.slice Ao18 x8_1.length co18 : Value).ownBlock) (Kd.R_keptB (HO_4.out) hkp (fun k_ hk_ hs_ => (hk_) hs_)) (fun k_ hk_ => hk_.1)); have n1_ := zk (Kd.V_mono (ok' := fun k_ => some k_ ≠ (vb3 : Value).ownBlock ∧ some k_ ≠ (.slice Ao18 x8_1.length co18 : Value).ownBlock) (Kd.V_keptB (HO_7.out) hkp (fun k_ hk_ hs_ => (hk_.2) hs_)) (fun k_ hk_ => ⟨hk_.1.1, hk_.1.2⟩)); have n2_ : Aside0 (Kd.R (Kd.int .u32) 97 w29 w.heap.size _ (.slice Ao18 x8_1.length co18) y8) := zk (by rw [Ny8.out]; exact Kd.R_reok rfl (Wn.back hy0 HA18.out (by have h1_ := (Wn.reads' hy0).1; have h2_ := KY28.out; have h3_ := KL28.out; have h4_ := KM28.out; rw [List.length_append, List.length_append, List.length_take, List.length_drop]; omega)) (fun k_ e_ => HO_8.out.1 k_ e_)); have n3_ := zk (hb); clear HO_4; clear HO_7; clear HO_8; clear HB; have HO_4 := n0_; have HO_7 := n1_; have HO_8 := n2_; have HB := n3_; clear n0_ n1_ n2_ n3_; (try clear hb); (try clear hkp); (try clear hy0); have p27 : 0 ≤ (x10_1 : Int) := zd; have q27 : (x10_1 : Int) < ((x4_1.length : Int) : Int) := zd; obtain ⟨go27, co27, eo27, gb27, gl27, cl27, HG27⟩ := Kd.R_form HO_4.out (by omega); (first | cases eo27 | (injection eo27 with ea_ en_ ec_; (first | subst ea_ | (injection ea_ with ea_; subst ea_)); subst ec_; clear en_)); have GB27 := zk gb27; have GG27 := zk HG27; clear gb27 gl27 HG27; obtain ⟨hx27_0, hf27_0⟩ := Kd.R_celln 0 HO_4.out (x10_1 : Int) p27 q27; replace p27 := eq_true p27; replace q27 := eq_true q27; obtain ⟨hy30_, hz30_⟩ := Kd.R_celln 0 HO_4.out (x10_1 : Int) zd zd; have HP30 := Kd.R_putg HO_4.out (x10_1 : Int) tb9) | ((with_reducible refine gate_store (t := 97) (p := 53) rfl ?_); refine store_event (t := 97) (p := 53) (v := ?vo_w31) (w1 := (w29.setCell ⟨go27, (x10_1 : Int).toNat, none⟩ (.int .u32 tb9))) ?hg ?ho ?hn ?hr ?_; (case ho => rfl); (case hg => rfl); (case hn => rfl); (case hr => first | (go_simp; done) | (go_simp; rfl)); intro w31 hw; have hg : w29.grownBy w31 (some go27) := (by rw [hw]; exact HP30.2); have hp_ : Kd.R (Kd.int .u32) 97 w31 w.heap.size (fun k_ => some k_ ≠ (.slice Ao18 x8_1.length co18 : Value).ownBlock) (.slice (some ⟨go27, 0, none⟩) x4_1.length co27) yc1 := (by rw [hw, Nyc1.out]; exact HP30.1); clear HP30; replace HO_4 := zk (hp_); replace HO_7 := zk (Kd.V_afterv (v := (.slice (some ⟨go27, 0, none⟩) x4_1.length co27)) (v1 := (.slice (some ⟨go27, 0, none⟩) x4_1.length co27)) (ok := (fun k_ => some k_ ≠ (.slice Ao18 x8_1.length co18 : Value).ownBlock)) (by (with_reducible repeat (first | apply Kd.V_alloc | apply Kd.V_drewN | apply Kd.V_drew)); exact Kd.V_mono HO_7.out (fun _ hk => ⟨hk.2, hk.1⟩)) hg (.inl rfl)); replace HO_8 := zk (Kd.R_after (v := (.slice (some ⟨go27, 0, none⟩) x4_1.length co27)) (v1 := (.slice (some ⟨go27, 0, none⟩) x4_1.length co27)) (ok := (fun _ => True)) (by (with_reducible repeat (first | apply Kd.R_alloc | apply Kd.R_drewN | apply Kd.R_drew)); exact Kd.R_mono HO_8.out (fun _ hk => ⟨trivial, hk⟩)) hg (.inl rfl)); replace HB := zk ((by rw [hw]; exact below_set (HB.out) GB27.out : Below w.heap.size w w31)); clear hg hw hp_))
   (try simp only [← hl7_1, ← hl8_1])
   go_roundg k1
   case measure => have := HK1.out; omega
   case rel => exact ⟨(yc1), (x7_1), (y8), (wrap64 (x10_1 - 1)), zF, H', ⟨zo1 HK1⟩, ⟨by (try simp only [hl7_1]); (try simp only [hl8_1]); (with_reducible repeat (first | apply Kd.R_alloc | apply Kd.R_drewN | apply Kd.R_drew)); exact HO_4.out⟩, ⟨by (try simp only [hl7_1]); (try simp only [hl8_1]); (with_reducible repeat (first | apply Kd.V_alloc | apply Kd.V_drewN | apply Kd.V_drew)); exact Kd.V_mono HO_7.out (fun _ hk => ⟨hk.2, hk.1⟩)⟩, ⟨by (try simp only [hl7_1]); (try simp only [hl8_1]); (with_reducible repeat (first | apply Kd.R_alloc | apply Kd.R_drewN | apply Kd.R_drew)); exact Kd.R_mono HO_8.out (fun _ hk => hk.2)⟩, ⟨zB HB.out⟩⟩
 have c21b0 : decide (0 ≤ x10_1) = false := decide_eq_false c21
 clear c21
 replace H := zg H
 obtain ⟨c32, H⟩ := H
 have c32b0 := eq_true c32
 have c32b1 := decide_eq_true c32
 clear c32
 replace H := zg H
 obtain ⟨c33, H⟩ := H
 have c33b0 := eq_true c33
 have c33b1 := decide_eq_true c33
 clear c33
 obtain ⟨yc2, hyc2⟩ : ∃ y_ : List Int, y_ = (List.replicate ((ta6.length : Int) : Int).toNat 0) := ⟨_, rfl⟩
 replace H : (nat_long.l1 k1 x4_1 yc2 ta2 x8_1 (yc2.length : Int) 0) = some (r1, r2) := zY hyc2 H
 have Nyc2 := zk hyc2
 clear hyc2
 have H' := zk H
 clear H
 (try simp only [← hl7_1])
 go_wp2_with (first | ((with_reducible refine gate_dst (N := 55) rfl ?_); refine Kd.R_make (Kd.int .u32) _ 97 rfl (N := 55) rfl 29 _ _ rfl (ta6.length : Int) rfl rfl Try.underlying29 (.int .u32 0) 4 info97 rfl (by decide) (by omega) 0 (ok := fun _ => True) (okp := fun _ => True) rfl (fun _ hk => hk) trivial zd (Nat.le_trans (Nat.mul_le_mul_right _ (zd : (ta6.length : Int).toNat ≤ 70368744177664)) (by omega)) (Below.refl _ _) (Nat.le_refl _) ?_; intro vc3 w34 ho35 hb hg_ hnew_; clear hg_ hnew_; (first | rw [← Nyc2.out] at ho35 | (simp only [Int.reduceToNat] at ho35; rw [← Nyc2.out] at ho35)); replace HO_7 := yVe HO_7 ho35 hb; replace ho35 := yn ho35 HO_4; replace ho35 := yn ho35 HO_8; have HOc4 := yRl ho35 HB; replace HO_4 := yRe HO_4 ho35 hb; replace HO_8 := yRe HO_8 ho35 hb; replace HB := yS HB hb; clear hb ho35; obtain ⟨Ao36, co36, rfl⟩ := Kd.R_slice HOc4.out))
 go_loopg [58] k1 (fun kq v58 w' => ∃ (x5_2 : List Int) (x58_2 : Int), v58 = .int .i64 x58_2 ∧ Aside0 (nat_long.l1 kq x4_1 x5_2 ta2 x8_1 (yc2.length : Int) x58_2 = some (r1, r2)) ∧ Aside0 (kq ≤ k1) ∧ Aside0 (Kd.R (Kd.int .u32) 97 w' w.heap.size (fun k_ => some k_ ≠ ((.slice Ao36 yc2.length co36) : Value).ownBlock ∧ some k_ ≠ ((.slice Ao18 x8_1.length co18) : Value).ownBlock) vb3 x4_1) ∧ Aside0 (Kd.R (Kd.int .u32) 97 w' w.heap.size (fun k_ => some k_ ≠ (vb3 : Value).ownBlock ∧ some k_ ≠ ((.slice Ao18 x8_1.length co18) : Value).ownBlock) (.slice Ao36 yc2.length co36) x5_2) ∧ Aside0 (Kd.R (Kd.int .u32) 97 w' w.heap.size (fun k_ => some k_ ≠ (vb3 : Value).ownBlock ∧ some k_ ≠ ((.slice Ao36 yc2.length co36) : Value).ownBlock) (.slice Ao18 x8_1.length co18) x8_1) ∧ Aside0 (Below w.heap.size w w'))
 case atStart => exact ⟨(yc2), (0), zF, H', ⟨Nat.le_refl _⟩, ⟨by (try simp only [hl7_1]); (try simp only [hl8_1]); (with_reducible repeat (first | apply Kd.R_alloc | apply Kd.R_drewN | apply Kd.R_drew)); exact Kd.R_mono HO_4.out (fun _ hk => ⟨hk.2, hk.1⟩)⟩, ⟨by (try simp only [hl7_1]); (try simp only [hl8_1]); (with_reducible repeat (first | apply Kd.R_alloc | apply Kd.R_drewN | apply Kd.R_drew)); exact Kd.R_mono HOc4.out (fun _ hk => ⟨hk.1.2, hk.2⟩)⟩, ⟨by (try simp only [hl7_1]); (try simp only [hl8_1]); (with_reducible repeat (first | apply Kd.R_alloc | apply Kd.R_drewN | apply Kd.R_drew)); exact HO_8.out⟩, ⟨zB HB.out⟩⟩
 clear H'
 (try clear c4b0);(try clear c5b0);(try clear c11);(try clear c11b0);(try clear c11b1);(try clear c12);(try clear c12b0);(try clear c12b1);(try clear c21);(try clear c21b0);(try clear c22);(try clear c22b0);(try clear c22b1);(try clear c23);(try clear c23b0);(try clear c23b1);(try clear c24);(try clear c24b0);(try clear c24b1);(try clear c26);(try clear c26b0);(try clear p27);(try clear q27);(try clear q28);(try clear c32);(try clear c32b0);(try clear c32b1);(try clear c33);(try clear c33b0);(try clear c33b1);(try clear hxa1_0);(try clear hx27_0);(try clear pa1);(try clear q028);(try clear qa1)
 obtain ⟨x5_2, x58_2, rfl, HA, HK2, HO_4, HO_5, HO_8, HB⟩ := hrel
 have hl5_2 := (Kd.R_reads' HO_5.out).1
 rw [hl5_2] at HO_5
 (try simp only [hl5_2])
 (try simp only [hl5_2] at HO_4)
 (try simp only [hl5_2] at HO_8)
 cases gk with | zero => exact absurd HA.out (by simp [nat_long.l1]) | succ k2 => ?_
 have H := HA.out
 clear HA
 simp only [nat_long.l1] at H
 replace H := zi H
 rcases H with ⟨c37, H⟩ | ⟨c37, H⟩
 · have c37b0 := decide_eq_true c37
   (try (have c37h0 := c37b0; simp only [hl7_1, hl8_1, hl5_2] at c37h0))
   clear c37
   replace H := zgd H
   obtain ⟨c38b0, H⟩ := H
   replace H := zg H
   obtain ⟨c39, H⟩ := H
   have c39b0 := decide_eq_true c39
   (try (have c39h0 := c39b0; simp only [hl7_1, hl8_1, hl5_2] at c39h0))
   clear c39
   obtain ⟨ji40, hji40⟩ : ∃ j_ : Int, (wrap64 (x58_2 + 1)) = j_ := ⟨_, rfl⟩
   replace H : (if 0 ≤ (ji40) then (if (ji40) < (x8_1.length : Int) then (if 0 ≤ ta2 then (if x58_2 < (x5_2.length : Int) then (nat_long.l1 k2 x4_1 (x5_2.set (x58_2 : Int).toNat ((shr .u64 (Go.bits .or .u64 (IntKind.u64.wrap (rd x8_1 x58_2)) (IntKind.u64.wrap ((IntKind.u64.wrap (rd x8_1 (ji40))) * 4294967296))) ta2) % 4294967296)) ta2 x8_1 (yc2.length : Int) ji40) else (none)) else (none)) else (none)) else (none)) = some (r1, r2) := by first | (rw [hji40] at H; exact H) | (simp only [hji40] at H ⊢; exact H)
   have hji40w : (IntKind.i64.wrap (x58_2 + 1)) = ji40 := (i64_w _).trans hji40
   replace H := zgd H
   obtain ⟨c41b0, H⟩ := H
   replace H := zg H
   obtain ⟨c42, H⟩ := H
   have c42b0 := decide_eq_true c42
   (try (have c42h0 := c42b0; simp only [hl7_1, hl8_1, hl5_2] at c42h0))
   clear c42
   replace H := zg H
   obtain ⟨c43, H⟩ := H
   have c43b0 := eq_true c43
   have c43b1 := decide_eq_true c43
   clear c43
   obtain ⟨ji44, hji44⟩ : ∃ j_ : Int, (shr .u64 (Go.bits .or .u64 (IntKind.u64.wrap (rd x8_1 x58_2)) (IntKind.u64.wrap ((IntKind.u64.wrap (rd x8_1 (ji40))) * 4294967296))) ta2) = j_ := ⟨_, rfl⟩
   replace H : (if x58_2 < (x5_2.length : Int) then (nat_long.l1 k2 x4_1 (x5_2.set (x58_2 : Int).toNat ((ji44) % 4294967296)) ta2 x8_1 (yc2.length : Int) ji40) else (none)) = some (r1, r2) := by first | (rw [hji44] at H; exact H) | (simp only [hji44] at H ⊢; exact H)
   have hji44_ : ((Go.bits .or .u64 (IntKind.u64.wrap (rd x8_1 x58_2)) (IntKind.u64.wrap ((IntKind.u64.wrap (rd x8_1 (ji40))) * 4294967296))) / 2 ^ min ta2.toNat 64) = ji44 := hji44
   have hji44z : ta2 ≤ 64 → ((Go.bits .or .u64 (IntKind.u64.wrap (rd x8_1 x58_2)) (IntKind.u64.wrap ((IntKind.u64.wrap (rd x8_1 (ji40))) * 4294967296))) / 2 ^ ta2.toNat) = ji44 := shr_small hji44
   replace H := zg H
   obtain ⟨c45, H⟩ := H
   have c45b0 := decide_eq_true c45
   (try (have c45h0 := c45b0; simp only [hl7_1, hl8_1, hl5_2] at c45h0))
   clear c45
   obtain ⟨yc7, hyc7⟩ : ∃ y_ : List Int, y_ = (x5_2.set (x58_2 : Int).toNat ((ji44) % 4294967296)) := ⟨_, rfl⟩
   replace H : (nat_long.l1 k2 x4_1 yc7 ta2 x8_1 (yc2.length : Int) ji40) = some (r1, r2) := zY hyc7 H
   have Nyc7 := zk hyc7
   clear hyc7
   have H' := zk H
   clear H
   try go_wp2
   replace HO_4 := zk (Kd.R_drew HO_4.out)
   replace HO_5 := zk (Kd.R_drew HO_5.out)
   replace HO_8 := zk (Kd.R_drew HO_8.out)
   replace HB := zk (below_drew1 HB.out)
   have pc5 : 0 ≤ (x58_2 : Int) := zd
   have qc5 : x58_2 < (x8_1.length : Int) := zd
   obtain ⟨adc5, ec5, hxc5_0⟩ := Kd.at_int (Kd.R_reads' HO_8.out).2.2 x58_2 pc5 qc5
   cases ec5
   replace pc5 := eq_true pc5
   replace qc5 := eq_true qc5
   have pc6 : 0 ≤ ((ji40) : Int) := zd
   have qc6 : (ji40) < (x8_1.length : Int) := zd
   obtain ⟨adc6, ec6, hxc6_0⟩ := Kd.at_int (Kd.R_reads' HO_8.out).2.2 (ji40) pc6 qc6
   obtain rfl : adc5 = adc6 := (by injection ec6)
   replace pc6 := eq_true pc6
   replace qc6 := eq_true qc6
   have p46 : 0 ≤ (x58_2 : Int) := zd
   have q46 : (x58_2 : Int) < ((x5_2.length : Int) : Int) := zd
   obtain ⟨go46, co46, eo46, gb46, gl46, cl46, HG46⟩ := Kd.R_form HO_5.out (by omega)
   (first | cases eo46 | (injection eo46 with ea_ en_ ec_; (first | subst ea_ | (injection ea_ with ea_; subst ea_)); subst ec_; clear en_))
   have GB46 := zk gb46
   have GG46 := zk HG46
   clear gb46 gl46 HG46
   obtain ⟨hx46_0, hf46_0⟩ := Kd.R_celln 0 HO_5.out (x58_2 : Int) p46 q46
   replace p46 := eq_true p46
   replace q46 := eq_true q46
   have HP48 := Kd.R_putn HO_5.out (x58_2 : Int) ((ji44) % 4294967296)
   rw [← Nyc7.out] at HP48
   have HQ48 := zk HP48
   clear HP48
   refine start_ (n := 20) (S := fun w' => w'.cell? (adc5.add (x58_2).toNat) = some (.int .u32 (rd x8_1 x58_2)) ∧ w'.cell? (adc5.add ((ji40)).toNat) = some (.int .u32 (rd x8_1 (ji40)))) (ds := [19]) #[false, false, false, false, false, false, false, false, false, false, false, false, false, false, false, false, false, false, false, false] (by kernel_rfl) rfl rfl ⟨hxc5_0, hxc6_0⟩ (fun hHeld => ?_); refine with_tabW nat_long.tab14 nat_long.bits14 (fun HT_ HW_ => ?_)
   first | (generalize wr.drew = w47 at HO_4 HO_5 HO_8 HB GG46 HQ48 hf46_0 hxc5_0 hxc6_0 hx46_0 hHeld ⊢) | (generalize wr.drew = w47 at HO_4 HO_5 HO_8 HB GG46 HQ48 hf46_0 hxc6_0 hx46_0 hHeld ⊢) | (generalize wr.drew = w47 at HO_4 HO_5 HO_8 HB GG46 HQ48 hf46_0 hxc5_0 hx46_0 hHeld ⊢) | (generalize wr.drew = w47 at HO_4 HO_5 HO_8 HB GG46 HQ48 hf46_0 hxc5_0 hxc6_0 hHeld ⊢) | (generalize wr.drew = w47 at HO_4 HO_5 HO_8 HB GG46 HQ48 hf46_0 hx46_0 hHeld ⊢) | (generalize wr.drew = w47 at HO_4 HO_5 HO_8 HB GG46 HQ48 hf46_0 hxc6_0 hHeld ⊢) | (generalize wr.drew = w47 at HO_4 HO_5 HO_8 HB GG46 HQ48 hf46_0 hxc5_0 hHeld ⊢) | (generalize wr.drew = w47 at HO_4 HO_5 HO_8 HB GG46 HQ48 hf46_0 hHeld ⊢)
   refine zp (i := 0) (N := some 61) HT_ ?_
   refine zp (i := 1) (N := some 62) HT_ ?_
   refine zp (i := 2) (N := some 63) HT_ ?_
   refine zp (i := 3) (N := some 64) HT_ ?_
   refine zp (i := 4) (N := some 65) HT_ ?_
   refine zp (i := 7) (N := some 68) HT_ ?_
   refine zp (i := 8) (N := some 69) HT_ ?_
   refine zp (i := 9) (N := some 70) HT_ ?_
   refine zp (i := 10) (N := some 71) HT_ ?_
   refine zp (i := 15) (N := some 76) HT_ ?_
   refine take_ (i := 5) (N := some 66) (v := ?_) (a' := ?_) #[true, true, true, true, true, true, false, true, true, true, true, false, false, false, false, true, false, false, false, false] rfl rfl (take_ofW HT_.out HW_.out (by kernel_rfl)) (fun _ _ _ h => h) (Or.inl ⟨by rfl, ?_⟩) hHeld ?_ ?_
   rotate_left
   · rintro w' ⟨s0, s1⟩
     go_simp
     with_reducible rfl
   rotate_left
   · simp only [Act.put, List.setIfInBounds_toArray, List.set_cons_zero, List.set_cons_succ, i64_w, i32_w]
     rfl
   refine zp (i := 6) (N := some 67) HT_ ?_
   refine take_ (i := 11) (N := some 72) (v := ?_) (a' := ?_) #[true, true, true, true, true, true, true, true, true, true, true, true, false, false, false, true, false, false, false, false] rfl rfl (take_ofW HT_.out HW_.out (by kernel_rfl)) (fun _ _ _ h => h) (Or.inl ⟨by rfl, ?_⟩) hHeld ?_ ?_
   rotate_left
   · rintro w' ⟨s0, s1⟩
     go_simp
     with_reducible rfl
   rotate_left
   · simp only [Act.put, List.setIfInBounds_toArray, List.set_cons_zero, List.set_cons_succ, i64_w, i32_w]
     rfl
   refine zp (i := 12) (N := some 73) HT_ ?_
   refine zp (i := 13) (N := some 74) HT_ ?_
   refine zp (i := 14) (N := some 75) HT_ ?_
   refine zp (i := 16) (N := some 77) HT_ ?_
   refine zp (i := 17) (N := some 78) HT_ ?_
   refine zp (i := 18) (N := some 79) HT_ ?_
   refine last_ (i := 19) (N := none) #[true, true, true, true, true, true, true, true, true, true, true, true, true, true, true, true, true, true, true, true] rfl rfl (one_of HT_.out (by kernel_rfl)) (by decide) (fun K hK => ?_)
   refine skip_ (w1 := ?_) (by rfl) rfl ?_ ?_
   rotate_left
   · go_simp
     rfl
   refine hK.out _ _ ?_
   clear hK K
   refine done_ (done_of HT_.out (by kernel_rfl)) ?_
   try go_wp2
   (try simp only [← hl5_2])
   go_roundg k2
   case measure => have := HK1.out; have := HK2.out; omega
   case rel => exact ⟨(yc7), (ji40), (by first | rfl | (simp; done) | (simp only [← hji40] <;> (first | rfl | simp)) | (simp [*]; done)), H', ⟨zo2 HK1 HK2⟩, ⟨by (try simp only [hl7_1]); (try simp only [hl8_1]); (try simp only [hl5_2]); (with_reducible repeat (first | apply Kd.R_alloc | apply Kd.R_drewN | apply Kd.R_drew)); exact Kd.R_mono (Kd.R_far (p := ⟨go46, (x58_2 : Int).toNat, none⟩) (Kd.R_mono HO_4.out (fun k_ hk => (⟨hk, fun e_ => hk.1 (by rw [e_]; rfl)⟩ : _ ∧ k_ ≠ go46))) (fun _ hk => hk.2) (.int .u32 ((ji44) % 4294967296))) (fun _ hk => ⟨hk.1.1, hk.1.2⟩)⟩, ⟨by (try simp only [hl7_1]); (try simp only [hl8_1]); (try simp only [hl5_2]); (with_reducible repeat (first | apply Kd.R_alloc | apply Kd.R_drewN | apply Kd.R_drew)); exact HQ48.out⟩, ⟨by (try simp only [hl7_1]); (try simp only [hl8_1]); (try simp only [hl5_2]); (with_reducible repeat (first | apply Kd.R_alloc | apply Kd.R_drewN | apply Kd.R_drew)); exact Kd.R_mono (Kd.R_far (p := ⟨go46, (x58_2 : Int).toNat, none⟩) (Kd.R_mono HO_8.out (fun k_ hk => (⟨hk, fun e_ => hk.2 (by rw [e_]; rfl)⟩ : _ ∧ k_ ≠ go46))) (fun _ hk => hk.2) (.int .u32 ((ji44) % 4294967296))) (fun _ hk => ⟨hk.1.1, hk.1.2⟩)⟩, ⟨zB1 HB.out GB46.out⟩⟩
 have c37b0 := decide_eq_false c37
 (try (have c37h0 := c37b0; simp only [hl7_1, hl8_1, hl5_2] at c37h0))
 clear c37
 simp only [Option.some.injEq, Prod.mk.injEq] at H
 obtain ⟨rfl, rfl⟩ := H
 go_wp2
 go_ret2
 exact ⟨_, _, by first | rfl | (simp [errW_none, errW_some] <;> rfl) | (simp only [← hji3, ← hji10]; first | rfl | (simp [errW_none, errW_some] <;> rfl)) | (simp [*, errW_none, errW_some] <;> rfl), by (with_reducible repeat (first | apply Kd.R_alloc | apply Kd.R_drewN | apply Kd.R_drew)); exact Kd.R_mono HO_4.out (fun _ hk => hk.1), by (with_reducible repeat (first | apply Kd.R_alloc | apply Kd.R_drewN | apply Kd.R_drew)); exact Kd.R_mono HO_5.out (fun _ hk => hk.1), zB HB.out⟩
set_option maxHeartbeats 8000000 in
set_option maxRecDepth 100000 in
theorem nat_DivMod.calls (k : Nat) (P0_ : Nat → Prop) (A0 : Option Addr) (c0 : Nat) (l0 : List Int) (P1_ : Nat → Prop) (A1 : Option Addr) (c1 : Nat) (l1 : List Int) (r1 : List Int) (r2 : List Int) (r3 : Int) (w : World) (hs0 : Kd.V (Kd.int .u32) 97 w w.heap.size (fun k_ => P0_ k_) (.slice A0 l0.length c0) l0) (hs1 : Kd.V (Kd.int .u32) 97 w w.heap.size (fun k_ => P1_ k_) (.slice A1 l1.length c1) l1) (h : nat_DivMod.f k l0 l1 = some (r1, r2, r3)) :
    Calls Try.prog 105 #[.slice A0 l0.length c0, .slice A1 l1.length c1] w fun e w' => ∃ v0_ v1_ : Value, e = .returned (.tuple #[v0_, v1_, .int .i64 r3]) ∧ Kd.V (Kd.int .u32) 97 w' w.heap.size (fun k_ => ((P0_ k_ ∨ P1_ k_) ∨ w.heap.size ≤ k_) ∧ some k_ ≠ (v1_ : Value).ownBlock) v0_ r1 ∧ Kd.R (Kd.int .u32) 97 w' w.heap.size (fun k_ => (w.heap.size ≤ k_)) v1_ r2 ∧ Below w.heap.size w w' := by
 have HO0 := zk (show Kd.V (Kd.int .u32) 97 w w.heap.size (fun k_ => ((P0_ k_ ∨ P1_ k_) ∨ w.heap.size ≤ k_)) (.slice A0 l0.length c0) l0 from Kd.V_mono hs0 (fun k_ hk => .inl (.inl hk)))
 have HO1 := zk (show Kd.V (Kd.int .u32) 97 w w.heap.size (fun k_ => ((P0_ k_ ∨ P1_ k_) ∨ w.heap.size ≤ k_)) (.slice A1 l1.length c1) l1 from Kd.V_mono hs1 (fun k_ hk => .inl (.inr hk)))
 have HB := zk (Below.refl w.heap.size w)
 have H := h
 clear h
 unfold nat_DivMod.f at H
 replace H := zb H
 obtain ⟨ta1, A3, H⟩ := H
 replace H := zb H
 obtain ⟨ta4, A4, H⟩ := H
 replace H := zi H
 rcases H with ⟨c5, H⟩ | ⟨c5, H⟩
 · have c5b0 := beq_iff_eq.mpr c5
   have c5b1 := bne_eq_false_iff_eq.mpr c5
   clear c5
   simp only [Option.some.injEq, Prod.mk.injEq] at H
   obtain ⟨rfl, rfl, rfl⟩ := H
   go_enter Try.func105, Try.ntmps105
   go_wp2_with (first | ((with_reducible refine gC 118 ?_); refine zG (some 12) Try.func118 #[.slice A0 l0.length c0] ?_; (with_reducible refine (nat_short.calls k (fun k_ => ((P0_ k_ ∨ P1_ k_) ∨ w.heap.size ≤ k_)) _ _ l0 ta1 _ ?side1 A3.out).mono ?_); (case side1 => exact HO0.out); rintro e w6 ⟨va2, rfl, ho0, hb⟩; refine ⟨_, rfl, ?_⟩; replace HO0 := yVb HO0 hb; replace HO1 := yVb HO1 hb; have HOa3 := zk (Kd.V_lower (Kd.V_mono (ok' := fun k_ => ((P0_ k_ ∨ P1_ k_) ∨ w.heap.size ≤ k_)) ho0 (fun k_ hk_ => Or.elim hk_ (fun hs_ => hs_) (fun hn_ => (.inr (Nat.le_trans (below_size (zB HB.out)) hn_))))) (below_size (zB HB.out))); replace HB := yS HB hb; (try clear hb ho0)) | ((with_reducible refine gC 118 ?_); refine zG (some 14) Try.func118 #[.slice A1 l1.length c1] ?_; (with_reducible refine (nat_short.calls k (fun k_ => ((P0_ k_ ∨ P1_ k_) ∨ w.heap.size ≤ k_)) _ _ l1 ta4 _ ?side1 A4.out).mono ?_); (case side1 => exact HO1.out); rintro e w7 ⟨va5, rfl, ho0, hb⟩; refine ⟨_, rfl, ?_⟩; replace HO0 := yVb HO0 hb; replace HO1 := yVb HO1 hb; replace HOa3 := yVb HOa3 hb; have HOa6 := zk (Kd.V_lower (Kd.V_mono (ok' := fun k_ => ((P0_ k_ ∨ P1_ k_) ∨ w.heap.size ≤ k_)) ho0 (fun k_ hk_ => Or.elim hk_ (fun hs_ => hs_) (fun hn_ => (.inr (Nat.le_trans (below_size (zB HB.out)) hn_))))) (below_size (zB HB.out))); replace HB := yS HB hb; (try clear hb ho0); obtain ⟨Ao8, co8, rfl⟩ := Kd.V_slice HOa6.out))
   go_ret3
   exact ⟨_, _, zE, by exact Kd.V_nil _ _ _ _ _, z0, zB HB.out⟩
 have c5b0 := beq_eq_false_iff_ne.mpr c5
 have c5b1 := bne_iff_ne.mpr c5
 have c5b2 : ¬ (ta4 = []) := fun h_ => c5 (by rw [h_]; rfl)
 replace H := zb H
 obtain ⟨ta7, A9, H⟩ := H
 replace H := zid H
 rcases H with ⟨c10b0, H⟩ | ⟨c10b0, H⟩
 · replace H := zb H
   obtain ⟨ta8, A11, H⟩ := H
   simp only [Option.some.injEq, Prod.mk.injEq] at H
   obtain ⟨rfl, rfl, rfl⟩ := H
   go_enter Try.func105, Try.ntmps105
   go_wp2_with (first | ((with_reducible refine gC 118 ?_); refine zG (some 12) Try.func118 #[.slice A0 l0.length c0] ?_; (with_reducible refine (nat_short.calls k (fun k_ => ((P0_ k_ ∨ P1_ k_) ∨ w.heap.size ≤ k_)) _ _ l0 ta1 _ ?side1 A3.out).mono ?_); (case side1 => exact HO0.out); rintro e w12 ⟨va2, rfl, ho0, hb⟩; refine ⟨_, rfl, ?_⟩; replace HO0 := yVb HO0 hb; replace HO1 := yVb HO1 hb; have HOa3 := zk (Kd.V_lower (Kd.V_mono (ok' := fun k_ => ((P0_ k_ ∨ P1_ k_) ∨ w.heap.size ≤ k_)) ho0 (fun k_ hk_ => Or.elim hk_ (fun hs_ => hs_) (fun hn_ => (.inr (Nat.le_trans (below_size (zB HB.out)) hn_))))) (below_size (zB HB.out))); replace HB := yS HB hb; (try clear hb ho0)) | ((with_reducible refine gC 118 ?_); refine zG (some 14) Try.func118 #[.slice A1 l1.length c1] ?_; (with_reducible refine (nat_short.calls k (fun k_ => ((P0_ k_ ∨ P1_ k_) ∨ w.heap.size ≤ k_)) _ _ l1 ta4 _ ?side1 A4.out).mono ?_); (case side1 => exact HO1.out); rintro e w13 ⟨va5, rfl, ho0, hb⟩; refine ⟨_, rfl, ?_⟩; replace HO0 := yVb HO0 hb; replace HO1 := yVb HO1 hb; replace HOa3 := yVb HOa3 hb; have HOa6 := zk (Kd.V_lower (Kd.V_mono (ok' := fun k_ => ((P0_ k_ ∨ P1_ k_) ∨ w.heap.size ≤ k_)) ho0 (fun k_ hk_ => Or.elim hk_ (fun hs_ => hs_) (fun hn_ => (.inr (Nat.le_trans (below_size (zB HB.out)) hn_))))) (below_size (zB HB.out))); replace HB := yS HB hb; (try clear hb ho0); obtain ⟨Ao14, co14, rfl⟩ := Kd.V_slice HOa6.out; obtain ⟨Ao15, co15, rfl⟩ := Kd.V_slice HOa3.out) | ((with_reducible refine gC 79 ?_); refine zG (some 22) Try.func79 #[.slice Ao15 ta1.length co15, .slice Ao14 ta4.length co14] ?_; (with_reducible refine (nat_Cmp.calls k _ _ ta1 _ _ ta4 ta7 _ ?side1 ?side2 ?side3 ?side4 A9.out).mono ?_); (case side1 => exact zC (Kd.V_reads' HOa3.out).2.2); (case side2 => exact (Kd.V_reads' HOa3.out).2.1); (case side3 => exact zC (Kd.V_reads' HOa6.out).2.2); (case side4 => exact (Kd.V_reads' HOa6.out).2.1); rintro e w16 ⟨rfl, hb⟩; refine ⟨_, rfl, ?_⟩; replace HO0 := yVb HO0 hb; replace HO1 := yVb HO1 hb; replace HOa3 := yVb HOa3 hb; replace HOa6 := yVb HOa6 hb; replace HB := yS HB hb; (try clear hb); (try clear hb2); (try clear hk); (try clear hi)) | ((with_reducible refine gC 103 ?_); refine zG (some 25) Try.func103 #[.slice Ao15 ta1.length co15] ?_; (with_reducible refine (nat_Trim.calls k _ _ ta1 ta8 _ ?side1 ?side2 A11.out).mono ?_); (case side1 => exact zC (Kd.V_reads' HOa3.out).2.2); (case side2 => exact (Kd.V_reads' HOa3.out).2.1); rintro e w17 ⟨va9, rfl, ho0, hb⟩; refine ⟨_, rfl, ?_⟩; replace HO0 := yVe HO0 ho0 hb; replace HO1 := yVe HO1 ho0 hb; replace HOa3 := yVe HOa3 ho0 hb; replace HOa6 := yVe HOa6 ho0 hb; replace ho0 := Kd.R_newM (M := fun k_ => (w.heap.size ≤ k_)) ho0 (below_size (zB HB.out)) (fun k_ h_ => h_); have HOb0 := yRl ho0 HB; replace HB := yS HB hb; (try clear hb ho0)))
   go_ret3
   exact ⟨_, _, zE, by exact Kd.V_nil _ _ _ _ _, by (with_reducible repeat (first | apply Kd.R_alloc | apply Kd.R_drewN | apply Kd.R_drew)); exact Kd.R_mono HOb0.out (fun _ hk => hk.1), zB HB.out⟩
 replace H := zi H
 rcases H with ⟨c18, H⟩ | ⟨c18, H⟩
 · have c18b0 := beq_iff_eq.mpr c18
   have c18b1 := bne_eq_false_iff_eq.mpr c18
   clear c18
   replace H := zg H
   obtain ⟨c19, H⟩ := H
   have c19b0 := decide_eq_true c19
   have c19b1 : decide (0 < ta4.length) = true := decide_eq_true (by omega)
   clear c19
   replace H := zb H
   obtain ⟨⟨tb2, tb5⟩, A20, H⟩ := H
   dsimp only at H
   replace H := zb H
   obtain ⟨tb6, A21, H⟩ := H
   simp only [Option.some.injEq, Prod.mk.injEq] at H
   obtain ⟨rfl, rfl, rfl⟩ := H
   go_enter Try.func105, Try.ntmps105
   go_wp2_with (first | ((with_reducible refine gC 118 ?_); refine zG (some 12) Try.func118 #[.slice A0 l0.length c0] ?_; (with_reducible refine (nat_short.calls k (fun k_ => ((P0_ k_ ∨ P1_ k_) ∨ w.heap.size ≤ k_)) _ _ l0 ta1 _ ?side1 A3.out).mono ?_); (case side1 => exact HO0.out); rintro e w22 ⟨va2, rfl, ho0, hb⟩; refine ⟨_, rfl, ?_⟩; replace HO0 := yVb HO0 hb; replace HO1 := yVb HO1 hb; have HOa3 := zk (Kd.V_lower (Kd.V_mono (ok' := fun k_ => ((P0_ k_ ∨ P1_ k_) ∨ w.heap.size ≤ k_)) ho0 (fun k_ hk_ => Or.elim hk_ (fun hs_ => hs_) (fun hn_ => (.inr (Nat.le_trans (below_size (zB HB.out)) hn_))))) (below_size (zB HB.out))); replace HB := yS HB hb; (try clear hb ho0)) | ((with_reducible refine gC 118 ?_); refine zG (some 14) Try.func118 #[.slice A1 l1.length c1] ?_; (with_reducible refine (nat_short.calls k (fun k_ => ((P0_ k_ ∨ P1_ k_) ∨ w.heap.size ≤ k_)) _ _ l1 ta4 _ ?side1 A4.out).mono ?_); (case side1 => exact HO1.out); rintro e w23 ⟨va5, rfl, ho0, hb⟩; refine ⟨_, rfl, ?_⟩; replace HO0 := yVb HO0 hb; replace HO1 := yVb HO1 hb; replace HOa3 := yVb HOa3 hb; have HOa6 := zk (Kd.V_lower (Kd.V_mono (ok' := fun k_ => ((P0_ k_ ∨ P1_ k_) ∨ w.heap.size ≤ k_)) ho0 (fun k_ hk_ => Or.elim hk_ (fun hs_ => hs_) (fun hn_ => (.inr (Nat.le_trans (below_size (zB HB.out)) hn_))))) (below_size (zB HB.out))); replace HB := yS HB hb; (try clear hb ho0); obtain ⟨Ao24, co24, rfl⟩ := Kd.V_slice HOa6.out; obtain ⟨Ao25, co25, rfl⟩ := Kd.V_slice HOa3.out) | ((with_reducible refine gC 79 ?_); refine zG (some 22) Try.func79 #[.slice Ao25 ta1.length co25, .slice Ao24 ta4.length co24] ?_; (with_reducible refine (nat_Cmp.calls k _ _ ta1 _ _ ta4 ta7 _ ?side1 ?side2 ?side3 ?side4 A9.out).mono ?_); (case side1 => exact zC (Kd.V_reads' HOa3.out).2.2); (case side2 => exact (Kd.V_reads' HOa3.out).2.1); (case side3 => exact zC (Kd.V_reads' HOa6.out).2.2); (case side4 => exact (Kd.V_reads' HOa6.out).2.1); rintro e w26 ⟨rfl, hb⟩; refine ⟨_, rfl, ?_⟩; replace HO0 := yVb HO0 hb; replace HO1 := yVb HO1 hb; replace HOa3 := yVb HOa3 hb; replace HOa6 := yVb HOa6 hb; replace HB := yS HB hb; (try clear hb); (try clear hb2); (try clear hk); (try clear hi); have pb1 : 0 ≤ (0 : Int) := (by omega); have qb1 : 0 < (ta4.length : Int) := zd; obtain ⟨adb1, eb1, hxb1_0⟩ := Kd.at_int (Kd.V_reads' HOa6.out).2.2 0 pb1 qb1; cases eb1; have qi111 : (0 < ta4.length) = True := eq_true (by omega); (try rw [show ((0 : Int)).toNat = 0 from rfl] at hxb1_0); (try rw [Addr.add_zero'] at hxb1_0); replace pb1 := eq_true pb1; replace qb1 := eq_true qb1) | ((with_reducible refine gC 115 ?_); refine zG (some 35) Try.func115 #[.slice Ao25 ta1.length co25, .int .u32 (rd ta4 0)] ?_; (with_reducible refine (nat_digit.calls k _ _ ta1 (rd ta4 0) tb2 tb5 _ ?side1 ?side2 A20.out).mono ?_); (case side1 => exact zC (Kd.V_reads' HOa3.out).2.2); (case side2 => exact (Kd.V_reads' HOa3.out).2.1); rintro e w27 ⟨vb3, rfl, ho0, hb⟩; refine ⟨_, rfl, ?_⟩; replace HO0 := yVb HO0 hb; replace HO1 := yVb HO1 hb; replace HOa3 := yVb HOa3 hb; replace HOa6 := yVb HOa6 hb; have HOb4 := zk (Kd.V_lower (Kd.V_mono (ok' := fun k_ => ((P0_ k_ ∨ P1_ k_) ∨ w.heap.size ≤ k_)) ho0 (fun k_ hk_ => (.inr (Nat.le_trans (below_size (zB HB.out)) hk_)))) (below_size (zB HB.out))); replace HB := yS HB hb; (try clear hb ho0)) | ((with_reducible refine gC 80 ?_); refine zG (some 41) Try.func80 #[.int .u64 (IntKind.u64.wrap (tb5))] ?_; (with_reducible refine (nat_Of.calls k (IntKind.u64.wrap (tb5)) tb6 _ A21.out).mono ?_); rintro e w28 ⟨vb7, rfl, ho0, hb⟩; refine ⟨_, rfl, ?_⟩; replace HO0 := yVe HO0 ho0 hb; replace HO1 := yVe HO1 ho0 hb; replace HOa3 := yVe HOa3 ho0 hb; replace HOa6 := yVe HOa6 ho0 hb; replace HOb4 := yVe HOb4 ho0 hb; replace ho0 := Kd.R_newM (M := fun k_ => (w.heap.size ≤ k_)) ho0 (below_size (zB HB.out)) (fun k_ h_ => h_); have HOb8 := yRl ho0 HB; replace HB := yS HB hb; (try clear hb ho0)))
   go_ret3
   exact ⟨_, _, zE, zV HOb4.out, by (with_reducible repeat (first | apply Kd.R_alloc | apply Kd.R_drewN | apply Kd.R_drew)); exact Kd.R_mono HOb8.out (fun _ hk => hk.1), zB HB.out⟩
 have c18b0 := beq_eq_false_iff_ne.mpr c18
 have c18b1 := bne_iff_ne.mpr c18
 replace H := zb H
 obtain ⟨⟨tb9, tc0⟩, A29, H⟩ := H
 dsimp only at H
 replace H := zb H
 obtain ⟨tc5, A30, H⟩ := H
 replace H := zb H
 obtain ⟨tc8, A31, H⟩ := H
 simp only [Option.some.injEq, Prod.mk.injEq] at H
 obtain ⟨rfl, rfl, rfl⟩ := H
 go_enter Try.func105, Try.ntmps105
 go_wp2_with (first | ((with_reducible refine gC 118 ?_); refine zG (some 12) Try.func118 #[.slice A0 l0.length c0] ?_; (with_reducible refine (nat_short.calls k (fun k_ => ((P0_ k_ ∨ P1_ k_) ∨ w.heap.size ≤ k_)) _ _ l0 ta1 _ ?side1 A3.out).mono ?_); (case side1 => exact HO0.out); rintro e w32 ⟨va2, rfl, ho0, hb⟩; refine ⟨_, rfl, ?_⟩; replace HO0 := yVb HO0 hb; replace HO1 := yVb HO1 hb; have HOa3 := zk (Kd.V_lower (Kd.V_mono (ok' := fun k_ => ((P0_ k_ ∨ P1_ k_) ∨ w.heap.size ≤ k_)) ho0 (fun k_ hk_ => Or.elim hk_ (fun hs_ => hs_) (fun hn_ => (.inr (Nat.le_trans (below_size (zB HB.out)) hn_))))) (below_size (zB HB.out))); replace HB := yS HB hb; (try clear hb ho0)) | ((with_reducible refine gC 118 ?_); refine zG (some 14) Try.func118 #[.slice A1 l1.length c1] ?_; (with_reducible refine (nat_short.calls k (fun k_ => ((P0_ k_ ∨ P1_ k_) ∨ w.heap.size ≤ k_)) _ _ l1 ta4 _ ?side1 A4.out).mono ?_); (case side1 => exact HO1.out); rintro e w33 ⟨va5, rfl, ho0, hb⟩; refine ⟨_, rfl, ?_⟩; replace HO0 := yVb HO0 hb; replace HO1 := yVb HO1 hb; replace HOa3 := yVb HOa3 hb; have HOa6 := zk (Kd.V_lower (Kd.V_mono (ok' := fun k_ => ((P0_ k_ ∨ P1_ k_) ∨ w.heap.size ≤ k_)) ho0 (fun k_ hk_ => Or.elim hk_ (fun hs_ => hs_) (fun hn_ => (.inr (Nat.le_trans (below_size (zB HB.out)) hn_))))) (below_size (zB HB.out))); replace HB := yS HB hb; (try clear hb ho0); obtain ⟨Ao34, co34, rfl⟩ := Kd.V_slice HOa6.out; obtain ⟨Ao35, co35, rfl⟩ := Kd.V_slice HOa3.out) | ((with_reducible refine gC 79 ?_); refine zG (some 22) Try.func79 #[.slice Ao35 ta1.length co35, .slice Ao34 ta4.length co34] ?_; (with_reducible refine (nat_Cmp.calls k _ _ ta1 _ _ ta4 ta7 _ ?side1 ?side2 ?side3 ?side4 A9.out).mono ?_); (case side1 => exact zC (Kd.V_reads' HOa3.out).2.2); (case side2 => exact (Kd.V_reads' HOa3.out).2.1); (case side3 => exact zC (Kd.V_reads' HOa6.out).2.2); (case side4 => exact (Kd.V_reads' HOa6.out).2.1); rintro e w36 ⟨rfl, hb⟩; refine ⟨_, rfl, ?_⟩; replace HO0 := yVb HO0 hb; replace HO1 := yVb HO1 hb; replace HOa3 := yVb HOa3 hb; replace HOa6 := yVb HOa6 hb; replace HB := yS HB hb; (try clear hb); (try clear hb2); (try clear hk); (try clear hi)) | ((with_reducible refine gC 129 ?_); refine zG (some 45) Try.func129 #[.slice Ao35 ta1.length co35, .slice Ao34 ta4.length co34] ?_; (with_reducible refine (nat_long.calls k _ _ ta1 _ _ ta4 tb9 tc0 _ ?side1 ?side2 ?side3 ?side4 A29.out).mono ?_); (case side1 => exact zC (Kd.V_reads' HOa3.out).2.2); (case side2 => exact (Kd.V_reads' HOa3.out).2.1); (case side3 => exact zC (Kd.V_reads' HOa6.out).2.2); (case side4 => exact (Kd.V_reads' HOa6.out).2.1); rintro e w37 ⟨vc1, vc3, rfl, ho0, ho1, hb⟩; refine ⟨_, rfl, ?_⟩; replace HO0 := yVt HO0 hb ho0 ho1; replace HO1 := yVt HO1 hb ho0 ho1; replace HOa3 := yVt HOa3 hb ho0 ho1; replace HOa6 := yVt HOa6 hb ho0 ho1; replace ho0 := Kd.R_newM (M := fun k_ => (w.heap.size ≤ k_)) ho0 (below_size (zB HB.out)) (fun k_ h_ => h_); have HOc2 := yRl ho0 HB; replace ho1 := Kd.R_newM (M := fun k_ => (w.heap.size ≤ k_)) ho1 (below_size (zB HB.out)) (fun k_ h_ => h_); have HOc4 := yRl ho1 HB; replace HB := yS HB hb; (try clear hb ho0); (try clear ho1); obtain ⟨Ao38, co38, rfl⟩ := Kd.R_slice HOc2.out) | ((with_reducible refine gC 103 ?_); refine zG (some 49) Try.func103 #[.slice Ao38 tb9.length co38] ?_; (with_reducible refine (nat_Trim.calls k _ _ tb9 tc5 _ ?side1 ?side2 A30.out).mono ?_); (case side1 => exact zC (Kd.R_reads' HOc2.out).2.2); (case side2 => exact (Kd.R_reads' HOc2.out).2.1); rintro e w39 ⟨vc6, rfl, ho0, hb⟩; refine ⟨_, rfl, ?_⟩; replace HO0 := yVe HO0 ho0 hb; replace HO1 := yVe HO1 ho0 hb; replace HOa3 := yVe HOa3 ho0 hb; replace HOa6 := yVe HOa6 ho0 hb; replace ho0 := Kd.R_newM (M := fun k_ => (w.heap.size ≤ k_)) ho0 (below_size (zB HB.out)) (fun k_ h_ => h_); replace ho0 := yn ho0 HOc2; replace ho0 := yn ho0 HOc4; have HOc7 := yRl ho0 HB; replace HOc2 := yRe HOc2 ho0 hb; replace HOc4 := yRe HOc4 ho0 hb; replace HB := yS HB hb; (try clear hb ho0); obtain ⟨Ao40, co40, rfl⟩ := Kd.R_slice HOc4.out) | ((with_reducible refine gC 103 ?_); refine zG (some 51) Try.func103 #[.slice Ao40 tc0.length co40] ?_; (with_reducible refine (nat_Trim.calls k _ _ tc0 tc8 _ ?side1 ?side2 A31.out).mono ?_); (case side1 => exact zC (Kd.R_reads' HOc4.out).2.2); (case side2 => exact (Kd.R_reads' HOc4.out).2.1); rintro e w41 ⟨vc9, rfl, ho0, hb⟩; refine ⟨_, rfl, ?_⟩; replace HO0 := yVe HO0 ho0 hb; replace HO1 := yVe HO1 ho0 hb; replace HOa3 := yVe HOa3 ho0 hb; replace HOa6 := yVe HOa6 ho0 hb; replace ho0 := Kd.R_newM (M := fun k_ => (w.heap.size ≤ k_)) ho0 (below_size (zB HB.out)) (fun k_ h_ => h_); replace ho0 := yn ho0 HOc2; replace ho0 := yn ho0 HOc4; replace ho0 := yn ho0 HOc7; have HOd0 := yRl ho0 HB; replace HOc2 := yRe HOc2 ho0 hb; replace HOc4 := yRe HOc4 ho0 hb; replace HOc7 := yRe HOc7 ho0 hb; replace HB := yS HB hb; (try clear hb ho0)))
 go_ret3
 exact ⟨_, _, zE, Kd.V_mono (ok := fun k_ => (w.heap.size ≤ k_) ∧ some k_ ≠ (vc9 : Value).ownBlock) (Kd.R_V (by (with_reducible repeat (first | apply Kd.R_alloc | apply Kd.R_drewN | apply Kd.R_drew)); exact Kd.R_mono HOc7.out (fun _ hk => ⟨hk.1.1.1.1, hk.2⟩))) (fun k_ hk => by first | exact ⟨(.inr (hk.1)), hk.2⟩ | exact (.inr (hk))), by (with_reducible repeat (first | apply Kd.R_alloc | apply Kd.R_drewN | apply Kd.R_drew)); exact Kd.R_mono HOd0.out (fun _ hk => hk.1.1.1.1), zB HB.out⟩
end Go.Proofs.Ytifkbghnmhineaa.PAll
