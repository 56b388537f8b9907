/- What functions of the program do and come to, for the statement MacwilliamsKrawtchouk, part 3. Conditions: as each theorem says. -/
import Derived.Test.YtifkbghnmhineaaQKrawtchouk2

namespace Go.Proofs.Ytifkbghnmhineaa.PAll
open Go.RowKit Go.Proofs.YtifkbghnmhineaaW.PrintWords Go.Proofs.YtifkbghnmhineaaW.PrintLast Go.Proofs.YtifkbghnmhineaaW.PrintMore
attribute [local go_sem] max2_int min2_int max_two min_two max_three min_three max_four min_four
set_option linter.unusedVariables false
set_option linter.unusedSimpArgs false
def macwilliams_table.T18 : Bool × List (List Nat × List Nat) := (true, [([], []), ([], []), ([], []), ([1, 2], [1, 2]), ([3], [3]), ([], []), ([], []), ([6], [6]), ([5, 7], [5, 7]), ([8], [8]), ([4, 9], [4, 9]), ([], []), ([], []), ([], []), ([13], [13]), ([12, 14], [12, 14]), ([15], [15]), ([11, 16, 10], [11, 16]), ([10, 17, 17], [10, 17]), ([18], [18]), ([0, 19, 18], [0, 19]), ([20, 20, 0, 1, 2, 3, 4, 5, 6, 7, 8, 9, 10, 11, 12, 13, 14, 15, 16, 17, 18, 19, 20], [0, 12, 20])])
def macwilliams_table.B18 : List Nat := [0, 0, 0, 6, 14, 0, 0, 64, 224, 480, 1022, 0, 0, 0, 8192, 28672, 61440, 131070, 262142, 524286, 1048575, 2097151]
theorem macwilliams_table.tab18 : rtab .any (opsOf Try.f94 18) = macwilliams_table.T18 := by kernel_rfl
theorem macwilliams_table.bits18 : waitsOk macwilliams_table.T18.2 macwilliams_table.B18 = true := by kernel_rfl
set_option maxHeartbeats 8000000 in
set_option maxRecDepth 100000 in
theorem macwilliams_table.calls (k : Nat) (a0 : Int) (a1 : Int) (r : List (List (S113))) (w : World) (h : macwilliams_table.f k a0 a1 = some r) :
    Calls Try.prog 94 #[.int .i64 a0, .int .i64 a1] w fun e w' => ∃ v0_ : Value, e = .returned (v0_) ∧ Kd.N (Kd.slice 113 k113) 114 w' w.heap.size (fun k_ => (w.heap.size ≤ k_)) v0_ r ∧ Below w.heap.size w w' := by
 have hu113 := Try.underlying113
 have HB := Aside0.mk (Below.refl w.heap.size w)
 have H : (if 0 ≤ (wrap64 (a1 + 1)) then (if (wrap64 (a1 + 1) : Int).toNat ≤ 8796093022208 then ((some (List.replicate (wrap64 (a1 + 1) : Int).toNat z113 : List (S113))).bind fun y101 => (macwilliams_table.l0 k a0 a1 y101 (y101.length : Int) 0)) else (none)) else (none)) = some r := h
 clear h
 obtain ⟨ji3, hji3⟩ : ∃ j_ : Int, (wrap64 (a1 + 1)) = j_ := ⟨_, rfl⟩
 replace H : (if 0 ≤ (ji3) then (if (ji3 : Int).toNat ≤ 8796093022208 then ((some (List.replicate (ji3 : Int).toNat z113 : List (S113))).bind fun y101 => (macwilliams_table.l0 k a0 a1 y101 (y101.length : Int) 0)) else (none)) else (none)) = some r := by first | (rw [hji3] at H; exact H) | (simp only [hji3] at H ⊢; exact H)
 have hji3w : (IntKind.i64.wrap (a1 + 1)) = ji3 := (i64_w _).trans hji3
 replace H := zg H
 obtain ⟨c4, H⟩ := H
 have c4b0 := eq_true c4
 have c4b1 := decide_eq_true c4
 clear c4
 replace H := zg H
 obtain ⟨c5, H⟩ := H
 have c5b0 := eq_true c5
 have c5b1 := decide_eq_true c5
 clear c5
 obtain ⟨y101, hy101⟩ : ∃ y_ : List (S113), y_ = (List.replicate (ji3 : Int).toNat z113) := ⟨_, rfl⟩
 replace H : (macwilliams_table.l0 k a0 a1 y101 (y101.length : Int) 0) = some r := zY hy101 H
 have Ny101 := Aside0.mk hy101
 clear hy101
 have H' := Aside0.mk H
 clear H
 go_enter Try.func94, Try.ntmps94
 go_wp2_with (first | ((with_reducible refine gate_dst (N := 18) rfl ?_); refine Kd.N_make k113 _ 113 rfl (N' := 18) rfl 114 _ _ rfl ji3 rfl rfl Try.underlying114 (.agg #[(.bool false), (.slice none 0 0)]) 32 info113 rfl (by decide) (by omega) z113 (ok := fun k_ => w.heap.size ≤ k_) (okp := fun _ => False) (k113_mkF _ _ z113 (Nat.le_refl _) (Kd.F_nil _ _ _)) (fun _ hk => hk.elim) (Nat.le_refl _) (of_decide_eq_true zA) (Nat.le_trans (Nat.mul_le_mul_right _ (of_decide_eq_true zA : ji3.toNat ≤ 8796093022208)) (by omega)) (Below.refl _ _) (Nat.le_refl _) ?_; intro v102 w6 ho7 hb hg_ hnew_; clear hg_ hnew_; (first | rw [← Ny101.out] at ho7 | (simp only [Int.reduceToNat] at ho7; rw [← Ny101.out] at ho7)); have HO103 := Aside0.mk (Kd.N_lower (Kd.N_mono (ok' := fun k_ => (w.heap.size ≤ k_)) ho7 (fun k_ hk_ => (Nat.le_trans (below_size (zB HB.out)) hk_))) (below_size (zB HB.out))); replace HB := yS HB hb; clear hb ho7; obtain ⟨Ao8, co8, rfl⟩ := Kd.N_slice HO103.out))
 go_loopg [21] k (fun kq v21 w' => ∃ (x5_1 : List (S113)) (x21_1 : Int), v21 = .int .i64 x21_1 ∧ Aside0 (macwilliams_table.l0 kq a0 a1 x5_1 (y101.length : Int) x21_1 = some r) ∧ Aside0 (kq ≤ k) ∧ Aside0 (Kd.N k113 113 w' w.heap.size (fun k_ => (w.heap.size ≤ k_)) (.slice Ao8 y101.length co8) x5_1) ∧ Aside0 (Below w.heap.size w w'))
 case atStart => exact ⟨(y101), (0), zF, H', ⟨Nat.le_refl _⟩, ⟨zN HO103.out⟩, ⟨zB HB.out⟩⟩
 clear H'
 (try clear p2);(try clear c4);(try clear c4b0);(try clear c4b1);(try clear c5);(try clear c5b0);(try clear c5b1);(try clear p6)
 obtain ⟨x5_1, x21_1, rfl, HA, HK1, HO_5, HB⟩ := hrel
 have hl5_1 := (Kd.N_reads' HO_5.out).1
 rw [hl5_1] at HO_5
 (try simp only [hl5_1])
 cases gk with | zero => exact absurd HA.out (by simp [macwilliams_table.l0]) | succ k1 => ?_
 have H := HA.out
 clear HA
 simp only [macwilliams_table.l0] at H
 replace H := zi H
 rcases H with ⟨c9, H⟩ | ⟨c9, H⟩
 · have c9b0 := decide_eq_true c9
   (try (have c9h0 := c9b0; simp only [hl5_1] at c9h0))
   clear c9
   replace H := zb H
   obtain ⟨⟨t104, t105⟩, A10, H⟩ := H
   dsimp only at H
   replace H := zb H
   obtain ⟨t108, A11, H⟩ := H
   replace H := zb H
   obtain ⟨⟨t111, t112⟩, A12, H⟩ := H
   dsimp only at H
   obtain ⟨y115, hy115⟩ : ∃ y_ : List (List Int), y_ = (([t104, t111] : List (List Int))) := ⟨_, rfl⟩
   replace H : ((nat_Mul.f k1 y115).bind fun t118 => (if 0 ≤ x21_1 then (if x21_1 < (x5_1.length : Int) then (macwilliams_table.l0 k1 a0 a1 (x5_1.set (x21_1 : Int).toNat (⟨false, t118⟩ : S113)) (y101.length : Int) (wrap64 (x21_1 + 1))) else (none)) else (none))) = some r := zY hy115 H
   have Ny115 := Aside0.mk hy115
   clear hy115
   replace H := zb H
   obtain ⟨t118, A13, H⟩ := H
   replace H := zg H
   obtain ⟨c14, H⟩ := H
   have c14b0 := decide_eq_true c14
   clear c14
   replace H := zg H
   obtain ⟨c15, H⟩ := H
   have c15b0 := decide_eq_true c15
   (try (have c15h0 := c15b0; simp only [hl5_1] at c15h0))
   clear c15
   obtain ⟨y121, hy121⟩ : ∃ y_ : List (S113), y_ = (x5_1.set (x21_1 : Int).toNat (⟨false, t118⟩ : S113)) := ⟨_, rfl⟩
   replace H : (macwilliams_table.l0 k1 a0 a1 y121 (y101.length : Int) (wrap64 (x21_1 + 1))) = some r := zY hy121 H
   have Ny121 := Aside0.mk hy121
   clear hy121
   have H' := Aside0.mk H
   clear H
   go_wp2_with (first | ((with_reducible refine gate_callee (f := 72) rfl ?_); refine zG (some 27) Try.func72 #[.int .i64 a1, .int .i64 x21_1] ?_; (with_reducible refine (nat_Binomial.calls k1 a1 x21_1 t104 t105 _ A10.out).mono ?_); rintro e w17 ⟨v106, rfl, ho0, hb⟩; refine ⟨_, rfl, ?_⟩; replace HO_5 := yNe HO_5 ho0 hb; replace ho0 := Kd.R_newM (M := fun k_ => (w.heap.size ≤ k_)) ho0 (below_size (zB HB.out)) (fun k_ h_ => h_); have HO107 := yRl ho0 HB; replace HB := yS HB hb; (try clear hb ho0)) | ((with_reducible refine gate_callee (f := 80) rfl ?_); refine zG (some 34) Try.func80 #[.int .u64 (IntKind.u64.wrap (wrap64 (a0 - 1)))] ?_; (with_reducible refine (nat_Of.calls k1 (IntKind.u64.wrap (wrap64 (a0 - 1))) t108 _ A11.out).mono ?_); rintro e w18 ⟨v109, rfl, ho0, hb⟩; refine ⟨_, rfl, ?_⟩; replace HO_5 := yNe HO_5 ho0 hb; replace ho0 := Kd.R_newM (M := fun k_ => (w.heap.size ≤ k_)) ho0 (below_size (zB HB.out)) (fun k_ h_ => h_); replace ho0 := yn ho0 HO107; have HO110 := yRl ho0 HB; replace HO107 := yRe HO107 ho0 hb; replace HB := yS HB hb; (try clear hb ho0); obtain ⟨Ao19, co19, rfl⟩ := Kd.R_slice HO110.out) | ((with_reducible refine gate_callee (f := 85) rfl ?_); refine zG (some 36) Try.func85 #[.slice Ao19 t108.length co19, .int .i64 x21_1] ?_; (with_reducible refine (nat_Pow.calls k1 _ _ t108 x21_1 t111 t112 _ ?side1 ?side2 A12.out).mono ?_); (case side1 => exact zC (Kd.R_reads' HO110.out).2.2); (case side2 => exact (Kd.R_reads' HO110.out).2.1); rintro e w20 ⟨v113, rfl, ho0, hb⟩; refine ⟨_, rfl, ?_⟩; replace HO_5 := yNe HO_5 ho0 hb; replace ho0 := Kd.R_newM (M := fun k_ => (w.heap.size ≤ k_)) ho0 (below_size (zB HB.out)) (fun k_ h_ => h_); replace ho0 := yn ho0 HO107; replace ho0 := yn ho0 HO110; have HO114 := yRl ho0 HB; replace HO107 := yRe HO107 ho0 hb; replace HO110 := yRe HO110 ho0 hb; replace HB := yS HB hb; (try clear hb ho0); obtain ⟨Ao21, co21, rfl⟩ := Kd.R_slice HO107.out; obtain ⟨Ao22, co22, rfl⟩ := Kd.R_slice HO114.out) | ((with_reducible refine gate_dst (N := 43) rfl ?_); refine Kd.N_lit (Kd.slice 97 (Kd.int .u32)) _ 29 ?hg (N' := 43) ?hd (xs := ([t104, t111] : List (List Int))) (inner := [.slice Ao21 t104.length co21, .slice Ao22 t111.length co22]) (ok := (fun k_ => (w.heap.size ≤ k_) ∧ some k_ ≠ (.slice Ao8 x5_1.length co8 : Value).ownBlock ∧ some k_ ≠ (.slice Ao19 t108.length co19 : Value).ownBlock)) (okp := (fun k_ => (w.heap.size ≤ k_) ∧ some k_ ≠ (.slice Ao8 x5_1.length co8 : Value).ownBlock ∧ some k_ ≠ (.slice Ao19 t108.length co19 : Value).ownBlock)) ?hr ?hp (fun _ hk => hk) ((show ∀ k_, w20.heap.size ≤ k_ → (fun k_ => (w.heap.size ≤ k_) ∧ some k_ ≠ (.slice Ao8 x5_1.length co8 : Value).ownBlock ∧ some k_ ≠ (.slice Ao19 t108.length co19 : Value).ownBlock) k_ from fun k_ hk => ⟨(Nat.le_trans (below_size (zB HB.out)) hk), Kd.fresh' (Kd.N_lt (zN HO_5.out)) k_ hk, Kd.fresh' (Kd.R_lt (zR HO110.out)) k_ hk⟩) _ (Nat.le_refl _)) (Below.refl _ _) (Nat.le_refl _) (by simp) ?_; (case hd => rfl); (case hg => rfl); (case hr => first | (go_simp; done) | (go_simp; rfl)); (case hp => exact (Reps.one (show Kd.FK (Kd.slice 97 (Kd.int .u32)) _ _ t104 [.slice Ao21 t104.length co21] from (Mw.FK_of_R (Kd.R_mono (ok' := (fun k_ => (w.heap.size ≤ k_) ∧ some k_ ≠ (.slice Ao8 x5_1.length co8 : Value).ownBlock ∧ some k_ ≠ (.slice Ao19 t108.length co19 : Value).ownBlock)) (Kd.R_apart' (HO107.out) (Kd.N_typed HO_5.out) (by decide)) (fun k_ hk => by exact ⟨hk.1.1.1.1, ⟨hk.2, hk.1.1.2⟩⟩)))) (Reps.one (show Kd.FK (Kd.slice 97 (Kd.int .u32)) _ _ t111 [.slice Ao22 t111.length co22] from (Mw.FK_of_R (Kd.R_mono (ok' := (fun k_ => (w.heap.size ≤ k_) ∧ some k_ ≠ (.slice Ao8 x5_1.length co8 : Value).ownBlock ∧ some k_ ≠ (.slice Ao19 t108.length co19 : Value).ownBlock)) (Kd.R_apart' (HO114.out) (Kd.N_typed HO_5.out) (by decide)) (fun k_ hk => by exact ⟨hk.1.1.1.1, ⟨hk.2, hk.1.2⟩⟩)))) (Reps.none _ _)))); intro v116 w23 ho24 hb hg_ hnew_; clear hg_ hnew_; (first | rw [← Ny115.out] at ho24 | (simp only [Int.reduceToNat] at ho24; rw [← Ny115.out] at ho24)); replace HO_5 := Aside0.mk (Kd.N_elder' (zN HO_5.out) (Kd.N_base ho24) hb); replace HO110 := yRb HO110 hb; have HO117 := Aside0.mk (Kd.N_lower ho24 (below_size (zB HB.out))); replace HB := yS HB hb; clear HO107 HO114; clear hb ho24; obtain ⟨Ao25, co25, rfl⟩ := Kd.N_slice HO117.out) | ((with_reducible refine gate_callee (f := 74) rfl ?_); refine zG (some 44) Try.func74 #[.slice Ao25 y115.length co25] ?_; (with_reducible refine (nat_Mul.calls k1 _ _ y115 t118 _ ?side1 ?side2 A13.out).mono ?_); (case side1 => exact zC (Kd.N_reads' HO117.out).2.2); (case side2 => exact (Kd.N_reads' HO117.out).2.1); rintro e w26 ⟨v119, rfl, ho0, hb⟩; refine ⟨_, rfl, ?_⟩; replace HO_5 := yNe HO_5 ho0 hb; replace HO117 := yNe HO117 ho0 hb; replace ho0 := Kd.R_newM (M := fun k_ => (w.heap.size ≤ k_)) ho0 (below_size (zB HB.out)) (fun k_ h_ => h_); replace ho0 := yn ho0 HO110; have HO120 := yRl ho0 HB; replace HO110 := yRe HO110 ho0 hb; replace HB := yS HB hb; (try clear hb ho0); obtain ⟨Ao27, co27, rfl⟩ := Kd.R_slice HO120.out; have p16 : 0 ≤ (x21_1 : Int) := of_decide_eq_true zA; have q16 : (x21_1 : Int) < ((x5_1.length : Int) : Int) := of_decide_eq_true zA; obtain ⟨go16, co16, eo16, gb16, gl16, cl16, HG16⟩ := Kd.N_form HO_5.out (by omega); (first | cases eo16 | (injection eo16 with ea_ en_ ec_; (first | subst ea_ | (injection ea_ with ea_; subst ea_)); subst ec_; clear en_)); have GB16 := Aside0.mk gb16; have GG16 := Aside0.mk HG16; clear gb16 gl16 HG16; obtain ⟨ce16, hcl16, hM16, hcc16, hfr16⟩ := Kd.N_elem HO_5.out z113 (x21_1 : Int) p16 q16; obtain ⟨ua16_1, uc16_1, rfl, ul16_1, ge16_1⟩ := k113_openF hM16; have hx16_0 : w26.cell? ⟨go16, (x21_1 : Int).toNat * 2, none⟩ = some (.bool ((rd_T113 x5_1 x21_1).f0)) := hcc16 0 _ rfl; have hx16_1 : w26.cell? ⟨go16, (x21_1 : Int).toNat * 2 + 1, none⟩ = some (.slice ua16_1 ((rd_T113 x5_1 x21_1).f1).length uc16_1) := hcc16 1 _ rfl; have hf16_0 : w26.frozen? ⟨go16, (x21_1 : Int).toNat * 2, none⟩ = false := hfr16 0; have hf16_1 : w26.frozen? ⟨go16, (x21_1 : Int).toNat * 2 + 1, none⟩ = false := hfr16 1; clear hcl16 hcc16 hfr16 hM16; replace p16 := eq_true p16; replace q16 := eq_true q16; have n_ := Aside0.mk (Kd.N_mono (ok' := (fun k_ => (w.heap.size ≤ k_) ∧ some k_ ≠ (.slice Ao19 t108.length co19 : Value).ownBlock ∧ some k_ ≠ (.slice Ao25 y115.length co25 : Value).ownBlock ∧ some k_ ≠ (.slice Ao27 t118.length co27 : Value).ownBlock)) HO_5.out (fun k_ hk => ⟨hk.1.1.1.1.1, ⟨hk.1.1.1.2, ⟨hk.1.2, hk.2⟩⟩⟩)); clear HO_5; have HO_5 := n_; clear n_; have HX28 := Aside0.mk (show Kd.N k113 113 w26 w.heap.size (fun k_ => (w.heap.size ≤ k_) ∧ some k_ ≠ (.slice Ao19 t108.length co19 : Value).ownBlock ∧ some k_ ≠ (.slice Ao25 y115.length co25 : Value).ownBlock) (.slice (some ⟨go16, 0, none⟩) x5_1.length co8) x5_1 from (by (with_reducible repeat (first | apply Kd.N_alloc | apply Kd.N_drewN | apply Kd.N_drew)); exact Kd.N_mono HO_5.out (fun _ hk => ⟨hk.1, ⟨hk.2.1, hk.2.2.1⟩⟩))); obtain ⟨ce28, hcl28, hM28, hcc28, hfr28⟩ := Kd.N_elem HX28.out z113 (x21_1 : Int) (of_decide_eq_true zA) (by have h_ : (x21_1 : Int) < ((x5_1.length : Int) : Int) := of_decide_eq_true zA; first | exact h_ | (have e_ := (Kd.N_reads' HO_5.out).1; omega) | simpa using h_); obtain ⟨ua28_1, uc28_1, rfl, ul28_1, ge28_1⟩ := k113_openF hM28; have HP28 := Kd.N_seg HX28.out (x21_1 : Int) (of_decide_eq_true zA) (by have h_ : (x21_1 : Int) < ((x5_1.length : Int) : Int) := of_decide_eq_true zA; first | exact h_ | (have e_ := (Kd.N_reads' HO_5.out).1; omega) | simpa using h_) (seg := [.bool false, .slice Ao27 t118.length co27]) (j := 0) hcl28 hcc28 (show 2 ≤ 2 from by decide) (x' := (⟨false, t118⟩ : S113)) (k113_mkF _ _ (⟨false, t118⟩ : S113) (Kd.R_reads' (Kd.R_mono (ok' := (fun k_ => ((fun k_ => (w.heap.size ≤ k_) ∧ some k_ ≠ (.slice Ao19 t108.length co19 : Value).ownBlock ∧ some k_ ≠ (.slice Ao25 y115.length co25 : Value).ownBlock)) k_ ∧ k_ ≠ go16)) (Kd.R_apart' (Kd.R_apart' (HO120.out) (Kd.N_typed HO117.out) (by decide)) (Kd.N_typed HO_5.out) (by decide)) (fun k_ hk => by exact ⟨⟨hk.1.1.1.1, ⟨hk.1.1.2, hk.1.2⟩⟩, fun e_ => (hk.2) (by rw [e_]; rfl)⟩))).2.1 (Kd.R_F (Kd.R_mono (ok' := (fun k_ => ((fun k_ => (w.heap.size ≤ k_) ∧ some k_ ≠ (.slice Ao19 t108.length co19 : Value).ownBlock ∧ some k_ ≠ (.slice Ao25 y115.length co25 : Value).ownBlock)) k_ ∧ k_ ≠ go16)) (Kd.R_apart' (Kd.R_apart' (HO120.out) (Kd.N_typed HO117.out) (by decide)) (Kd.N_typed HO_5.out) (by decide)) (fun k_ hk => by exact ⟨⟨hk.1.1.1.1, ⟨hk.1.1.2, hk.1.2⟩⟩, fun e_ => (hk.2) (by rw [e_]; rfl)⟩)))) (fun _ hk => hk); have hx28_0 := hcc28 0 _ rfl; (try simp only [show (k113).sz = 2 from rfl, Nat.mul_one, Nat.add_zero] at hx28_0); have hf28_0 := hfr28 0; (try simp only [show (k113).sz = 2 from rfl, Nat.mul_one, Nat.add_zero] at hf28_0); have hx28_1 := hcc28 1 _ rfl; (try simp only [show (k113).sz = 2 from rfl, Nat.mul_one, Nat.add_zero] at hx28_1); have hf28_1 := hfr28 1; (try simp only [show (k113).sz = 2 from rfl, Nat.mul_one, Nat.add_zero] at hf28_1); clear hcl28 hcc28 hfr28 hM28) | ((with_reducible refine gate_store (t := 113) (p := 46) rfl ?_); refine store_event (t := 113) (p := 46) (v := ?vo_w29) (w1 := ((w26.setCell ⟨go16, (x21_1 : Int).toNat * 2, none⟩ (.bool false)).setCell ⟨go16, (x21_1 : Int).toNat * 2 + 1, none⟩ (.slice Ao27 t118.length co27))) ?hg ?ho ?hn ?hr ?_; (case ho => rfl); (case hg => rfl); (case hn => rfl); (case hr => first | (go_simp; done) | (go_simp; rfl)); intro w29 hw; have hg : w26.grownBy w29 (some go16) := (by rw [hw]; exact HP28.2); have hp_ : Kd.N k113 113 w29 w.heap.size (fun k_ => (w.heap.size ≤ k_) ∧ some k_ ≠ (.slice Ao19 t108.length co19 : Value).ownBlock ∧ some k_ ≠ (.slice Ao25 y115.length co25 : Value).ownBlock) (.slice (some ⟨go16, 0, none⟩) x5_1.length co8) y121 := (by rw [hw, Ny121.out]; exact HP28.1); clear HP28; replace HO110 := Aside0.mk (Kd.R_over' (v := (.slice (some ⟨go16, 0, none⟩) x5_1.length co8)) (zR HO110.out) (Kd.N_typed HO_5.out) (by decide) hg); replace HO_5 := Aside0.mk (hp_); replace HO117 := Aside0.mk (Kd.N_afterv (v := (.slice (some ⟨go16, 0, none⟩) x5_1.length co8)) (v1 := (.slice (some ⟨go16, 0, none⟩) x5_1.length co8)) (ok := (fun k_ => (w.heap.size ≤ k_) ∧ some k_ ≠ (.slice Ao19 t108.length co19 : Value).ownBlock ∧ some k_ ≠ (.slice Ao27 t118.length co27 : Value).ownBlock)) (by (with_reducible repeat (first | apply Kd.N_alloc | apply Kd.N_drewN | apply Kd.N_drew)); exact Kd.N_mono HO117.out (fun _ hk => ⟨⟨hk.1.1, ⟨hk.1.2.2, hk.2⟩⟩, hk.1.2.1⟩)) hg (.inl rfl)); replace HB := Aside0.mk ((by rw [hw]; exact below_set (below_set (HB.out) GB16.out) GB16.out : Below w.heap.size w w29)); clear HO120; clear hg hw hp_))
   (try simp only [← hl5_1])
   go_roundg k1
   case measure => have := HK1.out; omega
   case rel => exact ⟨(y121), (wrap64 (x21_1 + 1)), zF, H', ⟨zo1 HK1⟩, ⟨by (try simp only [hl5_1]); (with_reducible repeat (first | apply Kd.N_alloc | apply Kd.N_drewN | apply Kd.N_drew)); exact Kd.N_mono HO_5.out (fun _ hk => hk.1)⟩, ⟨zB HB.out⟩⟩
 have c9b0 := decide_eq_false c9
 (try (have c9h0 := c9b0; simp only [hl5_1] at c9h0))
 clear c9
 obtain ⟨y122, hy122⟩ : ∃ y_ : List (List (S113)), y_ = (([x5_1] : List (List (S113)))) := ⟨_, rfl⟩
 replace H : ((macwilliams_small.f k1 (wrap64 (a0 - 1))).bind fun bt125 => (macwilliams_table.l1 k1 a1 y122 a1 0 bt125.1 bt125.2)) = some r := zY hy122 H
 have Ny122 := Aside0.mk hy122
 clear hy122
 replace H := zb H
 obtain ⟨⟨t125, t126⟩, A30, H⟩ := H
 dsimp only at H
 have H' := Aside0.mk H
 clear H
 go_wp2_with (first | ((with_reducible refine gate_dst (N := 49) rfl ?_); refine Kd.N_lit (Kd.slice 113 k113) _ 114 ?hg (N' := 49) ?hd (xs := ([x5_1] : List (List (S113)))) (inner := [.slice Ao8 x5_1.length co8]) (ok := (fun k_ => (w.heap.size ≤ k_))) (okp := (fun k_ => (w.heap.size ≤ k_))) ?hr ?hp (fun _ hk => hk) ((show ∀ k_, wr.heap.size ≤ k_ → (fun k_ => (w.heap.size ≤ k_)) k_ from fun k_ hk => (Nat.le_trans (below_size (zB HB.out)) hk)) _ (Nat.le_refl _)) (Below.refl _ _) (Nat.le_refl _) (by simp) ?_; (case hd => rfl); (case hg => rfl); (case hr => first | (go_simp; done) | (go_simp; rfl)); (case hp => exact (Reps.one (show Kd.FK (Kd.slice 113 k113) _ _ x5_1 [.slice Ao8 x5_1.length co8] from (Kd.FK_slice_mk (Kd.N_reads' (Kd.N_mono (ok' := (fun k_ => (w.heap.size ≤ k_))) (HO_5.out) (fun k_ hk => by exact hk))).2.1 (Kd.N_F (Kd.N_mono (ok' := (fun k_ => (w.heap.size ≤ k_))) (HO_5.out) (fun k_ hk => by exact hk))))) (Reps.none _ _))); intro v123 w31 ho32 hb hg_ hnew_; clear hg_ hnew_; (first | rw [← Ny122.out] at ho32 | (simp only [Int.reduceToNat] at ho32; rw [← Ny122.out] at ho32)); have HO124 := Aside0.mk (Kd.N_lower ho32 (below_size (zB HB.out))); replace HB := yS HB hb; clear HO_5; clear hb ho32) | ((with_reducible refine gate_callee (f := 124) rfl ?_); refine zG (some 52) Try.func124 #[.int .i64 (wrap64 (a0 - 1))] ?_; (with_reducible refine (macwilliams_small.calls k1 (wrap64 (a0 - 1)) t125 t126 _ A30.out).mono ?_); rintro e w33 ⟨v127, rfl, ho0, hb⟩; refine ⟨_, rfl, ?_⟩; replace HO124 := yNe HO124 ho0 hb; replace ho0 := Kd.R_newM (M := fun k_ => (w.heap.size ≤ k_)) ho0 (below_size (zB HB.out)) (fun k_ h_ => h_); have HO128 := yRl ho0 HB; replace HB := yS HB hb; (try clear hb ho0)) | ((with_reducible refine gate_dst (N := 12) rfl ?_); refine box_event ?hg (N := 12) ?hd (cs := #[.bool false, .slice none 0 0]) (t := 113) ?hr ?_; (case hd => rfl); (case hg => rfl); (case hr => first | (go_simp; done) | (go_simp; rfl)); intro gb129 hg w34 hbox hb; replace HO124 := Aside0.mk (Kd.N_below (Kd.N_elderB (zN HO124.out) gb129 (Nat.le_of_eq hg.symm)) hb); replace HO128 := yRb HO128 hb; have BK129 := Aside0.mk (hbox); have GW129 := yg hg HB; have GE129 := yg hg HB; replace HB := yS HB hb; clear hb hbox hg; have hcz35_0 : w34.cell? ⟨gb129, 0, none⟩ = some (.bool false) := (blk_cell BK129.out 0).trans rfl; have hcz35_1 : w34.cell? ⟨gb129, 1, none⟩ = some (.slice none 0 0) := (blk_cell BK129.out 1).trans rfl; have hfz35_0 := blk_frozen BK129.out 0; have hfz35_1 := blk_frozen BK129.out 1; obtain ⟨Ao36, co36, rfl⟩ := Kd.R_slice HO128.out))
 go_loopg [11, 54] k1 (fun kq v11 v54 w' => ∃ (x11_2 : List (List (S113))) (x54_2 : Int), v54 = .int .i64 x54_2 ∧ Aside0 (macwilliams_table.l1 kq a1 x11_2 a1 x54_2 t125 t126 = some r) ∧ Aside0 (kq ≤ k1) ∧ Aside0 (Kd.N (Kd.slice 113 k113) 114 w' w.heap.size (fun k_ => (w.heap.size ≤ k_) ∧ some k_ ≠ ((.slice Ao36 t126.length co36) : Value).ownBlock ∧ k_ ≠ gb129) v11 x11_2) ∧ Aside0 (Kd.R (Kd.int .u32) 97 w' w.heap.size (fun k_ => (w.heap.size ≤ k_)) (.slice Ao36 t126.length co36) t126) ∧ Aside0 (w'.heap[gb129]? = some (.cells #[.bool t125, (.slice Ao36 t126.length co36)] 113 (0, 0))) ∧ Aside0 (Below w.heap.size w w'))
 case atStart => exact ⟨(y122), (0), zF, H', ⟨Nat.le_refl _⟩, ⟨by (try simp only [hl5_1]); (with_reducible repeat (first | apply Kd.N_alloc | apply Kd.N_drewN | apply Kd.N_drew)); exact Kd.N_mono (Kd.N_far (p := ⟨gb129, 1, none⟩) (Kd.N_far (p := ⟨gb129, 0, none⟩) (Kd.N_mono HO124.out (fun k_ hk => (⟨hk, hk.2⟩ : _ ∧ k_ ≠ gb129))) (fun _ hk => hk.2) (.bool t125)) (fun _ hk => hk.2) (.slice Ao36 t126.length co36)) (fun _ hk => ⟨hk.1.1.1, ⟨hk.1.1.2, hk.1.2⟩⟩)⟩, ⟨by (try simp only [hl5_1]); (with_reducible repeat (first | apply Kd.R_alloc | apply Kd.R_drewN | apply Kd.R_drew)); exact Kd.R_mono (Kd.R_far (p := ⟨gb129, 1, none⟩) (Kd.R_far (p := ⟨gb129, 0, none⟩) (Kd.R_types HO128.out BK129.out (by decide)) (fun _ hk => hk.2) (.bool t125)) (fun _ hk => hk.2) (.slice Ao36 t126.length co36)) (fun _ hk => hk.1.1)⟩, ⟨by (try simp only [hl5_1]); (with_reducible repeat (first | refine blk_drewN ?_ _ | refine blk_drew ?_ | refine blk_alloc ?_ _)); refine blk_put (cs := #[.bool t125, .slice none 0 0]) ?_ 1 _ rfl; (with_reducible repeat (first | refine blk_drewN ?_ _ | refine blk_drew ?_ | refine blk_alloc ?_ _)); refine blk_put (cs := #[.bool false, .slice none 0 0]) ?_ 0 _ rfl; (with_reducible repeat (first | refine blk_drewN ?_ _ | refine blk_drew ?_ | refine blk_alloc ?_ _)); exact BK129.out⟩, ⟨zB1 HB.out GE129.out⟩⟩
 clear H'
 (try clear c1);(try clear p1);(try clear q1);(try clear hx1);(try clear c2);(try clear p2);(try clear hx2);(try clear hf2);(try clear c4);(try clear c4b0);(try clear c4b1);(try clear c5);(try clear c5b0);(try clear c5b1);(try clear p6);(try clear c7);(try clear c8);(try clear c9);(try clear c9b0);(try clear c12);(try clear c14);(try clear c14b0);(try clear c15);(try clear c15b0);(try clear c16);(try clear p16);(try clear q16);(try clear hx16);(try clear hf16);(try clear c28);(try clear hx28);(try clear hf28);(try clear hcz35_0);(try clear hcz35_1);(try clear hfz35_0);(try clear hfz35_1);(try clear hx16_0);(try clear hx16_1);(try clear hx28_0);(try clear hx28_1)
 obtain ⟨x11_2, x54_2, rfl, HA, HK2, HO_11, HO_130001, BK129, HB⟩ := hrel
 cases gk with | zero => exact absurd HA.out (by simp [macwilliams_table.l1]) | succ k2 => ?_
 have H := HA.out
 clear HA
 simp only [macwilliams_table.l1] at H
 replace H := zi H
 rcases H with ⟨c37, H⟩ | ⟨c37, H⟩
 · have c37b0 := decide_eq_true c37
   clear c37
   obtain ⟨ji38, hji38⟩ : ∃ j_ : Int, (wrap64 ((x11_2.length : Int) - 1)) = j_ := ⟨_, rfl⟩
   replace H : (if 0 ≤ (ji38) then (if (ji38) < (x11_2.length : Int) then (if 0 < ((rd_L6 x11_2 (ji38)).length : Int) then (macwilliams_table.l2 k2 a1 x11_2 (rd_L6 x11_2 (ji38)) (([(⟨(rd_T113 (rd_L6 x11_2 (ji38)) 0).f0, (rd_T113 (rd_L6 x11_2 (ji38)) 0).f1⟩ : S113)] : List (S113))) 1 a1 x54_2 t125 t126) else (none)) else (none)) else (none)) = some r := by first | (rw [hji38] at H; exact H) | (simp only [hji38] at H ⊢; exact H)
   have hji38w : (IntKind.i64.wrap ((x11_2.length : Int) - 1)) = ji38 := (i64_w _).trans hji38
   replace H := zg H
   obtain ⟨c39, H⟩ := H
   have c39b0 := decide_eq_true c39
   clear c39
   replace H := zg H
   obtain ⟨c40, H⟩ := H
   have c40b0 := decide_eq_true c40
   (try (have c40h0 := c40b0; simp only [hl5_1] at c40h0))
   clear c40
   replace H := zg H
   obtain ⟨c41, H⟩ := H
   have c41b0 := decide_eq_true c41
   (try (have c41h0 := c41b0; simp only [hl5_1] at c41h0))
   have c41b1 : decide (0 < (rd_L6 x11_2 (ji38)).length) = true := decide_eq_true (by omega)
   (try (have c41h1 := c41b1; simp only [hl5_1] at c41h1))
   clear c41
   obtain ⟨y132, hy132⟩ : ∃ y_ : List (S113), y_ = (([(⟨(rd_T113 (rd_L6 x11_2 (ji38)) 0).f0, (rd_T113 (rd_L6 x11_2 (ji38)) 0).f1⟩ : S113)] : List (S113))) := ⟨_, rfl⟩
   replace H : (macwilliams_table.l2 k2 a1 x11_2 (rd_L6 x11_2 (ji38)) y132 1 a1 x54_2 t125 t126) = some r := zY hy132 H
   have Ny132 := Aside0.mk hy132
   clear hy132
   have H' := Aside0.mk H
   clear H
   obtain ⟨Ao42, co42, rfl⟩ := Kd.N_slice HO_11.out
   have p130 : 0 ≤ ((ji38) : Int) := of_decide_eq_true zA
   have q130 : (ji38) < (x11_2.length : Int) := of_decide_eq_true zA
   obtain ⟨ad130, A130_0, c130_0, e130, hx130_0, hl130_0, hi130_0⟩ := at_L6 (Kd.N_reads' HO_11.out).2.2 (ji38) p130 q130
   cases e130
   obtain ⟨ce130, hce130, hMe130, hcc130⟩ := Kd.N_get HO_11.out [] (ji38) p130 (by first | exact q130 | exact of_decide_eq_true zA | (have e_ := (Kd.N_reads' HO_11.out).1; omega))
   obtain ⟨ua130_0, uc130_0, rfl, ul130_0, ge130_0⟩ := Kd.FK_slice_open hMe130
   have hv130_0 := hcc130 0 _ rfl
   rw [Nat.add_zero, show ((Kd.slice 113 k113)).sz = 1 from rfl, Nat.mul_one] at hv130_0
   replace hv130_0 := Option.some.inj (hv130_0.symm.trans hx130_0)
   injection hv130_0 with hva_ hvn_ hvc_
   rw [hva_] at ge130_0
   rw [hvc_] at ul130_0
   have HL130_0 := Aside0.mk (show Kd.V k113 113 _ w.heap.size _ _ (rd_L6 x11_2 (ji38)) from Kd.V_mk ul130_0 ge130_0)
   clear hva_ hvn_ hvc_ ge130_0 ul130_0
   clear hcc130 hce130
   have HR130_0 := Aside0.mk hi130_0
   have HC130_0 := Aside0.mk hl130_0
   clear hi130_0 hl130_0
   replace p130 := eq_true p130
   replace q130 := eq_true q130
   have p131 : 0 ≤ (0 : Int) := (by omega)
   have q131 : 0 < ((rd_L6 x11_2 (ji38)).length : Int) := of_decide_eq_true zA
   obtain ⟨ad131, A131_1, c131_1, e131, hx131_0, hx131_1, hl131_1, hi131_1⟩ := at_T113 (zCr HR130_0.out) 0 p131 q131
   cases e131
   obtain ⟨ce131, hce131, hMe131, hcc131⟩ := Kd.V_get HL130_0.out z113 0 p131 (by first | exact q131 | exact of_decide_eq_true zA | (have e_ := (Kd.V_reads' HL130_0.out).1; omega))
   obtain ⟨ua131_1, uc131_1, rfl, ul131_1, ge131_1⟩ := k113_openF hMe131
   have hv131_1 := hcc131 1 _ rfl
   rw [add_field _ _ 1 (by omega)] at hv131_1
   replace hv131_1 := Option.some.inj (hv131_1.symm.trans hx131_1)
   injection hv131_1 with hva_ hvn_ hvc_
   rw [hva_] at ge131_1
   rw [hvc_] at ul131_1
   have HL131_1 := Aside0.mk (show Kd.V (Kd.int .u32) 97 _ w.heap.size _ _ ((rd_T113 (rd_L6 x11_2 (ji38)) 0).f1) from Kd.V_mk ul131_1 ge131_1)
   clear hva_ hvn_ hvc_ ge131_1 ul131_1
   clear hcc131 hce131
   have qi131 : (0 < (rd_L6 x11_2 (ji38)).length) = True := eq_true (by omega)
   (try rw [show ((0 : Int)).toNat = 0 from rfl] at hx131_0)
   (try rw [show 0 * 2 = 0 from rfl] at hx131_0)
   (try rw [Addr.add_zero'] at hx131_0)
   (try rw [show ((0 : Int)).toNat = 0 from rfl] at hx131_1)
   (try rw [show 0 * 2 = 0 from rfl] at hx131_1)
   (try rw [Addr.add_zero'] at hx131_1)
   have HR131_1 := Aside0.mk hi131_1
   have HC131_1 := Aside0.mk hl131_1
   clear hi131_1 hl131_1
   replace p131 := eq_true p131
   replace q131 := eq_true q131
   go_wp2_with (first | ((with_reducible refine gate_dst (N := 65) rfl ?_); refine Kd.N_lit k113 _ 113 ?hg (N' := 65) ?hd (xs := ([(⟨(rd_T113 (rd_L6 x11_2 (ji38)) 0).f0, (rd_T113 (rd_L6 x11_2 (ji38)) 0).f1⟩ : S113)] : List (S113))) (inner := [.bool ((rd_T113 (rd_L6 x11_2 (ji38)) 0).f0), .slice A131_1 ((rd_T113 (rd_L6 x11_2 (ji38)) 0).f1).length c131_1]) (ok := (fun k_ => (w.heap.size ≤ k_) ∧ some k_ ≠ (.slice (some ad130) x11_2.length co42 : Value).ownBlock ∧ some k_ ≠ (.slice Ao36 t126.length co36 : Value).ownBlock ∧ k_ ≠ gb129)) (okp := (fun k_ => (w.heap.size ≤ k_) ∧ some k_ ≠ (.slice (some ad130) x11_2.length co42 : Value).ownBlock ∧ some k_ ≠ (.slice Ao36 t126.length co36 : Value).ownBlock ∧ k_ ≠ gb129)) ?hr ?hp (fun _ hk => hk) ((show ∀ k_, wr.heap.size ≤ k_ → (fun k_ => (w.heap.size ≤ k_) ∧ some k_ ≠ (.slice (some ad130) x11_2.length co42 : Value).ownBlock ∧ some k_ ≠ (.slice Ao36 t126.length co36 : Value).ownBlock ∧ k_ ≠ gb129) k_ from fun k_ hk => ⟨(Nat.le_trans (below_size (zB1 HB.out GE129.out)) hk), Kd.fresh' (Kd.N_lt (zN HO_11.out)) k_ hk, Kd.fresh' (Kd.R_lt (zR HO_130001.out)) k_ hk, Kd.freshB (g := gb129) (o := .cells #[.bool t125, .slice Ao36 t126.length co36] 113 (0, 0)) (by (with_reducible repeat (first | refine blk_drewN ?_ _ | refine blk_drew ?_ | refine blk_alloc ?_ _)); exact BK129.out) k_ hk⟩) _ (Nat.le_refl _)) (Below.refl _ _) (Nat.le_refl _) (by simp) ?_; (case hd => rfl); (case hg => rfl); (case hr => first | (go_simp; done) | (go_simp; rfl)); (case hp => exact (Reps.c2 (show Kd.FK k113 _ _ (⟨(rd_T113 (rd_L6 x11_2 (ji38)) 0).f0, (rd_T113 (rd_L6 x11_2 (ji38)) 0).f1⟩ : S113) [.bool ((rd_T113 (rd_L6 x11_2 (ji38)) 0).f0), .slice A131_1 ((rd_T113 (rd_L6 x11_2 (ji38)) 0).f1).length c131_1] from (k113_mkF _ _ (⟨(rd_T113 (rd_L6 x11_2 (ji38)) 0).f0, (rd_T113 (rd_L6 x11_2 (ji38)) 0).f1⟩ : S113) (Kd.V_reads' (Kd.V_mono (ok' := (fun k_ => (w.heap.size ≤ k_) ∧ some k_ ≠ (.slice (some ad130) x11_2.length co42 : Value).ownBlock ∧ some k_ ≠ (.slice Ao36 t126.length co36 : Value).ownBlock ∧ k_ ≠ gb129)) (HL131_1.out) (fun k_ hk => by exact ⟨hk.1.1, ⟨hk.2, ⟨hk.1.2.1, hk.1.2.2⟩⟩⟩))).2.1 (Kd.V_F (Kd.V_mono (ok' := (fun k_ => (w.heap.size ≤ k_) ∧ some k_ ≠ (.slice (some ad130) x11_2.length co42 : Value).ownBlock ∧ some k_ ≠ (.slice Ao36 t126.length co36 : Value).ownBlock ∧ k_ ≠ gb129)) (HL131_1.out) (fun k_ hk => by exact ⟨hk.1.1, ⟨hk.2, ⟨hk.1.2.1, hk.1.2.2⟩⟩⟩))))) (Reps.none _ _))); intro v133 w43 ho44 hb hg_ hnew_; clear hg_ hnew_; (first | rw [← Ny132.out] at ho44 | (simp only [Int.reduceToNat] at ho44; rw [← Ny132.out] at ho44)); replace HO_11 := Aside0.mk (Kd.N_elder' (zN HO_11.out) (Kd.N_base ho44) hb); replace HO_130001 := yRb HO_130001 hb; replace HL130_0 := Aside0.mk (Kd.V_elder' (zV HL130_0.out) (Kd.N_base ho44) hb); replace HL131_1 := Aside0.mk (Kd.V_elder' (zV HL131_1.out) (Kd.N_base ho44) hb); have HO134 := Aside0.mk (Kd.N_lower ho44 (below_size (zB1 HB.out GE129.out))); replace BK129 := yK BK129 hb; replace HR130_0 := yCb HR130_0 hb; replace HR131_1 := yCb HR131_1 hb; replace HB := yS1 HB GE129 hb; clear hb ho44))
   go_loopg [14, 15] k2 (fun kq v14 v15 w' => ∃ (x14_3 : List (S113)) (x15_3 : Int), v15 = .int .i64 x15_3 ∧ Aside0 (macwilliams_table.l2 kq a1 x11_2 (rd_L6 x11_2 (ji38)) x14_3 x15_3 a1 x54_2 t125 t126 = some r) ∧ Aside0 (kq ≤ k2) ∧ Aside0 (Kd.N (Kd.slice 113 k113) 114 w' w.heap.size (fun k_ => (w.heap.size ≤ k_) ∧ some k_ ≠ (v14 : Value).ownBlock ∧ some k_ ≠ ((.slice Ao36 t126.length co36) : Value).ownBlock ∧ k_ ≠ gb129) (.slice (some ad130) x11_2.length co42) x11_2) ∧ Aside0 (Kd.V k113 113 w' w.heap.size (fun k_ => (w.heap.size ≤ k_) ∧ some k_ ≠ ((.slice (some ad130) x11_2.length co42) : Value).ownBlock ∧ some k_ ≠ (v14 : Value).ownBlock ∧ some k_ ≠ ((.slice Ao36 t126.length co36) : Value).ownBlock ∧ k_ ≠ gb129) (.slice (some ad131) (rd_L6 x11_2 (ji38)).length c130_0) (rd_L6 x11_2 (ji38))) ∧ Aside0 (Kd.N k113 113 w' w.heap.size (fun k_ => (w.heap.size ≤ k_) ∧ some k_ ≠ ((.slice (some ad130) x11_2.length co42) : Value).ownBlock ∧ some k_ ≠ ((.slice Ao36 t126.length co36) : Value).ownBlock ∧ k_ ≠ gb129) v14 x14_3) ∧ Aside0 (Kd.R (Kd.int .u32) 97 w' w.heap.size (fun k_ => (w.heap.size ≤ k_)) (.slice Ao36 t126.length co36) t126) ∧ Aside0 (w'.heap[gb129]? = some (.cells #[.bool t125, (.slice Ao36 t126.length co36)] 113 (0, 0))) ∧ Aside0 (Below w.heap.size w w'))
   case atStart => exact ⟨(y132), (1), zF, H', ⟨Nat.le_refl _⟩, ⟨by (try simp only [hl5_1]); (with_reducible repeat (first | apply Kd.N_alloc | apply Kd.N_drewN | apply Kd.N_drew)); exact Kd.N_mono HO_11.out (fun _ hk => ⟨hk.1.1, ⟨hk.2, ⟨hk.1.2.1, hk.1.2.2⟩⟩⟩)⟩, ⟨by (try simp only [hl5_1]); (with_reducible repeat (first | apply Kd.V_alloc | apply Kd.V_drewN | apply Kd.V_drew)); exact Kd.V_mono HL130_0.out (fun _ hk => ⟨hk.1.1.1, ⟨hk.1.2, ⟨hk.2, ⟨hk.1.1.2.1, hk.1.1.2.2⟩⟩⟩⟩)⟩, ⟨by (try simp only [hl5_1]); (with_reducible repeat (first | apply Kd.N_alloc | apply Kd.N_drewN | apply Kd.N_drew)); exact HO134.out⟩, ⟨by (try simp only [hl5_1]); (with_reducible repeat (first | apply Kd.R_alloc | apply Kd.R_drewN | apply Kd.R_drew)); exact HO_130001.out⟩, ⟨by (try simp only [hl5_1]); (with_reducible repeat (first | refine blk_drewN ?_ _ | refine blk_drew ?_ | refine blk_alloc ?_ _)); exact BK129.out⟩, ⟨zB1 HB.out GE129.out⟩⟩
   clear H'
   (try clear c1);(try clear p1);(try clear q1);(try clear hx1);(try clear qi1);(try clear c2);(try clear p2);(try clear hx2);(try clear hf2);(try clear c3);(try clear c4);(try clear c4b0);(try clear c4b1);(try clear c5);(try clear c5b0);(try clear c5b1);(try clear p6);(try clear c7);(try clear c8);(try clear c9);(try clear c9b0);(try clear c12);(try clear c13);(try clear p13);(try clear q13);(try clear hx13);(try clear qi13);(try clear c14);(try clear c14b0);(try clear c15);(try clear c15b0);(try clear c16);(try clear p16);(try clear q16);(try clear hx16);(try clear hf16);(try clear c28);(try clear hx28);(try clear hf28);(try clear c37);(try clear c37b0);(try clear c39);(try clear c39b0);(try clear c40);(try clear c40b0);(try clear c41);(try clear c41b0);(try clear c41b1);(try clear hcz35_0);(try clear hcz35_1);(try clear hfz35_0);(try clear hfz35_1);(try clear hx130_0);(try clear hx131_0);(try clear hx131_1);(try clear hx16_0);(try clear hx16_1);(try clear hx28_0);(try clear hx28_1);(try clear p130);(try clear p131);(try clear q130);(try clear q131)
   obtain ⟨x14_3, x15_3, rfl, HA, HK3, HO_11, HO_13, HO_14, HO_130001, BK129, HB⟩ := hrel
   cases gk with | zero => exact absurd HA.out (by simp [macwilliams_table.l2]) | succ k3 => ?_
   have H := HA.out
   clear HA
   simp only [macwilliams_table.l2] at H
   replace H := zi H
   rcases H with ⟨c45, H⟩ | ⟨c45, H⟩
   · have c45b0 := decide_eq_true c45
     clear c45
     replace H := zg H
     obtain ⟨c46, H⟩ := H
     have c46b0 := decide_eq_true c46
     clear c46
     replace H := zg H
     obtain ⟨c47, H⟩ := H
     have c47b0 := decide_eq_true c47
     (try (have c47h0 := c47b0; simp only [hl5_1] at c47h0))
     clear c47
     obtain ⟨ji48, hji48⟩ : ∃ j_ : Int, (wrap64 (x15_3 - 1)) = j_ := ⟨_, rfl⟩
     replace H : (if 0 ≤ (ji48) then (if (ji48) < ((rd_L6 x11_2 (ji38)).length : Int) then ((macwilliams_minus.f k3 ((rd_T113 (rd_L6 x11_2 (ji38)) x15_3).f0) ((rd_T113 (rd_L6 x11_2 (ji38)) x15_3).f1) ((rd_T113 (rd_L6 x11_2 (ji38)) (ji48)).f0) ((rd_T113 (rd_L6 x11_2 (ji38)) (ji48)).f1)).bind fun bt137 => (if (ji48) < (x14_3.length : Int) then ((macwilliams_times.f k3 t125 t126 ((rd_T113 x14_3 (ji48)).f0) ((rd_T113 x14_3 (ji48)).f1)).bind fun bt142 => ((macwilliams_minus.f k3 bt137.1 bt137.2 bt142.1 bt142.2).bind fun bt146 => (if x14_3.length < 4398046511104 then (macwilliams_table.l2 k3 a1 x11_2 (rd_L6 x11_2 (ji38)) (x14_3 ++ [(⟨bt146.1, bt146.2⟩ : S113)]) (wrap64 (x15_3 + 1)) a1 x54_2 t125 t126) else (none)))) else (none))) else (none)) else (none)) = some r := by first | (rw [hji48] at H; exact H) | (simp only [hji48] at H ⊢; exact H)
     have hji48w : (IntKind.i64.wrap (x15_3 - 1)) = ji48 := (i64_w _).trans hji48
     replace H := zg H
     obtain ⟨c49, H⟩ := H
     have c49b0 := decide_eq_true c49
     clear c49
     replace H := zg H
     obtain ⟨c50, H⟩ := H
     have c50b0 := decide_eq_true c50
     (try (have c50h0 := c50b0; simp only [hl5_1] at c50h0))
     clear c50
     replace H := zb H
     obtain ⟨⟨t137, t138⟩, A51, H⟩ := H
     dsimp only at H
     replace H := zg H
     obtain ⟨c52, H⟩ := H
     have c52b0 := decide_eq_true c52
     (try (have c52h0 := c52b0; simp only [hl5_1] at c52h0))
     clear c52
     replace H := zb H
     obtain ⟨⟨t142, t143⟩, A53, H⟩ := H
     dsimp only at H
     replace H := zb H
     obtain ⟨⟨t146, t147⟩, A54, H⟩ := H
     dsimp only at H
     replace H := zg H
     obtain ⟨c55, H⟩ := H
     have LMc55 := Aside0.mk c55
     clear c55
     obtain ⟨y150, hy150⟩ : ∃ y_ : List (S113), y_ = (x14_3 ++ [(⟨t146, t147⟩ : S113)]) := ⟨_, rfl⟩
     replace H : (macwilliams_table.l2 k3 a1 x11_2 (rd_L6 x11_2 (ji38)) y150 (wrap64 (x15_3 + 1)) a1 x54_2 t125 t126) = some r := zY hy150 H
     have Ny150 := Aside0.mk hy150
     clear hy150
     have H' := Aside0.mk H
     clear H
     try go_wp2
     replace HO_11 := Aside0.mk (Kd.N_drew HO_11.out)
     replace HO_13 := Aside0.mk (Kd.V_drew HO_13.out)
     replace HO_14 := Aside0.mk (Kd.N_drew HO_14.out)
     replace HO_130001 := Aside0.mk (Kd.R_drew HO_130001.out)
     replace BK129 := Aside0.mk (blk_drew BK129.out)
     replace HB := Aside0.mk (below_drew1 HB.out)
     have p135 : 0 ≤ (x15_3 : Int) := of_decide_eq_true zA
     have q135 : x15_3 < ((rd_L6 x11_2 (ji38)).length : Int) := of_decide_eq_true zA
     obtain ⟨ad135, A135_1, c135_1, e135, hx135_0, hx135_1, hl135_1, hi135_1⟩ := at_T113 (Kd.V_reads' HO_13.out).2.2 x15_3 p135 q135
     obtain rfl : ad131 = ad135 := (by injection e135)
     obtain ⟨ce135, hce135, hMe135, hcc135⟩ := Kd.V_get HO_13.out z113 x15_3 p135 (by first | exact q135 | exact of_decide_eq_true zA | (have e_ := (Kd.V_reads' HO_13.out).1; omega))
     obtain ⟨ua135_1, uc135_1, rfl, ul135_1, ge135_1⟩ := k113_openF hMe135
     have hv135_1 := hcc135 1 _ rfl
     rw [add_field _ _ 1 (by omega)] at hv135_1
     replace hv135_1 := Option.some.inj (hv135_1.symm.trans hx135_1)
     injection hv135_1 with hva_ hvn_ hvc_
     rw [hva_] at ge135_1
     rw [hvc_] at ul135_1
     have HL135_1 := Aside0.mk (show Kd.V (Kd.int .u32) 97 _ w.heap.size _ _ ((rd_T113 (rd_L6 x11_2 (ji38)) x15_3).f1) from Kd.V_mk ul135_1 ge135_1)
     clear hva_ hvn_ hvc_ ge135_1 ul135_1
     clear hcc135 hce135
     have HR135_1 := Aside0.mk hi135_1
     have HC135_1 := Aside0.mk hl135_1
     clear hi135_1 hl135_1
     replace p135 := eq_true p135
     replace q135 := eq_true q135
     have p136 : 0 ≤ ((ji48) : Int) := of_decide_eq_true zA
     have q136 : (ji48) < ((rd_L6 x11_2 (ji38)).length : Int) := of_decide_eq_true zA
     obtain ⟨ad136, A136_1, c136_1, e136, hx136_0, hx136_1, hl136_1, hi136_1⟩ := at_T113 (Kd.V_reads' HO_13.out).2.2 (ji48) p136 q136
     obtain rfl : ad131 = ad136 := (by injection e136)
     obtain ⟨ce136, hce136, hMe136, hcc136⟩ := Kd.V_get HO_13.out z113 (ji48) p136 (by first | exact q136 | exact of_decide_eq_true zA | (have e_ := (Kd.V_reads' HO_13.out).1; omega))
     obtain ⟨ua136_1, uc136_1, rfl, ul136_1, ge136_1⟩ := k113_openF hMe136
     have hv136_1 := hcc136 1 _ rfl
     rw [add_field _ _ 1 (by omega)] at hv136_1
     replace hv136_1 := Option.some.inj (hv136_1.symm.trans hx136_1)
     injection hv136_1 with hva_ hvn_ hvc_
     rw [hva_] at ge136_1
     rw [hvc_] at ul136_1
     have HL136_1 := Aside0.mk (show Kd.V (Kd.int .u32) 97 _ w.heap.size _ _ ((rd_T113 (rd_L6 x11_2 (ji38)) (ji48)).f1) from Kd.V_mk ul136_1 ge136_1)
     clear hva_ hvn_ hvc_ ge136_1 ul136_1
     clear hcc136 hce136
     have HR136_1 := Aside0.mk hi136_1
     have HC136_1 := Aside0.mk hl136_1
     clear hi136_1 hl136_1
     replace p136 := eq_true p136
     replace q136 := eq_true q136
     obtain ⟨Ao57, co57, eo57⟩ := Kd.N_slice HO_14.out
     (first | subst eo57 | (injection eo57 with f1_ f2_ f3_; have f4_ := f1_.symm; have f5_ := f3_.symm; clear f1_ f2_ f3_; subst f4_; subst f5_))
     have p141 : 0 ≤ ((ji48) : Int) := of_decide_eq_true zA
     have q141 : (ji48) < (x14_3.length : Int) := of_decide_eq_true zA
     obtain ⟨ad141, A141_1, c141_1, e141, hx141_0, hx141_1, hl141_1, hi141_1⟩ := at_T113 (Kd.N_reads' HO_14.out).2.2 (ji48) p141 q141
     cases e141
     obtain ⟨ce141, hce141, hMe141, hcc141⟩ := Kd.N_get HO_14.out z113 (ji48) p141 (by first | exact q141 | exact of_decide_eq_true zA | (have e_ := (Kd.N_reads' HO_14.out).1; omega))
     obtain ⟨ua141_1, uc141_1, rfl, ul141_1, ge141_1⟩ := k113_openF hMe141
     have hv141_1 := hcc141 1 _ rfl
     rw [add_field _ _ 1 (by omega)] at hv141_1
     replace hv141_1 := Option.some.inj (hv141_1.symm.trans hx141_1)
     injection hv141_1 with hva_ hvn_ hvc_
     rw [hva_] at ge141_1
     rw [hvc_] at ul141_1
     have HL141_1 := Aside0.mk (show Kd.V (Kd.int .u32) 97 _ w.heap.size _ _ ((rd_T113 x14_3 (ji48)).f1) from Kd.V_mk ul141_1 ge141_1)
     clear hva_ hvn_ hvc_ ge141_1 ul141_1
     clear hcc141 hce141
     have HR141_1 := Aside0.mk hi141_1
     have HC141_1 := Aside0.mk hl141_1
     clear hi141_1 hl141_1
     replace p141 := eq_true p141
     replace q141 := eq_true q141
     refine start_ (n := 22) (S := fun w' => w'.cell? ⟨gb129, 0, none⟩ = some (.bool t125) ∧ w'.cell? ⟨gb129, 1, none⟩ = some (.slice Ao36 t126.length co36) ∧ w'.cell? (ad131.add ((x15_3).toNat * 2)) = some (.bool ((rd_T113 (rd_L6 x11_2 (ji38)) x15_3).f0)) ∧ w'.cell? ⟨(ad131.add ((x15_3).toNat * 2)).block, (ad131.add ((x15_3).toNat * 2)).off + 1, none⟩ = some (.slice A135_1 ((rd_T113 (rd_L6 x11_2 (ji38)) x15_3).f1).length c135_1) ∧ w'.cell? (ad131.add (((ji48)).toNat * 2)) = some (.bool ((rd_T113 (rd_L6 x11_2 (ji38)) (ji48)).f0)) ∧ w'.cell? ⟨(ad131.add (((ji48)).toNat * 2)).block, (ad131.add (((ji48)).toNat * 2)).off + 1, none⟩ = some (.slice A136_1 ((rd_T113 (rd_L6 x11_2 (ji38)) (ji48)).f1).length c136_1) ∧ w'.cell? (ad141.add (((ji48)).toNat * 2)) = some (.bool ((rd_T113 x14_3 (ji48)).f0)) ∧ w'.cell? ⟨(ad141.add (((ji48)).toNat * 2)).block, (ad141.add (((ji48)).toNat * 2)).off + 1, none⟩ = some (.slice A141_1 ((rd_T113 x14_3 (ji48)).f1).length c141_1)) (ds := [19, 20]) #[false, false, false, false, false, false, false, false, false, false, false, false, false, false, false, false, false, false, false, false, false, false] (by kernel_rfl) rfl rfl ⟨(blk_cell BK129.out 0).trans rfl, (blk_cell BK129.out 1).trans rfl, hx135_0, hx135_1, hx136_0, hx136_1, hx141_0, hx141_1⟩ (fun hHeld => ?_); refine with_tabW macwilliams_table.tab18 macwilliams_table.bits18 (fun HT_ HW_ => ?_)
     generalize wr.drew = w56 at HO_11 HO_13 HO_14 HO_130001 BK129 HB HL135_1 HL136_1 HL141_1 HR135_1 HR136_1 HR141_1 hx135_0 hx135_1 hx136_0 hx136_1 hx141_0 hx141_1 hHeld ⊢
     refine zp (i := 0) (N := some 71) HT_ ?_
     refine zp (i := 1) (N := some 72) HT_ ?_
     refine zp (i := 2) (N := some 73) HT_ ?_
     refine zp (i := 3) (N := some 74) HT_ ?_
     refine zp (i := 5) (N := some 76) HT_ ?_
     refine zp (i := 6) (N := some 77) HT_ ?_
     refine zp (i := 7) (N := some 78) HT_ ?_
     refine zp (i := 8) (N := some 79) HT_ ?_
     refine zp (i := 12) (N := some 83) HT_ ?_
     refine zp (i := 13) (N := some 84) HT_ ?_
     refine zp (i := 14) (N := some 85) HT_ ?_
     refine zp (i := 15) (N := some 86) HT_ ?_
     refine take_ (i := 4) (N := some 75) (v := ?_) (a' := ?_) #[true, true, true, true, true, true, true, true, true, false, false, false, true, true, true, true, false, false, false, false, false, false] rfl rfl (take_ofW HT_.out HW_.out (by kernel_rfl)) (fun _ _ _ h => h) (Or.inl ⟨by rfl, ?_⟩) hHeld ?_ ?_
     rotate_left
     · rintro w' ⟨s0, s1, s2, s3, s4, s5, s6, s7⟩
       go_simp
       with_reducible rfl
     rotate_left
     · simp only [Act.put, List.setIfInBounds_toArray, List.set_cons_zero, List.set_cons_succ, i64_w, i32_w]
       rfl
     refine take_ (i := 9) (N := some 80) (v := ?_) (a' := ?_) #[true, true, true, true, true, true, true, true, true, true, false, false, true, true, true, true, false, false, false, false, false, false] rfl rfl (take_ofW HT_.out HW_.out (by kernel_rfl)) (fun _ _ _ h => h) (Or.inl ⟨by rfl, ?_⟩) hHeld ?_ ?_
     rotate_left
     · rintro w' ⟨s0, s1, s2, s3, s4, s5, s6, s7⟩
       go_simp
       with_reducible rfl
     rotate_left
     · simp only [Act.put, List.setIfInBounds_toArray, List.set_cons_zero, List.set_cons_succ, i64_w, i32_w]
       rfl
     refine take_ (i := 11) (N := some 82) (v := ?_) (a' := ?_) #[true, true, true, true, true, true, true, true, true, true, false, true, true, true, true, true, false, false, false, false, false, false] rfl rfl (take_ofW HT_.out HW_.out (by kernel_rfl)) (fun _ _ _ h => h) (Or.inl ⟨by rfl, ?_⟩) hHeld ?_ ?_
     rotate_left
     · rintro w' ⟨s0, s1, s2, s3, s4, s5, s6, s7⟩
       go_simp
       with_reducible rfl
     rotate_left
     · simp only [Act.put, List.setIfInBounds_toArray, List.set_cons_zero, List.set_cons_succ, i64_w, i32_w]
       rfl
     refine take_ (i := 16) (N := some 87) (v := ?_) (a' := ?_) #[true, true, true, true, true, true, true, true, true, true, false, true, true, true, true, true, true, false, false, false, false, false] rfl rfl (take_ofW HT_.out HW_.out (by kernel_rfl)) (fun _ _ _ h => h) (Or.inl ⟨by rfl, ?_⟩) hHeld ?_ ?_
     rotate_left
     · rintro w' ⟨s0, s1, s2, s3, s4, s5, s6, s7⟩
       go_simp
       with_reducible rfl
     rotate_left
     · simp only [Act.put, List.setIfInBounds_toArray, List.set_cons_zero, List.set_cons_succ, i64_w, i32_w]
       rfl
     refine one_ (i := 10) (N := some 81) #[true, true, true, true, true, true, true, true, true, true, true, true, true, true, true, true, true, false, false, false, false, false] rfl rfl (one_of HT_.out (by kernel_rfl)) (by decide) (fun K hK => ?_)
     refine goes_ Try.func125 (by kernel_rfl) rfl #[.agg #[.bool ((rd_T113 (rd_L6 x11_2 (ji38)) x15_3).f0), .slice A135_1 ((rd_T113 (rd_L6 x11_2 (ji38)) x15_3).f1).length c135_1], .agg #[.bool ((rd_T113 (rd_L6 x11_2 (ji38)) (ji48)).f0), .slice A136_1 ((rd_T113 (rd_L6 x11_2 (ji38)) (ji48)).f1).length c136_1]] (by rfl) rfl rfl (by (try simp only [List.map_toArray, List.map_cons, List.map_nil]); first | done | (simp only [hji38, hji48]; rfl) | rfl | (simp only [List.length_drop, List.length_take]; rfl)) ?_
     with_reducible refine (macwilliams_minus.calls k3 ((rd_T113 (rd_L6 x11_2 (ji38)) x15_3).f0) (fun k_ => ((w.heap.size ≤ k_) ∧ (some k_ ≠ (.slice (some ad130) x11_2.length co42 : Value).ownBlock ∧ (some k_ ≠ (.slice (some ad141) x14_3.length co57 : Value).ownBlock ∧ (some k_ ≠ (.slice Ao36 t126.length co36 : Value).ownBlock ∧ k_ ≠ gb129))))) _ _ ((rd_T113 (rd_L6 x11_2 (ji38)) x15_3).f1) ((rd_T113 (rd_L6 x11_2 (ji38)) (ji48)).f0) (fun k_ => ((w.heap.size ≤ k_) ∧ (some k_ ≠ (.slice (some ad130) x11_2.length co42 : Value).ownBlock ∧ (some k_ ≠ (.slice (some ad141) x14_3.length co57 : Value).ownBlock ∧ (some k_ ≠ (.slice Ao36 t126.length co36 : Value).ownBlock ∧ k_ ≠ gb129))))) _ _ ((rd_T113 (rd_L6 x11_2 (ji38)) (ji48)).f1) t137 t138 _ ?side1 ?side2 A51.out).mono ?_
     (case side1 => exact HL135_1.out)
     (case side2 => exact HL136_1.out)
     rintro e w58 ⟨v139, rfl, ho0, hb⟩
     have HS2_ := (hb.cell (World.block_lt_of_cell? _ _ (hHeld.2.2.1))).trans (hHeld.2.2.1)
     have HS3_ := (hb.cell (World.block_lt_of_cell? _ _ (hHeld.2.2.2.1))).trans (hHeld.2.2.2.1)
     have HS4_ := (hb.cell (World.block_lt_of_cell? _ _ (hHeld.2.2.2.2.1))).trans (hHeld.2.2.2.2.1)
     have HS5_ := (hb.cell (World.block_lt_of_cell? _ _ (hHeld.2.2.2.2.2.1))).trans (hHeld.2.2.2.2.2.1)
     have HS6_ := (hb.cell (World.block_lt_of_cell? _ _ (hHeld.2.2.2.2.2.2.1))).trans (hHeld.2.2.2.2.2.2.1)
     have HS7_ := (hb.cell (World.block_lt_of_cell? _ _ (hHeld.2.2.2.2.2.2.2))).trans (hHeld.2.2.2.2.2.2.2)
     refine ⟨_, rfl, ?_⟩
     replace HO_13 := yVb HO_13 hb
     replace HL135_1 := yVb HL135_1 hb
     replace HL136_1 := yVb HL136_1 hb
     replace HL141_1 := yVb HL141_1 hb
     have HO140 := Aside0.mk (Kd.V_lower (Kd.V_mono (ok' := fun k_ => (w.heap.size ≤ k_) ∧ some k_ ≠ (.slice (some ad130) x11_2.length co42 : Value).ownBlock ∧ some k_ ≠ (.slice (some ad141) x14_3.length co57 : Value).ownBlock ∧ some k_ ≠ (.slice Ao36 t126.length co36 : Value).ownBlock ∧ k_ ≠ gb129) ho0 (fun k_ hk_ => ⟨Or.elim hk_ (fun hs_ => Or.elim hs_ (fun hs_ => hs_.1) (fun hs_ => hs_.1)) (fun hn_ => (Nat.le_trans (below_size (zB1 HB.out GE129.out)) hn_)), Or.elim hk_ (fun hs_ => Or.elim hs_ (fun hs_ => hs_.2.1) (fun hs_ => hs_.2.1)) (fun hn_ => (Kd.fresh' (Kd.N_lt (zN HO_11.out)) k_ hn_)), Or.elim hk_ (fun hs_ => Or.elim hs_ (fun hs_ => hs_.2.2.1) (fun hs_ => hs_.2.2.1)) (fun hn_ => (Kd.fresh' (Kd.N_lt (zN HO_14.out)) k_ hn_)), Or.elim hk_ (fun hs_ => Or.elim hs_ (fun hs_ => hs_.2.2.2.1) (fun hs_ => hs_.2.2.2.1)) (fun hn_ => (Kd.fresh' (Kd.R_lt (zR HO_130001.out)) k_ hn_)), Or.elim hk_ (fun hs_ => Or.elim hs_ (fun hs_ => hs_.2.2.2.2) (fun hs_ => hs_.2.2.2.2)) (fun hn_ => (Kd.freshB (g := gb129) (o := .cells #[.bool t125, .slice Ao36 t126.length co36] 113 (0, 0)) (by (with_reducible repeat (first | refine blk_drewN ?_ _ | refine blk_drew ?_ | refine blk_alloc ?_ _)); exact BK129.out) k_ hn_))⟩)) (below_size (zB1 HB.out GE129.out)))
     replace HO_11 := yNb HO_11 hb
     replace HO_14 := yNb HO_14 hb
     replace HO_130001 := yRb HO_130001 hb
     replace BK129 := yK BK129 hb
     replace HR135_1 := yCb HR135_1 hb
     replace HR136_1 := yCb HR136_1 hb
     replace HR141_1 := yCb HR141_1 hb
     replace HB := yS1 HB GE129 hb
     (try clear hb)
     (try clear hb2)
     (try clear hk)
     (try clear hi)
     (try clear ho0)
     refine hK.out _ _ ⟨(blk_cell BK129.out 0).trans rfl, (blk_cell BK129.out 1).trans rfl, HS2_, HS3_, HS4_, HS5_, HS6_, HS7_⟩ (fun hHeld => ?_)
     clear hK K
     refine norm_ (a' := ?_) ?_ ?_
     rotate_left
     · show Act.put _ (some 81) _ = _
       simp only [Act.put, List.setIfInBounds_toArray, List.set_cons_zero, List.set_cons_succ, i64_w, i32_w]
       rfl
     refine one_ (i := 17) (N := some 88) #[true, true, true, true, true, true, true, true, true, true, true, true, true, true, true, true, true, true, false, false, false, false] rfl rfl (one_of HT_.out (by kernel_rfl)) (by decide) (fun K hK => ?_)
     refine goes_ Try.func126 (by kernel_rfl) rfl #[.agg #[.bool t125, .slice Ao36 t126.length co36], .agg #[.bool ((rd_T113 x14_3 (ji48)).f0), .slice A141_1 ((rd_T113 x14_3 (ji48)).f1).length c141_1]] (by rfl) rfl rfl (by (try simp only [List.map_toArray, List.map_cons, List.map_nil]); first | done | (simp only [hji48]; rfl) | rfl | (simp only [List.length_drop, List.length_take]; rfl)) ?_
     with_reducible refine (macwilliams_times.calls k3 t125 (fun k_ => some k_ = (.slice Ao36 t126.length co36 : Value).ownBlock) _ _ t126 ((rd_T113 x14_3 (ji48)).f0) (fun k_ => (((w.heap.size ≤ k_) ∧ (some k_ ≠ (.slice (some ad130) x11_2.length co42 : Value).ownBlock ∧ (some k_ ≠ (.slice Ao36 t126.length co36 : Value).ownBlock ∧ k_ ≠ gb129))) ∧ some k_ ≠ (.slice (some ad141) x14_3.length co57 : Value).ownBlock)) _ _ ((rd_T113 x14_3 (ji48)).f1) t142 t143 _ ?side1 ?side2 A53.out).mono ?_
     (case side1 => exact Kd.R_V (Kd.R_tight rfl (Kd.R_types (Kd.R_apart' (Kd.R_apart' (HO_130001.out) (Kd.N_typed HO_11.out) (by decide)) (Kd.N_typed HO_14.out) (by decide)) BK129.out (by decide))))
     (case side2 => exact HL141_1.out)
     rintro e w59 ⟨v144, rfl, ho0, hb⟩
     have HS2_ := (hb.cell (World.block_lt_of_cell? _ _ (hHeld.2.2.1))).trans (hHeld.2.2.1)
     have HS3_ := (hb.cell (World.block_lt_of_cell? _ _ (hHeld.2.2.2.1))).trans (hHeld.2.2.2.1)
     have HS4_ := (hb.cell (World.block_lt_of_cell? _ _ (hHeld.2.2.2.2.1))).trans (hHeld.2.2.2.2.1)
     have HS5_ := (hb.cell (World.block_lt_of_cell? _ _ (hHeld.2.2.2.2.2.1))).trans (hHeld.2.2.2.2.2.1)
     have HS6_ := (hb.cell (World.block_lt_of_cell? _ _ (hHeld.2.2.2.2.2.2.1))).trans (hHeld.2.2.2.2.2.2.1)
     have HS7_ := (hb.cell (World.block_lt_of_cell? _ _ (hHeld.2.2.2.2.2.2.2))).trans (hHeld.2.2.2.2.2.2.2)
     refine ⟨_, rfl, ?_⟩
     replace HO_11 := yNe HO_11 ho0 hb
     replace HO_13 := yVe HO_13 ho0 hb
     replace HO_14 := yNe HO_14 ho0 hb
     replace HL135_1 := yVe HL135_1 ho0 hb
     replace HL136_1 := yVe HL136_1 ho0 hb
     replace HL141_1 := yVe HL141_1 ho0 hb
     replace HO140 := yVe HO140 ho0 hb
     replace ho0 := Kd.R_newM (M := fun k_ => (w.heap.size ≤ k_)) (yt ho0) (below_size (zB1 HB.out GE129.out)) (fun k_ h_ => h_)
     replace ho0 := yn ho0 HO_130001
     have HO145 := yRl1 ho0 HB GE129
     replace HO_130001 := yRe HO_130001 ho0 hb
     replace BK129 := yK BK129 hb
     replace HR135_1 := yCb HR135_1 hb
     replace HR136_1 := yCb HR136_1 hb
     replace HR141_1 := yCb HR141_1 hb
     replace HB := yS1 HB GE129 hb
     (try clear hb)
     (try clear hb2)
     (try clear hk)
     (try clear hi)
     (try clear ho0)
     obtain ⟨Ao60, co60, eo60⟩ := Kd.V_slice HO140.out
     (first | subst eo60 | (injection eo60 with f1_ f2_ f3_; have f4_ := f1_.symm; have f5_ := f3_.symm; clear f1_ f2_ f3_; subst f4_; subst f5_))
     obtain ⟨Ao61, co61, eo61⟩ := Kd.R_slice HO145.out
     (first | subst eo61 | (injection eo61 with f1_ f2_ f3_; have f4_ := f1_.symm; have f5_ := f3_.symm; clear f1_ f2_ f3_; subst f4_; subst f5_))
     refine hK.out _ _ ⟨(blk_cell BK129.out 0).trans rfl, (blk_cell BK129.out 1).trans rfl, HS2_, HS3_, HS4_, HS5_, HS6_, HS7_⟩ (fun hHeld => ?_)
     clear hK K
     refine norm_ (a' := ?_) ?_ ?_
     rotate_left
     · show Act.put _ (some 88) _ = _
       simp only [Act.put, List.setIfInBounds_toArray, List.set_cons_zero, List.set_cons_succ, i64_w, i32_w]
       rfl
     refine one_ (i := 18) (N := some 89) #[true, true, true, true, true, true, true, true, true, true, true, true, true, true, true, true, true, true, true, false, false, false] rfl rfl (one_of HT_.out (by kernel_rfl)) (by decide) (fun K hK => ?_)
     refine goes_ Try.func125 (by kernel_rfl) rfl #[.agg #[.bool t137, .slice Ao60 t138.length co60], .agg #[.bool t142, .slice Ao61 t143.length co61]] (by rfl) rfl rfl (by (try simp only [List.map_toArray, List.map_cons, List.map_nil]); first | done | rfl | (simp only [List.length_drop, List.length_take]; rfl)) ?_
     with_reducible refine (macwilliams_minus.calls k3 t137 (fun k_ => (((w.heap.size ≤ k_) ∧ (some k_ ≠ (.slice (some ad130) x11_2.length co42 : Value).ownBlock ∧ (some k_ ≠ (.slice (some ad141) x14_3.length co57 : Value).ownBlock ∧ (some k_ ≠ (.slice Ao36 t126.length co36 : Value).ownBlock ∧ k_ ≠ gb129)))) ∧ some k_ ≠ (.slice Ao61 t143.length co61 : Value).ownBlock)) _ _ t138 t142 (fun k_ => some k_ = (.slice Ao61 t143.length co61 : Value).ownBlock) _ _ t143 t146 t147 _ ?side1 ?side2 A54.out).mono ?_
     (case side1 => exact HO140.out)
     (case side2 => exact Kd.R_V (Kd.R_tight rfl (Kd.R_types (Kd.R_apart' (Kd.R_apart' (HO145.out) (Kd.N_typed HO_11.out) (by decide)) (Kd.N_typed HO_14.out) (by decide)) BK129.out (by decide))))
     rintro e w62 ⟨v148, rfl, ho0, hb⟩
     have HS2_ := (hb.cell (World.block_lt_of_cell? _ _ (hHeld.2.2.1))).trans (hHeld.2.2.1)
     have HS3_ := (hb.cell (World.block_lt_of_cell? _ _ (hHeld.2.2.2.1))).trans (hHeld.2.2.2.1)
     have HS4_ := (hb.cell (World.block_lt_of_cell? _ _ (hHeld.2.2.2.2.1))).trans (hHeld.2.2.2.2.1)
     have HS5_ := (hb.cell (World.block_lt_of_cell? _ _ (hHeld.2.2.2.2.2.1))).trans (hHeld.2.2.2.2.2.1)
     have HS6_ := (hb.cell (World.block_lt_of_cell? _ _ (hHeld.2.2.2.2.2.2.1))).trans (hHeld.2.2.2.2.2.2.1)
     have HS7_ := (hb.cell (World.block_lt_of_cell? _ _ (hHeld.2.2.2.2.2.2.2))).trans (hHeld.2.2.2.2.2.2.2)
     refine ⟨_, rfl, ?_⟩
     replace HO_13 := yVb HO_13 hb
     replace HL135_1 := yVb HL135_1 hb
     replace HL136_1 := yVb HL136_1 hb
     replace HL141_1 := yVb HL141_1 hb
     replace HO140 := yVb HO140 hb
     have HO149 := Aside0.mk (Kd.V_lower (Kd.V_mono (ok' := fun k_ => (w.heap.size ≤ k_) ∧ some k_ ≠ (.slice (some ad130) x11_2.length co42 : Value).ownBlock ∧ some k_ ≠ (.slice (some ad141) x14_3.length co57 : Value).ownBlock ∧ some k_ ≠ (.slice Ao36 t126.length co36 : Value).ownBlock ∧ k_ ≠ gb129) ho0 (fun k_ hk_ => ⟨Or.elim hk_ (fun hs_ => Or.elim hs_ (fun hs_ => hs_.1.1) (fun hs_ => ((Kd.R_types (Kd.R_apart' (Kd.R_apart' (HO145.out) (Kd.N_typed HO_11.out) (by decide)) (Kd.N_typed HO_14.out) (by decide)) BK129.out (by decide)).1 k_ hs_.symm).1.1.1.1.1)) (fun hn_ => (Nat.le_trans (below_size (zB1 HB.out GE129.out)) hn_)), Or.elim hk_ (fun hs_ => Or.elim hs_ (fun hs_ => hs_.1.2.1) (fun hs_ => ((Kd.R_types (Kd.R_apart' (Kd.R_apart' (HO145.out) (Kd.N_typed HO_11.out) (by decide)) (Kd.N_typed HO_14.out) (by decide)) BK129.out (by decide)).1 k_ hs_.symm).1.1.2)) (fun hn_ => (Kd.fresh' (Kd.N_lt (zN HO_11.out)) k_ hn_)), Or.elim hk_ (fun hs_ => Or.elim hs_ (fun hs_ => hs_.1.2.2.1) (fun hs_ => ((Kd.R_types (Kd.R_apart' (Kd.R_apart' (HO145.out) (Kd.N_typed HO_11.out) (by decide)) (Kd.N_typed HO_14.out) (by decide)) BK129.out (by decide)).1 k_ hs_.symm).1.2)) (fun hn_ => (Kd.fresh' (Kd.N_lt (zN HO_14.out)) k_ hn_)), Or.elim hk_ (fun hs_ => Or.elim hs_ (fun hs_ => hs_.1.2.2.2.1) (fun hs_ => ((Kd.R_types (Kd.R_apart' (Kd.R_apart' (HO145.out) (Kd.N_typed HO_11.out) (by decide)) (Kd.N_typed HO_14.out) (by decide)) BK129.out (by decide)).1 k_ hs_.symm).1.1.1.2)) (fun hn_ => (Kd.fresh' (Kd.R_lt (zR HO_130001.out)) k_ hn_)), Or.elim hk_ (fun hs_ => Or.elim hs_ (fun hs_ => hs_.1.2.2.2.2) (fun hs_ => ((Kd.R_types (Kd.R_apart' (Kd.R_apart' (HO145.out) (Kd.N_typed HO_11.out) (by decide)) (Kd.N_typed HO_14.out) (by decide)) BK129.out (by decide)).1 k_ hs_.symm).2)) (fun hn_ => (Kd.freshB (g := gb129) (o := .cells #[.bool t125, .slice Ao36 t126.length co36] 113 (0, 0)) (by (with_reducible repeat (first | refine blk_drewN ?_ _ | refine blk_drew ?_ | refine blk_alloc ?_ _)); exact BK129.out) k_ hn_))⟩)) (below_size (zB1 HB.out GE129.out)))
     replace HO_11 := yNb HO_11 hb
     replace HO_14 := yNb HO_14 hb
     replace HO_130001 := yRb HO_130001 hb
     replace HO145 := yRb HO145 hb
     replace BK129 := yK BK129 hb
     replace HR135_1 := yCb HR135_1 hb
     replace HR136_1 := yCb HR136_1 hb
     replace HR141_1 := yCb HR141_1 hb
     replace HB := yS1 HB GE129 hb
     (try clear hb)
     (try clear hb2)
     (try clear hk)
     (try clear hi)
     (try clear ho0)
     obtain ⟨Ao64, co64, eo64⟩ := Kd.V_slice HO149.out
     (first | subst eo64 | (injection eo64 with f1_ f2_ f3_; have f4_ := f1_.symm; have f5_ := f3_.symm; clear f1_ f2_ f3_; subst f4_; subst f5_))
     refine hK.out _ _ ⟨(blk_cell BK129.out 0).trans rfl, (blk_cell BK129.out 1).trans rfl, HS2_, HS3_, HS4_, HS5_, HS6_, HS7_⟩ (fun hHeld => ?_)
     clear hK K
     refine norm_ (a' := ?_) ?_ ?_
     rotate_left
     · show Act.put _ (some 89) _ = _
       simp only [Act.put, List.setIfInBounds_toArray, List.set_cons_zero, List.set_cons_succ, i64_w, i32_w]
       rfl
     refine last_ (i := 19) (N := some 90) #[true, true, true, true, true, true, true, true, true, true, true, true, true, true, true, true, true, true, true, true, false, false] rfl rfl (one_of HT_.out (by kernel_rfl)) (by decide) (fun K hK => ?_)
     refine value_ (w1 := ?_) (v := ?_) (by rfl) rfl ?_ ?_
     rotate_left 2
     · go_simp
       constructor
       · rfl
       rfl
     refine hK.out _ _ ?_
     clear hK K
     refine norm_ (a' := ?_) ?_ ?_
     rotate_left
     · show Act.put _ (some 90) _ = _
       simp only [Act.put, List.setIfInBounds_toArray, List.set_cons_zero, List.set_cons_succ, i64_w, i32_w]
       rfl
     refine last_ (i := 20) (N := some 91) #[true, true, true, true, true, true, true, true, true, true, true, true, true, true, true, true, true, true, true, true, true, false] rfl rfl (one_of HT_.out (by kernel_rfl)) (by decide) (fun K hK => ?_)
     refine Kd.N_append_step k113 (w0 := w) w.heap.size (by rfl) (.tmp 71) (.tmp 90) 114 113 (.agg #[(.bool false), (.slice none 0 0)]) 32 rfl Try.underlying114 info113 rfl (by decide) (by omega) (.slice (some ad141) x14_3.length co57) x14_3 (⟨t146, t147⟩ : S113) [.bool t146, .slice Ao64 t147.length co64] (fun k_ => (w.heap.size ≤ k_) ∧ some k_ ≠ (.slice (some ad130) x11_2.length co42 : Value).ownBlock ∧ some k_ ≠ (.slice Ao36 t126.length co36 : Value).ownBlock ∧ k_ ≠ gb129) (fun k_ => ((fun k_ => (w.heap.size ≤ k_) ∧ some k_ ≠ (.slice (some ad130) x11_2.length co42 : Value).ownBlock ∧ some k_ ≠ (.slice Ao36 t126.length co36 : Value).ownBlock ∧ k_ ≠ gb129)) k_ ∧ some k_ ≠ (.slice (some ad141) x14_3.length co57 : Value).ownBlock) rfl rfl ?aP (fun _ hk => hk) ?aF ?aO ?aB ?aS ?aL ?_
     (case aP => exact (k113_mkF _ _ (⟨t146, t147⟩ : S113) (Kd.V_reads' (Kd.V_mono (ok' := (fun k_ => ((fun k_ => (w.heap.size ≤ k_) ∧ some k_ ≠ (.slice (some ad130) x11_2.length co42 : Value).ownBlock ∧ some k_ ≠ (.slice Ao36 t126.length co36 : Value).ownBlock ∧ k_ ≠ gb129)) k_ ∧ some k_ ≠ (.slice (some ad141) x14_3.length co57 : Value).ownBlock)) (HO149.out) (fun k_ hk => by exact ⟨⟨hk.1, ⟨hk.2.1, ⟨hk.2.2.2.1, hk.2.2.2.2⟩⟩⟩, hk.2.2.1⟩))).2.1 (Kd.V_F (Kd.V_mono (ok' := (fun k_ => ((fun k_ => (w.heap.size ≤ k_) ∧ some k_ ≠ (.slice (some ad130) x11_2.length co42 : Value).ownBlock ∧ some k_ ≠ (.slice Ao36 t126.length co36 : Value).ownBlock ∧ k_ ≠ gb129)) k_ ∧ some k_ ≠ (.slice (some ad141) x14_3.length co57 : Value).ownBlock)) (HO149.out) (fun k_ hk => by exact ⟨⟨hk.1, ⟨hk.2.1, ⟨hk.2.2.2.1, hk.2.2.2.2⟩⟩⟩, hk.2.2.1⟩)))))
     (case aB => exact (zB1 HB.out GE129.out))
     (case aF => exact (fun k_ hk => ⟨(Nat.le_trans (below_size (zB1 HB.out GE129.out)) hk), Kd.fresh' (Kd.N_lt (zN HO_11.out)) k_ hk, Kd.fresh' (Kd.R_lt (zR HO_130001.out)) k_ hk, Kd.freshB (g := gb129) (o := .cells #[.bool t125, .slice Ao36 t126.length co36] 113 (0, 0)) (by (with_reducible repeat (first | refine blk_drewN ?_ _ | refine blk_drew ?_ | refine blk_alloc ?_ _)); exact BK129.out) k_ hk⟩))
     (case aO => exact (by (with_reducible repeat (first | apply Kd.N_alloc | apply Kd.N_drewN | apply Kd.N_drew)); exact Kd.N_mono HO_14.out (fun _ hk => ⟨hk.1.1, ⟨hk.1.2.1, ⟨hk.1.2.2.1, hk.1.2.2.2⟩⟩⟩)))
     (case aS => exact (below_size (zB1 HB.out GE129.out)))
     (case aL => have := LMc55.out; omega)
     intro v151 w63 ho hb hg hat
     rw [← Ny150.out] at ho
     replace HO_11 := Aside0.mk (Kd.N_afterv (ok := (fun k_ => (w.heap.size ≤ k_) ∧ some k_ ≠ (.slice Ao36 t126.length co36 : Value).ownBlock ∧ some k_ ≠ (.slice Ao61 t143.length co61 : Value).ownBlock ∧ k_ ≠ gb129)) (by (with_reducible repeat (first | apply Kd.N_alloc | apply Kd.N_drewN | apply Kd.N_drew)); exact Kd.N_mono HO_11.out (fun _ hk => ⟨⟨hk.1.1, ⟨hk.1.2.2.1, ⟨hk.2, hk.1.2.2.2⟩⟩⟩, hk.1.2.1⟩)) hg hat)
     replace HO_13 := Aside0.mk (Kd.V_afterv (ok := (fun k_ => (w.heap.size ≤ k_) ∧ some k_ ≠ (.slice (some ad130) x11_2.length co42 : Value).ownBlock ∧ some k_ ≠ (.slice Ao36 t126.length co36 : Value).ownBlock ∧ some k_ ≠ (.slice Ao61 t143.length co61 : Value).ownBlock ∧ k_ ≠ gb129)) (by (with_reducible repeat (first | apply Kd.V_alloc | apply Kd.V_drewN | apply Kd.V_drew)); exact Kd.V_mono HO_13.out (fun _ hk => ⟨⟨hk.1.1, ⟨hk.1.2.1, ⟨hk.1.2.2.2.1, ⟨hk.2, hk.1.2.2.2.2⟩⟩⟩⟩, hk.1.2.2.1⟩)) hg hat)
     replace HO_130001 := Aside0.mk (Kd.R_over' (zR HO_130001.out) (Kd.N_typed (zN HO_14.out)) (by decide) hg)
     replace BK129 := Aside0.mk (blk_grown (g := gb129) (o := .cells #[.bool t125, .slice Ao36 t126.length co36] 113 (0, 0)) (by (with_reducible repeat (first | refine blk_drewN ?_ _ | refine blk_drew ?_ | refine blk_alloc ?_ _)); exact BK129.out) hg (Kd.N_away HO_14.out (fun _ hk => hk.1.2.2.2)))
     replace HL135_1 := Aside0.mk (Kd.V_afterv (ok := (fun k_ => (w.heap.size ≤ k_) ∧ some k_ ≠ (.slice (some ad130) x11_2.length co42 : Value).ownBlock ∧ some k_ ≠ (.slice Ao36 t126.length co36 : Value).ownBlock ∧ some k_ ≠ (.slice Ao61 t143.length co61 : Value).ownBlock ∧ k_ ≠ gb129)) (by (with_reducible repeat (first | apply Kd.V_alloc | apply Kd.V_drewN | apply Kd.V_drew)); exact Kd.V_mono HL135_1.out (fun _ hk => ⟨⟨hk.1.1, ⟨hk.1.2.1, ⟨hk.1.2.2.2.1, ⟨hk.2, hk.1.2.2.2.2⟩⟩⟩⟩, hk.1.2.2.1⟩)) hg hat)
     replace HL136_1 := Aside0.mk (Kd.V_afterv (ok := (fun k_ => (w.heap.size ≤ k_) ∧ some k_ ≠ (.slice (some ad130) x11_2.length co42 : Value).ownBlock ∧ some k_ ≠ (.slice Ao36 t126.length co36 : Value).ownBlock ∧ some k_ ≠ (.slice Ao61 t143.length co61 : Value).ownBlock ∧ k_ ≠ gb129)) (by (with_reducible repeat (first | apply Kd.V_alloc | apply Kd.V_drewN | apply Kd.V_drew)); exact Kd.V_mono HL136_1.out (fun _ hk => ⟨⟨hk.1.1, ⟨hk.1.2.1, ⟨hk.1.2.2.2.1, ⟨hk.2, hk.1.2.2.2.2⟩⟩⟩⟩, hk.1.2.2.1⟩)) hg hat)
     replace HL141_1 := Aside0.mk (Kd.V_afterv (ok := (fun k_ => (w.heap.size ≤ k_) ∧ some k_ ≠ (.slice (some ad130) x11_2.length co42 : Value).ownBlock ∧ some k_ ≠ (.slice Ao36 t126.length co36 : Value).ownBlock ∧ some k_ ≠ (.slice Ao61 t143.length co61 : Value).ownBlock ∧ k_ ≠ gb129)) (by (with_reducible repeat (first | apply Kd.V_alloc | apply Kd.V_drewN | apply Kd.V_drew)); exact Kd.V_mono HL141_1.out (fun _ hk => ⟨⟨hk.1.1.1, ⟨hk.1.1.2.1, ⟨hk.1.1.2.2.1, ⟨hk.2, hk.1.1.2.2.2⟩⟩⟩⟩, hk.1.2⟩)) hg hat)
     replace HO140 := Aside0.mk (Kd.V_afterv (ok := (fun k_ => (w.heap.size ≤ k_) ∧ some k_ ≠ (.slice (some ad130) x11_2.length co42 : Value).ownBlock ∧ some k_ ≠ (.slice Ao36 t126.length co36 : Value).ownBlock ∧ some k_ ≠ (.slice Ao61 t143.length co61 : Value).ownBlock ∧ k_ ≠ gb129)) (by (with_reducible repeat (first | apply Kd.V_alloc | apply Kd.V_drewN | apply Kd.V_drew)); exact Kd.V_mono HO140.out (fun _ hk => ⟨⟨hk.1.1, ⟨hk.1.2.1, ⟨hk.1.2.2.2.1, ⟨hk.2, hk.1.2.2.2.2⟩⟩⟩⟩, hk.1.2.2.1⟩)) hg hat)
     replace HO145 := Aside0.mk (Kd.R_over' (zR HO145.out) (Kd.N_typed (zN HO_14.out)) (by decide) hg)
     replace HO149 := Aside0.mk (Kd.V_afterv (ok := (fun k_ => (w.heap.size ≤ k_) ∧ some k_ ≠ (.slice (some ad130) x11_2.length co42 : Value).ownBlock ∧ some k_ ≠ (.slice Ao36 t126.length co36 : Value).ownBlock ∧ k_ ≠ gb129)) (by (with_reducible repeat (first | apply Kd.V_alloc | apply Kd.V_drewN | apply Kd.V_drew)); exact Kd.V_mono HO149.out (fun _ hk => ⟨⟨hk.1, ⟨hk.2.1, ⟨hk.2.2.2.1, hk.2.2.2.2⟩⟩⟩, hk.2.2.1⟩)) hg hat)
     replace HB := Aside0.mk (hb)
     have HO152 := Aside0.mk (ho)
     clear HO_14
     clear ho hb hg hat
     refine hK.out _ _ ?_
     clear hK K
     refine norm_ (a' := ?_) ?_ ?_
     rotate_left
     · show Act.put _ (some 91) _ = _
       simp only [Act.put, List.setIfInBounds_toArray, List.set_cons_zero, List.set_cons_succ, i64_w, i32_w]
       rfl
     refine zp (i := 21) (N := some 14) HT_ ?_
     refine done_ (done_of HT_.out (by kernel_rfl)) ?_
     try go_wp2
     go_roundg k3
     case measure => have := HK1.out; have := HK2.out; have := HK3.out; omega
     case rel => exact ⟨(y150), (wrap64 (x15_3 + 1)), zF, H', ⟨by have := HK1.out; have := HK2.out; have := HK3.out; omega⟩, ⟨by (try simp only [hl5_1]); (with_reducible repeat (first | apply Kd.N_alloc | apply Kd.N_drewN | apply Kd.N_drew)); exact Kd.N_mono HO_11.out (fun _ hk => ⟨hk.1.1, ⟨hk.2, ⟨hk.1.2.1, hk.1.2.2.2⟩⟩⟩)⟩, ⟨by (try simp only [hl5_1]); (with_reducible repeat (first | apply Kd.V_alloc | apply Kd.V_drewN | apply Kd.V_drew)); exact Kd.V_mono HO_13.out (fun _ hk => ⟨hk.1.1, ⟨hk.1.2.1, ⟨hk.2, ⟨hk.1.2.2.1, hk.1.2.2.2.2⟩⟩⟩⟩)⟩, ⟨by (try simp only [hl5_1]); (with_reducible repeat (first | apply Kd.N_alloc | apply Kd.N_drewN | apply Kd.N_drew)); exact HO152.out⟩, ⟨by (try simp only [hl5_1]); (with_reducible repeat (first | apply Kd.R_alloc | apply Kd.R_drewN | apply Kd.R_drew)); exact Kd.R_mono HO_130001.out (fun _ hk => hk.1)⟩, ⟨by (try simp only [hl5_1]); (with_reducible repeat (first | refine blk_drewN ?_ _ | refine blk_drew ?_ | refine blk_alloc ?_ _)); exact BK129.out⟩, ⟨zB1 HB.out GE129.out⟩⟩
   have c45b0 := decide_eq_false c45
   clear c45
   replace H := zg H
   obtain ⟨c65, H⟩ := H
   have LMc65 := Aside0.mk c65
   clear c65
   obtain ⟨y153, hy153⟩ : ∃ y_ : List (List (S113)), y_ = (x11_2 ++ [x14_3]) := ⟨_, rfl⟩
   replace H : (macwilliams_table.l1 k3 a1 y153 a1 (wrap64 (x54_2 + 1)) t125 t126) = some r := zY hy153 H
   have Ny153 := Aside0.mk hy153
   clear hy153
   have H' := Aside0.mk H
   clear H
   obtain ⟨Ao67, co67, rfl⟩ := Kd.N_slice HO_14.out
   go_wp2_with (first | ((with_reducible refine gate_builtin (b := .append) (xs := #[.tmp 92, .tmp 94]) rfl ?_); at_builtin; refine Kd.N_append (Kd.slice 113 k113) (w0 := w) w.heap.size rfl (.tmp 92) (.tmp 94) 115 114 (.slice none 0 0) 24 rfl Try.underlying115 info114 rfl (by decide) (by omega) (.slice (some ad130) x11_2.length co42) x11_2 x14_3 [.slice Ao67 x14_3.length co67] (fun k_ => (w.heap.size ≤ k_) ∧ some k_ ≠ (.slice Ao36 t126.length co36 : Value).ownBlock ∧ k_ ≠ gb129) (fun k_ => ((fun k_ => (w.heap.size ≤ k_) ∧ some k_ ≠ (.slice Ao36 t126.length co36 : Value).ownBlock ∧ k_ ≠ gb129)) k_ ∧ some k_ ≠ (.slice (some ad130) x11_2.length co42 : Value).ownBlock) rfl rfl ?aP (fun _ hk => hk) ?aF ?aO ?aB ?aS ?aL ?_; (case aP => exact (Kd.FK_slice_mk (Kd.N_reads' (Kd.N_mono (ok' := (fun k_ => ((fun k_ => (w.heap.size ≤ k_) ∧ some k_ ≠ (.slice Ao36 t126.length co36 : Value).ownBlock ∧ k_ ≠ gb129)) k_ ∧ some k_ ≠ (.slice (some ad130) x11_2.length co42 : Value).ownBlock)) (HO_14.out) (fun k_ hk => by exact ⟨⟨hk.1, ⟨hk.2.2.1, hk.2.2.2⟩⟩, hk.2.1⟩))).2.1 (Kd.N_F (Kd.N_mono (ok' := (fun k_ => ((fun k_ => (w.heap.size ≤ k_) ∧ some k_ ≠ (.slice Ao36 t126.length co36 : Value).ownBlock ∧ k_ ≠ gb129)) k_ ∧ some k_ ≠ (.slice (some ad130) x11_2.length co42 : Value).ownBlock)) (HO_14.out) (fun k_ hk => by exact ⟨⟨hk.1, ⟨hk.2.2.1, hk.2.2.2⟩⟩, hk.2.1⟩))))); (case aB => exact (zB1 HB.out GE129.out)); (case aF => exact (fun k_ hk => ⟨(Nat.le_trans (below_size (zB1 HB.out GE129.out)) hk), Kd.fresh' (Kd.R_lt (zR HO_130001.out)) k_ hk, Kd.freshB (g := gb129) (o := .cells #[.bool t125, .slice Ao36 t126.length co36] 113 (0, 0)) (by (with_reducible repeat (first | refine blk_drewN ?_ _ | refine blk_drew ?_ | refine blk_alloc ?_ _)); exact BK129.out) k_ hk⟩)); (case aO => exact (by (with_reducible repeat (first | apply Kd.N_alloc | apply Kd.N_drewN | apply Kd.N_drew)); exact Kd.N_mono HO_11.out (fun _ hk => ⟨hk.1, ⟨hk.2.2.1, hk.2.2.2⟩⟩))); (case aS => exact (below_size (zB1 HB.out GE129.out))); (case aL => have := LMc65.out; omega); intro v154 w66 ho hb hg hat; rw [← Ny153.out] at ho; replace HO_13 := Aside0.mk (Kd.V_afterv (ok := (fun k_ => (w.heap.size ≤ k_) ∧ some k_ ≠ (.slice Ao67 x14_3.length co67 : Value).ownBlock ∧ some k_ ≠ (.slice Ao36 t126.length co36 : Value).ownBlock ∧ k_ ≠ gb129)) (by (with_reducible repeat (first | apply Kd.V_alloc | apply Kd.V_drewN | apply Kd.V_drew)); exact Kd.V_mono HO_13.out (fun _ hk => ⟨⟨hk.1, ⟨hk.2.2.1, ⟨hk.2.2.2.1, hk.2.2.2.2⟩⟩⟩, hk.2.1⟩)) hg hat); replace HO_130001 := Aside0.mk (Kd.R_over' (zR HO_130001.out) (Kd.N_typed (zN HO_11.out)) (by decide) hg); replace BK129 := Aside0.mk (blk_grown (g := gb129) (o := .cells #[.bool t125, .slice Ao36 t126.length co36] 113 (0, 0)) (by (with_reducible repeat (first | refine blk_drewN ?_ _ | refine blk_drew ?_ | refine blk_alloc ?_ _)); exact BK129.out) hg (Kd.N_ne HO_11.out BK129.out (by decide))); replace HB := Aside0.mk (hb); have HO155 := Aside0.mk (ho); clear HO_11 HO_14; clear ho hb hg hat))
   go_roundg k3
   case measure => have := HK1.out; have := HK2.out; have := HK3.out; omega
   case rel => exact ⟨(y153), (wrap64 (x54_2 + 1)), zF, H', ⟨by have := HK1.out; have := HK2.out; have := HK3.out; omega⟩, ⟨by (try simp only [hl5_1]); (with_reducible repeat (first | apply Kd.N_alloc | apply Kd.N_drewN | apply Kd.N_drew)); exact HO155.out⟩, ⟨by (try simp only [hl5_1]); (with_reducible repeat (first | apply Kd.R_alloc | apply Kd.R_drewN | apply Kd.R_drew)); exact HO_130001.out⟩, ⟨by (try simp only [hl5_1]); (with_reducible repeat (first | refine blk_drewN ?_ _ | refine blk_drew ?_ | refine blk_alloc ?_ _)); exact BK129.out⟩, ⟨zB1 HB.out GE129.out⟩⟩
 have c37b0 := decide_eq_false c37
 clear c37
 obtain rfl := Option.some.inj H
 go_wp2
 go_ret
 exact ⟨_, by first | rfl | (simp [errW_none, errW_some] <;> rfl) | (simp only [← hji3]; first | rfl | (simp [errW_none, errW_some] <;> rfl)) | (simp [*, errW_none, errW_some] <;> rfl), by (with_reducible repeat (first | apply Kd.N_alloc | apply Kd.N_drewN | apply Kd.N_drew)); exact Kd.N_mono HO_11.out (fun _ hk => hk.1), zB1 HB.out GE129.out⟩
theorem nat_long.calls (A0 : Option Addr) (c0 : Nat) (l0 : List Int) (A1 : Option Addr) (c1 : Nat) (l1 : List Int) (r1 : List Int) (r2 : List Int) (w : World) (hr0 : Kd.C (Kd.int .u32) w A0 l0.length l0) (hc0 : l0.length ≤ c0) (hr1 : Kd.C (Kd.int .u32) w A1 l1.length l1) (hc1 : l1.length ≤ c1) (h : nat_long.f l0 l1 = some (r1, r2)) :
    Calls Try.prog 129 #[.slice A0 l0.length c0, .slice A1 l1.length c1] w fun e w' => ∃ v0_ v1_ : Value, e = .returned (.tuple #[v0_, v1_]) ∧ Kd.R (Kd.int .u32) 97 w' w.heap.size (fun k_ => some k_ ≠ (v1_ : Value).ownBlock) v0_ r1 ∧ Kd.R (Kd.int .u32) 97 w' w.heap.size (fun k_ => some k_ ≠ (v0_ : Value).ownBlock) v1_ r2 ∧ Below w.heap.size w w' := by
 exact absurd h (by simp [nat_long.f])
set_option maxHeartbeats 8000000 in
set_option maxRecDepth 100000 in
theorem nat_DivMod.calls (k : Nat) (P0_ : Nat → Prop) (A0 : Option Addr) (c0 : Nat) (l0 : List Int) (P1_ : Nat → Prop) (A1 : Option Addr) (c1 : Nat) (l1 : List Int) (r1 : List Int) (r2 : List Int) (r3 : Int) (w : World) (hs0 : Kd.V (Kd.int .u32) 97 w w.heap.size (fun k_ => P0_ k_) (.slice A0 l0.length c0) l0) (hs1 : Kd.V (Kd.int .u32) 97 w w.heap.size (fun k_ => P1_ k_) (.slice A1 l1.length c1) l1) (h : nat_DivMod.f k l0 l1 = some (r1, r2, r3)) :
    Calls Try.prog 105 #[.slice A0 l0.length c0, .slice A1 l1.length c1] w fun e w' => ∃ v0_ v1_ : Value, e = .returned (.tuple #[v0_, v1_, .int .i64 r3]) ∧ Kd.V (Kd.int .u32) 97 w' w.heap.size (fun k_ => ((P0_ k_ ∨ P1_ k_) ∨ w.heap.size ≤ k_) ∧ some k_ ≠ (v1_ : Value).ownBlock) v0_ r1 ∧ Kd.R (Kd.int .u32) 97 w' w.heap.size (fun k_ => (w.heap.size ≤ k_)) v1_ r2 ∧ Below w.heap.size w w' := by
 have HO0 := Aside0.mk (show Kd.V (Kd.int .u32) 97 w w.heap.size (fun k_ => ((P0_ k_ ∨ P1_ k_) ∨ w.heap.size ≤ k_)) (.slice A0 l0.length c0) l0 from Kd.V_mono hs0 (fun k_ hk => .inl (.inl hk)))
 have HO1 := Aside0.mk (show Kd.V (Kd.int .u32) 97 w w.heap.size (fun k_ => ((P0_ k_ ∨ P1_ k_) ∨ w.heap.size ≤ k_)) (.slice A1 l1.length c1) l1 from Kd.V_mono hs1 (fun k_ hk => .inl (.inr hk)))
 have HB := Aside0.mk (Below.refl w.heap.size w)
 have H : ((nat_short.f k l0).bind fun t101 => ((nat_short.f k l1).bind fun t104 => (if (t104.length : Int) = 0 then (some (([] : List Int), ([] : List Int), 7)) else ((nat_Cmp.f k t101 t104).bind fun t107 => (if t107 < 0 then ((nat_Trim.f k t101).bind fun t108 => (some (([] : List Int), t108, 0))) else (if (t104.length : Int) = 1 then (if 0 < (t104.length : Int) then ((nat_digit.f k t101 (rd t104 0)).bind fun bt112 => ((nat_Of.f k (IntKind.u64.wrap (bt112.2))).bind fun t116 => (some (bt112.1, t116, 0)))) else (none)) else ((nat_long.f t101 t104).bind fun bt119 => ((nat_Trim.f k bt119.1).bind fun t125 => ((nat_Trim.f k bt119.2).bind fun t128 => (some (t125, t128, 0))))))))))) = some (r1, r2, r3) := h
 clear h
 replace H := zb H
 obtain ⟨t101, A3, H⟩ := H
 replace H := zb H
 obtain ⟨t104, A4, H⟩ := H
 replace H := zi H
 rcases H with ⟨c5, H⟩ | ⟨c5, H⟩
 · have c5b0 := beq_iff_eq.mpr c5
   have c5b1 := bne_eq_false_iff_eq.mpr c5
   clear c5
   simp only [Option.some.injEq, Prod.mk.injEq] at H
   obtain ⟨rfl, rfl, rfl⟩ := H
   go_enter Try.func105, Try.ntmps105
   go_wp2_with (first | ((with_reducible refine gate_callee (f := 118) rfl ?_); refine zG (some 12) Try.func118 #[.slice A0 l0.length c0] ?_; (with_reducible refine (nat_short.calls k (fun k_ => ((P0_ k_ ∨ P1_ k_) ∨ w.heap.size ≤ k_)) _ _ l0 t101 _ ?side1 A3.out).mono ?_); (case side1 => exact HO0.out); rintro e w6 ⟨v102, rfl, ho0, hb⟩; refine ⟨_, rfl, ?_⟩; replace HO0 := yVb HO0 hb; replace HO1 := yVb HO1 hb; have HO103 := Aside0.mk (Kd.V_lower (Kd.V_mono (ok' := fun k_ => ((P0_ k_ ∨ P1_ k_) ∨ w.heap.size ≤ k_)) ho0 (fun k_ hk_ => Or.elim hk_ (fun hs_ => hs_) (fun hn_ => (.inr (Nat.le_trans (below_size (zB HB.out)) hn_))))) (below_size (zB HB.out))); replace HB := yS HB hb; (try clear hb ho0)) | ((with_reducible refine gate_callee (f := 118) rfl ?_); refine zG (some 14) Try.func118 #[.slice A1 l1.length c1] ?_; (with_reducible refine (nat_short.calls k (fun k_ => ((P0_ k_ ∨ P1_ k_) ∨ w.heap.size ≤ k_)) _ _ l1 t104 _ ?side1 A4.out).mono ?_); (case side1 => exact HO1.out); rintro e w7 ⟨v105, rfl, ho0, hb⟩; refine ⟨_, rfl, ?_⟩; replace HO0 := yVb HO0 hb; replace HO1 := yVb HO1 hb; replace HO103 := yVb HO103 hb; have HO106 := Aside0.mk (Kd.V_lower (Kd.V_mono (ok' := fun k_ => ((P0_ k_ ∨ P1_ k_) ∨ w.heap.size ≤ k_)) ho0 (fun k_ hk_ => Or.elim hk_ (fun hs_ => hs_) (fun hn_ => (.inr (Nat.le_trans (below_size (zB HB.out)) hn_))))) (below_size (zB HB.out))); replace HB := yS HB hb; (try clear hb ho0); obtain ⟨Ao8, co8, rfl⟩ := Kd.V_slice HO106.out))
   go_ret3
   exact ⟨_, _, zE, by exact Kd.V_nil _ _ _ _ _, z0, zB HB.out⟩
 have c5b0 := beq_eq_false_iff_ne.mpr c5
 have c5b1 := bne_iff_ne.mpr c5
 have c5b2 : ¬ (t104 = []) := fun h_ => c5 (by rw [h_]; rfl)
 replace H := zb H
 obtain ⟨t107, A9, H⟩ := H
 replace H := zi H
 rcases H with ⟨c10, H⟩ | ⟨c10, H⟩
 · have c10b0 := decide_eq_true c10
   clear c10
   replace H := zb H
   obtain ⟨t108, A11, H⟩ := H
   simp only [Option.some.injEq, Prod.mk.injEq] at H
   obtain ⟨rfl, rfl, rfl⟩ := H
   go_enter Try.func105, Try.ntmps105
   go_wp2_with (first | ((with_reducible refine gate_callee (f := 118) rfl ?_); refine zG (some 12) Try.func118 #[.slice A0 l0.length c0] ?_; (with_reducible refine (nat_short.calls k (fun k_ => ((P0_ k_ ∨ P1_ k_) ∨ w.heap.size ≤ k_)) _ _ l0 t101 _ ?side1 A3.out).mono ?_); (case side1 => exact HO0.out); rintro e w12 ⟨v102, rfl, ho0, hb⟩; refine ⟨_, rfl, ?_⟩; replace HO0 := yVb HO0 hb; replace HO1 := yVb HO1 hb; have HO103 := Aside0.mk (Kd.V_lower (Kd.V_mono (ok' := fun k_ => ((P0_ k_ ∨ P1_ k_) ∨ w.heap.size ≤ k_)) ho0 (fun k_ hk_ => Or.elim hk_ (fun hs_ => hs_) (fun hn_ => (.inr (Nat.le_trans (below_size (zB HB.out)) hn_))))) (below_size (zB HB.out))); replace HB := yS HB hb; (try clear hb ho0)) | ((with_reducible refine gate_callee (f := 118) rfl ?_); refine zG (some 14) Try.func118 #[.slice A1 l1.length c1] ?_; (with_reducible refine (nat_short.calls k (fun k_ => ((P0_ k_ ∨ P1_ k_) ∨ w.heap.size ≤ k_)) _ _ l1 t104 _ ?side1 A4.out).mono ?_); (case side1 => exact HO1.out); rintro e w13 ⟨v105, rfl, ho0, hb⟩; refine ⟨_, rfl, ?_⟩; replace HO0 := yVb HO0 hb; replace HO1 := yVb HO1 hb; replace HO103 := yVb HO103 hb; have HO106 := Aside0.mk (Kd.V_lower (Kd.V_mono (ok' := fun k_ => ((P0_ k_ ∨ P1_ k_) ∨ w.heap.size ≤ k_)) ho0 (fun k_ hk_ => Or.elim hk_ (fun hs_ => hs_) (fun hn_ => (.inr (Nat.le_trans (below_size (zB HB.out)) hn_))))) (below_size (zB HB.out))); replace HB := yS HB hb; (try clear hb ho0); obtain ⟨Ao14, co14, rfl⟩ := Kd.V_slice HO106.out; obtain ⟨Ao15, co15, rfl⟩ := Kd.V_slice HO103.out) | ((with_reducible refine gate_callee (f := 79) rfl ?_); refine zG (some 22) Try.func79 #[.slice Ao15 t101.length co15, .slice Ao14 t104.length co14] ?_; (with_reducible refine (nat_Cmp.calls k _ _ t101 _ _ t104 t107 _ ?side1 ?side2 ?side3 ?side4 A9.out).mono ?_); (case side1 => exact zC (Kd.V_reads' HO103.out).2.2); (case side2 => exact (Kd.V_reads' HO103.out).2.1); (case side3 => exact zC (Kd.V_reads' HO106.out).2.2); (case side4 => exact (Kd.V_reads' HO106.out).2.1); rintro e w16 ⟨rfl, hb⟩; refine ⟨_, rfl, ?_⟩; replace HO0 := yVb HO0 hb; replace HO1 := yVb HO1 hb; replace HO103 := yVb HO103 hb; replace HO106 := yVb HO106 hb; replace HB := yS HB hb; (try clear hb); (try clear hb2); (try clear hk); (try clear hi)) | ((with_reducible refine gate_callee (f := 103) rfl ?_); refine zG (some 25) Try.func103 #[.slice Ao15 t101.length co15] ?_; (with_reducible refine (nat_Trim.calls k _ _ t101 t108 _ ?side1 ?side2 A11.out).mono ?_); (case side1 => exact zC (Kd.V_reads' HO103.out).2.2); (case side2 => exact (Kd.V_reads' HO103.out).2.1); rintro e w17 ⟨v109, rfl, ho0, hb⟩; refine ⟨_, rfl, ?_⟩; replace HO0 := yVe HO0 ho0 hb; replace HO1 := yVe HO1 ho0 hb; replace HO103 := yVe HO103 ho0 hb; replace HO106 := yVe HO106 ho0 hb; replace ho0 := Kd.R_newM (M := fun k_ => (w.heap.size ≤ k_)) ho0 (below_size (zB HB.out)) (fun k_ h_ => h_); have HO110 := yRl ho0 HB; replace HB := yS HB hb; (try clear hb ho0)))
   go_ret3
   exact ⟨_, _, zE, by exact Kd.V_nil _ _ _ _ _, by (with_reducible repeat (first | apply Kd.R_alloc | apply Kd.R_drewN | apply Kd.R_drew)); exact Kd.R_mono HO110.out (fun _ hk => hk.1), zB HB.out⟩
 have c10b0 := decide_eq_false c10
 clear c10
 replace H := zi H
 rcases H with ⟨c18, H⟩ | ⟨c18, H⟩
 · have c18b0 := beq_iff_eq.mpr c18
   have c18b1 := bne_eq_false_iff_eq.mpr c18
   clear c18
   replace H := zg H
   obtain ⟨c19, H⟩ := H
   have c19b0 := decide_eq_true c19
   have c19b1 : decide (0 < t104.length) = true := decide_eq_true (by omega)
   clear c19
   replace H := zb H
   obtain ⟨⟨t112, t115⟩, A20, H⟩ := H
   dsimp only at H
   replace H := zb H
   obtain ⟨t116, A21, H⟩ := H
   simp only [Option.some.injEq, Prod.mk.injEq] at H
   obtain ⟨rfl, rfl, rfl⟩ := H
   go_enter Try.func105, Try.ntmps105
   go_wp2_with (first | ((with_reducible refine gate_callee (f := 118) rfl ?_); refine zG (some 12) Try.func118 #[.slice A0 l0.length c0] ?_; (with_reducible refine (nat_short.calls k (fun k_ => ((P0_ k_ ∨ P1_ k_) ∨ w.heap.size ≤ k_)) _ _ l0 t101 _ ?side1 A3.out).mono ?_); (case side1 => exact HO0.out); rintro e w22 ⟨v102, rfl, ho0, hb⟩; refine ⟨_, rfl, ?_⟩; replace HO0 := yVb HO0 hb; replace HO1 := yVb HO1 hb; have HO103 := Aside0.mk (Kd.V_lower (Kd.V_mono (ok' := fun k_ => ((P0_ k_ ∨ P1_ k_) ∨ w.heap.size ≤ k_)) ho0 (fun k_ hk_ => Or.elim hk_ (fun hs_ => hs_) (fun hn_ => (.inr (Nat.le_trans (below_size (zB HB.out)) hn_))))) (below_size (zB HB.out))); replace HB := yS HB hb; (try clear hb ho0)) | ((with_reducible refine gate_callee (f := 118) rfl ?_); refine zG (some 14) Try.func118 #[.slice A1 l1.length c1] ?_; (with_reducible refine (nat_short.calls k (fun k_ => ((P0_ k_ ∨ P1_ k_) ∨ w.heap.size ≤ k_)) _ _ l1 t104 _ ?side1 A4.out).mono ?_); (case side1 => exact HO1.out); rintro e w23 ⟨v105, rfl, ho0, hb⟩; refine ⟨_, rfl, ?_⟩; replace HO0 := yVb HO0 hb; replace HO1 := yVb HO1 hb; replace HO103 := yVb HO103 hb; have HO106 := Aside0.mk (Kd.V_lower (Kd.V_mono (ok' := fun k_ => ((P0_ k_ ∨ P1_ k_) ∨ w.heap.size ≤ k_)) ho0 (fun k_ hk_ => Or.elim hk_ (fun hs_ => hs_) (fun hn_ => (.inr (Nat.le_trans (below_size (zB HB.out)) hn_))))) (below_size (zB HB.out))); replace HB := yS HB hb; (try clear hb ho0); obtain ⟨Ao24, co24, rfl⟩ := Kd.V_slice HO106.out; obtain ⟨Ao25, co25, rfl⟩ := Kd.V_slice HO103.out) | ((with_reducible refine gate_callee (f := 79) rfl ?_); refine zG (some 22) Try.func79 #[.slice Ao25 t101.length co25, .slice Ao24 t104.length co24] ?_; (with_reducible refine (nat_Cmp.calls k _ _ t101 _ _ t104 t107 _ ?side1 ?side2 ?side3 ?side4 A9.out).mono ?_); (case side1 => exact zC (Kd.V_reads' HO103.out).2.2); (case side2 => exact (Kd.V_reads' HO103.out).2.1); (case side3 => exact zC (Kd.V_reads' HO106.out).2.2); (case side4 => exact (Kd.V_reads' HO106.out).2.1); rintro e w26 ⟨rfl, hb⟩; refine ⟨_, rfl, ?_⟩; replace HO0 := yVb HO0 hb; replace HO1 := yVb HO1 hb; replace HO103 := yVb HO103 hb; replace HO106 := yVb HO106 hb; replace HB := yS HB hb; (try clear hb); (try clear hb2); (try clear hk); (try clear hi); have p111 : 0 ≤ (0 : Int) := (by omega); have q111 : 0 < (t104.length : Int) := of_decide_eq_true zA; obtain ⟨ad111, e111, hx111_0⟩ := Kd.at_int (Kd.V_reads' HO106.out).2.2 0 p111 q111; cases e111; have qi111 : (0 < t104.length) = True := eq_true (by omega); (try rw [show ((0 : Int)).toNat = 0 from rfl] at hx111_0); (try rw [Addr.add_zero'] at hx111_0); replace p111 := eq_true p111; replace q111 := eq_true q111) | ((with_reducible refine gate_callee (f := 115) rfl ?_); refine zG (some 35) Try.func115 #[.slice Ao25 t101.length co25, .int .u32 (rd t104 0)] ?_; (with_reducible refine (nat_digit.calls k _ _ t101 (rd t104 0) t112 t115 _ ?side1 ?side2 A20.out).mono ?_); (case side1 => exact zC (Kd.V_reads' HO103.out).2.2); (case side2 => exact (Kd.V_reads' HO103.out).2.1); rintro e w27 ⟨v113, rfl, ho0, hb⟩; refine ⟨_, rfl, ?_⟩; replace HO0 := yVb HO0 hb; replace HO1 := yVb HO1 hb; replace HO103 := yVb HO103 hb; replace HO106 := yVb HO106 hb; have HO114 := Aside0.mk (Kd.V_lower (Kd.V_mono (ok' := fun k_ => ((P0_ k_ ∨ P1_ k_) ∨ w.heap.size ≤ k_)) ho0 (fun k_ hk_ => (.inr (Nat.le_trans (below_size (zB HB.out)) hk_)))) (below_size (zB HB.out))); replace HB := yS HB hb; (try clear hb ho0)) | ((with_reducible refine gate_callee (f := 80) rfl ?_); refine zG (some 41) Try.func80 #[.int .u64 (IntKind.u64.wrap (t115))] ?_; (with_reducible refine (nat_Of.calls k (IntKind.u64.wrap (t115)) t116 _ A21.out).mono ?_); rintro e w28 ⟨v117, rfl, ho0, hb⟩; refine ⟨_, rfl, ?_⟩; replace HO0 := yVe HO0 ho0 hb; replace HO1 := yVe HO1 ho0 hb; replace HO103 := yVe HO103 ho0 hb; replace HO106 := yVe HO106 ho0 hb; replace HO114 := yVe HO114 ho0 hb; replace ho0 := Kd.R_newM (M := fun k_ => (w.heap.size ≤ k_)) ho0 (below_size (zB HB.out)) (fun k_ h_ => h_); have HO118 := yRl ho0 HB; replace HB := yS HB hb; (try clear hb ho0)))
   go_ret3
   exact ⟨_, _, zE, zV HO114.out, by (with_reducible repeat (first | apply Kd.R_alloc | apply Kd.R_drewN | apply Kd.R_drew)); exact Kd.R_mono HO118.out (fun _ hk => hk.1), zB HB.out⟩
 have c18b0 := beq_eq_false_iff_ne.mpr c18
 have c18b1 := bne_iff_ne.mpr c18
 replace H := zb H
 obtain ⟨⟨t119, t120⟩, A29, H⟩ := H
 dsimp only at H
 replace H := zb H
 obtain ⟨t125, A30, H⟩ := H
 replace H := zb H
 obtain ⟨t128, A31, H⟩ := H
 simp only [Option.some.injEq, Prod.mk.injEq] at H
 obtain ⟨rfl, rfl, rfl⟩ := H
 go_enter Try.func105, Try.ntmps105
 go_wp2_with (first | ((with_reducible refine gate_callee (f := 118) rfl ?_); refine zG (some 12) Try.func118 #[.slice A0 l0.length c0] ?_; (with_reducible refine (nat_short.calls k (fun k_ => ((P0_ k_ ∨ P1_ k_) ∨ w.heap.size ≤ k_)) _ _ l0 t101 _ ?side1 A3.out).mono ?_); (case side1 => exact HO0.out); rintro e w32 ⟨v102, rfl, ho0, hb⟩; refine ⟨_, rfl, ?_⟩; replace HO0 := yVb HO0 hb; replace HO1 := yVb HO1 hb; have HO103 := Aside0.mk (Kd.V_lower (Kd.V_mono (ok' := fun k_ => ((P0_ k_ ∨ P1_ k_) ∨ w.heap.size ≤ k_)) ho0 (fun k_ hk_ => Or.elim hk_ (fun hs_ => hs_) (fun hn_ => (.inr (Nat.le_trans (below_size (zB HB.out)) hn_))))) (below_size (zB HB.out))); replace HB := yS HB hb; (try clear hb ho0)) | ((with_reducible refine gate_callee (f := 118) rfl ?_); refine zG (some 14) Try.func118 #[.slice A1 l1.length c1] ?_; (with_reducible refine (nat_short.calls k (fun k_ => ((P0_ k_ ∨ P1_ k_) ∨ w.heap.size ≤ k_)) _ _ l1 t104 _ ?side1 A4.out).mono ?_); (case side1 => exact HO1.out); rintro e w33 ⟨v105, rfl, ho0, hb⟩; refine ⟨_, rfl, ?_⟩; replace HO0 := yVb HO0 hb; replace HO1 := yVb HO1 hb; replace HO103 := yVb HO103 hb; have HO106 := Aside0.mk (Kd.V_lower (Kd.V_mono (ok' := fun k_ => ((P0_ k_ ∨ P1_ k_) ∨ w.heap.size ≤ k_)) ho0 (fun k_ hk_ => Or.elim hk_ (fun hs_ => hs_) (fun hn_ => (.inr (Nat.le_trans (below_size (zB HB.out)) hn_))))) (below_size (zB HB.out))); replace HB := yS HB hb; (try clear hb ho0); obtain ⟨Ao34, co34, rfl⟩ := Kd.V_slice HO106.out; obtain ⟨Ao35, co35, rfl⟩ := Kd.V_slice HO103.out) | ((with_reducible refine gate_callee (f := 79) rfl ?_); refine zG (some 22) Try.func79 #[.slice Ao35 t101.length co35, .slice Ao34 t104.length co34] ?_; (with_reducible refine (nat_Cmp.calls k _ _ t101 _ _ t104 t107 _ ?side1 ?side2 ?side3 ?side4 A9.out).mono ?_); (case side1 => exact zC (Kd.V_reads' HO103.out).2.2); (case side2 => exact (Kd.V_reads' HO103.out).2.1); (case side3 => exact zC (Kd.V_reads' HO106.out).2.2); (case side4 => exact (Kd.V_reads' HO106.out).2.1); rintro e w36 ⟨rfl, hb⟩; refine ⟨_, rfl, ?_⟩; replace HO0 := yVb HO0 hb; replace HO1 := yVb HO1 hb; replace HO103 := yVb HO103 hb; replace HO106 := yVb HO106 hb; replace HB := yS HB hb; (try clear hb); (try clear hb2); (try clear hk); (try clear hi)) | ((with_reducible refine gate_callee (f := 129) rfl ?_); refine zG (some 45) Try.func129 #[.slice Ao35 t101.length co35, .slice Ao34 t104.length co34] ?_; (with_reducible refine (nat_long.calls _ _ t101 _ _ t104 t119 t120 _ ?side1 ?side2 ?side3 ?side4 A29.out).mono ?_); (case side1 => exact zC (Kd.V_reads' HO103.out).2.2); (case side2 => exact (Kd.V_reads' HO103.out).2.1); (case side3 => exact zC (Kd.V_reads' HO106.out).2.2); (case side4 => exact (Kd.V_reads' HO106.out).2.1); rintro e w37 ⟨v121, v123, rfl, ho0, ho1, hb⟩; refine ⟨_, rfl, ?_⟩; replace HO0 := yVt HO0 hb ho0 ho1; replace HO1 := yVt HO1 hb ho0 ho1; replace HO103 := yVt HO103 hb ho0 ho1; replace HO106 := yVt HO106 hb ho0 ho1; replace ho0 := Kd.R_newM (M := fun k_ => (w.heap.size ≤ k_)) ho0 (below_size (zB HB.out)) (fun k_ h_ => h_); have HO122 := yRl ho0 HB; replace ho1 := Kd.R_newM (M := fun k_ => (w.heap.size ≤ k_)) ho1 (below_size (zB HB.out)) (fun k_ h_ => h_); have HO124 := yRl ho1 HB; replace HB := yS HB hb; (try clear hb ho0); (try clear ho1); obtain ⟨Ao38, co38, rfl⟩ := Kd.R_slice HO122.out) | ((with_reducible refine gate_callee (f := 103) rfl ?_); refine zG (some 49) Try.func103 #[.slice Ao38 t119.length co38] ?_; (with_reducible refine (nat_Trim.calls k _ _ t119 t125 _ ?side1 ?side2 A30.out).mono ?_); (case side1 => exact zC (Kd.R_reads' HO122.out).2.2); (case side2 => exact (Kd.R_reads' HO122.out).2.1); rintro e w39 ⟨v126, rfl, ho0, hb⟩; refine ⟨_, rfl, ?_⟩; replace HO0 := yVe HO0 ho0 hb; replace HO1 := yVe HO1 ho0 hb; replace HO103 := yVe HO103 ho0 hb; replace HO106 := yVe HO106 ho0 hb; replace ho0 := Kd.R_newM (M := fun k_ => (w.heap.size ≤ k_)) ho0 (below_size (zB HB.out)) (fun k_ h_ => h_); replace ho0 := yn ho0 HO122; replace ho0 := yn ho0 HO124; have HO127 := yRl ho0 HB; replace HO122 := yRe HO122 ho0 hb; replace HO124 := yRe HO124 ho0 hb; replace HB := yS HB hb; (try clear hb ho0); obtain ⟨Ao40, co40, rfl⟩ := Kd.R_slice HO124.out) | ((with_reducible refine gate_callee (f := 103) rfl ?_); refine zG (some 51) Try.func103 #[.slice Ao40 t120.length co40] ?_; (with_reducible refine (nat_Trim.calls k _ _ t120 t128 _ ?side1 ?side2 A31.out).mono ?_); (case side1 => exact zC (Kd.R_reads' HO124.out).2.2); (case side2 => exact (Kd.R_reads' HO124.out).2.1); rintro e w41 ⟨v129, rfl, ho0, hb⟩; refine ⟨_, rfl, ?_⟩; replace HO0 := yVe HO0 ho0 hb; replace HO1 := yVe HO1 ho0 hb; replace HO103 := yVe HO103 ho0 hb; replace HO106 := yVe HO106 ho0 hb; replace ho0 := Kd.R_newM (M := fun k_ => (w.heap.size ≤ k_)) ho0 (below_size (zB HB.out)) (fun k_ h_ => h_); replace ho0 := yn ho0 HO122; replace ho0 := yn ho0 HO124; replace ho0 := yn ho0 HO127; have HO130 := yRl ho0 HB; replace HO122 := yRe HO122 ho0 hb; replace HO124 := yRe HO124 ho0 hb; replace HO127 := yRe HO127 ho0 hb; replace HB := yS HB hb; (try clear hb ho0)))
 go_ret3
 exact ⟨_, _, zE, Kd.V_mono (ok := fun k_ => (w.heap.size ≤ k_) ∧ some k_ ≠ (v129 : Value).ownBlock) (Kd.R_V (by (with_reducible repeat (first | apply Kd.R_alloc | apply Kd.R_drewN | apply Kd.R_drew)); exact Kd.R_mono HO127.out (fun _ hk => ⟨hk.1.1.1.1, hk.2⟩))) (fun k_ hk => by first | exact ⟨(.inr (hk.1)), hk.2⟩ | exact (.inr (hk))), by (with_reducible repeat (first | apply Kd.R_alloc | apply Kd.R_drewN | apply Kd.R_drew)); exact Kd.R_mono HO130.out (fun _ hk => hk.1.1.1.1), zB HB.out⟩
set_option maxHeartbeats 8000000 in
set_option maxRecDepth 100000 in
theorem nat_Gcd.calls (k : Nat) (A0 : Option Addr) (c0 : Nat) (l0 : List Int) (A1 : Option Addr) (c1 : Nat) (l1 : List Int) (r : List Int) (w : World) (hr0 : Kd.C (Kd.int .u32) w A0 l0.length l0) (hc0 : l0.length ≤ c0) (hr1 : Kd.C (Kd.int .u32) w A1 l1.length l1) (hc1 : l1.length ≤ c1) (h : nat_Gcd.f k l0 l1 = some r) :
    Calls Try.prog 108 #[.slice A0 l0.length c0, .slice A1 l1.length c1] w fun e w' => ∃ v0_ : Value, e = .returned (v0_) ∧ Kd.R (Kd.int .u32) 97 w' w.heap.size (fun _ => True) v0_ r ∧ Below w.heap.size w w' := by
 have HR0 := Aside0.mk hr0
 have HC0 := Aside0.mk hc0
 clear hr0 hc0
 have HR1 := Aside0.mk hr1
 have HC1 := Aside0.mk hc1
 clear hr1 hc1
 have HB := Aside0.mk (Below.refl w.heap.size w)
 have H : ((nat_short.f k l0).bind fun t101 => ((nat_short.f k l1).bind fun t104 => (nat_Gcd.l0 k t101 t104))) = some r := h
 clear h
 replace H := zb H
 obtain ⟨t101, A3, H⟩ := H
 replace H := zb H
 obtain ⟨t104, A4, H⟩ := H
 have H' := Aside0.mk H
 clear H
 go_enter Try.func108, Try.ntmps108
 go_wp2_with (first | ((with_reducible refine gate_callee (f := 118) rfl ?_); refine zG (some 9) Try.func118 #[.slice A0 l0.length c0] ?_; (with_reducible refine (nat_short.calls k (fun k_ => k_ < w.heap.size) _ _ l0 t101 _ ?side1 A3.out).mono ?_); (case side1 => exact Kd.V_mk HC0.out (Kd.F_below (Kd.C_F (Kd.heap_int .u32) HR0.out) (zB HB.out))); rintro e w5 ⟨v102, rfl, ho0, hb⟩; refine ⟨_, rfl, ?_⟩; have HO103 := yVm ho0 HB; replace HB := yS HB hb; (try clear hb ho0)) | ((with_reducible refine gate_callee (f := 118) rfl ?_); refine zG (some 11) Try.func118 #[.slice A1 l1.length c1] ?_; (with_reducible refine (nat_short.calls k (fun k_ => k_ < w.heap.size) _ _ l1 t104 _ ?side1 A4.out).mono ?_); (case side1 => exact Kd.V_mk HC1.out (Kd.F_below (Kd.C_F (Kd.heap_int .u32) HR1.out) (zB HB.out))); rintro e w6 ⟨v105, rfl, ho0, hb⟩; refine ⟨_, rfl, ?_⟩; replace HO103 := yVb HO103 hb; have HO106 := yVm ho0 HB; replace HB := yS HB hb; (try clear hb ho0)))
 go_loopg [0, 1] k (fun kq v0 v1 w' => ∃ (x0_1 : List Int) (x1_1 : List Int), Aside0 (nat_Gcd.l0 kq x0_1 x1_1 = some r) ∧ Aside0 (kq ≤ k) ∧ Aside0 (Kd.V (Kd.int .u32) 97 w' w.heap.size (fun _ => True) v0 x0_1) ∧ Aside0 (Kd.V (Kd.int .u32) 97 w' w.heap.size (fun _ => True) v1 x1_1) ∧ Aside0 (Below w.heap.size w w'))
 case atStart => exact ⟨(t101), (t104), H', ⟨Nat.le_refl _⟩, ⟨zV HO103.out⟩, ⟨zV HO106.out⟩, ⟨zB HB.out⟩⟩
 clear H'
 (try clear c1);(try clear p2)
 obtain ⟨x0_1, x1_1, HA, HK1, HO_0, HO_1, HB⟩ := hrel
 cases gk with | zero => exact absurd HA.out (by simp [nat_Gcd.l0]) | succ k1 => ?_
 have H := HA.out
 clear HA
 simp only [nat_Gcd.l0] at H
 replace H := zi H
 rcases H with ⟨c7, H⟩ | ⟨c7, H⟩
 · have c7b0 : decide (0 < (x1_1.length : Int)) = true := decide_eq_true c7
   have c7b1 : decide (0 < x1_1.length) = true := decide_eq_true (by omega)
   clear c7
   replace H := zb H
   obtain ⟨⟨t107, t110, t113⟩, A8, H⟩ := H
   dsimp only at H
   have H' := Aside0.mk H
   clear H
   obtain ⟨Ao9, co9, rfl⟩ := Kd.V_slice HO_1.out
   obtain ⟨Ao10, co10, rfl⟩ := Kd.V_slice HO_0.out
   go_wp2_with (first | ((with_reducible refine gate_callee (f := 105) rfl ?_); refine zG (some 18) Try.func105 #[.slice Ao10 x0_1.length co10, .slice Ao9 x1_1.length co9] ?_; (with_reducible refine (nat_DivMod.calls k1 (fun k_ => True) _ _ x0_1 (fun k_ => True) _ _ x1_1 t107 t110 t113 _ ?side1 ?side2 A8.out).mono ?_); (case side1 => exact HO_0.out); (case side2 => exact HO_1.out); rintro e w11 ⟨v108, v111, rfl, ho0, ho1, hb⟩; refine ⟨_, rfl, ?_⟩; replace HO_0 := yVe HO_0 ho1 hb; replace HO_1 := yVe HO_1 ho1 hb; have HO109 := Aside0.mk (Kd.V_lower (Kd.V_mono (ok' := fun k_ => some k_ ≠ (v111 : Value).ownBlock) ho0 (fun k_ hk_ => hk_.2)) (below_size (zB HB.out))); have HO112 := yRm ho1 HB; replace HB := yS HB hb; (try clear hb ho0); (try clear ho1)))
   go_roundg k1
   case measure => have := HK1.out; omega
   case rel => exact ⟨(x1_1), (t110), H', ⟨zo1 HK1⟩, ⟨by (with_reducible repeat (first | apply Kd.V_alloc | apply Kd.V_drewN | apply Kd.V_drew)); exact Kd.V_mono HO_1.out (fun _ hk => trivial)⟩, ⟨Kd.R_V (zR HO112.out)⟩, ⟨zB HB.out⟩⟩
 have c7b0 : decide (0 < (x1_1.length : Int)) = false := decide_eq_false c7
 have c7b1 : decide (0 < x1_1.length) = false := decide_eq_false (by omega)
 clear c7
 replace H := zb H
 obtain ⟨t114, A12, H⟩ := H
 obtain rfl := Option.some.inj H
 obtain ⟨Ao13, co13, rfl⟩ := Kd.V_slice HO_1.out
 obtain ⟨Ao14, co14, rfl⟩ := Kd.V_slice HO_0.out
 go_wp2_with (first | ((with_reducible refine gate_callee (f := 103) rfl ?_); refine zG (some 25) Try.func103 #[.slice Ao14 x0_1.length co14] ?_; (with_reducible refine (nat_Trim.calls k1 _ _ x0_1 t114 _ ?side1 ?side2 A12.out).mono ?_); (case side1 => exact zC (Kd.V_reads' HO_0.out).2.2); (case side2 => exact (Kd.V_reads' HO_0.out).2.1); rintro e w15 ⟨v115, rfl, ho0, hb⟩; refine ⟨_, rfl, ?_⟩; replace HO_0 := yVe HO_0 ho0 hb; replace HO_1 := yVe HO_1 ho0 hb; have HO116 := yRl ho0 HB; replace HB := yS HB hb; (try clear hb ho0)))
 go_ret
 exact ⟨_, zE, zR HO116.out, zB HB.out⟩
set_option maxHeartbeats 8000000 in
set_option maxRecDepth 100000 in
theorem rational_one.calls  (r : List Int) (w : World) (h : rational_one.f  = some r) :
    Calls Try.prog 141 #[] w fun e w' => ∃ v0_ : Value, e = .returned (v0_) ∧ Kd.R (Kd.int .u32) 97 w' w.heap.size (fun _ => True) v0_ r ∧ Below w.heap.size w w' := by
 have HB := Aside0.mk (Below.refl w.heap.size w)
 have H : (some (([1] : List Int))) = some r := h
 clear h
 obtain ⟨y101, hy101⟩ : ∃ y_ : List Int, y_ = (([1] : List Int)) := ⟨_, rfl⟩
 replace H : (some y101) = some r := zY hy101 H
 have Ny101 := Aside0.mk hy101
 clear hy101
 obtain rfl := Option.some.inj H
 go_enter Try.func141, Try.ntmps141
 go_wp2_with (first | ((with_reducible refine gate_dst (N := 1) rfl ?_); refine Kd.R_lit (Kd.int .u32) _ 97 ?hg (N := 1) ?hd (xs := ([1] : List Int)) (inner := [.int .u32 1]) (ok := fun _ => True) (okp := fun _ => True) ?hr ?hp (fun _ hk => hk) trivial (Below.refl _ _) (Nat.le_refl _) (by simp) ?_; (case hd => rfl); (case hg => rfl); (case hr => first | (go_simp; done) | (go_simp; rfl)); (case hp => exact (Reps.one (show Kd.M (Kd.int .u32) _ _ _ 1 [.int .u32 1] from rfl) (Reps.none _ _))); intro v102 w1 ho2 hb hg_ hnew_; clear hg_ hnew_; (first | rw [← Ny101.out] at ho2 | (simp only [Int.reduceToNat] at ho2; rw [← Ny101.out] at ho2)); have HO103 := yRl ho2 HB; replace HB := yS HB hb; clear hb ho2))
 go_ret
 exact ⟨_, zE, zR HO103.out, zB HB.out⟩
set_option maxHeartbeats 8000000 in
set_option maxRecDepth 100000 in
theorem rational_canonical.calls (k : Nat) (a0 : Bool) (P1_ : Nat → Prop) (A1 : Option Addr) (c1 : Nat) (l1 : List Int) (P2_ : Nat → Prop) (A2 : Option Addr) (c2 : Nat) (l2 : List Int) (r1 : Bool) (r2 : List Int) (r3 : List Int) (w : World) (hs1 : Kd.V (Kd.int .u32) 97 w w.heap.size (fun k_ => P1_ k_) (.slice A1 l1.length c1) l1) (hs2 : Kd.V (Kd.int .u32) 97 w w.heap.size (fun k_ => P2_ k_) (.slice A2 l2.length c2) l2) (h : rational_canonical.f k a0 l1 l2 = some (r1, r2, r3)) :
    Calls Try.prog 131 #[.bool a0, .slice A1 l1.length c1, .slice A2 l2.length c2] w fun e w' => ∃ v1_ v2_ : Value, e = .returned (.agg #[.bool r1, v1_, v2_]) ∧ Kd.V (Kd.int .u32) 97 w' w.heap.size (fun k_ => ((P1_ k_ ∨ P2_ k_) ∨ w.heap.size ≤ k_)) v1_ r2 ∧ Kd.V (Kd.int .u32) 97 w' w.heap.size (fun k_ => ((P1_ k_ ∨ P2_ k_) ∨ w.heap.size ≤ k_)) v2_ r3 ∧ Below w.heap.size w w' := by
 have hu60 := Try.underlying60
 have HO1 := Aside0.mk (show Kd.V (Kd.int .u32) 97 w w.heap.size (fun k_ => ((P1_ k_ ∨ P2_ k_) ∨ w.heap.size ≤ k_)) (.slice A1 l1.length c1) l1 from Kd.V_mono hs1 (fun k_ hk => .inl (.inl hk)))
 have HO2 := Aside0.mk (show Kd.V (Kd.int .u32) 97 w w.heap.size (fun k_ => ((P1_ k_ ∨ P2_ k_) ∨ w.heap.size ≤ k_)) (.slice A2 l2.length c2) l2 from Kd.V_mono hs2 (fun k_ hk => .inl (.inr hk)))
 have HB := Aside0.mk (Below.refl w.heap.size w)
 have H : ((nat_Bits.f k l1).bind fun t102 => (if t102 = 0 then (rational_canonical.j0 k a0 l1 l2 true) else ((nat_Bits.f k l2).bind fun t103 => (rational_canonical.j0 k a0 l1 l2 (t103 == 0))))) = some (r1, r2, r3) := h
 clear h
 have HC4 := Aside0.mk H
 clear H
 go_enter Try.func131, Try.ntmps131
 go_upto_region 1 with (first | ((with_reducible refine gate_dst (N := 6) rfl ?_); refine box_event ?hg (N := 6) ?hd (cs := #[.bool false, .slice none 0 0, .slice none 0 0]) (t := 60) ?hr ?_; (case hd => rfl); (case hg => rfl); (case hr => first | (go_simp; done) | (go_simp; rfl)); intro gb101 hg w5 hbox hb; replace HO1 := yVB HO1 hg hb; replace HO2 := yVB HO2 hg hb; have BK101 := Aside0.mk (hbox); have GW101 := yg hg HB; have GE101 := yg hg HB; replace HB := yS HB hb; clear hb hbox hg))
 (try simp only [Act.put, List.setIfInBounds_toArray, List.set_cons_zero, List.set_cons_succ])
 go_cut [15] (fun v15 wc => ∃ (kq : Nat) (x15_3 : Bool), v15 = .bool x15_3 ∧ Aside0 (rational_canonical.j0 kq a0 l1 l2 x15_3 = some (r1, r2, r3)) ∧ Aside0 (kq ≤ k) ∧ Aside0 (Kd.V (Kd.int .u32) 97 wc w.heap.size (fun k_ => ((P1_ k_ ∨ P2_ k_) ∨ w.heap.size ≤ k_) ∧ k_ ≠ gb101) (.slice A1 l1.length c1) l1) ∧ Aside0 (Kd.V (Kd.int .u32) 97 wc w.heap.size (fun k_ => ((P1_ k_ ∨ P2_ k_) ∨ w.heap.size ≤ k_) ∧ k_ ≠ gb101) (.slice A2 l2.length c2) l2) ∧ Aside0 (wc.heap[gb101]? = some (.cells #[.bool false, (.slice none 0 0), (.slice none 0 0)] 60 (0, 0))) ∧ Aside0 (Below w.heap.size w wc))
 case first =>
  have H := HC4.out
  clear HC4
  replace H := zb H
  obtain ⟨t102, A6, H⟩ := H
  replace H := zi H
  rcases H with ⟨c7, H⟩ | ⟨c7, H⟩
  · have c7b0 := beq_iff_eq.mpr c7
    have c7b1 := bne_eq_false_iff_eq.mpr c7
    clear c7
    (first | rw [c7b0] | (simp only [i64_w, i32_w]; rw [c7b0]) | rw [c7b1] | skip)
    have H' := Aside0.mk H
    clear H
    go_wp2_with (first | ((with_reducible refine gate_callee (f := 87) rfl ?_); refine zG (some 9) Try.func87 #[.slice A1 l1.length c1] ?_; (with_reducible refine (nat_Bits.calls k _ _ l1 t102 _ ?side1 ?side2 A6.out).mono ?_); (case side1 => exact zC (Kd.V_reads' HO1.out).2.2); (case side2 => exact (Kd.V_reads' HO1.out).2.1); rintro e w8 ⟨rfl, hb⟩; refine ⟨_, rfl, ?_⟩; replace HO1 := yVb HO1 hb; replace HO2 := yVb HO2 hb; replace BK101 := yK BK101 hb; replace HB := yS1 HB GE101 hb; (try clear hb); (try clear hb2); (try clear hk); (try clear hi)))
    go_meet
    case rel => exact ⟨_, (true), zF, H', ⟨zO⟩, ⟨zV HO1.out⟩, ⟨zV HO2.out⟩, ⟨by (with_reducible repeat (first | refine blk_drewN ?_ _ | refine blk_drew ?_ | refine blk_alloc ?_ _)); exact BK101.out⟩, ⟨zB1 HB.out GE101.out⟩⟩
  have c7b0 := beq_eq_false_iff_ne.mpr c7
  have c7b1 := bne_iff_ne.mpr c7
  (first | rw [c7b0] | (simp only [i64_w, i32_w]; rw [c7b0]) | rw [c7b1] | skip)
  replace H := zb H
  obtain ⟨t103, A9, H⟩ := H
  have H' := Aside0.mk H
  clear H
  go_wp2_with (first | ((with_reducible refine gate_callee (f := 87) rfl ?_); refine zG (some 9) Try.func87 #[.slice A1 l1.length c1] ?_; (with_reducible refine (nat_Bits.calls k _ _ l1 t102 _ ?side1 ?side2 A6.out).mono ?_); (case side1 => exact zC (Kd.V_reads' HO1.out).2.2); (case side2 => exact (Kd.V_reads' HO1.out).2.1); rintro e w10 ⟨rfl, hb⟩; refine ⟨_, rfl, ?_⟩; replace HO1 := yVb HO1 hb; replace HO2 := yVb HO2 hb; replace BK101 := yK BK101 hb; replace HB := yS1 HB GE101 hb; (try clear hb); (try clear hb2); (try clear hk); (try clear hi)) | (go_at_call 87; (with_reducible refine (nat_Bits.calls k _ _ l2 t103 _ ?side1 ?side2 A9.out).mono ?_); (case side1 => exact zC (Kd.V_reads' HO2.out).2.2); (case side2 => exact (Kd.V_reads' HO2.out).2.1); rintro e w11 ⟨rfl, hb⟩; replace HO1 := yVb HO1 hb; replace HO2 := yVb HO2 hb; replace BK101 := yK BK101 hb; replace HB := yS1 HB GE101 hb; (try clear hb); (try clear hb2); (try clear hk); (try clear hi)))
  go_meet
  case rel => exact ⟨_, ((t103 == 0)), zF, H', ⟨zO⟩, ⟨zV HO1.out⟩, ⟨zV HO2.out⟩, ⟨by (with_reducible repeat (first | refine blk_drewN ?_ _ | refine blk_drew ?_ | refine blk_alloc ?_ _)); exact BK101.out⟩, ⟨zB1 HB.out GE101.out⟩⟩
 clear HC4
 (try clear c1);(try clear c2);(try clear p2);(try clear c7);(try clear c7b0);(try clear c7b1);(try clear c8)
 obtain ⟨kq, x15_3, rfl, HA, HJ3, HO_1, HO_2, BK101, HB⟩ := hcut
 cases kq with | zero => exact absurd HA.out (by simp [rational_canonical.j0]) | succ kj3 => ?_
 have H := HA.out
 clear HA
 simp only [rational_canonical.j0] at H
 by_cases c12 : x15_3 = true
 · subst c12
   rw [if_pos rfl] at H
   replace H := zb H
   obtain ⟨t104, A13, H⟩ := H
   simp only [Option.some.injEq, Prod.mk.injEq] at H
   obtain ⟨rfl, rfl, rfl⟩ := H
   go_wp2_with (first | ((with_reducible refine gate_callee (f := 141) rfl ?_); refine zG (some 16) Try.func141 #[] ?_; (with_reducible refine (rational_one.calls  t104 _ A13.out).mono ?_); rintro e w14 ⟨v105, rfl, ho0, hb⟩; refine ⟨_, rfl, ?_⟩; replace HO_1 := yVe HO_1 ho0 hb; replace HO_2 := yVe HO_2 ho0 hb; replace ho0 := Kd.R_newM (M := fun k_ => (w.heap.size ≤ k_)) ho0 (below_size (zB1 HB.out GE101.out)) (fun k_ h_ => h_); have HO106 := yRl1 ho0 HB GE101; replace BK101 := yK BK101 hb; replace HB := yS1 HB GE101 hb; (try clear hb ho0); obtain ⟨Ao15, co15, rfl⟩ := Kd.R_slice HO106.out; have hcz16_0 : w14.cell? ⟨gb101, 0, none⟩ = some (.bool false) := (blk_cell BK101.out 0).trans rfl; have hcz16_1 : w14.cell? ⟨gb101, 1, none⟩ = some (.slice none 0 0) := (blk_cell BK101.out 1).trans rfl; have hcz16_2 : w14.cell? ⟨gb101, 2, none⟩ = some (.slice none 0 0) := (blk_cell BK101.out 2).trans rfl; have hfz16_0 := blk_frozen BK101.out 0; have hfz16_1 := blk_frozen BK101.out 1; have hfz16_2 := blk_frozen BK101.out 2))
   refine bodyPost_ret (results_cell_row rfl _ _ gb101 60 #[.bool false, .slice none 0 0, .slice Ao15 t104.length co15] (0, 0) _ rfl (by (with_reducible repeat (first | refine blk_drewN ?_ _ | refine blk_drew ?_ | refine blk_alloc ?_ _)); refine blk_put (cs := #[.bool false, .slice none 0 0, .slice none 0 0]) ?_ 2 _ rfl; (with_reducible repeat (first | refine blk_drewN ?_ _ | refine blk_drew ?_ | refine blk_alloc ?_ _)); refine blk_put (cs := #[.bool false, .slice none 0 0, .slice none 0 0]) ?_ 1 _ rfl; (with_reducible repeat (first | refine blk_drewN ?_ _ | refine blk_drew ?_ | refine blk_alloc ?_ _)); refine blk_put (cs := #[.bool false, .slice none 0 0, .slice none 0 0]) ?_ 0 _ rfl; (with_reducible repeat (first | refine blk_drewN ?_ _ | refine blk_drew ?_ | refine blk_alloc ?_ _)); exact BK101.out) Try.underlying60 rfl (by kernel_rfl)) rfl ?_
   exact ⟨_, _, zE, by exact Kd.V_nil _ _ _ _ _, Kd.V_mono (Kd.R_V (by (with_reducible repeat (first | apply Kd.R_alloc | apply Kd.R_drewN | apply Kd.R_drew)); exact yf HO106.out BK101.out (fun _ hk => hk.1.1))) (fun k_ hk => by first | exact ⟨(.inr (hk.1)), hk.2⟩ | exact (.inr (hk))), zB1 HB.out GE101.out⟩
 replace c12 := Bool.eq_false_iff.mpr c12
 subst c12
 rw [if_neg Bool.false_ne_true] at H
 replace H := zb H
 obtain ⟨t107, A17, H⟩ := H
 replace H := zb H
 obtain ⟨⟨t110, t113, t116⟩, A18, H⟩ := H
 dsimp only at H
 replace H := zb H
 obtain ⟨⟨t117, t120, t123⟩, A19, H⟩ := H
 dsimp only at H
 simp only [Option.some.injEq, Prod.mk.injEq] at H
 obtain ⟨rfl, rfl, rfl⟩ := H
 go_wp2_with (first | ((with_reducible refine gate_callee (f := 108) rfl ?_); refine zG (some 20) Try.func108 #[.slice A1 l1.length c1, .slice A2 l2.length c2] ?_; (with_reducible refine (nat_Gcd.calls kj3 _ _ l1 _ _ l2 t107 _ ?side1 ?side2 ?side3 ?side4 A17.out).mono ?_); (case side1 => exact zC (Kd.V_reads' HO_1.out).2.2); (case side2 => exact (Kd.V_reads' HO_1.out).2.1); (case side3 => exact zC (Kd.V_reads' HO_2.out).2.2); (case side4 => exact (Kd.V_reads' HO_2.out).2.1); rintro e w20 ⟨v108, rfl, ho0, hb⟩; refine ⟨_, rfl, ?_⟩; replace HO_1 := yVe HO_1 ho0 hb; replace HO_2 := yVe HO_2 ho0 hb; replace ho0 := Kd.R_newM (M := fun k_ => (w.heap.size ≤ k_)) ho0 (below_size (zB1 HB.out GE101.out)) (fun k_ h_ => h_); have HO109 := yRl1 ho0 HB GE101; replace BK101 := yK BK101 hb; replace HB := yS1 HB GE101 hb; (try clear hb ho0); obtain ⟨Ao21, co21, rfl⟩ := Kd.R_slice HO109.out) | ((with_reducible refine gate_callee (f := 105) rfl ?_); refine zG (some 24) Try.func105 #[.slice A1 l1.length c1, .slice Ao21 t107.length co21] ?_; (with_reducible refine (nat_DivMod.calls kj3 (fun k_ => ((((P1_ k_ ∨ P2_ k_) ∨ w.heap.size ≤ k_) ∧ k_ ≠ gb101) ∧ some k_ ≠ (.slice Ao21 t107.length co21 : Value).ownBlock)) _ _ l1 (fun k_ => some k_ = (.slice Ao21 t107.length co21 : Value).ownBlock) _ _ t107 t110 t113 t116 _ ?side1 ?side2 A18.out).mono ?_); (case side1 => exact HO_1.out); (case side2 => exact Kd.R_V (Kd.R_tight rfl (Kd.R_types (HO109.out) BK101.out (by decide)))); rintro e w22 ⟨v111, v114, rfl, ho0, ho1, hb⟩; refine ⟨_, rfl, ?_⟩; replace HO_1 := yVe HO_1 ho1 hb; replace HO_2 := yVe HO_2 ho1 hb; have HO112 := Aside0.mk (Kd.V_lower (Kd.V_mono (ok' := fun k_ => ((P1_ k_ ∨ P2_ k_) ∨ w.heap.size ≤ k_) ∧ some k_ ≠ (v114 : Value).ownBlock ∧ k_ ≠ gb101) ho0 (fun k_ hk_ => ⟨Or.elim hk_.1 (fun hs_ => Or.elim hs_ (fun hs_ => hs_.1.1) (fun hs_ => (.inr (((Kd.R_types (HO109.out) BK101.out (by decide)).1 k_ hs_.symm).1.1)))) (fun hn_ => (.inr (Nat.le_trans (below_size (zB1 HB.out GE101.out)) hn_))), hk_.2, Or.elim hk_.1 (fun hs_ => Or.elim hs_ (fun hs_ => hs_.1.2) (fun hs_ => ((Kd.R_types (HO109.out) BK101.out (by decide)).1 k_ hs_.symm).2)) (fun hn_ => (Kd.freshB (g := gb101) (o := .cells #[.bool false, .slice none 0 0, .slice none 0 0] 60 (0, 0)) (by (with_reducible repeat (first | refine blk_drewN ?_ _ | refine blk_drew ?_ | refine blk_alloc ?_ _)); exact BK101.out) k_ hn_))⟩)) (below_size (zB1 HB.out GE101.out))); replace ho1 := Kd.R_newM (M := fun k_ => (w.heap.size ≤ k_)) (yt ho1) (below_size (zB1 HB.out GE101.out)) (fun k_ h_ => h_); replace ho1 := yn ho1 HO109; have HO115 := yRl1 ho1 HB GE101; replace HO109 := yRe HO109 ho1 hb; replace BK101 := yK BK101 hb; replace HB := yS1 HB GE101 hb; (try clear hb ho0); (try clear ho1)) | ((with_reducible refine gate_callee (f := 105) rfl ?_); refine zG (some 31) Try.func105 #[.slice A2 l2.length c2, .slice Ao21 t107.length co21] ?_; (with_reducible refine (nat_DivMod.calls kj3 (fun k_ => (((((P1_ k_ ∨ P2_ k_) ∨ w.heap.size ≤ k_) ∧ k_ ≠ gb101) ∧ some k_ ≠ (.slice Ao21 t107.length co21 : Value).ownBlock) ∧ some k_ ≠ (v114 : Value).ownBlock)) _ _ l2 (fun k_ => some k_ = (.slice Ao21 t107.length co21 : Value).ownBlock) _ _ t107 t117 t120 t123 _ ?side1 ?side2 A19.out).mono ?_); (case side1 => exact HO_2.out); (case side2 => exact Kd.R_V (Kd.R_tight rfl (Kd.R_types (HO109.out) BK101.out (by decide)))); rintro e w23 ⟨v118, v121, rfl, ho0, ho1, hb⟩; refine ⟨_, rfl, ?_⟩; replace HO_1 := yVe HO_1 ho1 hb; replace HO_2 := yVe HO_2 ho1 hb; replace HO112 := yVe HO112 ho1 hb; have HO119 := Aside0.mk (Kd.V_lower (Kd.V_mono (ok' := fun k_ => ((P1_ k_ ∨ P2_ k_) ∨ w.heap.size ≤ k_) ∧ some k_ ≠ (v121 : Value).ownBlock ∧ some k_ ≠ (v114 : Value).ownBlock ∧ k_ ≠ gb101) ho0 (fun k_ hk_ => ⟨Or.elim hk_.1 (fun hs_ => Or.elim hs_ (fun hs_ => hs_.1.1.1) (fun hs_ => (.inr (((Kd.R_types (HO109.out) BK101.out (by decide)).1 k_ hs_.symm).1.1.1)))) (fun hn_ => (.inr (Nat.le_trans (below_size (zB1 HB.out GE101.out)) hn_))), hk_.2, Or.elim hk_.1 (fun hs_ => Or.elim hs_ (fun hs_ => hs_.2) (fun hs_ => ((Kd.R_types (HO109.out) BK101.out (by decide)).1 k_ hs_.symm).1.2)) (fun hn_ => (Kd.fresh' (Kd.R_lt (zR HO115.out)) k_ hn_)), Or.elim hk_.1 (fun hs_ => Or.elim hs_ (fun hs_ => hs_.1.1.2) (fun hs_ => ((Kd.R_types (HO109.out) BK101.out (by decide)).1 k_ hs_.symm).2)) (fun hn_ => (Kd.freshB (g := gb101) (o := .cells #[.bool false, .slice none 0 0, .slice none 0 0] 60 (0, 0)) (by (with_reducible repeat (first | refine blk_drewN ?_ _ | refine blk_drew ?_ | refine blk_alloc ?_ _)); exact BK101.out) k_ hn_))⟩)) (below_size (zB1 HB.out GE101.out))); replace ho1 := Kd.R_newM (M := fun k_ => (w.heap.size ≤ k_)) (yt ho1) (below_size (zB1 HB.out GE101.out)) (fun k_ h_ => h_); replace ho1 := yn ho1 HO109; replace ho1 := yn ho1 HO115; have HO122 := yRl1 ho1 HB GE101; replace HO109 := yRe HO109 ho1 hb; replace HO115 := yRe HO115 ho1 hb; replace BK101 := yK BK101 hb; replace HB := yS1 HB GE101 hb; (try clear hb ho0); (try clear ho1); obtain ⟨Ao24, co24, rfl⟩ := Kd.V_slice HO119.out; obtain ⟨Ao25, co25, rfl⟩ := Kd.V_slice HO112.out; have hcz26_0 : w23.cell? ⟨gb101, 0, none⟩ = some (.bool false) := (blk_cell BK101.out 0).trans rfl; have hcz26_1 : w23.cell? ⟨gb101, 1, none⟩ = some (.slice none 0 0) := (blk_cell BK101.out 1).trans rfl; have hcz26_2 : w23.cell? ⟨gb101, 2, none⟩ = some (.slice none 0 0) := (blk_cell BK101.out 2).trans rfl; have hfz26_0 := blk_frozen BK101.out 0; have hfz26_1 := blk_frozen BK101.out 1; have hfz26_2 := blk_frozen BK101.out 2))
 refine bodyPost_ret (results_cell_row rfl _ _ gb101 60 #[.bool a0, .slice Ao25 t110.length co25, .slice Ao24 t117.length co24] (0, 0) _ rfl (by (with_reducible repeat (first | refine blk_drewN ?_ _ | refine blk_drew ?_ | refine blk_alloc ?_ _)); refine blk_put (cs := #[.bool a0, .slice Ao25 t110.length co25, .slice none 0 0]) ?_ 2 _ rfl; (with_reducible repeat (first | refine blk_drewN ?_ _ | refine blk_drew ?_ | refine blk_alloc ?_ _)); refine blk_put (cs := #[.bool a0, .slice none 0 0, .slice none 0 0]) ?_ 1 _ rfl; (with_reducible repeat (first | refine blk_drewN ?_ _ | refine blk_drew ?_ | refine blk_alloc ?_ _)); refine blk_put (cs := #[.bool false, .slice none 0 0, .slice none 0 0]) ?_ 0 _ rfl; (with_reducible repeat (first | refine blk_drewN ?_ _ | refine blk_drew ?_ | refine blk_alloc ?_ _)); exact BK101.out) Try.underlying60 rfl (by kernel_rfl)) rfl ?_
 exact ⟨_, _, zE, by (with_reducible repeat (first | apply Kd.V_alloc | apply Kd.V_drewN | apply Kd.V_drew)); exact Kd.V_mono (Kd.V_far (p := ⟨gb101, 2, none⟩) (Kd.V_far (p := ⟨gb101, 1, none⟩) (Kd.V_far (p := ⟨gb101, 0, none⟩) (Kd.V_mono HO112.out (fun k_ hk => (⟨hk, hk.1.2.2⟩ : _ ∧ k_ ≠ gb101))) (fun _ hk => hk.2) (.bool a0)) (fun _ hk => hk.2) (.slice Ao25 t110.length co25)) (fun _ hk => hk.2) (.slice Ao24 t117.length co24)) (fun _ hk => hk.1.1.1), by (with_reducible repeat (first | apply Kd.V_alloc | apply Kd.V_drewN | apply Kd.V_drew)); exact Kd.V_mono (Kd.V_far (p := ⟨gb101, 2, none⟩) (Kd.V_far (p := ⟨gb101, 1, none⟩) (Kd.V_far (p := ⟨gb101, 0, none⟩) (Kd.V_mono HO119.out (fun k_ hk => (⟨hk, hk.2.2.2⟩ : _ ∧ k_ ≠ gb101))) (fun _ hk => hk.2) (.bool a0)) (fun _ hk => hk.2) (.slice Ao25 t110.length co25)) (fun _ hk => hk.2) (.slice Ao24 t117.length co24)) (fun _ hk => hk.1.1), zB1 HB.out GE101.out⟩
set_option maxHeartbeats 8000000 in
set_option maxRecDepth 100000 in
theorem rational_Trim.calls (k : Nat) (a0_0 : Bool) (P0_1_ : Nat → Prop) (A0_1 : Option Addr) (c0_1 : Nat) (l0_1 : List Int) (P0_2_ : Nat → Prop) (A0_2 : Option Addr) (c0_2 : Nat) (l0_2 : List Int) (r1 : Bool) (r2 : List Int) (r3 : List Int) (w : World) (hs0_1 : Kd.V (Kd.int .u32) 97 w w.heap.size (fun k_ => P0_1_ k_) (.slice A0_1 l0_1.length c0_1) l0_1) (hs0_2 : Kd.V (Kd.int .u32) 97 w w.heap.size (fun k_ => P0_2_ k_) (.slice A0_2 l0_2.length c0_2) l0_2) (h : rational_Trim.f k a0_0 l0_1 l0_2 = some (r1, r2, r3)) :
    Calls Try.prog 107 #[.agg #[.bool a0_0, .slice A0_1 l0_1.length c0_1, .slice A0_2 l0_2.length c0_2]] w fun e w' => ∃ v1_ v2_ : Value, e = .returned (.agg #[.bool r1, v1_, v2_]) ∧ Kd.V (Kd.int .u32) 97 w' w.heap.size (fun k_ => ((P0_1_ k_ ∨ P0_2_ k_) ∨ w.heap.size ≤ k_)) v1_ r2 ∧ Kd.V (Kd.int .u32) 97 w' w.heap.size (fun k_ => ((P0_1_ k_ ∨ P0_2_ k_) ∨ w.heap.size ≤ k_)) v2_ r3 ∧ Below w.heap.size w w' := by
 have hu60 := Try.underlying60
 have HO0_1 := Aside0.mk (show Kd.V (Kd.int .u32) 97 w w.heap.size (fun k_ => ((P0_1_ k_ ∨ P0_2_ k_) ∨ w.heap.size ≤ k_)) (.slice A0_1 l0_1.length c0_1) l0_1 from Kd.V_mono hs0_1 (fun k_ hk => .inl (.inl hk)))
 have HO0_2 := Aside0.mk (show Kd.V (Kd.int .u32) 97 w w.heap.size (fun k_ => ((P0_1_ k_ ∨ P0_2_ k_) ∨ w.heap.size ≤ k_)) (.slice A0_2 l0_2.length c0_2) l0_2 from Kd.V_mono hs0_2 (fun k_ hk => .inl (.inr hk)))
 have HB := Aside0.mk (Below.refl w.heap.size w)
 have H : ((rational_canonical.f k a0_0 l0_1 l0_2).bind fun bt103 => (some (bt103.1, bt103.2.1, bt103.2.2))) = some (r1, r2, r3) := h
 clear h
 replace H := zb H
 obtain ⟨⟨t103, t104, t107⟩, A2, H⟩ := H
 dsimp only at H
 simp only [Option.some.injEq, Prod.mk.injEq] at H
 obtain ⟨rfl, rfl, rfl⟩ := H
 go_enter Try.func107, Try.ntmps107
 go_wp2_with (first | ((with_reducible refine gate_dst (N := 1) rfl ?_); refine box_event ?hg (N := 1) ?hd (cs := #[.bool a0_0, .slice A0_1 l0_1.length c0_1, .slice A0_2 l0_2.length c0_2]) (t := 60) ?hr ?_; (case hd => rfl); (case hg => rfl); (case hr => first | (go_simp; done) | (go_simp; rfl)); intro gb101 hg w3 hbox hb; replace HO0_1 := yVB HO0_1 hg hb; replace HO0_2 := yVB HO0_2 hg hb; have BK101 := Aside0.mk (hbox); have GW101 := yg hg HB; have GE101 := yg hg HB; replace HB := yS HB hb; clear hb hbox hg) | ((with_reducible refine gate_dst (N := 2) rfl ?_); refine box_event ?hg (N := 2) ?hd (cs := #[.bool false, .slice none 0 0, .slice none 0 0]) (t := 60) ?hr ?_; (case hd => rfl); (case hg => rfl); (case hr => first | (go_simp; done) | (go_simp; rfl)); intro gb102 hg w4 hbox hb; replace HO0_1 := yVB HO0_1 hg hb; replace HO0_2 := yVB HO0_2 hg hb; have BK102 := Aside0.mk (hbox); have GW102 := yg1 hg HB GE101; have GE102 := yg1 hg HB GE101; replace HB := yS1 HB GE101 hb; have NB101_102 := ynl hg BK101; have NB102_101 := yng hg BK101; replace BK101 := yK BK101 hb; clear hb hbox hg; have hnb5 := NB101_102.out; have hnc5 := NB102_101.out; have hcz6_0 : w4.cell? ⟨gb101, 0, none⟩ = some (.bool a0_0) := (blk_cell BK101.out 0).trans rfl; have hcz6_1 : w4.cell? ⟨gb101, 1, none⟩ = some (.slice A0_1 l0_1.length c0_1) := (blk_cell BK101.out 1).trans rfl; have hcz6_2 : w4.cell? ⟨gb101, 2, none⟩ = some (.slice A0_2 l0_2.length c0_2) := (blk_cell BK101.out 2).trans rfl; have hfz6_0 := blk_frozen BK101.out 0; have hfz6_1 := blk_frozen BK101.out 1; have hfz6_2 := blk_frozen BK101.out 2) | ((with_reducible refine gate_callee (f := 131) rfl ?_); refine zG (some 9) Try.func131 #[.bool a0_0, .slice A0_1 l0_1.length c0_1, .slice A0_2 l0_2.length c0_2] ?_; (with_reducible refine (rational_canonical.calls k a0_0 (fun k_ => ((((P0_1_ k_ ∨ P0_2_ k_) ∨ w.heap.size ≤ k_) ∧ k_ ≠ gb101) ∧ k_ ≠ gb102)) _ _ l0_1 (fun k_ => ((((P0_1_ k_ ∨ P0_2_ k_) ∨ w.heap.size ≤ k_) ∧ k_ ≠ gb101) ∧ k_ ≠ gb102)) _ _ l0_2 t103 t104 t107 _ ?side1 ?side2 A2.out).mono ?_); (case side1 => exact HO0_1.out); (case side2 => exact HO0_2.out); rintro e w7 ⟨v105, v108, rfl, ho0, ho1, hb⟩; refine ⟨_, rfl, ?_⟩; replace HO0_1 := yVb HO0_1 hb; replace HO0_2 := yVb HO0_2 hb; have HO106 := Aside0.mk (Kd.V_lower (Kd.V_mono (ok' := fun k_ => ((P0_1_ k_ ∨ P0_2_ k_) ∨ w.heap.size ≤ k_) ∧ k_ ≠ gb101 ∧ k_ ≠ gb102) ho0 (fun k_ hk_ => ⟨Or.elim hk_ (fun hs_ => Or.elim hs_ (fun hs_ => hs_.1.1) (fun hs_ => hs_.1.1)) (fun hn_ => (.inr (Nat.le_trans (below_size (zB2 HB.out GE101.out GE102.out)) hn_))), Or.elim hk_ (fun hs_ => Or.elim hs_ (fun hs_ => hs_.1.2) (fun hs_ => hs_.1.2)) (fun hn_ => (Kd.freshB (g := gb101) (o := .cells #[.bool a0_0, .slice A0_1 l0_1.length c0_1, .slice A0_2 l0_2.length c0_2] 60 (0, 0)) (by (with_reducible repeat (first | refine blk_drewN ?_ _ | refine blk_drew ?_ | refine blk_alloc ?_ _)); exact BK101.out) k_ hn_)), Or.elim hk_ (fun hs_ => Or.elim hs_ (fun hs_ => hs_.2) (fun hs_ => hs_.2)) (fun hn_ => (Kd.freshB (g := gb102) (o := .cells #[.bool false, .slice none 0 0, .slice none 0 0] 60 (0, 0)) (by (with_reducible repeat (first | refine blk_drewN ?_ _ | refine blk_drew ?_ | refine blk_alloc ?_ _)); exact BK102.out) k_ hn_))⟩)) (below_size (zB2 HB.out GE101.out GE102.out))); have HO109 := Aside0.mk (Kd.V_lower (Kd.V_mono (ok' := fun k_ => ((P0_1_ k_ ∨ P0_2_ k_) ∨ w.heap.size ≤ k_) ∧ k_ ≠ gb101 ∧ k_ ≠ gb102) ho1 (fun k_ hk_ => ⟨Or.elim hk_ (fun hs_ => Or.elim hs_ (fun hs_ => hs_.1.1) (fun hs_ => hs_.1.1)) (fun hn_ => (.inr (Nat.le_trans (below_size (zB2 HB.out GE101.out GE102.out)) hn_))), Or.elim hk_ (fun hs_ => Or.elim hs_ (fun hs_ => hs_.1.2) (fun hs_ => hs_.1.2)) (fun hn_ => (Kd.freshB (g := gb101) (o := .cells #[.bool a0_0, .slice A0_1 l0_1.length c0_1, .slice A0_2 l0_2.length c0_2] 60 (0, 0)) (by (with_reducible repeat (first | refine blk_drewN ?_ _ | refine blk_drew ?_ | refine blk_alloc ?_ _)); exact BK101.out) k_ hn_)), Or.elim hk_ (fun hs_ => Or.elim hs_ (fun hs_ => hs_.2) (fun hs_ => hs_.2)) (fun hn_ => (Kd.freshB (g := gb102) (o := .cells #[.bool false, .slice none 0 0, .slice none 0 0] 60 (0, 0)) (by (with_reducible repeat (first | refine blk_drewN ?_ _ | refine blk_drew ?_ | refine blk_alloc ?_ _)); exact BK102.out) k_ hn_))⟩)) (below_size (zB2 HB.out GE101.out GE102.out))); replace BK101 := yK BK101 hb; replace BK102 := yK BK102 hb; replace HB := yS2 HB GE101 GE102 hb; (try clear hb ho0); (try clear ho1); have hcz8_0 : w7.cell? ⟨gb102, 0, none⟩ = some (.bool false) := (blk_cell BK102.out 0).trans rfl; have hcz8_1 : w7.cell? ⟨gb102, 1, none⟩ = some (.slice none 0 0) := (blk_cell BK102.out 1).trans rfl; have hcz8_2 : w7.cell? ⟨gb102, 2, none⟩ = some (.slice none 0 0) := (blk_cell BK102.out 2).trans rfl; have hfz8_0 := blk_frozen BK102.out 0; have hfz8_1 := blk_frozen BK102.out 1; have hfz8_2 := blk_frozen BK102.out 2; obtain ⟨Ao9, co9, rfl⟩ := Kd.V_slice HO106.out; obtain ⟨Ao10, co10, rfl⟩ := Kd.V_slice HO109.out))
 refine bodyPost_ret (results_cell_row rfl _ _ gb102 60 #[.bool t103, .slice Ao9 t104.length co9, .slice Ao10 t107.length co10] (0, 0) _ rfl (by (with_reducible repeat (first | refine blk_drewN ?_ _ | refine blk_drew ?_ | refine blk_alloc ?_ _)); refine blk_put (cs := #[.bool t103, .slice Ao9 t104.length co9, .slice none 0 0]) ?_ 2 _ rfl; (with_reducible repeat (first | refine blk_drewN ?_ _ | refine blk_drew ?_ | refine blk_alloc ?_ _)); refine blk_put (cs := #[.bool t103, .slice none 0 0, .slice none 0 0]) ?_ 1 _ rfl; (with_reducible repeat (first | refine blk_drewN ?_ _ | refine blk_drew ?_ | refine blk_alloc ?_ _)); refine blk_put (cs := #[.bool false, .slice none 0 0, .slice none 0 0]) ?_ 0 _ rfl; (with_reducible repeat (first | refine blk_drewN ?_ _ | refine blk_drew ?_ | refine blk_alloc ?_ _)); exact BK102.out) Try.underlying60 rfl (by kernel_rfl)) rfl ?_
 exact ⟨_, _, zE, by (with_reducible repeat (first | apply Kd.V_alloc | apply Kd.V_drewN | apply Kd.V_drew)); exact Kd.V_mono (Kd.V_far (p := ⟨gb102, 2, none⟩) (Kd.V_far (p := ⟨gb102, 1, none⟩) (Kd.V_far (p := ⟨gb102, 0, none⟩) (Kd.V_mono HO106.out (fun k_ hk => (⟨hk, hk.2.2⟩ : _ ∧ k_ ≠ gb102))) (fun _ hk => hk.2) (.bool t103)) (fun _ hk => hk.2) (.slice Ao9 t104.length co9)) (fun _ hk => hk.2) (.slice Ao10 t107.length co10)) (fun _ hk => hk.1.1), by (with_reducible repeat (first | apply Kd.V_alloc | apply Kd.V_drewN | apply Kd.V_drew)); exact Kd.V_mono (Kd.V_far (p := ⟨gb102, 2, none⟩) (Kd.V_far (p := ⟨gb102, 1, none⟩) (Kd.V_far (p := ⟨gb102, 0, none⟩) (Kd.V_mono HO109.out (fun k_ hk => (⟨hk, hk.2.2⟩ : _ ∧ k_ ≠ gb102))) (fun _ hk => hk.2) (.bool t103)) (fun _ hk => hk.2) (.slice Ao9 t104.length co9)) (fun _ hk => hk.2) (.slice Ao10 t107.length co10)) (fun _ hk => hk.1.1), zB2 HB.out GE101.out GE102.out⟩
set_option maxHeartbeats 8000000 in
set_option maxRecDepth 100000 in
theorem macwilliams_ratio.calls (k : Nat) (a0_0 : Bool) (P0_1_ : Nat → Prop) (A0_1 : Option Addr) (c0_1 : Nat) (l0_1 : List Int) (P1_ : Nat → Prop) (A1 : Option Addr) (c1 : Nat) (l1 : List Int) (r1 : Bool) (r2 : List Int) (r3 : List Int) (w : World) (hs0_1 : Kd.V (Kd.int .u32) 97 w w.heap.size (fun k_ => P0_1_ k_) (.slice A0_1 l0_1.length c0_1) l0_1) (hs1 : Kd.V (Kd.int .u32) 97 w w.heap.size (fun k_ => P1_ k_) (.slice A1 l1.length c1) l1) (h : macwilliams_ratio.f k a0_0 l0_1 l1 = some (r1, r2, r3)) :
    Calls Try.prog 93 #[.agg #[.bool a0_0, .slice A0_1 l0_1.length c0_1], .slice A1 l1.length c1] w fun e w' => ∃ v1_ v2_ : Value, e = .returned (.agg #[.bool r1, v1_, v2_]) ∧ Kd.V (Kd.int .u32) 97 w' w.heap.size (fun k_ => ((P0_1_ k_ ∨ P1_ k_) ∨ w.heap.size ≤ k_)) v1_ r2 ∧ Kd.V (Kd.int .u32) 97 w' w.heap.size (fun k_ => ((P0_1_ k_ ∨ P1_ k_) ∨ w.heap.size ≤ k_)) v2_ r3 ∧ Below w.heap.size w w' := by
 have hu113 := Try.underlying113
 have hu60 := Try.underlying60
 have HO0_1 := Aside0.mk (show Kd.V (Kd.int .u32) 97 w w.heap.size (fun k_ => ((P0_1_ k_ ∨ P1_ k_) ∨ w.heap.size ≤ k_)) (.slice A0_1 l0_1.length c0_1) l0_1 from Kd.V_mono hs0_1 (fun k_ hk => .inl (.inl hk)))
 have HO1 := Aside0.mk (show Kd.V (Kd.int .u32) 97 w w.heap.size (fun k_ => ((P0_1_ k_ ∨ P1_ k_) ∨ w.heap.size ≤ k_)) (.slice A1 l1.length c1) l1 from Kd.V_mono hs1 (fun k_ hk => .inl (.inr hk)))
 have HB := Aside0.mk (Below.refl w.heap.size w)
 have H : ((rational_Trim.f k a0_0 l0_1 l1).bind fun bt103 => (some (bt103.1, bt103.2.1, bt103.2.2))) = some (r1, r2, r3) := h
 clear h
 replace H := zb H
 obtain ⟨⟨t103, t104, t107⟩, A3, H⟩ := H
 dsimp only at H
 simp only [Option.some.injEq, Prod.mk.injEq] at H
 obtain ⟨rfl, rfl, rfl⟩ := H
 go_enter Try.func93, Try.ntmps93
 go_wp2_with (first | ((with_reducible refine gate_dst (N := 2) rfl ?_); refine box_event ?hg (N := 2) ?hd (cs := #[.bool a0_0, .slice A0_1 l0_1.length c0_1]) (t := 113) ?hr ?_; (case hd => rfl); (case hg => rfl); (case hr => first | (go_simp; done) | (go_simp; rfl)); intro gb101 hg w4 hbox hb; replace HO0_1 := yVB HO0_1 hg hb; replace HO1 := yVB HO1 hg hb; have BK101 := Aside0.mk (hbox); have GW101 := yg hg HB; have GE101 := yg hg HB; replace HB := yS HB hb; clear hb hbox hg) | ((with_reducible refine gate_dst (N := 4) rfl ?_); refine box_event ?hg (N := 4) ?hd (cs := #[.bool false, .slice none 0 0, .slice none 0 0]) (t := 60) ?hr ?_; (case hd => rfl); (case hg => rfl); (case hr => first | (go_simp; done) | (go_simp; rfl)); intro gb102 hg w5 hbox hb; replace HO0_1 := yVB HO0_1 hg hb; replace HO1 := yVB HO1 hg hb; have BK102 := Aside0.mk (hbox); have GW102 := yg1 hg HB GE101; have GE102 := yg1 hg HB GE101; replace HB := yS1 HB GE101 hb; have NB101_102 := ynl hg BK101; have NB102_101 := yng hg BK101; replace BK101 := yK BK101 hb; clear hb hbox hg; have hnb6 := NB101_102.out; have hnc6 := NB102_101.out; have hcz7_0 : w5.cell? ⟨gb101, 0, none⟩ = some (.bool a0_0) := (blk_cell BK101.out 0).trans rfl; have hcz7_1 : w5.cell? ⟨gb101, 1, none⟩ = some (.slice A0_1 l0_1.length c0_1) := (blk_cell BK101.out 1).trans rfl; have hfz7_0 := blk_frozen BK101.out 0; have hfz7_1 := blk_frozen BK101.out 1) | ((with_reducible refine gate_callee (f := 107) rfl ?_); refine zG (some 11) Try.func107 #[.agg #[.bool a0_0, .slice A0_1 l0_1.length c0_1, .slice A1 l1.length c1]] ?_; (with_reducible refine (rational_Trim.calls k a0_0 (fun k_ => ((((P0_1_ k_ ∨ P1_ k_) ∨ w.heap.size ≤ k_) ∧ k_ ≠ gb101) ∧ k_ ≠ gb102)) _ _ l0_1 (fun k_ => ((((P0_1_ k_ ∨ P1_ k_) ∨ w.heap.size ≤ k_) ∧ k_ ≠ gb101) ∧ k_ ≠ gb102)) _ _ l1 t103 t104 t107 _ ?side1 ?side2 A3.out).mono ?_); (case side1 => exact HO0_1.out); (case side2 => exact HO1.out); rintro e w8 ⟨v105, v108, rfl, ho0, ho1, hb⟩; refine ⟨_, rfl, ?_⟩; replace HO0_1 := yVb HO0_1 hb; replace HO1 := yVb HO1 hb; have HO106 := Aside0.mk (Kd.V_lower (Kd.V_mono (ok' := fun k_ => ((P0_1_ k_ ∨ P1_ k_) ∨ w.heap.size ≤ k_) ∧ k_ ≠ gb101 ∧ k_ ≠ gb102) ho0 (fun k_ hk_ => ⟨Or.elim hk_ (fun hs_ => Or.elim hs_ (fun hs_ => hs_.1.1) (fun hs_ => hs_.1.1)) (fun hn_ => (.inr (Nat.le_trans (below_size (zB2 HB.out GE101.out GE102.out)) hn_))), Or.elim hk_ (fun hs_ => Or.elim hs_ (fun hs_ => hs_.1.2) (fun hs_ => hs_.1.2)) (fun hn_ => (Kd.freshB (g := gb101) (o := .cells #[.bool a0_0, .slice A0_1 l0_1.length c0_1] 113 (0, 0)) (by (with_reducible repeat (first | refine blk_drewN ?_ _ | refine blk_drew ?_ | refine blk_alloc ?_ _)); exact BK101.out) k_ hn_)), Or.elim hk_ (fun hs_ => Or.elim hs_ (fun hs_ => hs_.2) (fun hs_ => hs_.2)) (fun hn_ => (Kd.freshB (g := gb102) (o := .cells #[.bool false, .slice none 0 0, .slice none 0 0] 60 (0, 0)) (by (with_reducible repeat (first | refine blk_drewN ?_ _ | refine blk_drew ?_ | refine blk_alloc ?_ _)); exact BK102.out) k_ hn_))⟩)) (below_size (zB2 HB.out GE101.out GE102.out))); have HO109 := Aside0.mk (Kd.V_lower (Kd.V_mono (ok' := fun k_ => ((P0_1_ k_ ∨ P1_ k_) ∨ w.heap.size ≤ k_) ∧ k_ ≠ gb101 ∧ k_ ≠ gb102) ho1 (fun k_ hk_ => ⟨Or.elim hk_ (fun hs_ => Or.elim hs_ (fun hs_ => hs_.1.1) (fun hs_ => hs_.1.1)) (fun hn_ => (.inr (Nat.le_trans (below_size (zB2 HB.out GE101.out GE102.out)) hn_))), Or.elim hk_ (fun hs_ => Or.elim hs_ (fun hs_ => hs_.1.2) (fun hs_ => hs_.1.2)) (fun hn_ => (Kd.freshB (g := gb101) (o := .cells #[.bool a0_0, .slice A0_1 l0_1.length c0_1] 113 (0, 0)) (by (with_reducible repeat (first | refine blk_drewN ?_ _ | refine blk_drew ?_ | refine blk_alloc ?_ _)); exact BK101.out) k_ hn_)), Or.elim hk_ (fun hs_ => Or.elim hs_ (fun hs_ => hs_.2) (fun hs_ => hs_.2)) (fun hn_ => (Kd.freshB (g := gb102) (o := .cells #[.bool false, .slice none 0 0, .slice none 0 0] 60 (0, 0)) (by (with_reducible repeat (first | refine blk_drewN ?_ _ | refine blk_drew ?_ | refine blk_alloc ?_ _)); exact BK102.out) k_ hn_))⟩)) (below_size (zB2 HB.out GE101.out GE102.out))); replace BK101 := yK BK101 hb; replace BK102 := yK BK102 hb; replace HB := yS2 HB GE101 GE102 hb; (try clear hb ho0); (try clear ho1); have hcz9_0 : w8.cell? ⟨gb102, 0, none⟩ = some (.bool false) := (blk_cell BK102.out 0).trans rfl; have hcz9_1 : w8.cell? ⟨gb102, 1, none⟩ = some (.slice none 0 0) := (blk_cell BK102.out 1).trans rfl; have hcz9_2 : w8.cell? ⟨gb102, 2, none⟩ = some (.slice none 0 0) := (blk_cell BK102.out 2).trans rfl; have hfz9_0 := blk_frozen BK102.out 0; have hfz9_1 := blk_frozen BK102.out 1; have hfz9_2 := blk_frozen BK102.out 2; obtain ⟨Ao10, co10, rfl⟩ := Kd.V_slice HO106.out; obtain ⟨Ao11, co11, rfl⟩ := Kd.V_slice HO109.out))
 refine bodyPost_ret (results_cell_row rfl _ _ gb102 60 #[.bool t103, .slice Ao10 t104.length co10, .slice Ao11 t107.length co11] (0, 0) _ rfl (by (with_reducible repeat (first | refine blk_drewN ?_ _ | refine blk_drew ?_ | refine blk_alloc ?_ _)); refine blk_put (cs := #[.bool t103, .slice Ao10 t104.length co10, .slice none 0 0]) ?_ 2 _ rfl; (with_reducible repeat (first | refine blk_drewN ?_ _ | refine blk_drew ?_ | refine blk_alloc ?_ _)); refine blk_put (cs := #[.bool t103, .slice none 0 0, .slice none 0 0]) ?_ 1 _ rfl; (with_reducible repeat (first | refine blk_drewN ?_ _ | refine blk_drew ?_ | refine blk_alloc ?_ _)); refine blk_put (cs := #[.bool false, .slice none 0 0, .slice none 0 0]) ?_ 0 _ rfl; (with_reducible repeat (first | refine blk_drewN ?_ _ | refine blk_drew ?_ | refine blk_alloc ?_ _)); exact BK102.out) Try.underlying60 rfl (by kernel_rfl)) rfl ?_
 exact ⟨_, _, zE, by (with_reducible repeat (first | apply Kd.V_alloc | apply Kd.V_drewN | apply Kd.V_drew)); exact Kd.V_mono (Kd.V_far (p := ⟨gb102, 2, none⟩) (Kd.V_far (p := ⟨gb102, 1, none⟩) (Kd.V_far (p := ⟨gb102, 0, none⟩) (Kd.V_mono HO106.out (fun k_ hk => (⟨hk, hk.2.2⟩ : _ ∧ k_ ≠ gb102))) (fun _ hk => hk.2) (.bool t103)) (fun _ hk => hk.2) (.slice Ao10 t104.length co10)) (fun _ hk => hk.2) (.slice Ao11 t107.length co11)) (fun _ hk => hk.1.1), by (with_reducible repeat (first | apply Kd.V_alloc | apply Kd.V_drewN | apply Kd.V_drew)); exact Kd.V_mono (Kd.V_far (p := ⟨gb102, 2, none⟩) (Kd.V_far (p := ⟨gb102, 1, none⟩) (Kd.V_far (p := ⟨gb102, 0, none⟩) (Kd.V_mono HO109.out (fun k_ hk => (⟨hk, hk.2.2⟩ : _ ∧ k_ ≠ gb102))) (fun _ hk => hk.2) (.bool t103)) (fun _ hk => hk.2) (.slice Ao10 t104.length co10)) (fun _ hk => hk.2) (.slice Ao11 t107.length co11)) (fun _ hk => hk.1.1), zB2 HB.out GE101.out GE102.out⟩
set_option maxHeartbeats 8000000 in
set_option maxRecDepth 100000 in
theorem macwilliams_Krawtchouk.calls (k : Nat) (a0 : Int) (a1 : Int) (a2 : Int) (a3 : Int) (r1 : Bool) (r2 : List Int) (r3 : List Int) (r4 : Int) (w : World) (h : macwilliams_Krawtchouk.f k a0 a1 a2 a3 = some (r1, r2, r3, r4)) :
    Calls Try.prog 42 #[.int .i64 a0, .int .i64 a1, .int .i64 a2, .int .i64 a3] w fun e w' => ∃ v1_ v2_ : Value, e = .returned (.tuple #[.agg #[.bool r1, v1_, v2_], .int .i64 r4]) ∧ Kd.V (Kd.int .u32) 97 w' w.heap.size (fun k_ => (w.heap.size ≤ k_)) v1_ r2 ∧ Kd.V (Kd.int .u32) 97 w' w.heap.size (fun k_ => (w.heap.size ≤ k_)) v2_ r3 ∧ Below w.heap.size w w' := by
 have hu60 := Try.underlying60
 have hu113 := Try.underlying113
 have HB := Aside0.mk (Below.refl w.heap.size w)
 have H : (if a0 < 2 then (macwilliams_Krawtchouk.j0 k a0 a1 a2 a3 true) else (if a0 > 256 then (macwilliams_Krawtchouk.j0 k a0 a1 a2 a3 true) else (if a1 < 0 then (macwilliams_Krawtchouk.j0 k a0 a1 a2 a3 true) else (if a1 > 64 then (macwilliams_Krawtchouk.j0 k a0 a1 a2 a3 true) else (if a2 < 0 then (macwilliams_Krawtchouk.j0 k a0 a1 a2 a3 true) else (if a2 > a1 then (macwilliams_Krawtchouk.j0 k a0 a1 a2 a3 true) else (if a3 < 0 then (macwilliams_Krawtchouk.j0 k a0 a1 a2 a3 true) else (macwilliams_Krawtchouk.j0 k a0 a1 a2 a3 (decide (a3 > a1)))))))))) = some (r1, r2, r3, r4) := h
 clear h
 have HC5 := Aside0.mk H
 clear H
 go_enter Try.func42, Try.ntmps42
 go_upto_region 1 with (first | ((with_reducible refine gate_dst (N := 8) rfl ?_); refine box_event ?hg (N := 8) ?hd (cs := #[.bool false, .slice none 0 0, .slice none 0 0]) (t := 60) ?hr ?_; (case hd => rfl); (case hg => rfl); (case hr => first | (go_simp; done) | (go_simp; rfl)); intro gb101 hg w6 hbox hb; have BK101 := Aside0.mk (hbox); have GW101 := yg hg HB; have GE101 := yg hg HB; replace HB := yS HB hb; clear hb hbox hg))
 (try simp only [Act.put, List.setIfInBounds_toArray, List.set_cons_zero, List.set_cons_succ])
 go_cut [41] (fun v41 wc => ∃ (kq : Nat) (x41_4 : Bool), v41 = .bool x41_4 ∧ Aside0 (macwilliams_Krawtchouk.j0 kq a0 a1 a2 a3 x41_4 = some (r1, r2, r3, r4)) ∧ Aside0 (kq ≤ k) ∧ Aside0 (wc.heap[gb101]? = some (.cells #[.bool false, (.slice none 0 0), (.slice none 0 0)] 60 (0, 0))) ∧ Aside0 (Below w.heap.size w wc))
 case first =>
  have H := HC5.out
  clear HC5
  replace H := zi H
  rcases H with ⟨c7, H⟩ | ⟨c7, H⟩
  · have c7b0 := decide_eq_true c7
    clear c7
    (first | rw [c7b0] | (simp only [i64_w, i32_w]; rw [c7b0]) | rw [c7b1] | skip)
    have H' := Aside0.mk H
    clear H
    go_wp2
    go_meet
    case rel => exact ⟨_, (true), zF, H', ⟨zO⟩, ⟨by (with_reducible repeat (first | refine blk_drewN ?_ _ | refine blk_drew ?_ | refine blk_alloc ?_ _)); exact BK101.out⟩, ⟨zB1 HB.out GE101.out⟩⟩
  have c7b0 := decide_eq_false c7
  clear c7
  (first | rw [c7b0] | (simp only [i64_w, i32_w]; rw [c7b0]) | rw [c7b1] | skip)
  replace H := zi H
  rcases H with ⟨c8, H⟩ | ⟨c8, H⟩
  · have c8b0 : decide (256 < a0) = true := decide_eq_true c8
    clear c8
    have H' := Aside0.mk H
    clear H
    go_wp2
    go_meet
    case rel => exact ⟨_, (true), zF, H', ⟨zO⟩, ⟨by (with_reducible repeat (first | refine blk_drewN ?_ _ | refine blk_drew ?_ | refine blk_alloc ?_ _)); exact BK101.out⟩, ⟨zB1 HB.out GE101.out⟩⟩
  have c8b0 : decide (256 < a0) = false := decide_eq_false c8
  clear c8
  replace H := zi H
  rcases H with ⟨c9, H⟩ | ⟨c9, H⟩
  · have c9b0 := decide_eq_true c9
    clear c9
    have H' := Aside0.mk H
    clear H
    go_wp2
    go_meet
    case rel => exact ⟨_, (true), zF, H', ⟨zO⟩, ⟨by (with_reducible repeat (first | refine blk_drewN ?_ _ | refine blk_drew ?_ | refine blk_alloc ?_ _)); exact BK101.out⟩, ⟨zB1 HB.out GE101.out⟩⟩
  have c9b0 := decide_eq_false c9
  clear c9
  replace H := zi H
  rcases H with ⟨c10, H⟩ | ⟨c10, H⟩
  · have c10b0 : decide (64 < a1) = true := decide_eq_true c10
    clear c10
    have H' := Aside0.mk H
    clear H
    go_wp2
    go_meet
    case rel => exact ⟨_, (true), zF, H', ⟨zO⟩, ⟨by (with_reducible repeat (first | refine blk_drewN ?_ _ | refine blk_drew ?_ | refine blk_alloc ?_ _)); exact BK101.out⟩, ⟨zB1 HB.out GE101.out⟩⟩
  have c10b0 : decide (64 < a1) = false := decide_eq_false c10
  clear c10
  replace H := zi H
  rcases H with ⟨c11, H⟩ | ⟨c11, H⟩
  · have c11b0 := decide_eq_true c11
    clear c11
    have H' := Aside0.mk H
    clear H
    go_wp2
    go_meet
    case rel => exact ⟨_, (true), zF, H', ⟨zO⟩, ⟨by (with_reducible repeat (first | refine blk_drewN ?_ _ | refine blk_drew ?_ | refine blk_alloc ?_ _)); exact BK101.out⟩, ⟨zB1 HB.out GE101.out⟩⟩
  have c11b0 := decide_eq_false c11
  clear c11
  replace H := zi H
  rcases H with ⟨c12, H⟩ | ⟨c12, H⟩
  · have c12b0 : decide (a1 < a2) = true := decide_eq_true c12
    clear c12
    have H' := Aside0.mk H
    clear H
    go_wp2
    go_meet
    case rel => exact ⟨_, (true), zF, H', ⟨zO⟩, ⟨by (with_reducible repeat (first | refine blk_drewN ?_ _ | refine blk_drew ?_ | refine blk_alloc ?_ _)); exact BK101.out⟩, ⟨zB1 HB.out GE101.out⟩⟩
  have c12b0 : decide (a1 < a2) = false := decide_eq_false c12
  clear c12
  replace H := zi H
  rcases H with ⟨c13, H⟩ | ⟨c13, H⟩
  · have c13b0 := decide_eq_true c13
    clear c13
    have H' := Aside0.mk H
    clear H
    go_wp2
    go_meet
    case rel => exact ⟨_, (true), zF, H', ⟨zO⟩, ⟨by (with_reducible repeat (first | refine blk_drewN ?_ _ | refine blk_drew ?_ | refine blk_alloc ?_ _)); exact BK101.out⟩, ⟨zB1 HB.out GE101.out⟩⟩
  have c13b0 := decide_eq_false c13
  clear c13
  have H' := Aside0.mk H
  clear H
  go_wp2
  go_meet
  case rel => exact ⟨_, (decide (a3 > a1)), zF, H', ⟨zO⟩, ⟨by (with_reducible repeat (first | refine blk_drewN ?_ _ | refine blk_drew ?_ | refine blk_alloc ?_ _)); exact BK101.out⟩, ⟨zB1 HB.out GE101.out⟩⟩
 clear HC5
 (try clear c1);(try clear p2);(try clear c4);(try clear c7);(try clear c7b0);(try clear c7b1);(try clear c8);(try clear c8b0);(try clear c9);(try clear c9b0);(try clear c10);(try clear c10b0);(try clear c11);(try clear c11b0);(try clear c12);(try clear c12b0);(try clear c13);(try clear c13b0)
 obtain ⟨kq, x41_4, rfl, HA, HJ4, BK101, HB⟩ := hcut
 cases kq with | zero => exact absurd HA.out (by simp [macwilliams_Krawtchouk.j0]) | succ kj4 => ?_
 have H := HA.out
 clear HA
 simp only [macwilliams_Krawtchouk.j0] at H
 by_cases c14 : x41_4 = true
 · subst c14
   rw [if_pos rfl] at H
   simp only [Option.some.injEq, Prod.mk.injEq] at H
   obtain ⟨rfl, rfl, rfl, rfl⟩ := H
   have hcz15_0 : wc.cell? ⟨gb101, 0, none⟩ = some (.bool false) := (blk_cell BK101.out 0).trans rfl
   have hcz15_1 : wc.cell? ⟨gb101, 1, none⟩ = some (.slice none 0 0) := (blk_cell BK101.out 1).trans rfl
   have hcz15_2 : wc.cell? ⟨gb101, 2, none⟩ = some (.slice none 0 0) := (blk_cell BK101.out 2).trans rfl
   have hfz15_0 := blk_frozen BK101.out 0
   have hfz15_1 := blk_frozen BK101.out 1
   have hfz15_2 := blk_frozen BK101.out 2
   go_wp2
   refine bodyPost_ret (results_ct rfl _ _ gb101 60 #[.bool false, .slice none 0 0, .slice none 0 0] (0, 0) _ rfl (by (with_reducible repeat (first | refine blk_drewN ?_ _ | refine blk_drew ?_ | refine blk_alloc ?_ _)); refine blk_put (cs := #[.bool false, .slice none 0 0, .slice none 0 0]) ?_ 2 _ rfl; (with_reducible repeat (first | refine blk_drewN ?_ _ | refine blk_drew ?_ | refine blk_alloc ?_ _)); refine blk_put (cs := #[.bool false, .slice none 0 0, .slice none 0 0]) ?_ 1 _ rfl; (with_reducible repeat (first | refine blk_drewN ?_ _ | refine blk_drew ?_ | refine blk_alloc ?_ _)); refine blk_put (cs := #[.bool false, .slice none 0 0, .slice none 0 0]) ?_ 0 _ rfl; (with_reducible repeat (first | refine blk_drewN ?_ _ | refine blk_drew ?_ | refine blk_alloc ?_ _)); exact BK101.out) Try.underlying60 rfl (by kernel_rfl)) rfl ?_
   exact ⟨_, _, zE, by exact Kd.V_nil _ _ _ _ _, by exact Kd.V_nil _ _ _ _ _, zB1 HB.out GE101.out⟩
 replace c14 := Bool.eq_false_iff.mpr c14
 subst c14
 rw [if_neg Bool.false_ne_true] at H
 replace H := zb H
 obtain ⟨t102, A16, H⟩ := H
 replace H := zg H
 obtain ⟨c17, H⟩ := H
 have c17b0 := decide_eq_true c17
 clear c17
 replace H := zg H
 obtain ⟨c18, H⟩ := H
 have c18b0 := decide_eq_true c18
 clear c18
 replace H := zg H
 obtain ⟨c19, H⟩ := H
 have c19b0 := decide_eq_true c19
 clear c19
 replace H := zg H
 obtain ⟨c20, H⟩ := H
 have c20b0 := decide_eq_true c20
 clear c20
 obtain ⟨y107, hy107⟩ : ∃ y_ : List Int, y_ = (([1] : List Int)) := ⟨_, rfl⟩
 replace H : ((macwilliams_ratio.f kj4 ((rd_T113 (rd_L6 t102 a3) a2).f0) ((rd_T113 (rd_L6 t102 a3) a2).f1) y107).bind fun bt110 => (some (bt110.1, bt110.2.1, bt110.2.2, 0))) = some (r1, r2, r3, r4) := zY hy107 H
 have Ny107 := Aside0.mk hy107
 clear hy107
 replace H := zb H
 obtain ⟨⟨t110, t111, t114⟩, A21, H⟩ := H
 dsimp only at H
 simp only [Option.some.injEq, Prod.mk.injEq] at H
 obtain ⟨rfl, rfl, rfl, rfl⟩ := H
 go_wp2_with (first | ((with_reducible refine gate_callee (f := 94) rfl ?_); refine zG (some 45) Try.func94 #[.int .i64 a0, .int .i64 a1] ?_; (with_reducible refine (macwilliams_table.calls kj4 a0 a1 t102 _ A16.out).mono ?_); rintro e w22 ⟨v103, rfl, ho0, hb⟩; refine ⟨_, rfl, ?_⟩; have HO104 := Aside0.mk (Kd.N_lower (Kd.N_mono (ok' := fun k_ => (w.heap.size ≤ k_) ∧ k_ ≠ gb101) ho0 (fun k_ hk_ => ⟨(Nat.le_trans (below_size (zB1 HB.out GE101.out)) hk_), (Kd.freshB (g := gb101) (o := .cells #[.bool false, .slice none 0 0, .slice none 0 0] 60 (0, 0)) (by (with_reducible repeat (first | refine blk_drewN ?_ _ | refine blk_drew ?_ | refine blk_alloc ?_ _)); exact BK101.out) k_ hk_)⟩)) (below_size (zB1 HB.out GE101.out))); replace BK101 := yK BK101 hb; replace HB := yS1 HB GE101 hb; (try clear hb ho0); obtain ⟨Ao23, co23, rfl⟩ := Kd.N_slice HO104.out; have p105 : 0 ≤ (a3 : Int) := of_decide_eq_true zA; have q105 : a3 < (t102.length : Int) := of_decide_eq_true zA; obtain ⟨ad105, A105_0, c105_0, e105, hx105_0, hl105_0, hi105_0⟩ := at_L6 (Kd.N_reads' HO104.out).2.2 a3 p105 q105; cases e105; obtain ⟨ce105, hce105, hMe105, hcc105⟩ := Kd.N_get HO104.out [] a3 p105 (by first | exact q105 | exact of_decide_eq_true zA | (have e_ := (Kd.N_reads' HO104.out).1; omega)); obtain ⟨ua105_0, uc105_0, rfl, ul105_0, ge105_0⟩ := Kd.FK_slice_open hMe105; have hv105_0 := hcc105 0 _ rfl; rw [Nat.add_zero, show ((Kd.slice 113 k113)).sz = 1 from rfl, Nat.mul_one] at hv105_0; replace hv105_0 := Option.some.inj (hv105_0.symm.trans hx105_0); injection hv105_0 with hva_ hvn_ hvc_; rw [hva_] at ge105_0; rw [hvc_] at ul105_0; have HL105_0 := Aside0.mk (show Kd.V k113 113 _ w.heap.size _ _ (rd_L6 t102 a3) from Kd.V_mk ul105_0 ge105_0); clear hva_ hvn_ hvc_ ge105_0 ul105_0; clear hcc105 hce105; have HR105_0 := Aside0.mk hi105_0; have HC105_0 := Aside0.mk hl105_0; clear hi105_0 hl105_0; replace p105 := eq_true p105; replace q105 := eq_true q105; have p106 : 0 ≤ (a2 : Int) := of_decide_eq_true zA; have q106 : a2 < ((rd_L6 t102 a3).length : Int) := of_decide_eq_true zA; obtain ⟨ad106, A106_1, c106_1, e106, hx106_0, hx106_1, hl106_1, hi106_1⟩ := at_T113 (zCr HR105_0.out) a2 p106 q106; cases e106; obtain ⟨ce106, hce106, hMe106, hcc106⟩ := Kd.V_get HL105_0.out z113 a2 p106 (by first | exact q106 | exact of_decide_eq_true zA | (have e_ := (Kd.V_reads' HL105_0.out).1; omega)); obtain ⟨ua106_1, uc106_1, rfl, ul106_1, ge106_1⟩ := k113_openF hMe106; have hv106_1 := hcc106 1 _ rfl; rw [add_field _ _ 1 (by omega)] at hv106_1; replace hv106_1 := Option.some.inj (hv106_1.symm.trans hx106_1); injection hv106_1 with hva_ hvn_ hvc_; rw [hva_] at ge106_1; rw [hvc_] at ul106_1; have HL106_1 := Aside0.mk (show Kd.V (Kd.int .u32) 97 _ w.heap.size _ _ ((rd_T113 (rd_L6 t102 a3) a2).f1) from Kd.V_mk ul106_1 ge106_1); clear hva_ hvn_ hvc_ ge106_1 ul106_1; clear hcc106 hce106; have HR106_1 := Aside0.mk hi106_1; have HC106_1 := Aside0.mk hl106_1; clear hi106_1 hl106_1; replace p106 := eq_true p106; replace q106 := eq_true q106) | ((with_reducible refine gate_dst (N := 52) rfl ?_); refine Kd.R_lit (Kd.int .u32) _ 97 ?hg (N := 52) ?hd (xs := ([1] : List Int)) (inner := [.int .u32 1]) (ok := fun _ => True) (okp := fun _ => True) ?hr ?hp (fun _ hk => hk) trivial (Below.refl _ _) (Nat.le_refl _) (by simp) ?_; (case hd => rfl); (case hg => rfl); (case hr => first | (go_simp; done) | (go_simp; rfl)); (case hp => exact (Reps.one (show Kd.M (Kd.int .u32) _ _ _ 1 [.int .u32 1] from rfl) (Reps.none _ _))); intro v108 w24 ho25 hb hg_ hnew_; clear hg_ hnew_; (first | rw [← Ny107.out] at ho25 | (simp only [Int.reduceToNat] at ho25; rw [← Ny107.out] at ho25)); replace HO104 := yNe HO104 ho25 hb; replace HL105_0 := yVe HL105_0 ho25 hb; replace HL106_1 := yVe HL106_1 ho25 hb; replace ho25 := Kd.R_newM (M := fun k_ => (w.heap.size ≤ k_)) ho25 (below_size (zB1 HB.out GE101.out)) (fun k_ h_ => h_); have HO109 := yRl1 ho25 HB GE101; replace BK101 := yK BK101 hb; replace HR105_0 := yCb HR105_0 hb; replace HR106_1 := yCb HR106_1 hb; replace HB := yS1 HB GE101 hb; clear hb ho25; obtain ⟨Ao26, co26, rfl⟩ := Kd.R_slice HO109.out) | ((with_reducible refine gate_callee (f := 93) rfl ?_); refine zG (some 53) Try.func93 #[.agg #[.bool ((rd_T113 (rd_L6 t102 a3) a2).f0), .slice A106_1 ((rd_T113 (rd_L6 t102 a3) a2).f1).length c106_1], .slice Ao26 y107.length co26] ?_; (with_reducible refine (macwilliams_ratio.calls kj4 ((rd_T113 (rd_L6 t102 a3) a2).f0) (fun k_ => ((((w.heap.size ≤ k_) ∧ k_ ≠ gb101) ∧ some k_ ≠ (.slice (some ad105) t102.length co23 : Value).ownBlock) ∧ some k_ ≠ (.slice Ao26 y107.length co26 : Value).ownBlock)) _ _ ((rd_T113 (rd_L6 t102 a3) a2).f1) (fun k_ => some k_ = (.slice Ao26 y107.length co26 : Value).ownBlock) _ _ y107 t110 t111 t114 _ ?side1 ?side2 A21.out).mono ?_); (case side1 => exact HL106_1.out); (case side2 => exact Kd.R_V (Kd.R_tight rfl (Kd.R_types (Kd.R_apart' (HO109.out) (Kd.N_typed HO104.out) (by decide)) BK101.out (by decide)))); rintro e w27 ⟨v112, v115, rfl, ho0, ho1, hb⟩; refine ⟨_, rfl, ?_⟩; replace HL105_0 := yVb HL105_0 hb; replace HL106_1 := yVb HL106_1 hb; have HO113 := Aside0.mk (Kd.V_lower (Kd.V_mono (ok' := fun k_ => (w.heap.size ≤ k_) ∧ some k_ ≠ (.slice (some ad105) t102.length co23 : Value).ownBlock ∧ k_ ≠ gb101) ho0 (fun k_ hk_ => ⟨Or.elim hk_ (fun hs_ => Or.elim hs_ (fun hs_ => hs_.1.1.1) (fun hs_ => ((Kd.R_types (Kd.R_apart' (HO109.out) (Kd.N_typed HO104.out) (by decide)) BK101.out (by decide)).1 k_ hs_.symm).1.1.1)) (fun hn_ => (Nat.le_trans (below_size (zB1 HB.out GE101.out)) hn_)), Or.elim hk_ (fun hs_ => Or.elim hs_ (fun hs_ => hs_.1.2) (fun hs_ => ((Kd.R_types (Kd.R_apart' (HO109.out) (Kd.N_typed HO104.out) (by decide)) BK101.out (by decide)).1 k_ hs_.symm).1.2)) (fun hn_ => (Kd.fresh' (Kd.N_lt (zN HO104.out)) k_ hn_)), Or.elim hk_ (fun hs_ => Or.elim hs_ (fun hs_ => hs_.1.1.2) (fun hs_ => ((Kd.R_types (Kd.R_apart' (HO109.out) (Kd.N_typed HO104.out) (by decide)) BK101.out (by decide)).1 k_ hs_.symm).2)) (fun hn_ => (Kd.freshB (g := gb101) (o := .cells #[.bool false, .slice none 0 0, .slice none 0 0] 60 (0, 0)) (by (with_reducible repeat (first | refine blk_drewN ?_ _ | refine blk_drew ?_ | refine blk_alloc ?_ _)); exact BK101.out) k_ hn_))⟩)) (below_size (zB1 HB.out GE101.out))); have HO116 := Aside0.mk (Kd.V_lower (Kd.V_mono (ok' := fun k_ => (w.heap.size ≤ k_) ∧ some k_ ≠ (.slice (some ad105) t102.length co23 : Value).ownBlock ∧ k_ ≠ gb101) ho1 (fun k_ hk_ => ⟨Or.elim hk_ (fun hs_ => Or.elim hs_ (fun hs_ => hs_.1.1.1) (fun hs_ => ((Kd.R_types (Kd.R_apart' (HO109.out) (Kd.N_typed HO104.out) (by decide)) BK101.out (by decide)).1 k_ hs_.symm).1.1.1)) (fun hn_ => (Nat.le_trans (below_size (zB1 HB.out GE101.out)) hn_)), Or.elim hk_ (fun hs_ => Or.elim hs_ (fun hs_ => hs_.1.2) (fun hs_ => ((Kd.R_types (Kd.R_apart' (HO109.out) (Kd.N_typed HO104.out) (by decide)) BK101.out (by decide)).1 k_ hs_.symm).1.2)) (fun hn_ => (Kd.fresh' (Kd.N_lt (zN HO104.out)) k_ hn_)), Or.elim hk_ (fun hs_ => Or.elim hs_ (fun hs_ => hs_.1.1.2) (fun hs_ => ((Kd.R_types (Kd.R_apart' (HO109.out) (Kd.N_typed HO104.out) (by decide)) BK101.out (by decide)).1 k_ hs_.symm).2)) (fun hn_ => (Kd.freshB (g := gb101) (o := .cells #[.bool false, .slice none 0 0, .slice none 0 0] 60 (0, 0)) (by (with_reducible repeat (first | refine blk_drewN ?_ _ | refine blk_drew ?_ | refine blk_alloc ?_ _)); exact BK101.out) k_ hn_))⟩)) (below_size (zB1 HB.out GE101.out))); replace HO104 := yNb HO104 hb; replace HO109 := yRb HO109 hb; replace BK101 := yK BK101 hb; replace HR105_0 := yCb HR105_0 hb; replace HR106_1 := yCb HR106_1 hb; replace HB := yS1 HB GE101 hb; (try clear hb ho0); (try clear ho1); have hcz28_0 : w27.cell? ⟨gb101, 0, none⟩ = some (.bool false) := (blk_cell BK101.out 0).trans rfl; have hcz28_1 : w27.cell? ⟨gb101, 1, none⟩ = some (.slice none 0 0) := (blk_cell BK101.out 1).trans rfl; have hcz28_2 : w27.cell? ⟨gb101, 2, none⟩ = some (.slice none 0 0) := (blk_cell BK101.out 2).trans rfl; have hfz28_0 := blk_frozen BK101.out 0; have hfz28_1 := blk_frozen BK101.out 1; have hfz28_2 := blk_frozen BK101.out 2; obtain ⟨Ao29, co29, rfl⟩ := Kd.V_slice HO113.out; obtain ⟨Ao30, co30, rfl⟩ := Kd.V_slice HO116.out))
 refine bodyPost_ret (results_ct rfl _ _ gb101 60 #[.bool t110, .slice Ao29 t111.length co29, .slice Ao30 t114.length co30] (0, 0) _ rfl (by (with_reducible repeat (first | refine blk_drewN ?_ _ | refine blk_drew ?_ | refine blk_alloc ?_ _)); refine blk_put (cs := #[.bool t110, .slice Ao29 t111.length co29, .slice none 0 0]) ?_ 2 _ rfl; (with_reducible repeat (first | refine blk_drewN ?_ _ | refine blk_drew ?_ | refine blk_alloc ?_ _)); refine blk_put (cs := #[.bool t110, .slice none 0 0, .slice none 0 0]) ?_ 1 _ rfl; (with_reducible repeat (first | refine blk_drewN ?_ _ | refine blk_drew ?_ | refine blk_alloc ?_ _)); refine blk_put (cs := #[.bool false, .slice none 0 0, .slice none 0 0]) ?_ 0 _ rfl; (with_reducible repeat (first | refine blk_drewN ?_ _ | refine blk_drew ?_ | refine blk_alloc ?_ _)); exact BK101.out) Try.underlying60 rfl (by kernel_rfl)) rfl ?_
 exact ⟨_, _, zE, by (with_reducible repeat (first | apply Kd.V_alloc | apply Kd.V_drewN | apply Kd.V_drew)); exact Kd.V_mono (Kd.V_far (p := ⟨gb101, 2, none⟩) (Kd.V_far (p := ⟨gb101, 1, none⟩) (Kd.V_far (p := ⟨gb101, 0, none⟩) (Kd.V_mono HO113.out (fun k_ hk => (⟨hk, hk.2.2⟩ : _ ∧ k_ ≠ gb101))) (fun _ hk => hk.2) (.bool t110)) (fun _ hk => hk.2) (.slice Ao29 t111.length co29)) (fun _ hk => hk.2) (.slice Ao30 t114.length co30)) (fun _ hk => hk.1.1), by (with_reducible repeat (first | apply Kd.V_alloc | apply Kd.V_drewN | apply Kd.V_drew)); exact Kd.V_mono (Kd.V_far (p := ⟨gb101, 2, none⟩) (Kd.V_far (p := ⟨gb101, 1, none⟩) (Kd.V_far (p := ⟨gb101, 0, none⟩) (Kd.V_mono HO116.out (fun k_ hk => (⟨hk, hk.2.2⟩ : _ ∧ k_ ≠ gb101))) (fun _ hk => hk.2) (.bool t110)) (fun _ hk => hk.2) (.slice Ao29 t111.length co29)) (fun _ hk => hk.2) (.slice Ao30 t114.length co30)) (fun _ hk => hk.1.1), zB1 HB.out GE101.out⟩
set_option maxHeartbeats 8000000 in
set_option maxRecDepth 100000 in
theorem codewrightref02_Nil.calls (a0_0 : Bool) (A0_1 : Option Addr) (c0_1 : Nat) (l0_1 : List Int) (A0_2 : Option Addr) (c0_2 : Nat) (l0_2 : List Int) (r : Bool) (w : World) (hr0_1 : Kd.C (Kd.int .u32) w A0_1 l0_1.length l0_1) (hc0_1 : l0_1.length ≤ c0_1) (hr0_2 : Kd.C (Kd.int .u32) w A0_2 l0_2.length l0_2) (hc0_2 : l0_2.length ≤ c0_2) (h : codewrightref02_Nil.f a0_0 l0_1 l0_2 = some r) :
    Calls Try.prog 44 #[.agg #[.bool a0_0, .slice A0_1 l0_1.length c0_1, .slice A0_2 l0_2.length c0_2]] w fun e w' => e = .returned (.bool r) ∧ Below w.heap.size w w' := by
 have hu60 := Try.underlying60
 have HR0_1 := Aside0.mk hr0_1
 have HC0_1 := Aside0.mk hc0_1
 clear hr0_1 hc0_1
 have HR0_2 := Aside0.mk hr0_2
 have HC0_2 := Aside0.mk hc0_2
 clear hr0_2 hc0_2
 have HB := Aside0.mk (Below.refl w.heap.size w)
 have H : (if a0_0 = true then (some false) else (if (l0_1.length : Int) = 0 then (some ((l0_2.length : Int) == 0)) else (some false))) = some r := h
 clear h
 by_cases c2 : a0_0 = true
 · subst c2
   rw [if_pos rfl] at H
   obtain rfl := Option.some.inj H
   go_enter Try.func44, Try.ntmps44
   go_wp2_with (first | ((with_reducible refine gate_dst (N := 1) rfl ?_); (try (refine gate_guard (by rfl) ?_; dsimp only)); refine box_event ?hg (N := 1) ?hd (cs := #[.bool true, .slice A0_1 l0_1.length c0_1, .slice A0_2 l0_2.length c0_2]) (t := 60) ?hr ?_; (case hd => rfl); (case hg => rfl); (case hr => first | (go_simp; done) | (go_simp; rfl)); intro gb101 hg w3 hbox hb; have BK101 := Aside0.mk (hbox); have GW101 := yg hg HB; have GE101 := yg hg HB; replace HB := yS HB hb; clear hb hbox hg; have hcz4_0 : w3.cell? ⟨gb101, 0, none⟩ = some (.bool true) := (blk_cell BK101.out 0).trans rfl; have hcz4_1 : w3.cell? ⟨gb101, 1, none⟩ = some (.slice A0_1 l0_1.length c0_1) := (blk_cell BK101.out 1).trans rfl; have hcz4_2 : w3.cell? ⟨gb101, 2, none⟩ = some (.slice A0_2 l0_2.length c0_2) := (blk_cell BK101.out 2).trans rfl; have hfz4_0 := blk_frozen BK101.out 0; have hfz4_1 := blk_frozen BK101.out 1; have hfz4_2 := blk_frozen BK101.out 2))
   go_ret
   exact ⟨zE, zB1 HB.out GE101.out⟩
 replace c2 := Bool.eq_false_iff.mpr c2
 subst c2
 rw [if_neg Bool.false_ne_true] at H
 replace H := zi H
 rcases H with ⟨c5, H⟩ | ⟨c5, H⟩
 · have c5b0 := beq_iff_eq.mpr c5
   have c5b1 := bne_eq_false_iff_eq.mpr c5
   clear c5
   obtain rfl := Option.some.inj H
   go_enter Try.func44, Try.ntmps44
   go_wp2_with (first | ((with_reducible refine gate_dst (N := 1) rfl ?_); (try (refine gate_guard (by rfl) ?_; dsimp only)); refine box_event ?hg (N := 1) ?hd (cs := #[.bool false, .slice A0_1 l0_1.length c0_1, .slice A0_2 l0_2.length c0_2]) (t := 60) ?hr ?_; (case hd => rfl); (case hg => rfl); (case hr => first | (go_simp; done) | (go_simp; rfl)); intro gb101 hg w6 hbox hb; have BK101 := Aside0.mk (hbox); have GW101 := yg hg HB; have GE101 := yg hg HB; replace HB := yS HB hb; clear hb hbox hg; have hcz7_0 : w6.cell? ⟨gb101, 0, none⟩ = some (.bool false) := (blk_cell BK101.out 0).trans rfl; have hcz7_1 : w6.cell? ⟨gb101, 1, none⟩ = some (.slice A0_1 l0_1.length c0_1) := (blk_cell BK101.out 1).trans rfl; have hcz7_2 : w6.cell? ⟨gb101, 2, none⟩ = some (.slice A0_2 l0_2.length c0_2) := (blk_cell BK101.out 2).trans rfl; have hfz7_0 := blk_frozen BK101.out 0; have hfz7_1 := blk_frozen BK101.out 1; have hfz7_2 := blk_frozen BK101.out 2))
   go_ret
   exact ⟨zE, zB1 HB.out GE101.out⟩
 have c5b0 := beq_eq_false_iff_ne.mpr c5
 have c5b1 := bne_iff_ne.mpr c5
 have c5b2 : ¬ (l0_1 = []) := fun h_ => c5 (by rw [h_]; rfl)
 obtain rfl := Option.some.inj H
 go_enter Try.func44, Try.ntmps44
 go_wp2_with (first | ((with_reducible refine gate_dst (N := 1) rfl ?_); (try (refine gate_guard (by rfl) ?_; dsimp only)); refine box_event ?hg (N := 1) ?hd (cs := #[.bool false, .slice A0_1 l0_1.length c0_1, .slice A0_2 l0_2.length c0_2]) (t := 60) ?hr ?_; (case hd => rfl); (case hg => rfl); (case hr => first | (go_simp; done) | (go_simp; rfl)); intro gb101 hg w8 hbox hb; have BK101 := Aside0.mk (hbox); have GW101 := yg hg HB; have GE101 := yg hg HB; replace HB := yS HB hb; clear hb hbox hg; have hcz9_0 : w8.cell? ⟨gb101, 0, none⟩ = some (.bool false) := (blk_cell BK101.out 0).trans rfl; have hcz9_1 : w8.cell? ⟨gb101, 1, none⟩ = some (.slice A0_1 l0_1.length c0_1) := (blk_cell BK101.out 1).trans rfl; have hcz9_2 : w8.cell? ⟨gb101, 2, none⟩ = some (.slice A0_2 l0_2.length c0_2) := (blk_cell BK101.out 2).trans rfl; have hfz9_0 := blk_frozen BK101.out 0; have hfz9_1 := blk_frozen BK101.out 1; have hfz9_2 := blk_frozen BK101.out 2))
 go_ret
 exact ⟨zE, zB1 HB.out GE101.out⟩
set_option maxHeartbeats 8000000 in
set_option maxRecDepth 100000 in
theorem codewrightref01_Same.calls (k : Nat) (A0 : Option Addr) (c0 : Nat) (l0 : List Int) (A1 : Option Addr) (c1 : Nat) (l1 : List Int) (r : Bool) (w : World) (hr0 : Kd.C (Kd.int .u32) w A0 l0.length l0) (hc0 : l0.length ≤ c0) (hr1 : Kd.C (Kd.int .u32) w A1 l1.length l1) (hc1 : l1.length ≤ c1) (h : codewrightref01_Same.f k l0 l1 = some r) :
    Calls Try.prog 25 #[.slice A0 l0.length c0, .slice A1 l1.length c1] w fun e w' => e = .returned (.bool r) ∧ Drawn0 w w' := by
 have HR0 := Aside0.mk hr0
 have HC0 := Aside0.mk hc0
 clear hr0 hc0
 have HR1 := Aside0.mk hr1
 have HC1 := Aside0.mk hc1
 clear hr1 hc1
 have H : (if (l0.length : Int) = (l1.length : Int) then (codewrightref01_Same.l0 k l0 l1 0) else (some false)) = some r := h
 clear h
 replace H := zi H
 rcases H with ⟨c3, H⟩ | ⟨c3, H⟩
 · have c3b0 := beq_iff_eq.mpr c3
   have c3b1 := bne_eq_false_iff_eq.mpr c3
   have c3b2 : (l0.length == l1.length) = true := by first | simpa using c3 | (simp at c3 ⊢; omega)
   clear c3
   have H' := Aside0.mk H
   clear H
   go_enter Try.func25, Try.ntmps25
   go_wp2
   repeat (go_quiet (fail); try go_wp2)
   go_loopg [5] k (fun kq v5 w' => ∃ (x5_1 : Int), v5 = .int .i64 x5_1 ∧ Aside0 (codewrightref01_Same.l0 kq l0 l1 x5_1 = some r) ∧ Aside0 (kq ≤ k) ∧ Drawn0 w w')
   case atStart => exact ⟨(0), zF, H', ⟨Nat.le_refl _⟩, by repeat (first | exact Drawn0.refl _ | apply Drawn0.step)⟩
   clear H'
   (try clear c1);(try clear c2);(try clear p2);(try clear c3);(try clear c3b0);(try clear c3b1);(try clear c3b2)
   obtain ⟨x5_1, rfl, HA, HK1, ⟨m1, rfl⟩⟩ := hrel
   cases gk with | zero => exact absurd HA.out (by simp [codewrightref01_Same.l0]) | succ k1 => ?_
   have H := HA.out
   clear HA
   simp only [codewrightref01_Same.l0] at H
   replace H := zi H
   rcases H with ⟨c4, H⟩ | ⟨c4, H⟩
   · have c4b0 := decide_eq_true c4
     clear c4
     replace H := zg H
     obtain ⟨c5, H⟩ := H
     have c5b0 := decide_eq_true c5
     clear c5
     replace H := zg H
     obtain ⟨c6, H⟩ := H
     have c6b0 := decide_eq_true c6
     clear c6
     replace H := zi H
     rcases H with ⟨c7, H⟩ | ⟨c7, H⟩
     · have c7b0 := beq_iff_eq.mpr c7
       have c7b1 := bne_eq_false_iff_eq.mpr c7
       clear c7
       have H' := Aside0.mk H
       clear H
       have p101 : 0 ≤ (x5_1 : Int) := of_decide_eq_true zA
       have q101 : x5_1 < (l0.length : Int) := of_decide_eq_true zA
       obtain ⟨ad101, e101, hx101_0⟩ := Kd.at_int HR0.out x5_1 p101 q101
       cases e101
       replace p101 := eq_true p101
       replace q101 := eq_true q101
       have p102 : 0 ≤ (x5_1 : Int) := of_decide_eq_true zA
       have q102 : x5_1 < (l1.length : Int) := of_decide_eq_true zA
       obtain ⟨ad102, e102, hx102_0⟩ := Kd.at_int HR1.out x5_1 p102 q102
       cases e102
       replace p102 := eq_true p102
       replace q102 := eq_true q102
       go_wp2
       repeat (go_quiet (fail); try go_wp2)
       go_roundg k1
       case measure => have := HK1.out; omega
       case rel => exact ⟨(wrap64 (x5_1 + 1)), zF, H', ⟨zo1 HK1⟩, by repeat (first | exact Drawn0.refl _ | apply Drawn0.step)⟩
     have c7b0 := beq_eq_false_iff_ne.mpr c7
     have c7b1 := bne_iff_ne.mpr c7
     obtain rfl := Option.some.inj H
     have p101 : 0 ≤ (x5_1 : Int) := of_decide_eq_true zA
     have q101 : x5_1 < (l0.length : Int) := of_decide_eq_true zA
     obtain ⟨ad101, e101, hx101_0⟩ := Kd.at_int HR0.out x5_1 p101 q101
     cases e101
     replace p101 := eq_true p101
     replace q101 := eq_true q101
     have p102 : 0 ≤ (x5_1 : Int) := of_decide_eq_true zA
     have q102 : x5_1 < (l1.length : Int) := of_decide_eq_true zA
     obtain ⟨ad102, e102, hx102_0⟩ := Kd.at_int HR1.out x5_1 p102 q102
     cases e102
     replace p102 := eq_true p102
     replace q102 := eq_true q102
     go_wp2
     repeat (go_quiet (fail); try go_wp2)
     go_ret
     exact ⟨zF, by repeat (first | exact Drawn0.refl _ | apply Drawn0.step)⟩
   have c4b0 := decide_eq_false c4
   clear c4
   obtain rfl := Option.some.inj H
   go_wp2
   repeat (go_quiet (fail); try go_wp2)
   go_ret
   exact ⟨zF, by repeat (first | exact Drawn0.refl _ | apply Drawn0.step)⟩
 have c3b0 := beq_eq_false_iff_ne.mpr c3
 have c3b1 := bne_iff_ne.mpr c3
 have c3b2 : (l0.length == l1.length) = false := by first | simpa using c3 | (simp at c3 ⊢; omega)
 obtain rfl := Option.some.inj H
 go_enter Try.func25, Try.ntmps25
 go_wp2
 repeat (go_quiet (fail); try go_wp2)
 go_ret
 exact ⟨zF, by repeat (first | exact Drawn0.refl _ | apply Drawn0.step)⟩
set_option maxHeartbeats 8000000 in
set_option maxRecDepth 100000 in
theorem codewrightref02_Same.calls (k : Nat) (a0_0 : Bool) (A0_1 : Option Addr) (c0_1 : Nat) (l0_1 : List Int) (A0_2 : Option Addr) (c0_2 : Nat) (l0_2 : List Int) (a1_0 : Bool) (A1_1 : Option Addr) (c1_1 : Nat) (l1_1 : List Int) (A1_2 : Option Addr) (c1_2 : Nat) (l1_2 : List Int) (r : Bool) (w : World) (hr0_1 : Kd.C (Kd.int .u32) w A0_1 l0_1.length l0_1) (hc0_1 : l0_1.length ≤ c0_1) (hr0_2 : Kd.C (Kd.int .u32) w A0_2 l0_2.length l0_2) (hc0_2 : l0_2.length ≤ c0_2) (hr1_1 : Kd.C (Kd.int .u32) w A1_1 l1_1.length l1_1) (hc1_1 : l1_1.length ≤ c1_1) (hr1_2 : Kd.C (Kd.int .u32) w A1_2 l1_2.length l1_2) (hc1_2 : l1_2.length ≤ c1_2) (h : codewrightref02_Same.f k a0_0 l0_1 l0_2 a1_0 l1_1 l1_2 = some r) :
    Calls Try.prog 45 #[.agg #[.bool a0_0, .slice A0_1 l0_1.length c0_1, .slice A0_2 l0_2.length c0_2], .agg #[.bool a1_0, .slice A1_1 l1_1.length c1_1, .slice A1_2 l1_2.length c1_2]] w fun e w' => e = .returned (.bool r) ∧ Below w.heap.size w w' := by
 have hu60 := Try.underlying60
 have HR0_1 := Aside0.mk hr0_1
 have HC0_1 := Aside0.mk hc0_1
 clear hr0_1 hc0_1
 have HR0_2 := Aside0.mk hr0_2
 have HC0_2 := Aside0.mk hc0_2
 clear hr0_2 hc0_2
 have HR1_1 := Aside0.mk hr1_1
 have HC1_1 := Aside0.mk hc1_1
 clear hr1_1 hc1_1
 have HR1_2 := Aside0.mk hr1_2
 have HC1_2 := Aside0.mk hc1_2
 clear hr1_2 hc1_2
 have HB := Aside0.mk (Below.refl w.heap.size w)
 have H : (if (a0_0 == a1_0) = true then ((codewrightref01_Same.f k l0_1 l1_1).bind fun t103 => (if t103 = true then ((codewrightref01_Same.f k l0_2 l1_2).bind fun t104 => (some t104)) else (some false))) else (some false)) = some r := h
 clear h
 replace H := zi H
 rcases H with ⟨c3, H⟩ | ⟨c3, H⟩
 · have c3b0 : (a0_0 == a1_0) = true := c3
   (try (have c3b1 : decide (a0_0 = a1_0) = true := by simpa using c3))
   (try (have c3b2 : (a0_0 == a1_0) = true := by simpa using c3))
   clear c3
   replace H := zb H
   obtain ⟨t103, A4, H⟩ := H
   by_cases c5 : t103 = true
   · subst c5
     rw [if_pos rfl] at H
     replace H := zb H
     obtain ⟨t104, A6, H⟩ := H
     obtain rfl := Option.some.inj H
     go_enter Try.func45, Try.ntmps45
     go_wp2_with (first | ((with_reducible refine gate_dst (N := 2) rfl ?_); refine box_event ?hg (N := 2) ?hd (cs := #[.bool a0_0, .slice A0_1 l0_1.length c0_1, .slice A0_2 l0_2.length c0_2]) (t := 60) ?hr ?_; (case hd => rfl); (case hg => rfl); (case hr => first | (go_simp; done) | (go_simp; rfl)); intro gb101 hg w7 hbox hb; have BK101 := Aside0.mk (hbox); have GW101 := yg hg HB; have GE101 := yg hg HB; replace HB := yS HB hb; clear hb hbox hg) | ((with_reducible refine gate_dst (N := 3) rfl ?_); refine box_event ?hg (N := 3) ?hd (cs := #[.bool a1_0, .slice A1_1 l1_1.length c1_1, .slice A1_2 l1_2.length c1_2]) (t := 60) ?hr ?_; (case hd => rfl); (case hg => rfl); (case hr => first | (go_simp; done) | (go_simp; rfl)); intro gb102 hg w8 hbox hb; have BK102 := Aside0.mk (hbox); have GW102 := yg1 hg HB GE101; have GE102 := yg1 hg HB GE101; replace HB := yS1 HB GE101 hb; have NB101_102 := ynl hg BK101; have NB102_101 := yng hg BK101; replace BK101 := yK BK101 hb; clear hb hbox hg; have hnb9 := NB101_102.out; have hnc9 := NB102_101.out; have hcz10_0 : w8.cell? ⟨gb101, 0, none⟩ = some (.bool a0_0) := (blk_cell BK101.out 0).trans rfl; have hcz10_1 : w8.cell? ⟨gb101, 1, none⟩ = some (.slice A0_1 l0_1.length c0_1) := (blk_cell BK101.out 1).trans rfl; have hcz10_2 : w8.cell? ⟨gb101, 2, none⟩ = some (.slice A0_2 l0_2.length c0_2) := (blk_cell BK101.out 2).trans rfl; have hfz10_0 := blk_frozen BK101.out 0; have hfz10_1 := blk_frozen BK101.out 1; have hfz10_2 := blk_frozen BK101.out 2; have hcz11_0 : w8.cell? ⟨gb102, 0, none⟩ = some (.bool a1_0) := (blk_cell BK102.out 0).trans rfl; have hcz11_1 : w8.cell? ⟨gb102, 1, none⟩ = some (.slice A1_1 l1_1.length c1_1) := (blk_cell BK102.out 1).trans rfl; have hcz11_2 : w8.cell? ⟨gb102, 2, none⟩ = some (.slice A1_2 l1_2.length c1_2) := (blk_cell BK102.out 2).trans rfl; have hfz11_0 := blk_frozen BK102.out 0; have hfz11_1 := blk_frozen BK102.out 1; have hfz11_2 := blk_frozen BK102.out 2) | (go_at_call 25; (with_reducible refine (codewrightref01_Same.calls k _ _ l0_1 _ _ l1_1 true _ ?side1 ?side2 ?side3 ?side4 A4.out).mono ?_); (case side1 => exact zC (Kd.C_below HR0_1.out HB.out)); (case side2 => exact HC0_1.out); (case side3 => exact zC (Kd.C_below HR1_1.out HB.out)); (case side4 => exact HC1_1.out); rintro e w' ⟨rfl, ⟨nd, rfl⟩⟩) | (go_at_call 25; (with_reducible refine (codewrightref01_Same.calls k _ _ l0_2 _ _ l1_2 t104 _ ?side1 ?side2 ?side3 ?side4 A6.out).mono ?_); (case side1 => exact zC (Kd.C_below HR0_2.out (zB2 HB.out GE101.out GE102.out))); (case side2 => exact HC0_2.out); (case side3 => exact zC (Kd.C_below HR1_2.out (zB2 HB.out GE101.out GE102.out))); (case side4 => exact HC1_2.out); rintro e w' ⟨rfl, ⟨nd, rfl⟩⟩))
     go_ret
     exact ⟨zE, zB2 HB.out GE101.out GE102.out⟩
   replace c5 := Bool.eq_false_iff.mpr c5
   subst c5
   rw [if_neg Bool.false_ne_true] at H
   obtain rfl := Option.some.inj H
   go_enter Try.func45, Try.ntmps45
   go_wp2_with (first | ((with_reducible refine gate_dst (N := 2) rfl ?_); refine box_event ?hg (N := 2) ?hd (cs := #[.bool a0_0, .slice A0_1 l0_1.length c0_1, .slice A0_2 l0_2.length c0_2]) (t := 60) ?hr ?_; (case hd => rfl); (case hg => rfl); (case hr => first | (go_simp; done) | (go_simp; rfl)); intro gb101 hg w12 hbox hb; have BK101 := Aside0.mk (hbox); have GW101 := yg hg HB; have GE101 := yg hg HB; replace HB := yS HB hb; clear hb hbox hg) | ((with_reducible refine gate_dst (N := 3) rfl ?_); refine box_event ?hg (N := 3) ?hd (cs := #[.bool a1_0, .slice A1_1 l1_1.length c1_1, .slice A1_2 l1_2.length c1_2]) (t := 60) ?hr ?_; (case hd => rfl); (case hg => rfl); (case hr => first | (go_simp; done) | (go_simp; rfl)); intro gb102 hg w13 hbox hb; have BK102 := Aside0.mk (hbox); have GW102 := yg1 hg HB GE101; have GE102 := yg1 hg HB GE101; replace HB := yS1 HB GE101 hb; have NB101_102 := ynl hg BK101; have NB102_101 := yng hg BK101; replace BK101 := yK BK101 hb; clear hb hbox hg; have hnb14 := NB101_102.out; have hnc14 := NB102_101.out; have hcz15_0 : w13.cell? ⟨gb101, 0, none⟩ = some (.bool a0_0) := (blk_cell BK101.out 0).trans rfl; have hcz15_1 : w13.cell? ⟨gb101, 1, none⟩ = some (.slice A0_1 l0_1.length c0_1) := (blk_cell BK101.out 1).trans rfl; have hcz15_2 : w13.cell? ⟨gb101, 2, none⟩ = some (.slice A0_2 l0_2.length c0_2) := (blk_cell BK101.out 2).trans rfl; have hfz15_0 := blk_frozen BK101.out 0; have hfz15_1 := blk_frozen BK101.out 1; have hfz15_2 := blk_frozen BK101.out 2; have hcz16_0 : w13.cell? ⟨gb102, 0, none⟩ = some (.bool a1_0) := (blk_cell BK102.out 0).trans rfl; have hcz16_1 : w13.cell? ⟨gb102, 1, none⟩ = some (.slice A1_1 l1_1.length c1_1) := (blk_cell BK102.out 1).trans rfl; have hcz16_2 : w13.cell? ⟨gb102, 2, none⟩ = some (.slice A1_2 l1_2.length c1_2) := (blk_cell BK102.out 2).trans rfl; have hfz16_0 := blk_frozen BK102.out 0; have hfz16_1 := blk_frozen BK102.out 1; have hfz16_2 := blk_frozen BK102.out 2) | (go_at_call 25; (with_reducible refine (codewrightref01_Same.calls k _ _ l0_1 _ _ l1_1 false _ ?side1 ?side2 ?side3 ?side4 A4.out).mono ?_); (case side1 => exact zC (Kd.C_below HR0_1.out HB.out)); (case side2 => exact HC0_1.out); (case side3 => exact zC (Kd.C_below HR1_1.out HB.out)); (case side4 => exact HC1_1.out); rintro e w' ⟨rfl, ⟨nd, rfl⟩⟩))
   go_ret
   exact ⟨zE, zB2 HB.out GE101.out GE102.out⟩
 have c3b0 : (a0_0 == a1_0) = false := by simpa using c3
 (try (have c3b1 : decide (a0_0 = a1_0) = false := by simpa using c3))
 (try (have c3b2 : (a0_0 == a1_0) = false := by simpa using c3))
 (try (have c3b3 : ¬ (a0_0 = a1_0) := by simpa using c3))
 clear c3
 obtain rfl := Option.some.inj H
 go_enter Try.func45, Try.ntmps45
 go_wp2_with (first | ((with_reducible refine gate_dst (N := 2) rfl ?_); refine box_event ?hg (N := 2) ?hd (cs := #[.bool a0_0, .slice A0_1 l0_1.length c0_1, .slice A0_2 l0_2.length c0_2]) (t := 60) ?hr ?_; (case hd => rfl); (case hg => rfl); (case hr => first | (go_simp; done) | (go_simp; rfl)); intro gb101 hg w17 hbox hb; have BK101 := Aside0.mk (hbox); have GW101 := yg hg HB; have GE101 := yg hg HB; replace HB := yS HB hb; clear hb hbox hg) | ((with_reducible refine gate_dst (N := 3) rfl ?_); refine box_event ?hg (N := 3) ?hd (cs := #[.bool a1_0, .slice A1_1 l1_1.length c1_1, .slice A1_2 l1_2.length c1_2]) (t := 60) ?hr ?_; (case hd => rfl); (case hg => rfl); (case hr => first | (go_simp; done) | (go_simp; rfl)); intro gb102 hg w18 hbox hb; have BK102 := Aside0.mk (hbox); have GW102 := yg1 hg HB GE101; have GE102 := yg1 hg HB GE101; replace HB := yS1 HB GE101 hb; have NB101_102 := ynl hg BK101; have NB102_101 := yng hg BK101; replace BK101 := yK BK101 hb; clear hb hbox hg; have hnb19 := NB101_102.out; have hnc19 := NB102_101.out; have hcz20_0 : w18.cell? ⟨gb101, 0, none⟩ = some (.bool a0_0) := (blk_cell BK101.out 0).trans rfl; have hcz20_1 : w18.cell? ⟨gb101, 1, none⟩ = some (.slice A0_1 l0_1.length c0_1) := (blk_cell BK101.out 1).trans rfl; have hcz20_2 : w18.cell? ⟨gb101, 2, none⟩ = some (.slice A0_2 l0_2.length c0_2) := (blk_cell BK101.out 2).trans rfl; have hfz20_0 := blk_frozen BK101.out 0; have hfz20_1 := blk_frozen BK101.out 1; have hfz20_2 := blk_frozen BK101.out 2; have hcz21_0 : w18.cell? ⟨gb102, 0, none⟩ = some (.bool a1_0) := (blk_cell BK102.out 0).trans rfl; have hcz21_1 : w18.cell? ⟨gb102, 1, none⟩ = some (.slice A1_1 l1_1.length c1_1) := (blk_cell BK102.out 1).trans rfl; have hcz21_2 : w18.cell? ⟨gb102, 2, none⟩ = some (.slice A1_2 l1_2.length c1_2) := (blk_cell BK102.out 2).trans rfl; have hfz21_0 := blk_frozen BK102.out 0; have hfz21_1 := blk_frozen BK102.out 1; have hfz21_2 := blk_frozen BK102.out 2))
 go_ret
 exact ⟨zE, zB2 HB.out GE101.out GE102.out⟩
def codewrightlaw24_MacwilliamsKrawtchouk.T4 : Bool × List (List Nat × List Nat) := (true, [([], []), ([0], [0]), ([1], [1]), ([2], [2]), ([2], [2]), ([2], [2]), ([2], [2]), ([2], [2]), ([4, 5, 6, 7, 2, 2], [2, 4, 5, 6, 7]), ([3, 8, 8, 2], [2, 3, 8]), ([2, 9], [2, 9]), ([10, 9, 0, 1, 2, 3, 4, 5, 6, 7, 8, 9, 10], [10])])
def codewrightlaw24_MacwilliamsKrawtchouk.B4 : List Nat := [0, 1, 3, 7, 7, 7, 7, 7, 247, 511, 1023, 2047]
theorem codewrightlaw24_MacwilliamsKrawtchouk.tab4 : rtab .any (opsOf Try.f8 4) = codewrightlaw24_MacwilliamsKrawtchouk.T4 := by kernel_rfl
theorem codewrightlaw24_MacwilliamsKrawtchouk.bits4 : waitsOk codewrightlaw24_MacwilliamsKrawtchouk.T4.2 codewrightlaw24_MacwilliamsKrawtchouk.B4 = true := by kernel_rfl
set_option maxHeartbeats 8000000 in
set_option maxRecDepth 100000 in
theorem codewrightlaw24_MacwilliamsKrawtchouk.calls (k : Nat) (a0 : Int) (a1 : Int) (a2 : Int) (a3 : Int) (r : Bool) (w : World) (h : codewrightlaw24_MacwilliamsKrawtchouk.f k a0 a1 a2 a3 = some r) :
    Calls Try.prog 8 #[.int .i64 a0, .int .i64 a1, .int .i64 a2, .int .i64 a3] w fun e w' => e = .returned (.bool r) ∧ Below w.heap.size w w' := by
 have hu60 := Try.underlying60
 have HB := Aside0.mk (Below.refl w.heap.size w)
 have H : ((macwilliams_Krawtchouk.f k a0 a1 a2 a3).bind fun bt101 => ((codewrightref24_Order.f a0).bind fun t110 => (if t110 = 0 then (if a1 < 0 then (codewrightlaw24_MacwilliamsKrawtchouk.j0 k a0 a1 a2 a3 bt101.2.2.2 true bt101.1 bt101.2.1 bt101.2.2.1) else (if a1 > 64 then (codewrightlaw24_MacwilliamsKrawtchouk.j0 k a0 a1 a2 a3 bt101.2.2.2 true bt101.1 bt101.2.1 bt101.2.2.1) else (if a2 < 0 then (codewrightlaw24_MacwilliamsKrawtchouk.j0 k a0 a1 a2 a3 bt101.2.2.2 true bt101.1 bt101.2.1 bt101.2.2.1) else (if a2 > a1 then (codewrightlaw24_MacwilliamsKrawtchouk.j0 k a0 a1 a2 a3 bt101.2.2.2 true bt101.1 bt101.2.1 bt101.2.2.1) else (if a3 < 0 then (codewrightlaw24_MacwilliamsKrawtchouk.j0 k a0 a1 a2 a3 bt101.2.2.2 true bt101.1 bt101.2.1 bt101.2.2.1) else (codewrightlaw24_MacwilliamsKrawtchouk.j0 k a0 a1 a2 a3 bt101.2.2.2 (decide (a3 > a1)) bt101.1 bt101.2.1 bt101.2.2.1)))))) else (codewrightlaw24_MacwilliamsKrawtchouk.j0 k a0 a1 a2 a3 bt101.2.2.2 true bt101.1 bt101.2.1 bt101.2.2.1)))) = some r := h
 clear h
 replace H := zb H
 obtain ⟨⟨t101, t102, t105, t108⟩, A5, H⟩ := H
 dsimp only at H
 have HC6 := Aside0.mk H
 clear H
 go_enter Try.func8, Try.ntmps8
 go_upto_region 2 with (first | ((with_reducible refine gate_callee (f := 42) rfl ?_); refine zG (some 16) Try.func42 #[.int .i64 a0, .int .i64 a1, .int .i64 a2, .int .i64 a3] ?_; (with_reducible refine (macwilliams_Krawtchouk.calls k a0 a1 a2 a3 t101 t102 t105 t108 _ A5.out).mono ?_); rintro e w7 ⟨v103, v106, rfl, ho0, ho1, hb⟩; refine ⟨_, rfl, ?_⟩; have HO104 := yVm ho0 HB; have HO107 := yVm ho1 HB; replace HB := yS HB hb; (try clear hb ho0); (try clear ho1)) | ((with_reducible refine gate_dst (N := 9) rfl ?_); refine box_event ?hg (N := 9) ?hd (cs := #[.bool false, .slice none 0 0, .slice none 0 0]) (t := 60) ?hr ?_; (case hd => rfl); (case hg => rfl); (case hr => first | (go_simp; done) | (go_simp; rfl)); intro gb109 hg w8 hbox hb; replace HO104 := yVB HO104 hg hb; replace HO107 := yVB HO107 hg hb; have BK109 := Aside0.mk (hbox); have GW109 := yg hg HB; have GE109 := yg hg HB; replace HB := yS HB hb; clear hb hbox hg; have hcz9_0 : w8.cell? ⟨gb109, 0, none⟩ = some (.bool false) := (blk_cell BK109.out 0).trans rfl; have hcz9_1 : w8.cell? ⟨gb109, 1, none⟩ = some (.slice none 0 0) := (blk_cell BK109.out 1).trans rfl; have hcz9_2 : w8.cell? ⟨gb109, 2, none⟩ = some (.slice none 0 0) := (blk_cell BK109.out 2).trans rfl; have hfz9_0 := blk_frozen BK109.out 0; have hfz9_1 := blk_frozen BK109.out 1; have hfz9_2 := blk_frozen BK109.out 2; obtain ⟨Ao10, co10, rfl⟩ := Kd.V_slice HO104.out; obtain ⟨Ao11, co11, rfl⟩ := Kd.V_slice HO107.out))
 (try simp only [Act.put, List.setIfInBounds_toArray, List.set_cons_zero, List.set_cons_succ])
 go_cut [47] (fun v47 wc => ∃ (kq : Nat) (x47_5 : Bool), v47 = .bool x47_5 ∧ Aside0 (codewrightlaw24_MacwilliamsKrawtchouk.j0 kq a0 a1 a2 a3 t108 x47_5 t101 t102 t105 = some r) ∧ Aside0 (kq ≤ k) ∧ Aside0 (Kd.V (Kd.int .u32) 97 wc w.heap.size (fun k_ => k_ ≠ gb109) (.slice Ao10 t102.length co10) t102) ∧ Aside0 (Kd.V (Kd.int .u32) 97 wc w.heap.size (fun k_ => k_ ≠ gb109) (.slice Ao11 t105.length co11) t105) ∧ Aside0 (wc.heap[gb109]? = some (.cells #[.bool t101, (.slice Ao10 t102.length co10), (.slice Ao11 t105.length co11)] 60 (0, 0))) ∧ Aside0 (Below w.heap.size w wc))
 case first =>
  have H := HC6.out
  clear HC6
  replace H := zb H
  obtain ⟨t110, A12, H⟩ := H
  replace H := zi H
  rcases H with ⟨c13, H⟩ | ⟨c13, H⟩
  · have c13b0 := beq_iff_eq.mpr c13
    have c13b1 := bne_eq_false_iff_eq.mpr c13
    clear c13
    (first | rw [c13b0] | (simp only [i64_w, i32_w]; rw [c13b0]) | rw [c13b1] | skip)
    replace H := zi H
    rcases H with ⟨c14, H⟩ | ⟨c14, H⟩
    · have c14b0 := decide_eq_true c14
      clear c14
      have H' := Aside0.mk H
      clear H
      go_wp2_with (first | ((with_reducible refine gate_callee (f := 43) rfl ?_); refine zG (some 20) Try.func43 #[.int .i64 a0] ?_; (with_reducible refine (codewrightref24_Order.calls a0 t110 _ A12.out).mono ?_); rintro e w' ⟨rfl, ⟨nd, rfl⟩⟩; refine ⟨_, rfl, ?_⟩))
      go_meet
      case rel => exact ⟨_, (true), zF, H', ⟨zO⟩, ⟨by (with_reducible repeat (first | apply Kd.V_alloc | apply Kd.V_drewN | apply Kd.V_drew)); exact Kd.V_mono (Kd.V_far (p := ⟨gb109, 2, none⟩) (Kd.V_far (p := ⟨gb109, 1, none⟩) (Kd.V_far (p := ⟨gb109, 0, none⟩) (Kd.V_mono HO104.out (fun k_ hk => (⟨hk, hk.2⟩ : _ ∧ k_ ≠ gb109))) (fun _ hk => hk.2) (.bool t101)) (fun _ hk => hk.2) (.slice Ao10 t102.length co10)) (fun _ hk => hk.2) (.slice Ao11 t105.length co11)) (fun _ hk => hk.1.2)⟩, ⟨by (with_reducible repeat (first | apply Kd.V_alloc | apply Kd.V_drewN | apply Kd.V_drew)); exact Kd.V_mono (Kd.V_far (p := ⟨gb109, 2, none⟩) (Kd.V_far (p := ⟨gb109, 1, none⟩) (Kd.V_far (p := ⟨gb109, 0, none⟩) (Kd.V_mono HO107.out (fun k_ hk => (⟨hk, hk.2⟩ : _ ∧ k_ ≠ gb109))) (fun _ hk => hk.2) (.bool t101)) (fun _ hk => hk.2) (.slice Ao10 t102.length co10)) (fun _ hk => hk.2) (.slice Ao11 t105.length co11)) (fun _ hk => hk.1.2)⟩, ⟨by (with_reducible repeat (first | refine blk_drewN ?_ _ | refine blk_drew ?_ | refine blk_alloc ?_ _)); refine blk_put (cs := #[.bool t101, .slice Ao10 t102.length co10, .slice none 0 0]) ?_ 2 _ rfl; (with_reducible repeat (first | refine blk_drewN ?_ _ | refine blk_drew ?_ | refine blk_alloc ?_ _)); refine blk_put (cs := #[.bool t101, .slice none 0 0, .slice none 0 0]) ?_ 1 _ rfl; (with_reducible repeat (first | refine blk_drewN ?_ _ | refine blk_drew ?_ | refine blk_alloc ?_ _)); refine blk_put (cs := #[.bool false, .slice none 0 0, .slice none 0 0]) ?_ 0 _ rfl; (with_reducible repeat (first | refine blk_drewN ?_ _ | refine blk_drew ?_ | refine blk_alloc ?_ _)); exact BK109.out⟩, ⟨zB1 HB.out GE109.out⟩⟩
    have c14b0 := decide_eq_false c14
    clear c14
    replace H := zi H
    rcases H with ⟨c15, H⟩ | ⟨c15, H⟩
    · have c15b0 : decide (64 < a1) = true := decide_eq_true c15
      clear c15
      have H' := Aside0.mk H
      clear H
      go_wp2_with (first | ((with_reducible refine gate_callee (f := 43) rfl ?_); refine zG (some 20) Try.func43 #[.int .i64 a0] ?_; (with_reducible refine (codewrightref24_Order.calls a0 t110 _ A12.out).mono ?_); rintro e w' ⟨rfl, ⟨nd, rfl⟩⟩; refine ⟨_, rfl, ?_⟩))
      go_meet
      case rel => exact ⟨_, (true), zF, H', ⟨zO⟩, ⟨by (with_reducible repeat (first | apply Kd.V_alloc | apply Kd.V_drewN | apply Kd.V_drew)); exact Kd.V_mono (Kd.V_far (p := ⟨gb109, 2, none⟩) (Kd.V_far (p := ⟨gb109, 1, none⟩) (Kd.V_far (p := ⟨gb109, 0, none⟩) (Kd.V_mono HO104.out (fun k_ hk => (⟨hk, hk.2⟩ : _ ∧ k_ ≠ gb109))) (fun _ hk => hk.2) (.bool t101)) (fun _ hk => hk.2) (.slice Ao10 t102.length co10)) (fun _ hk => hk.2) (.slice Ao11 t105.length co11)) (fun _ hk => hk.1.2)⟩, ⟨by (with_reducible repeat (first | apply Kd.V_alloc | apply Kd.V_drewN | apply Kd.V_drew)); exact Kd.V_mono (Kd.V_far (p := ⟨gb109, 2, none⟩) (Kd.V_far (p := ⟨gb109, 1, none⟩) (Kd.V_far (p := ⟨gb109, 0, none⟩) (Kd.V_mono HO107.out (fun k_ hk => (⟨hk, hk.2⟩ : _ ∧ k_ ≠ gb109))) (fun _ hk => hk.2) (.bool t101)) (fun _ hk => hk.2) (.slice Ao10 t102.length co10)) (fun _ hk => hk.2) (.slice Ao11 t105.length co11)) (fun _ hk => hk.1.2)⟩, ⟨by (with_reducible repeat (first | refine blk_drewN ?_ _ | refine blk_drew ?_ | refine blk_alloc ?_ _)); refine blk_put (cs := #[.bool t101, .slice Ao10 t102.length co10, .slice none 0 0]) ?_ 2 _ rfl; (with_reducible repeat (first | refine blk_drewN ?_ _ | refine blk_drew ?_ | refine blk_alloc ?_ _)); refine blk_put (cs := #[.bool t101, .slice none 0 0, .slice none 0 0]) ?_ 1 _ rfl; (with_reducible repeat (first | refine blk_drewN ?_ _ | refine blk_drew ?_ | refine blk_alloc ?_ _)); refine blk_put (cs := #[.bool false, .slice none 0 0, .slice none 0 0]) ?_ 0 _ rfl; (with_reducible repeat (first | refine blk_drewN ?_ _ | refine blk_drew ?_ | refine blk_alloc ?_ _)); exact BK109.out⟩, ⟨zB1 HB.out GE109.out⟩⟩
    have c15b0 : decide (64 < a1) = false := decide_eq_false c15
    clear c15
    replace H := zi H
    rcases H with ⟨c16, H⟩ | ⟨c16, H⟩
    · have c16b0 := decide_eq_true c16
      clear c16
      have H' := Aside0.mk H
      clear H
      go_wp2_with (first | ((with_reducible refine gate_callee (f := 43) rfl ?_); refine zG (some 20) Try.func43 #[.int .i64 a0] ?_; (with_reducible refine (codewrightref24_Order.calls a0 t110 _ A12.out).mono ?_); rintro e w' ⟨rfl, ⟨nd, rfl⟩⟩; refine ⟨_, rfl, ?_⟩))
      go_meet
      case rel => exact ⟨_, (true), zF, H', ⟨zO⟩, ⟨by (with_reducible repeat (first | apply Kd.V_alloc | apply Kd.V_drewN | apply Kd.V_drew)); exact Kd.V_mono (Kd.V_far (p := ⟨gb109, 2, none⟩) (Kd.V_far (p := ⟨gb109, 1, none⟩) (Kd.V_far (p := ⟨gb109, 0, none⟩) (Kd.V_mono HO104.out (fun k_ hk => (⟨hk, hk.2⟩ : _ ∧ k_ ≠ gb109))) (fun _ hk => hk.2) (.bool t101)) (fun _ hk => hk.2) (.slice Ao10 t102.length co10)) (fun _ hk => hk.2) (.slice Ao11 t105.length co11)) (fun _ hk => hk.1.2)⟩, ⟨by (with_reducible repeat (first | apply Kd.V_alloc | apply Kd.V_drewN | apply Kd.V_drew)); exact Kd.V_mono (Kd.V_far (p := ⟨gb109, 2, none⟩) (Kd.V_far (p := ⟨gb109, 1, none⟩) (Kd.V_far (p := ⟨gb109, 0, none⟩) (Kd.V_mono HO107.out (fun k_ hk => (⟨hk, hk.2⟩ : _ ∧ k_ ≠ gb109))) (fun _ hk => hk.2) (.bool t101)) (fun _ hk => hk.2) (.slice Ao10 t102.length co10)) (fun _ hk => hk.2) (.slice Ao11 t105.length co11)) (fun _ hk => hk.1.2)⟩, ⟨by (with_reducible repeat (first | refine blk_drewN ?_ _ | refine blk_drew ?_ | refine blk_alloc ?_ _)); refine blk_put (cs := #[.bool t101, .slice Ao10 t102.length co10, .slice none 0 0]) ?_ 2 _ rfl; (with_reducible repeat (first | refine blk_drewN ?_ _ | refine blk_drew ?_ | refine blk_alloc ?_ _)); refine blk_put (cs := #[.bool t101, .slice none 0 0, .slice none 0 0]) ?_ 1 _ rfl; (with_reducible repeat (first | refine blk_drewN ?_ _ | refine blk_drew ?_ | refine blk_alloc ?_ _)); refine blk_put (cs := #[.bool false, .slice none 0 0, .slice none 0 0]) ?_ 0 _ rfl; (with_reducible repeat (first | refine blk_drewN ?_ _ | refine blk_drew ?_ | refine blk_alloc ?_ _)); exact BK109.out⟩, ⟨zB1 HB.out GE109.out⟩⟩
    have c16b0 := decide_eq_false c16
    clear c16
    replace H := zi H
    rcases H with ⟨c17, H⟩ | ⟨c17, H⟩
    · have c17b0 : decide (a1 < a2) = true := decide_eq_true c17
      clear c17
      have H' := Aside0.mk H
      clear H
      go_wp2_with (first | ((with_reducible refine gate_callee (f := 43) rfl ?_); refine zG (some 20) Try.func43 #[.int .i64 a0] ?_; (with_reducible refine (codewrightref24_Order.calls a0 t110 _ A12.out).mono ?_); rintro e w' ⟨rfl, ⟨nd, rfl⟩⟩; refine ⟨_, rfl, ?_⟩))
      go_meet
      case rel => exact ⟨_, (true), zF, H', ⟨zO⟩, ⟨by (with_reducible repeat (first | apply Kd.V_alloc | apply Kd.V_drewN | apply Kd.V_drew)); exact Kd.V_mono (Kd.V_far (p := ⟨gb109, 2, none⟩) (Kd.V_far (p := ⟨gb109, 1, none⟩) (Kd.V_far (p := ⟨gb109, 0, none⟩) (Kd.V_mono HO104.out (fun k_ hk => (⟨hk, hk.2⟩ : _ ∧ k_ ≠ gb109))) (fun _ hk => hk.2) (.bool t101)) (fun _ hk => hk.2) (.slice Ao10 t102.length co10)) (fun _ hk => hk.2) (.slice Ao11 t105.length co11)) (fun _ hk => hk.1.2)⟩, ⟨by (with_reducible repeat (first | apply Kd.V_alloc | apply Kd.V_drewN | apply Kd.V_drew)); exact Kd.V_mono (Kd.V_far (p := ⟨gb109, 2, none⟩) (Kd.V_far (p := ⟨gb109, 1, none⟩) (Kd.V_far (p := ⟨gb109, 0, none⟩) (Kd.V_mono HO107.out (fun k_ hk => (⟨hk, hk.2⟩ : _ ∧ k_ ≠ gb109))) (fun _ hk => hk.2) (.bool t101)) (fun _ hk => hk.2) (.slice Ao10 t102.length co10)) (fun _ hk => hk.2) (.slice Ao11 t105.length co11)) (fun _ hk => hk.1.2)⟩, ⟨by (with_reducible repeat (first | refine blk_drewN ?_ _ | refine blk_drew ?_ | refine blk_alloc ?_ _)); refine blk_put (cs := #[.bool t101, .slice Ao10 t102.length co10, .slice none 0 0]) ?_ 2 _ rfl; (with_reducible repeat (first | refine blk_drewN ?_ _ | refine blk_drew ?_ | refine blk_alloc ?_ _)); refine blk_put (cs := #[.bool t101, .slice none 0 0, .slice none 0 0]) ?_ 1 _ rfl; (with_reducible repeat (first | refine blk_drewN ?_ _ | refine blk_drew ?_ | refine blk_alloc ?_ _)); refine blk_put (cs := #[.bool false, .slice none 0 0, .slice none 0 0]) ?_ 0 _ rfl; (with_reducible repeat (first | refine blk_drewN ?_ _ | refine blk_drew ?_ | refine blk_alloc ?_ _)); exact BK109.out⟩, ⟨zB1 HB.out GE109.out⟩⟩
    have c17b0 : decide (a1 < a2) = false := decide_eq_false c17
    clear c17
    replace H := zi H
    rcases H with ⟨c18, H⟩ | ⟨c18, H⟩
    · have c18b0 := decide_eq_true c18
      clear c18
      have H' := Aside0.mk H
      clear H
      go_wp2_with (first | ((with_reducible refine gate_callee (f := 43) rfl ?_); refine zG (some 20) Try.func43 #[.int .i64 a0] ?_; (with_reducible refine (codewrightref24_Order.calls a0 t110 _ A12.out).mono ?_); rintro e w' ⟨rfl, ⟨nd, rfl⟩⟩; refine ⟨_, rfl, ?_⟩))
      go_meet
      case rel => exact ⟨_, (true), zF, H', ⟨zO⟩, ⟨by (with_reducible repeat (first | apply Kd.V_alloc | apply Kd.V_drewN | apply Kd.V_drew)); exact Kd.V_mono (Kd.V_far (p := ⟨gb109, 2, none⟩) (Kd.V_far (p := ⟨gb109, 1, none⟩) (Kd.V_far (p := ⟨gb109, 0, none⟩) (Kd.V_mono HO104.out (fun k_ hk => (⟨hk, hk.2⟩ : _ ∧ k_ ≠ gb109))) (fun _ hk => hk.2) (.bool t101)) (fun _ hk => hk.2) (.slice Ao10 t102.length co10)) (fun _ hk => hk.2) (.slice Ao11 t105.length co11)) (fun _ hk => hk.1.2)⟩, ⟨by (with_reducible repeat (first | apply Kd.V_alloc | apply Kd.V_drewN | apply Kd.V_drew)); exact Kd.V_mono (Kd.V_far (p := ⟨gb109, 2, none⟩) (Kd.V_far (p := ⟨gb109, 1, none⟩) (Kd.V_far (p := ⟨gb109, 0, none⟩) (Kd.V_mono HO107.out (fun k_ hk => (⟨hk, hk.2⟩ : _ ∧ k_ ≠ gb109))) (fun _ hk => hk.2) (.bool t101)) (fun _ hk => hk.2) (.slice Ao10 t102.length co10)) (fun _ hk => hk.2) (.slice Ao11 t105.length co11)) (fun _ hk => hk.1.2)⟩, ⟨by (with_reducible repeat (first | refine blk_drewN ?_ _ | refine blk_drew ?_ | refine blk_alloc ?_ _)); refine blk_put (cs := #[.bool t101, .slice Ao10 t102.length co10, .slice none 0 0]) ?_ 2 _ rfl; (with_reducible repeat (first | refine blk_drewN ?_ _ | refine blk_drew ?_ | refine blk_alloc ?_ _)); refine blk_put (cs := #[.bool t101, .slice none 0 0, .slice none 0 0]) ?_ 1 _ rfl; (with_reducible repeat (first | refine blk_drewN ?_ _ | refine blk_drew ?_ | refine blk_alloc ?_ _)); refine blk_put (cs := #[.bool false, .slice none 0 0, .slice none 0 0]) ?_ 0 _ rfl; (with_reducible repeat (first | refine blk_drewN ?_ _ | refine blk_drew ?_ | refine blk_alloc ?_ _)); exact BK109.out⟩, ⟨zB1 HB.out GE109.out⟩⟩
    have c18b0 := decide_eq_false c18
    clear c18
    have H' := Aside0.mk H
    clear H
    go_wp2_with (first | ((with_reducible refine gate_callee (f := 43) rfl ?_); refine zG (some 20) Try.func43 #[.int .i64 a0] ?_; (with_reducible refine (codewrightref24_Order.calls a0 t110 _ A12.out).mono ?_); rintro e w' ⟨rfl, ⟨nd, rfl⟩⟩; refine ⟨_, rfl, ?_⟩))
    go_meet
    case rel => exact ⟨_, (decide (a3 > a1)), zF, H', ⟨zO⟩, ⟨by (with_reducible repeat (first | apply Kd.V_alloc | apply Kd.V_drewN | apply Kd.V_drew)); exact Kd.V_mono (Kd.V_far (p := ⟨gb109, 2, none⟩) (Kd.V_far (p := ⟨gb109, 1, none⟩) (Kd.V_far (p := ⟨gb109, 0, none⟩) (Kd.V_mono HO104.out (fun k_ hk => (⟨hk, hk.2⟩ : _ ∧ k_ ≠ gb109))) (fun _ hk => hk.2) (.bool t101)) (fun _ hk => hk.2) (.slice Ao10 t102.length co10)) (fun _ hk => hk.2) (.slice Ao11 t105.length co11)) (fun _ hk => hk.1.2)⟩, ⟨by (with_reducible repeat (first | apply Kd.V_alloc | apply Kd.V_drewN | apply Kd.V_drew)); exact Kd.V_mono (Kd.V_far (p := ⟨gb109, 2, none⟩) (Kd.V_far (p := ⟨gb109, 1, none⟩) (Kd.V_far (p := ⟨gb109, 0, none⟩) (Kd.V_mono HO107.out (fun k_ hk => (⟨hk, hk.2⟩ : _ ∧ k_ ≠ gb109))) (fun _ hk => hk.2) (.bool t101)) (fun _ hk => hk.2) (.slice Ao10 t102.length co10)) (fun _ hk => hk.2) (.slice Ao11 t105.length co11)) (fun _ hk => hk.1.2)⟩, ⟨by (with_reducible repeat (first | refine blk_drewN ?_ _ | refine blk_drew ?_ | refine blk_alloc ?_ _)); refine blk_put (cs := #[.bool t101, .slice Ao10 t102.length co10, .slice none 0 0]) ?_ 2 _ rfl; (with_reducible repeat (first | refine blk_drewN ?_ _ | refine blk_drew ?_ | refine blk_alloc ?_ _)); refine blk_put (cs := #[.bool t101, .slice none 0 0, .slice none 0 0]) ?_ 1 _ rfl; (with_reducible repeat (first | refine blk_drewN ?_ _ | refine blk_drew ?_ | refine blk_alloc ?_ _)); refine blk_put (cs := #[.bool false, .slice none 0 0, .slice none 0 0]) ?_ 0 _ rfl; (with_reducible repeat (first | refine blk_drewN ?_ _ | refine blk_drew ?_ | refine blk_alloc ?_ _)); exact BK109.out⟩, ⟨zB1 HB.out GE109.out⟩⟩
  have c13b0 := beq_eq_false_iff_ne.mpr c13
  have c13b1 := bne_iff_ne.mpr c13
  (first | rw [c13b0] | (simp only [i64_w, i32_w]; rw [c13b0]) | rw [c13b1] | skip)
  have H' := Aside0.mk H
  clear H
  go_wp2_with (first | ((with_reducible refine gate_callee (f := 43) rfl ?_); refine zG (some 20) Try.func43 #[.int .i64 a0] ?_; (with_reducible refine (codewrightref24_Order.calls a0 t110 _ A12.out).mono ?_); rintro e w' ⟨rfl, ⟨nd, rfl⟩⟩; refine ⟨_, rfl, ?_⟩))
  go_meet
  case rel => exact ⟨_, (true), zF, H', ⟨zO⟩, ⟨by (with_reducible repeat (first | apply Kd.V_alloc | apply Kd.V_drewN | apply Kd.V_drew)); exact Kd.V_mono (Kd.V_far (p := ⟨gb109, 2, none⟩) (Kd.V_far (p := ⟨gb109, 1, none⟩) (Kd.V_far (p := ⟨gb109, 0, none⟩) (Kd.V_mono HO104.out (fun k_ hk => (⟨hk, hk.2⟩ : _ ∧ k_ ≠ gb109))) (fun _ hk => hk.2) (.bool t101)) (fun _ hk => hk.2) (.slice Ao10 t102.length co10)) (fun _ hk => hk.2) (.slice Ao11 t105.length co11)) (fun _ hk => hk.1.2)⟩, ⟨by (with_reducible repeat (first | apply Kd.V_alloc | apply Kd.V_drewN | apply Kd.V_drew)); exact Kd.V_mono (Kd.V_far (p := ⟨gb109, 2, none⟩) (Kd.V_far (p := ⟨gb109, 1, none⟩) (Kd.V_far (p := ⟨gb109, 0, none⟩) (Kd.V_mono HO107.out (fun k_ hk => (⟨hk, hk.2⟩ : _ ∧ k_ ≠ gb109))) (fun _ hk => hk.2) (.bool t101)) (fun _ hk => hk.2) (.slice Ao10 t102.length co10)) (fun _ hk => hk.2) (.slice Ao11 t105.length co11)) (fun _ hk => hk.1.2)⟩, ⟨by (with_reducible repeat (first | refine blk_drewN ?_ _ | refine blk_drew ?_ | refine blk_alloc ?_ _)); refine blk_put (cs := #[.bool t101, .slice Ao10 t102.length co10, .slice none 0 0]) ?_ 2 _ rfl; (with_reducible repeat (first | refine blk_drewN ?_ _ | refine blk_drew ?_ | refine blk_alloc ?_ _)); refine blk_put (cs := #[.bool t101, .slice none 0 0, .slice none 0 0]) ?_ 1 _ rfl; (with_reducible repeat (first | refine blk_drewN ?_ _ | refine blk_drew ?_ | refine blk_alloc ?_ _)); refine blk_put (cs := #[.bool false, .slice none 0 0, .slice none 0 0]) ?_ 0 _ rfl; (with_reducible repeat (first | refine blk_drewN ?_ _ | refine blk_drew ?_ | refine blk_alloc ?_ _)); exact BK109.out⟩, ⟨zB1 HB.out GE109.out⟩⟩
 clear HC6
 (try clear c1);(try clear p2);(try clear c4);(try clear c8);(try clear c13);(try clear c13b0);(try clear c13b1);(try clear c14);(try clear c14b0);(try clear c15);(try clear c15b0);(try clear c16);(try clear c16b0);(try clear c17);(try clear c17b0);(try clear c18);(try clear c18b0);(try clear hcz9_0);(try clear hcz9_1);(try clear hcz9_2);(try clear hfz9_0);(try clear hfz9_1);(try clear hfz9_2)
 obtain ⟨kq, x47_5, rfl, HA, HJ5, HO_110001, HO_110002, BK109, HB⟩ := hcut
 cases kq with | zero => exact absurd HA.out (by simp [codewrightlaw24_MacwilliamsKrawtchouk.j0]) | succ kj5 => ?_
 have H := HA.out
 clear HA
 simp only [codewrightlaw24_MacwilliamsKrawtchouk.j0] at H
 by_cases c19 : x47_5 = true
 · subst c19
   rw [if_pos rfl] at H
   replace H := zi H
   rcases H with ⟨c20, H⟩ | ⟨c20, H⟩
   · have c20b0 := beq_iff_eq.mpr c20
     have c20b1 := bne_eq_false_iff_eq.mpr c20
     clear c20
     replace H := zb H
     obtain ⟨t111, A21, H⟩ := H
     obtain rfl := Option.some.inj H
     have hcz22_0 : wc.cell? ⟨gb109, 0, none⟩ = some (.bool t101) := (blk_cell BK109.out 0).trans rfl
     have hcz22_1 : wc.cell? ⟨gb109, 1, none⟩ = some (.slice Ao10 t102.length co10) := (blk_cell BK109.out 1).trans rfl
     have hcz22_2 : wc.cell? ⟨gb109, 2, none⟩ = some (.slice Ao11 t105.length co11) := (blk_cell BK109.out 2).trans rfl
     have hfz22_0 := blk_frozen BK109.out 0
     have hfz22_1 := blk_frozen BK109.out 1
     have hfz22_2 := blk_frozen BK109.out 2
     go_wp2_with (first | (go_at_call 44; (with_reducible refine (codewrightref02_Nil.calls t101 _ _ t102 _ _ t105 t111 _ ?side1 ?side2 ?side3 ?side4 A21.out).mono ?_); (case side1 => exact zC (Kd.V_reads' HO_110001.out).2.2); (case side2 => exact (Kd.V_reads' HO_110001.out).2.1); (case side3 => exact zC (Kd.V_reads' HO_110002.out).2.2); (case side4 => exact (Kd.V_reads' HO_110002.out).2.1); rintro e w23 ⟨rfl, hb⟩; replace HO_110001 := yVb HO_110001 hb; replace HO_110002 := yVb HO_110002 hb; replace BK109 := yK BK109 hb; replace HB := yS1 HB GE109 hb; (try clear hb); (try clear hb2); (try clear hk); (try clear hi)))
     go_ret
     exact ⟨zE, zB1 HB.out GE109.out⟩
   have c20b0 := beq_eq_false_iff_ne.mpr c20
   have c20b1 := bne_iff_ne.mpr c20
   obtain rfl := Option.some.inj H
   go_wp2
   go_ret
   exact ⟨zE, zB1 HB.out GE109.out⟩
 replace c19 := Bool.eq_false_iff.mpr c19
 subst c19
 rw [if_neg Bool.false_ne_true] at H
 replace H := zi H
 rcases H with ⟨c24, H⟩ | ⟨c24, H⟩
 · have c24b0 := beq_iff_eq.mpr c24
   have c24b1 := bne_eq_false_iff_eq.mpr c24
   clear c24
   replace H := zb H
   obtain ⟨⟨t112, t113, t116⟩, A25, H⟩ := H
   dsimp only at H
   replace H := zb H
   obtain ⟨t119, A26, H⟩ := H
   obtain rfl := Option.some.inj H
   try go_wp2
   replace HO_110001 := Aside0.mk (Kd.V_drew HO_110001.out)
   replace HO_110002 := Aside0.mk (Kd.V_drew HO_110002.out)
   replace BK109 := Aside0.mk (blk_drew BK109.out)
   replace HB := Aside0.mk (below_drew1 HB.out)
   refine start_ (n := 12) (S := fun w' => w'.cell? ⟨gb109, 0, none⟩ = some (.bool t101) ∧ w'.cell? ⟨gb109, 1, none⟩ = some (.slice Ao10 t102.length co10) ∧ w'.cell? ⟨gb109, 2, none⟩ = some (.slice Ao11 t105.length co11)) (ds := []) #[false, false, false, false, false, false, false, false, false, false, false, false] (by kernel_rfl) rfl rfl ⟨(blk_cell BK109.out 0).trans rfl, (blk_cell BK109.out 1).trans rfl, (blk_cell BK109.out 2).trans rfl⟩ (fun hHeld => ?_); refine with_tabW codewrightlaw24_MacwilliamsKrawtchouk.tab4 codewrightlaw24_MacwilliamsKrawtchouk.bits4 (fun HT_ HW_ => ?_)
   generalize wc.drew = w27 at HO_110001 HO_110002 BK109 HB hHeld ⊢
   refine zp (i := 0) (N := some 54) HT_ ?_
   refine zp (i := 1) (N := some 55) HT_ ?_
   refine zp (i := 2) (N := some 56) HT_ ?_
   refine zp (i := 4) (N := some 58) HT_ ?_
   refine zp (i := 5) (N := some 59) HT_ ?_
   refine zp (i := 6) (N := some 60) HT_ ?_
   refine zp (i := 7) (N := some 61) HT_ ?_
   refine take_ (i := 3) (N := some 57) (v := ?_) (a' := ?_) #[true, true, true, true, true, true, true, true, false, false, false, false] rfl rfl (take_ofW HT_.out HW_.out (by kernel_rfl)) (fun _ _ _ h => h) (Or.inl ⟨by rfl, ?_⟩) hHeld ?_ ?_
   rotate_left
   · rintro w' ⟨s0, s1, s2⟩
     go_simp
     with_reducible rfl
   rotate_left
   · simp only [Act.put, List.setIfInBounds_toArray, List.set_cons_zero, List.set_cons_succ, i64_w, i32_w]
     rfl
   refine one_ (i := 8) (N := some 62) #[true, true, true, true, true, true, true, true, true, false, false, false] rfl rfl (one_of HT_.out (by kernel_rfl)) (by decide) (fun K hK => ?_)
   refine goes_ Try.func46 (by kernel_rfl) rfl #[.int .i64 a0, .int .i64 a1, .int .i64 a2, .int .i64 a3] (by rfl) rfl rfl (by (try simp only [List.map_toArray, List.map_cons, List.map_nil]); first | done | rfl | (simp only [List.length_drop, List.length_take]; rfl)) ?_
   with_reducible refine (codewrightref24_Krawtchouk.calls kj5 a0 a1 a2 a3 t112 t113 t116 _ A25.out).mono ?_
   rintro e w28 ⟨v114, v117, rfl, ho0, ho1, hb⟩
   refine ⟨_, rfl, ?_⟩
   replace HO_110001 := yVt HO_110001 hb ho0 ho1
   replace HO_110002 := yVt HO_110002 hb ho0 ho1
   have HO115 := yRl1 ho0 HB GE109
   have HO118 := yRl1 ho1 HB GE109
   replace BK109 := yK BK109 hb
   replace HB := yS1 HB GE109 hb
   (try clear hb)
   (try clear hb2)
   (try clear hk)
   (try clear hi)
   (try clear ho0)
   (try clear ho1)
   obtain ⟨Ao29, co29, eo29⟩ := Kd.R_slice HO115.out
   (first | subst eo29 | (injection eo29 with f1_ f2_ f3_; have f4_ := f1_.symm; have f5_ := f3_.symm; clear f1_ f2_ f3_; subst f4_; subst f5_))
   obtain ⟨Ao30, co30, eo30⟩ := Kd.R_slice HO118.out
   (first | subst eo30 | (injection eo30 with f1_ f2_ f3_; have f4_ := f1_.symm; have f5_ := f3_.symm; clear f1_ f2_ f3_; subst f4_; subst f5_))
   refine hK.out _ _ ⟨(blk_cell BK109.out 0).trans rfl, (blk_cell BK109.out 1).trans rfl, (blk_cell BK109.out 2).trans rfl⟩ (fun hHeld => ?_)
   clear hK K
   refine norm_ (a' := ?_) ?_ ?_
   rotate_left
   · show Act.put _ (some 62) _ = _
     simp only [Act.put, List.setIfInBounds_toArray, List.set_cons_zero, List.set_cons_succ, i64_w, i32_w]
     rfl
   refine one_ (i := 9) (N := some 63) #[true, true, true, true, true, true, true, true, true, true, false, false] rfl rfl (one_of HT_.out (by kernel_rfl)) (by decide) (fun K hK => ?_)
   refine goes_ Try.func45 (by kernel_rfl) rfl #[.agg #[.bool t101, .slice Ao10 t102.length co10, .slice Ao11 t105.length co11], .agg #[.bool t112, .slice Ao29 t113.length co29, .slice Ao30 t116.length co30]] (by rfl) rfl rfl (by (try simp only [List.map_toArray, List.map_cons, List.map_nil]); first | done | rfl | (simp only [List.length_drop, List.length_take]; rfl)) ?_
   with_reducible refine (codewrightref02_Same.calls kj5 t101 _ _ t102 _ _ t105 t112 _ _ t113 _ _ t116 t119 _ ?side1 ?side2 ?side3 ?side4 ?side5 ?side6 ?side7 ?side8 A26.out).mono ?_
   (case side1 => exact zC (Kd.V_reads' HO_110001.out).2.2)
   (case side2 => exact (Kd.V_reads' HO_110001.out).2.1)
   (case side3 => exact zC (Kd.V_reads' HO_110002.out).2.2)
   (case side4 => exact (Kd.V_reads' HO_110002.out).2.1)
   (case side5 => exact zC (Kd.R_reads' HO115.out).2.2)
   (case side6 => exact (Kd.R_reads' HO115.out).2.1)
   (case side7 => exact zC (Kd.R_reads' HO118.out).2.2)
   (case side8 => exact (Kd.R_reads' HO118.out).2.1)
   rintro e w31 ⟨rfl, hb⟩
   refine ⟨_, rfl, ?_⟩
   replace HO_110001 := yVb HO_110001 hb
   replace HO_110002 := yVb HO_110002 hb
   replace HO115 := yRb HO115 hb
   replace HO118 := yRb HO118 hb
   replace BK109 := yK BK109 hb
   replace HB := yS1 HB GE109 hb
   (try clear hb)
   (try clear hb2)
   (try clear hk)
   (try clear hi)
   refine hK.out _ _ ⟨(blk_cell BK109.out 0).trans rfl, (blk_cell BK109.out 1).trans rfl, (blk_cell BK109.out 2).trans rfl⟩ (fun hHeld => ?_)
   clear hK K
   refine norm_ (a' := ?_) ?_ ?_
   rotate_left
   · show Act.put _ (some 63) _ = _
     simp only [Act.put, List.setIfInBounds_toArray, List.set_cons_zero, List.set_cons_succ, i64_w, i32_w]
     rfl
   refine zp (i := 10) (N := some 64) HT_ ?_
   refine zp (i := 11) (N := some 8) HT_ ?_
   refine done_ (done_of HT_.out (by kernel_rfl)) ?_
   try go_wp2
   go_ret
   exact ⟨zE, zB1 HB.out GE109.out⟩
 have c24b0 := beq_eq_false_iff_ne.mpr c24
 have c24b1 := bne_iff_ne.mpr c24
 obtain rfl := Option.some.inj H
 try go_wp2
 replace HO_110001 := Aside0.mk (Kd.V_drew HO_110001.out)
 replace HO_110002 := Aside0.mk (Kd.V_drew HO_110002.out)
 replace BK109 := Aside0.mk (blk_drew BK109.out)
 replace HB := Aside0.mk (below_drew1 HB.out)
 refine start_ (n := 12) (S := fun w' => True) (ds := []) #[false, false, false, false, false, false, false, false, false, false, false, false] (by kernel_rfl) rfl rfl trivial (fun hHeld => ?_); refine with_tabW codewrightlaw24_MacwilliamsKrawtchouk.tab4 codewrightlaw24_MacwilliamsKrawtchouk.bits4 (fun HT_ HW_ => ?_)
 generalize wc.drew = w32 at HO_110001 HO_110002 BK109 HB hHeld ⊢
 refine zp (i := 0) (N := some 54) HT_ ?_
 refine zp (i := 1) (N := some 55) HT_ ?_
 refine zp (i := 2) (N := some 56) HT_ ?_
 refine pure_ (i := 3) (N := some 57) (v := undef) (a' := ?_) #[true, true, true, true, false, false, false, false, false, false, false, false] rfl rfl (any_of HT_.out (by kernel_rfl)) (fun _ _ _ h => h) (Or.inr ⟨by rfl, rfl⟩) ?_ ?_
 rotate_left
 · simp only [Act.put, List.setIfInBounds_toArray, List.set_cons_zero, List.set_cons_succ, i64_w, i32_w]
   rfl
 refine pure_ (i := 4) (N := some 58) (v := undef) (a' := ?_) #[true, true, true, true, true, false, false, false, false, false, false, false] rfl rfl (any_of HT_.out (by kernel_rfl)) (fun _ _ _ h => h) (Or.inr ⟨by rfl, rfl⟩) ?_ ?_
 rotate_left
 · simp only [Act.put, List.setIfInBounds_toArray, List.set_cons_zero, List.set_cons_succ, i64_w, i32_w]
   rfl
 refine pure_ (i := 5) (N := some 59) (v := undef) (a' := ?_) #[true, true, true, true, true, true, false, false, false, false, false, false] rfl rfl (any_of HT_.out (by kernel_rfl)) (fun _ _ _ h => h) (Or.inr ⟨by rfl, rfl⟩) ?_ ?_
 rotate_left
 · simp only [Act.put, List.setIfInBounds_toArray, List.set_cons_zero, List.set_cons_succ, i64_w, i32_w]
   rfl
 refine pure_ (i := 6) (N := some 60) (v := undef) (a' := ?_) #[true, true, true, true, true, true, true, false, false, false, false, false] rfl rfl (any_of HT_.out (by kernel_rfl)) (fun _ _ _ h => h) (Or.inr ⟨by rfl, rfl⟩) ?_ ?_
 rotate_left
 · simp only [Act.put, List.setIfInBounds_toArray, List.set_cons_zero, List.set_cons_succ, i64_w, i32_w]
   rfl
 refine pure_ (i := 7) (N := some 61) (v := undef) (a' := ?_) #[true, true, true, true, true, true, true, true, false, false, false, false] rfl rfl (any_of HT_.out (by kernel_rfl)) (fun _ _ _ h => h) (Or.inr ⟨by rfl, rfl⟩) ?_ ?_
 rotate_left
 · simp only [Act.put, List.setIfInBounds_toArray, List.set_cons_zero, List.set_cons_succ, i64_w, i32_w]
   rfl
 refine pure_ (i := 8) (N := some 62) (v := undef) (a' := ?_) #[true, true, true, true, true, true, true, true, true, false, false, false] rfl rfl (any_of HT_.out (by kernel_rfl)) (fun _ _ _ h => h) (Or.inr ⟨by rfl, rfl⟩) ?_ ?_
 rotate_left
 · simp only [Act.put, List.setIfInBounds_toArray, List.set_cons_zero, List.set_cons_succ, i64_w, i32_w]
   rfl
 refine pure_ (i := 9) (N := some 63) (v := undef) (a' := ?_) #[true, true, true, true, true, true, true, true, true, true, false, false] rfl rfl (any_of HT_.out (by kernel_rfl)) (fun _ _ _ h => h) (Or.inr ⟨by rfl, rfl⟩) ?_ ?_
 rotate_left
 · simp only [Act.put, List.setIfInBounds_toArray, List.set_cons_zero, List.set_cons_succ, i64_w, i32_w]
   rfl
 refine zp (i := 10) (N := some 64) HT_ ?_
 refine zp (i := 11) (N := some 8) HT_ ?_
 refine done_ (done_of HT_.out (by kernel_rfl)) ?_
 try go_wp2
 go_ret
 exact ⟨zE, zB1 HB.out GE109.out⟩
def codewrightlaw24_MacwilliamsKrawtchouk.Pure : Prop := ∀ (a0 : Int) (a1 : Int) (a2 : Int) (a3 : Int), (Lit.int .i64 a0).wf = true → (Lit.int .i64 a1).wf = true → (Lit.int .i64 a2).wf = true → (Lit.int .i64 a3).wf = true → ∃ k, codewrightlaw24_MacwilliamsKrawtchouk.f k a0 a1 a2 a3 = some true
theorem codewrightlaw24_MacwilliamsKrawtchouk.walk (P : codewrightlaw24_MacwilliamsKrawtchouk.Pure) (a0 : Int) (a1 : Int) (a2 : Int) (a3 : Int) (w : World) (w0 : (Lit.int .i64 a0).wf = true) (w1 : (Lit.int .i64 a1).wf = true) (w2 : (Lit.int .i64 a2).wf = true) (w3 : (Lit.int .i64 a3).wf = true) :
    Calls Try.prog 8 #[.int .i64 a0, .int .i64 a1, .int .i64 a2, .int .i64 a3] w fun e w' => e = .returned (.bool true) ∧ Below w.heap.size w w' := by
  obtain ⟨k, h⟩ := P a0 a1 a2 a3 w0 w1 w2 w3
  refine (codewrightlaw24_MacwilliamsKrawtchouk.calls k a0 a1 a2 a3 true w h).mono ?_
  rintro e w' ⟨rfl, hd⟩
  exact ⟨rfl, hd⟩
end Go.Proofs.Ytifkbghnmhineaa.PAll
section
set_option linter.unusedVariables false
set_option linter.unusedSimpArgs false
namespace Mw
open Go Go.RowKit Go.Proofs.YtifkbghnmhineaaW.PrintWords
def Ev {α : Type} (g : Nat → Option α) (r : α) : Prop := ∃ K, ∀ k, K ≤ k → g k = some r
theorem Ev.some {α : Type} (r : α) : Ev (fun _ => some r) r := ⟨0, fun _ _ => rfl⟩
theorem Ev.succ {α : Type} {g : Nat → Option α} {r : α} (h : Ev (fun k => g (k + 1)) r) : Ev g r := by
  obtain ⟨K, h⟩ := h
  refine ⟨K + 1, fun k hk => ?_⟩
  obtain ⟨m, rfl⟩ : ∃ m, k = m + 1 := ⟨k - 1, by omega⟩
  exact h m (by omega)
theorem Ev.bind {α β : Type} {g : Nat → Option α} {f : Nat → α → Option β} {a : α} {r : β} (hg : Ev g a) (hf : Ev (fun k => f k a) r) : Ev (fun k => (g k).bind (f k)) r := by
  obtain ⟨K, hg⟩ := hg
  obtain ⟨L, hf⟩ := hf
  refine ⟨K + L, fun k hk => ?_⟩
  show (g k).bind (f k) = _
  rw [hg k (by omega)]
  exact hf k (by omega)
theorem Ev.cast {α : Type} {g : Nat → Option α} {r s : α} (h : Ev g r) (e : r = s) : Ev g s := e ▸ h
theorem Ev.get {α : Type} {g : Nat → Option α} {r : α} (h : Ev g r) : ∃ k, g k = Option.some r := by
  obtain ⟨K, h⟩ := h
  exact ⟨K, h K (Nat.le_refl K)⟩
theorem w64 {x : Int} (h0 : -9223372036854775808 ≤ x) (h1 : x ≤ 9223372036854775807) : wrap64 x = x := by unfold wrap64; omega
theorem wn {x : Int} {n : Nat} (h : x = (n : Int)) (hn : n < 9223372036854775808) : wrap64 x = (n : Int) := by subst h; exact w64 (by omega) (by omega)
theorem u64w {x : Int} (h0 : 0 ≤ x) (h1 : x < 18446744073709551616) : IntKind.u64.wrap x = x := by
  simp [IntKind.wrap, IntKind.bits, IntKind.signed]; omega
theorem u64m (x : Int) : IntKind.u64.wrap x = x % 18446744073709551616 := by
  simp [IntKind.wrap, IntKind.bits, IntKind.signed]
def bp : Nat → Nat
  | 0 => 1
  | n + 1 => 4294967296 * bp n
theorem bp_pos : ∀ n, 0 < bp n
  | 0 => by decide
  | n + 1 => by have := bp_pos n; simp only [bp]; omega
theorem bp_mono : ∀ {m n : Nat}, m ≤ n → bp m ≤ bp n := by
  intro m n h
  induction n with
  | zero => have : m = 0 := by omega
            subst this; exact Nat.le_refl _
  | succ n ih =>
    by_cases e : m = n + 1
    · subst e; exact Nat.le_refl _
    · have := ih (by omega); simp only [bp]; omega
theorem bp_add : ∀ (m n : Nat), bp (m + n) = bp m * bp n
  | m, 0 => by simp [bp]
  | m, n + 1 => by rw [← Nat.add_assoc, bp, bp, bp_add m n, Nat.mul_left_comm]
def lv : List Int → Int
  | [] => 0
  | a :: l => a + 4294967296 * lv l
def Lm (l : List Int) : Prop := ∀ x ∈ l, 0 ≤ x ∧ x < 4294967296
def dg (n : Nat) : List Int := if n = 0 then [] else ((n % 4294967296 : Nat) : Int) :: dg (n / 4294967296)
termination_by n
decreasing_by omega
theorem dg_zero : dg 0 = [] := by rw [dg]; rfl
theorem dg_pos {n : Nat} (h : n ≠ 0) : dg n = ((n % 4294967296 : Nat) : Int) :: dg (n / 4294967296) := by rw [dg, if_neg h]
theorem lv_dg : ∀ n : Nat, lv (dg n) = n := by
  intro n
  induction n using Nat.strongRecOn with
  | _ n ih =>
    by_cases h : n = 0
    · subst h; rw [dg_zero]; rfl
    · rw [dg_pos h, lv, ih _ (by omega)]; omega
theorem lm_nil : Lm [] := by intro x hx; simp at hx
theorem lm_cons {a : Int} {l : List Int} : Lm (a :: l) ↔ (0 ≤ a ∧ a < 4294967296) ∧ Lm l := by
  constructor
  · intro h; exact ⟨h a (by simp), fun x hx => h x (by simp [hx])⟩
  · intro h x hx
    exact (List.mem_cons.mp hx).elim (fun e => e ▸ h.1) (fun e => h.2 x e)
theorem lm_dg : ∀ n : Nat, Lm (dg n) := by
  intro n
  induction n using Nat.strongRecOn with
  | _ n ih =>
    by_cases h : n = 0
    · subst h; rw [dg_zero]; exact lm_nil
    · rw [dg_pos h, lm_cons]; exact ⟨by omega, ih _ (by omega)⟩
theorem lv_nonneg : ∀ {l : List Int}, Lm l → 0 ≤ lv l
  | [], _ => Int.le_refl 0
  | a :: l, h => by have := lv_nonneg (lm_cons.mp h).2; have := (lm_cons.mp h).1; simp only [lv]; omega
theorem lv_lt : ∀ {l : List Int}, Lm l → lv l < bp l.length
  | [], _ => by simp [lv, bp]
  | a :: l, h => by
    have h1 := lv_lt (lm_cons.mp h).2
    have h2 := (lm_cons.mp h).1
    simp only [lv, List.length_cons, bp]
    omega
theorem lv_append : ∀ (l m : List Int), lv (l ++ m) = lv l + (bp l.length : Int) * lv m
  | [], m => by simp [lv, bp]
  | a :: l, m => by
    simp only [List.cons_append, lv, List.length_cons, bp, Int.natCast_mul]
    rw [lv_append l m, Int.mul_add, Int.mul_assoc]
    omega
theorem lv_rep : ∀ n : Nat, lv (List.replicate n 0) = 0
  | 0 => rfl
  | n + 1 => by rw [List.replicate_succ, lv, lv_rep n]; rfl
theorem lm_rep (n : Nat) : Lm (List.replicate n 0) := by
  intro x hx; rw [(List.mem_replicate.mp hx).2]; omega
theorem dg_lv : ∀ {l : List Int}, Lm l → (∀ h : l ≠ [], l.getLast h ≠ 0) → dg (lv l).toNat = l
  | [], _, _ => by simp only [lv]; exact dg_zero
  | a :: l, h, hl => by
    have h1 := lm_cons.mp h
    have h0 := lv_nonneg h1.2
    have ih : l ≠ [] → dg (lv l).toNat = l := fun hne => dg_lv h1.2 (fun hh => by
      have := hl (by simp)
      rwa [List.getLast_cons hh] at this)
    by_cases hne : l = []
    · subst hne
      have ha := hl (by simp)
      simp only [List.getLast_singleton] at ha
      simp only [lv]
      rw [dg_pos (by omega), show (a + 4294967296 * 0).toNat / 4294967296 = 0 by omega, dg_zero]
      congr 1
      omega
    · have ih := ih hne
      have hpos : lv l ≠ 0 := by
        intro e
        rw [e] at ih
        rw [show (0 : Int).toNat = 0 from rfl, dg_zero] at ih
        exact hne ih.symm
      simp only [lv]
      rw [dg_pos (by omega), show (a + 4294967296 * lv l).toNat / 4294967296 = (lv l).toNat by omega, ih]
      congr 1
      omega
theorem dg_last : ∀ (n : Nat) (h : dg n ≠ []), (dg n).getLast h ≠ 0 := by
  intro n
  induction n using Nat.strongRecOn with
  | _ n ih =>
    intro h
    by_cases h0 : n = 0
    · subst h0; exact absurd dg_zero h
    · have e := dg_pos h0
      by_cases hd : n / 4294967296 = 0
      · rw [hd, dg_zero] at e
        simp only [e, List.getLast_singleton]
        omega
      · have hne : dg (n / 4294967296) ≠ [] := by rw [dg_pos hd]; simp
        have := ih (n / 4294967296) (by omega) hne
        simp only [e]
        rw [List.getLast_cons hne]
        exact this
theorem dg_inj {m n : Nat} (h : dg m = dg n) : m = n := by
  have := lv_dg m
  rw [h, lv_dg] at this
  omega
theorem dg_len_le {n m : Nat} (h : n < bp m) : (dg n).length ≤ m := by
  induction m generalizing n with
  | zero => have : n = 0 := by simp only [bp] at h; omega
            subst this; rw [dg_zero]; simp
  | succ m ih =>
    by_cases h0 : n = 0
    · subst h0; rw [dg_zero]; simp
    · rw [dg_pos h0, List.length_cons]
      have := ih (n := n / 4294967296) (by simp only [bp] at h; omega)
      omega
theorem dg_lt_len (n : Nat) : n < bp (dg n).length := by
  have h := lv_lt (lm_dg n)
  rw [lv_dg] at h
  omega
theorem dg_len_zero {n : Nat} : (dg n).length = 0 ↔ n = 0 := by
  constructor
  · intro h
    by_cases h0 : n = 0
    · exact h0
    · rw [dg_pos h0] at h; simp at h
  · intro h; subst h; rw [dg_zero]; rfl
theorem dg_len_mono {m n : Nat} (h : m ≤ n) : (dg m).length ≤ (dg n).length := dg_len_le (Nat.lt_of_le_of_lt h (dg_lt_len n))
theorem dg_small {n : Nat} (h0 : n ≠ 0) (h : n < 4294967296) : dg n = [(n : Int)] := by
  rw [dg_pos h0, show n / 4294967296 = 0 by omega, dg_zero, show n % 4294967296 = n by omega]
theorem dg_one : dg 1 = [1] := dg_small (by decide) (by decide)
theorem lv_le_of_len {l : List Int} (h : Lm l) {m : Nat} (hm : l.length ≤ m) : (lv l).toNat < bp m := by
  have h1 := lv_lt h
  have h2 := bp_mono hm
  have h3 := lv_nonneg h
  omega
theorem rd_lt {l : List Int} {i : Nat} (h : i < l.length) : rd l (i : Int) = l[i] := by
  unfold rd
  simp [List.getD_eq_getElem?_getD, h]
theorem rd_ge {l : List Int} {i : Nat} (h : l.length ≤ i) : rd l (i : Int) = 0 := by
  unfold rd
  simp [List.getD_eq_getElem?_getD, h]
theorem rd_lm {l : List Int} (hl : Lm l) (i : Int) : 0 ≤ rd l i ∧ rd l i < 4294967296 := by
  unfold rd
  rw [List.getD_eq_getElem?_getD]
  by_cases h : i.toNat < l.length
  · rw [List.getElem?_eq_getElem h]
    exact hl _ (List.getElem_mem h)
  · rw [List.getElem?_eq_none (by omega)]; simp
theorem take_succ_rd {l : List Int} {i : Nat} (h : i < l.length) : l.take (i + 1) = l.take i ++ [rd l (i : Int)] := by
  rw [List.take_succ_eq_append_getElem h, rd_lt h]
theorem lv_take_succ {l : List Int} {i : Nat} (h : i < l.length) : lv (l.take (i + 1)) = lv (l.take i) + (bp i : Int) * rd l (i : Int) := by
  rw [take_succ_rd h, lv_append, List.length_take, Nat.min_eq_left (by omega)]
  simp [lv]
theorem lv_set : ∀ {l : List Int} {i : Nat} (v : Int), i < l.length → lv (l.set i v) = lv l + (bp i : Int) * (v - rd l (i : Int))
  | [], i, v, h => by simp at h
  | a :: l, 0, v, _ => by
    rw [show ((0 : Nat) : Int) = ((0 : Nat) : Int) from rfl, rd_lt (by simp)]
    simp only [List.set_cons_zero, lv, List.getElem_cons_zero, bp]; omega
  | a :: l, i + 1, v, h => by
    have h' : i < l.length := by simpa using h
    have ih := lv_set v h'
    rw [rd_lt h'] at ih
    rw [rd_lt h]
    simp only [List.set_cons_succ, lv, List.getElem_cons_succ, bp, Int.natCast_mul]
    rw [ih, Int.mul_add, Int.mul_assoc]
    omega
theorem lm_set {l : List Int} {i : Nat} {v : Int} (h : Lm l) (h0 : 0 ≤ v) (h1 : v < 4294967296) : Lm (l.set i v) := by
  intro x hx
  rcases List.mem_or_eq_of_mem_set hx with e | e
  · exact h x e
  · subst e; exact ⟨h0, h1⟩
theorem rd_set_ne {l : List Int} {i j : Nat} (v : Int) (h : i ≠ j) : rd (l.set i v) (j : Int) = rd l (j : Int) := by
  unfold rd
  simp [List.getD_eq_getElem?_getD, h]
theorem lm_take {l : List Int} (h : Lm l) (n : Nat) : Lm (l.take n) := fun x hx => h x (List.mem_of_mem_take hx)
theorem lm_append {l m : List Int} (h1 : Lm l) (h2 : Lm m) : Lm (l ++ m) := by
  intro x hx
  rcases List.mem_append.mp hx with e | e
  · exact h1 x e
  · exact h2 x e
theorem dg_take {l : List Int} (h : Lm l) {n : Nat} (hn : n ≤ l.length) (hz : ∀ i : Nat, n ≤ i → i < l.length → rd l (i : Int) = 0) (hl : n = 0 ∨ rd l ((n - 1 : Nat) : Int) ≠ 0) :
    l.take n = dg (lv l).toNat := by
  have hv : lv l = lv (l.take n) := by
    have : ∀ m : Nat, n + m ≤ l.length → lv (l.take (n + m)) = lv (l.take n) := by
      intro m
      induction m with
      | zero => intro _; rfl
      | succ m ih =>
        intro hm
        rw [← Nat.add_assoc, lv_take_succ (by omega), hz (n + m) (by omega) (by omega), ih (by omega)]; simp
    have := this (l.length - n) (by omega)
    rw [show n + (l.length - n) = l.length by omega, List.take_of_length_le (Nat.le_refl _)] at this
    exact this
  rw [hv]
  symm
  refine dg_lv (lm_take h n) (fun hne => ?_)
  rcases hl with e | e
  · subst e; simp at hne
  · rw [List.getLast_eq_getElem]
    simp only [List.length_take, Nat.min_eq_left hn]
    have hp : n ≠ 0 := by intro e0; subst e0; simp at hne
    rw [List.getElem_take]
    rw [rd_lt (by omega)] at e
    exact e
theorem lv_nil : lv [] = 0 := rfl
theorem lv_cons (a : Int) (l : List Int) : lv (a :: l) = a + 4294967296 * lv l := rfl
theorem bp_zero : bp 0 = 1 := rfl
theorem bp_succ (n : Nat) : bp (n + 1) = 4294967296 * bp n := rfl
attribute [irreducible] lv bp
end Mw
end
section
set_option linter.unusedVariables false
set_option linter.unusedSimpArgs false
namespace Mw
open Go Go.RowKit Go.Proofs.YtifkbghnmhineaaW.PrintWords Go.Proofs.YtifkbghnmhineaaW.PrintLast Go.Proofs.YtifkbghnmhineaaW.PrintMore Go.Proofs.Ytifkbghnmhineaa.PAll
theorem short_loop {l : List Int} (hl : Lm l) (hlen : l.length < 1099511627776) : ∀ n : Nat, n ≤ l.length → (∀ i : Nat, n ≤ i → i < l.length → rd l (i : Int) = 0) →
    Ev (fun k => nat_short.l0 k l (n : Int)) (dg (lv l).toNat) := by
  intro n
  induction n with
  | zero =>
    intro hn hz
    refine Ev.succ ?_
    simp only [nat_short.l0, if_neg (show ¬ ((0 : Nat) : Int) > 0 by omega), if_pos (show (0 : Int) ≤ ((0 : Nat) : Int) by omega), if_pos (show ((0 : Nat) : Int) ≤ (l.length : Int) by omega)]
    refine Ev.cast (Ev.some _) ?_
    rw [show (((0 : Nat) : Int)).toNat = 0 from rfl]
    exact dg_take hl hn hz (.inl rfl)
  | succ n ih =>
    intro hn hz
    refine Ev.succ ?_
    have e : wrap64 (((n + 1 : Nat) : Int) - 1) = (n : Int) := by rw [w64 (by omega) (by omega)]; omega
    by_cases h : rd l (n : Int) = 0
    · simp only [nat_short.l0, e, if_pos (show ((n + 1 : Nat) : Int) > 0 by omega), if_pos (show (0 : Int) ≤ (n : Int) by omega), if_pos (show (n : Int) < (l.length : Int) by omega), if_pos h]
      exact ih (by omega) (fun i h1 h2 => by
        by_cases e2 : i = n
        · subst e2; exact h
        · exact hz i (by omega) h2)
    · simp only [nat_short.l0, e, if_pos (show ((n + 1 : Nat) : Int) > 0 by omega), if_pos (show (0 : Int) ≤ (n : Int) by omega), if_pos (show (n : Int) < (l.length : Int) by omega), if_neg h, if_pos (show (0 : Int) ≤ ((n + 1 : Nat) : Int) by omega), if_pos (show ((n + 1 : Nat) : Int) ≤ (l.length : Int) by omega)]
      refine Ev.cast (Ev.some _) ?_
      rw [show (((n + 1 : Nat) : Int)).toNat = n + 1 by omega]
      exact dg_take hl hn hz (.inr h)
theorem short_ev {l : List Int} (hl : Lm l) (hlen : l.length < 1099511627776) : Ev (fun k => nat_short.f k l) (dg (lv l).toNat) := by
  simp only [nat_short.f]
  exact short_loop hl hlen l.length (Nat.le_refl _) (fun i h1 h2 => by omega)
theorem dg_len_of {l : List Int} (hl : Lm l) : (dg (lv l).toNat).length ≤ l.length := dg_len_le (lv_le_of_len hl (Nat.le_refl _))
theorem trim_ev {l : List Int} (hl : Lm l) (hlen : l.length < 1099511627776) : Ev (fun k => nat_Trim.f k l) (dg (lv l).toNat) := by
  simp only [nat_Trim.f]
  refine Ev.bind (short_ev hl hlen) ?_
  have := dg_len_of hl
  simp only [List.length_nil, List.nil_append, if_pos (show 0 + (dg (lv l).toNat).length < 35184372088832 by omega)]
  exact Ev.some _
theorem of_ev {n : Nat} (hn : n < 18446744073709551616) : Ev (fun k => nat_Of.f k (n : Int)) (dg n) := by
  simp only [nat_Of.f]
  have hl : Lm [(n : Int) % 4294967296, ((n : Int) / 4294967296) % 4294967296] := by
    rw [lm_cons, lm_cons]
    exact ⟨by omega, by omega, lm_nil⟩
  refine Ev.bind (trim_ev hl (by simp)) ?_
  refine Ev.cast (Ev.some _) ?_
  congr 1
  simp only [lv_cons, lv_nil]
  omega
theorem plus_loop {a b : List Int} (ha : Lm a) (hb : Lm b) (hab : b.length ≤ a.length) (hlen : a.length < 549755813888) : ∀ (d : Nat) (i : Nat) (o : List Int) (c : Int), i + d = a.length → o.length = a.length + 1 → Lm o →
    0 ≤ c → c ≤ 1 → (∀ j : Nat, i ≤ j → rd o (j : Int) = 0) → Aside0 (lv o + (bp i : Int) * c = lv (a.take i) + lv (b.take i)) →
    Ev (fun k => nat_plus.l0 k a b o c (a.length : Int) (i : Int)) (dg (lv a + lv b).toNat) := by
  intro d
  induction d with
  | zero =>
    intro i o c hi ho hol hc0 hc1 hz hv
    have hi : i = a.length := by omega
    subst hi
    refine Ev.succ ?_
    simp only [nat_plus.l0, if_neg (show ¬ ((a.length : Nat) : Int) < (a.length : Int) by omega), if_pos (show (0 : Int) ≤ (a.length : Int) by omega), if_pos (show (a.length : Int) < (o.length : Int) by omega)]
    have hs : Lm (o.set ((a.length : Int) : Int).toNat (c % 4294967296)) := lm_set hol (by omega) (by omega)
    refine Ev.bind (short_ev hs (by rw [List.length_set]; omega)) ?_
    refine Ev.cast (Ev.some _) ?_
    congr 2
    rw [Int.toNat_natCast, lv_set _ (by omega), hz _ (Nat.le_refl _), show c % 4294967296 = c by omega, Int.sub_zero, hv.out, List.take_of_length_le (Nat.le_refl _), List.take_of_length_le hab]
  | succ d ih =>
    intro i o c hi ho hol hc0 hc1 hz hv
    have hia : i < a.length := by omega
    refine Ev.succ ?_
    have ra := rd_lm ha (i : Int)
    have rb := rd_lm hb (i : Int)
    have e1 : wrap64 ((i : Int) + 1) = ((i + 1 : Nat) : Int) := by rw [w64 (by omega) (by omega)]; omega
    have step : ∀ s : Int, 0 ≤ s → s ≤ 8589934591 → s = rd a (i : Int) + c + rd b (i : Int) →
        Ev (fun k => nat_plus.l0 k a b (o.set ((i : Int)).toNat (s % 4294967296)) (s / 4294967296) (a.length : Int) ((i + 1 : Nat) : Int)) (dg (lv a + lv b).toNat) := by
      intro s hs0 hs1 hs
      refine ih (i + 1) _ _ (by omega) (by rw [List.length_set]; exact ho) (lm_set hol (by omega) (by omega)) (by omega) (by omega) (fun j hj => ?_) ?_
      · rw [Int.toNat_natCast, rd_set_ne _ (by omega)]; exact hz j (by omega)
      · refine ⟨?_⟩
        rw [Int.toNat_natCast, lv_set _ (by omega), hz i (Nat.le_refl _), lv_take_succ hia]
        have hbt : lv (b.take (i + 1)) = lv (b.take i) + (bp i : Int) * rd b (i : Int) := by
          by_cases hib : i < b.length
          · exact lv_take_succ hib
          · rw [rd_ge (by omega), List.take_of_length_le (by omega), List.take_of_length_le (by omega)]; simp
        rw [hbt]
        have hdiv : s % 4294967296 + 4294967296 * (s / 4294967296) = rd a (i : Int) + c + rd b (i : Int) := by omega
        have hm := congrArg (fun z => (bp i : Int) * z) hdiv
        simp only [Int.mul_add] at hm
        rw [Int.mul_left_comm] at hm
        rw [Int.sub_zero, bp_succ, Int.natCast_mul, Int.mul_assoc]
        have hv := hv.out
        clear ih hz hdiv hs hs0 hs1 ra rb e1 hc0 hc1
        omega
    by_cases hib : i < b.length
    · have e2 : IntKind.u64.wrap (IntKind.u64.wrap (IntKind.u64.wrap (rd a (i : Int)) + c) + IntKind.u64.wrap (rd b (i : Int))) = rd a (i : Int) + c + rd b (i : Int) := by
        rw [u64w ra.1 (by omega), u64w rb.1 (by omega), u64w (x := rd a (i : Int) + c) (by omega) (by omega), u64w (x := rd a (i : Int) + c + rd b (i : Int)) (by omega) (by omega)]
      simp only [nat_plus.l0, e1, e2, if_pos (show (i : Int) < (a.length : Int) by omega), if_pos (show (0 : Int) ≤ (i : Int) by omega), if_pos (show (i : Int) < (b.length : Int) by omega), if_pos (show (i : Int) < (o.length : Int) by omega)]
      exact step (rd a (i : Int) + c + rd b (i : Int)) (by omega) (by omega) rfl
    · have e2 : IntKind.u64.wrap (IntKind.u64.wrap (rd a (i : Int)) + c) = rd a (i : Int) + c := by
        rw [u64w ra.1 (by omega), u64w (x := rd a (i : Int) + c) (by omega) (by omega)]
      simp only [nat_plus.l0, e1, e2, if_pos (show (i : Int) < (a.length : Int) by omega), if_pos (show (0 : Int) ≤ (i : Int) by omega), if_neg (show ¬ (i : Int) < (b.length : Int) by omega), if_pos (show (i : Int) < (o.length : Int) by omega)]
      exact step (rd a (i : Int) + c) (by omega) (by omega) (by rw [rd_ge (l := b) (by omega)]; omega)
theorem plus_long {a b : List Int} (ha : Lm a) (hb : Lm b) (hab : b.length ≤ a.length) (hlen : a.length < 549755813888) : Ev (fun k => nat_plus.j0 k a b) (dg (lv a + lv b).toNat) := by
  refine Ev.succ ?_
  have e1 : wrap64 ((a.length : Int) + 1) = ((a.length + 1 : Nat) : Int) := by rw [w64 (by omega) (by omega)]; omega
  simp only [nat_plus.j0, e1, Int.toNat_natCast, if_pos (show (0 : Int) ≤ ((a.length + 1 : Nat) : Int) by omega), if_pos (show a.length + 1 ≤ 70368744177664 by omega)]
  exact plus_loop ha hb hab hlen a.length 0 _ 0 (by omega) (by simp) (lm_rep _) (by omega) (by omega) (fun j _ => by
    by_cases h : j < a.length + 1
    · rw [rd_lt (by simpa using h)]; simp
    · exact rd_ge (by simp; omega)) ⟨by rw [lv_rep]; simp [lv_nil]⟩
theorem plus_ev {a b : List Int} (ha : Lm a) (hb : Lm b) (h1 : a.length < 549755813888) (h2 : b.length < 549755813888) : Ev (fun k => nat_plus.f k a b) (dg (lv a + lv b).toNat) := by
  simp only [nat_plus.f]
  by_cases h : (a.length : Int) < (b.length : Int)
  · simp only [if_pos h]
    rw [Int.add_comm]
    exact plus_long hb ha (by omega) h2
  · simp only [if_neg h]
    exact plus_long ha hb (by omega) h1
def lsum : List (List Int) → Int
  | [] => 0
  | a :: l => lv a + lsum l
def Lms (l : List (List Int)) : Prop := ∀ x ∈ l, Lm x ∧ x.length < 1073741824
theorem rd3_lt {l : List (List Int)} {i : Nat} (h : i < l.length) : rd_L3 l (i : Int) = l[i] := by
  unfold rd_L3
  simp [List.getD_eq_getElem?_getD, h]
theorem lsum_take {l : List (List Int)} {i : Nat} (h : i < l.length) : lsum (l.take (i + 1)) = lsum (l.take i) + lv l[i] := by
  have app : ∀ (a b : List (List Int)), lsum (a ++ b) = lsum a + lsum b := by
    intro a
    induction a with
    | nil => intro b; simp [lsum]
    | cons x a ih => intro b; simp only [List.cons_append, lsum]; rw [ih]; omega
  rw [List.take_succ_eq_append_getElem h, app]
  simp [lsum]
theorem lv_dg_toNat {x : Int} (h : 0 ≤ x) : lv (dg x.toNat) = x := by rw [lv_dg]; omega
theorem add_loop {l : List (List Int)} (hl : Lms l) (hlen : l.length < 1073741824) : ∀ (d i : Nat) (s : List Int), i + d = l.length → Lm s → s.length ≤ 1073741824 + i → lv s = lsum (l.take i) →
    Ev (fun k => nat_Add.l0 k s l (l.length : Int) (i : Int)) (dg (lsum l).toNat) := by
  intro d
  induction d with
  | zero =>
    intro i s hi hs hsl hv
    have hi : i = l.length := by omega
    subst hi
    refine Ev.succ ?_
    simp only [nat_Add.l0, if_neg (show ¬ ((l.length : Nat) : Int) < (l.length : Int) by omega)]
    refine Ev.bind (trim_ev hs (by omega)) ?_
    refine Ev.cast (Ev.some _) ?_
    rw [hv, List.take_of_length_le (Nat.le_refl _)]
  | succ d ih =>
    intro i s hi hs hsl hv
    have hil : i < l.length := by omega
    have hx := hl l[i] (List.getElem_mem hil)
    refine Ev.succ ?_
    have e1 : wrap64 ((i : Int) + 1) = ((i + 1 : Nat) : Int) := by rw [w64 (by omega) (by omega)]; omega
    simp only [nat_Add.l0, e1, rd3_lt hil, if_pos (show (i : Int) < (l.length : Int) by omega), if_pos (show (0 : Int) ≤ (i : Int) by omega)]
    refine Ev.bind (short_ev hx.1 (by omega)) ?_
    have h2 := dg_len_of hx.1
    refine Ev.bind (plus_ev hs (lm_dg _) (by omega) (by omega)) ?_
    have h3 : 0 ≤ lv s := lv_nonneg hs
    have h4 : 0 ≤ lv l[i] := lv_nonneg hx.1
    refine ih (i + 1) _ (by omega) (lm_dg _) ?_ ?_
    · rw [lv_dg_toNat h4]
      have h5 := lv_le_of_len hs hsl
      have h6 := lv_le_of_len hx.1 (m := 1073741824 + i) (by omega)
      refine dg_len_le ?_
      rw [show 1073741824 + (i + 1) = (1073741824 + i) + 1 by omega, bp_succ]
      generalize bp (1073741824 + i) = p at *
      omega
    · rw [lv_dg_toNat h4, lv_dg_toNat (by omega), hv, lsum_take hil]
theorem add_ev {l : List (List Int)} (hl : Lms l) (hlen : l.length < 1073741824) : Ev (fun k => nat_Add.f k l) (dg (lsum l).toNat) := by
  simp only [nat_Add.f]
  exact add_loop hl hlen l.length 0 [] (by omega) lm_nil (by simp) (by simp [lv_nil, lsum])
theorem add2_ev {a b : Nat} (ha : (dg a).length < 1073741824) (hb : (dg b).length < 1073741824) : Ev (fun k => nat_Add.f k [dg a, dg b]) (dg (a + b)) := by
  refine Ev.cast (add_ev (l := [dg a, dg b]) (fun x hx => ?_) (by simp)) ?_
  · rcases List.mem_cons.mp hx with e | e
    · exact e ▸ ⟨lm_dg a, ha⟩
    · rw [List.mem_singleton.mp e]; exact ⟨lm_dg b, hb⟩
  · congr 1
    simp only [lsum, lv_dg]
    omega
end Mw
end
section
namespace Mw
def sm : Nat → (Nat → Int) → Int
  | 0, _ => 0
  | n + 1, f => sm n f + f n
theorem sm_congr {n : Nat} {f g : Nat → Int} (h : ∀ i, i < n → f i = g i) : sm n f = sm n g := by
  induction n with
  | zero => rfl
  | succ n ih => simp only [sm]; rw [ih (fun i hi => h i (by omega)), h n (by omega)]
theorem sm_zero {n : Nat} {f : Nat → Int} (h : ∀ i, i < n → f i = 0) : sm n f = 0 := by
  induction n with
  | zero => rfl
  | succ n ih => simp only [sm]; rw [ih (fun i hi => h i (by omega)), h n (by omega)]; rfl
theorem sm_sub (n : Nat) (f g : Nat → Int) : sm n (fun i => f i - g i) = sm n f - sm n g := by
  induction n with
  | zero => rfl
  | succ n ih => simp only [sm]; rw [ih]; omega
theorem sm_head (n : Nat) (f : Nat → Int) : sm (n + 1) f = f 0 + sm n (fun i => f (i + 1)) := by
  induction n with
  | zero => simp [sm]
  | succ n ih => rw [sm, ih]; simp only [sm]; omega
theorem sm_single {n a : Nat} {f : Nat → Int} (ha : a < n) (h : ∀ i, i < n → i ≠ a → f i = 0) : sm n f = f a := by
  induction n with
  | zero => omega
  | succ n ih =>
    simp only [sm]
    by_cases e : a = n
    · subst e; rw [sm_zero (fun i hi => h i (by omega) (by omega))]; omega
    · rw [ih (by omega) (fun i hi hne => h i (by omega) hne), h n (by omega) (by omega)]; omega
def bin : Nat → Nat → Nat
  | _, 0 => 1
  | 0, _ + 1 => 0
  | n + 1, k + 1 => bin n k + bin n (k + 1)
theorem bin_zero (n : Nat) : bin n 0 = 1 := by cases n <;> rfl
theorem bin_succ (n k : Nat) : bin (n + 1) (k + 1) = bin n k + bin n (k + 1) := rfl
theorem bin_above : ∀ {n k : Nat}, n < k → bin n k = 0
  | 0, 0, h => by omega
  | 0, _ + 1, _ => rfl
  | n + 1, 0, h => by omega
  | n + 1, k + 1, h => by rw [bin_succ, bin_above (n := n) (k := k) (by omega), bin_above (n := n) (k := k + 1) (by omega)]
theorem bin_self (n : Nat) : bin n n = 1 := by
  induction n with
  | zero => rfl
  | succ n ih => rw [bin_succ, ih, bin_above (by omega)]
theorem bin_one (n : Nat) : bin n 1 = n := by
  induction n with
  | zero => rfl
  | succ n ih => rw [bin_succ, ih, bin_zero]; omega
theorem bin_step : ∀ (n k : Nat), (k + 1) * bin n (k + 1) = (n - k) * bin n k
  | 0, k => by rw [bin_above (by omega)]; simp
  | n + 1, 0 => by rw [bin_one, bin_zero]; omega
  | n + 1, k + 1 => by
    rw [bin_succ, bin_succ]
    have h1 := bin_step n k
    have h2 := bin_step n (k + 1)
    by_cases hk : k + 1 ≤ n
    · obtain ⟨m, rfl⟩ : ∃ m, n = m + (k + 1) := ⟨n - (k + 1), by omega⟩
      rw [show m + (k + 1) - k = m + 1 by omega] at h1
      rw [show m + (k + 1) - (k + 1) = m by omega] at h2
      rw [show m + (k + 1) + 1 - (k + 1) = m + 1 by omega]
      grind
    · by_cases hk2 : k = n
      · subst hk2
        rw [bin_above (n := k) (k := k + 1 + 1) (by omega), bin_above (n := k) (k := k + 1) (by omega)]; simp
      · rw [bin_above (n := n) (k := k + 1 + 1) (by omega), bin_above (n := n) (k := k + 1) (by omega), bin_above (n := n) (k := k) (by omega)]; simp
theorem bin_symm : ∀ {n k : Nat}, k ≤ n → bin n (n - k) = bin n k
  | 0, k, h => by have : k = 0 := by omega
                  subst this; rfl
  | n + 1, 0, _ => by rw [Nat.sub_zero, bin_self, bin_zero]
  | n + 1, k + 1, h => by
    rw [Nat.add_sub_add_right]
    by_cases e : k = n
    · subst e; rw [Nat.sub_self, bin_zero, bin_self]
    · obtain ⟨m, hm⟩ : ∃ m, n - k = m + 1 := ⟨n - k - 1, by omega⟩
      rw [hm, bin_succ, bin_succ]
      have h1 := bin_symm (n := n) (k := k) (by omega)
      have h2 := bin_symm (n := n) (k := k + 1) (by omega)
      rw [hm] at h1
      rw [show n - (k + 1) = m by omega] at h2
      omega
def kr (g : Int) : Nat → Nat → Nat → Int
  | 0, 0, 0 => 1
  | 0, 0, _ + 1 => 0
  | a + 1, 0, 0 => kr g a 0 0
  | a + 1, 0, k + 1 => kr g a 0 (k + 1) + g * kr g a 0 k
  | a, b + 1, 0 => kr g a b 0
  | a, b + 1, k + 1 => kr g a b (k + 1) - kr g a b k
theorem kr_b0 (g : Int) (a b : Nat) : kr g a (b + 1) 0 = kr g a b 0 := by cases a <;> simp [kr]
theorem kr_b (g : Int) (a b k : Nat) : kr g a (b + 1) (k + 1) = kr g a b (k + 1) - kr g a b k := by cases a <;> simp [kr]
theorem kr_zero (g : Int) (a b : Nat) : kr g a b 0 = 1 := by
  induction b with
  | zero => induction a with
    | zero => simp [kr]
    | succ a ih => simp [kr, ih]
  | succ b ih => rw [kr_b0, ih]
theorem kr_a (g : Int) (a b k : Nat) : kr g (a + 1) b (k + 1) = kr g a b (k + 1) + g * kr g a b k := by
  induction b generalizing k with
  | zero => simp [kr]
  | succ b ih =>
    rw [kr_b, kr_b, ih]
    cases k with
    | zero => rw [kr_zero, kr_zero, kr_zero]; omega
    | succ k => rw [ih, kr_b]; grind
theorem kr_first (g : Int) (a k : Nat) : kr g a 0 k = (bin a k : Int) * g ^ k := by
  induction a generalizing k with
  | zero => cases k with
    | zero => simp [kr, bin]
    | succ k => simp [kr, bin]
  | succ a ih => cases k with
    | zero => simp [kr_zero, bin_zero]
    | succ k => rw [kr_a, ih, ih, bin_succ, Int.pow_succ, Int.natCast_add]; grind
theorem kr_row (g : Int) (a b k : Nat) : kr g a (b + 1) (k + 1) = kr g (a + 1) b (k + 1) - kr g (a + 1) b k - g * kr g a (b + 1) k := by
  have h := kr_a g a (b + 1) k
  rw [kr_b] at h
  omega
def krF (g : Int) (a b k : Nat) : Int := sm (k + 1) (fun j => (-1) ^ j * (g ^ (k - j) * ((bin b j : Int) * (bin a (k - j) : Int))))
theorem kr_formula (g : Int) (a b k : Nat) : kr g a b k = krF g a b k := by
  induction b generalizing k with
  | zero =>
    rw [kr_first, krF]
    rw [sm_single (a := 0) (by omega)]
    · simp [bin_zero]; grind
    · intro i _ hne
      obtain ⟨m, rfl⟩ : ∃ m, i = m + 1 := ⟨i - 1, by omega⟩
      simp [bin]
  | succ b ih =>
    cases k with
    | zero => rw [kr_zero]; simp [krF, sm, bin_zero]
    | succ k =>
      rw [kr_b, ih, ih, krF, krF, krF]
      rw [sm_head (k + 1) (fun j => (-1) ^ j * (g ^ (k + 1 - j) * ((bin (b + 1) j : Int) * (bin a (k + 1 - j) : Int))))]
      rw [sm_head (k + 1) (fun j => (-1) ^ j * (g ^ (k + 1 - j) * ((bin b j : Int) * (bin a (k + 1 - j) : Int))))]
      simp only [bin_zero, Nat.add_sub_add_right]
      rw [Int.add_sub_assoc]
      congr 1
      rw [← sm_sub]
      refine sm_congr fun i hi => ?_
      rw [bin_succ, Int.natCast_add, Int.pow_succ]
      grind
end Mw
end
section
set_option linter.unusedVariables false
set_option linter.unusedSimpArgs false
namespace Mw
open Go Go.RowKit Go.Proofs.YtifkbghnmhineaaW.PrintWords Go.Proofs.YtifkbghnmhineaaW.PrintLast Go.Proofs.YtifkbghnmhineaaW.PrintMore Go.Proofs.Ytifkbghnmhineaa.PAll
theorem rd_rep (n : Nat) (j : Nat) : rd (List.replicate n 0) (j : Int) = 0 := by
  by_cases h : j < n
  · rw [rd_lt (by simpa using h)]; simp
  · exact rd_ge (by simp; omega)
theorem mac_bound {x y z c : Int} (hx0 : 0 ≤ x) (hx1 : x < 4294967296) (hy0 : 0 ≤ y) (hy1 : y < 4294967296) (hz0 : 0 ≤ z) (hz1 : z < 4294967296) (hc0 : 0 ≤ c) (hc1 : c < 4294967296) :
    0 ≤ x * y ∧ x * y + z + c < 18446744073709551616 := by
  have hp0 : 0 ≤ x * y := Int.mul_nonneg hx0 hy0
  have hp1 : x * y ≤ 4294967295 * 4294967295 := Int.mul_le_mul (by omega) (by omega) hy0 (by decide)
  generalize x * y = p at *
  omega
theorem mac_wrap {x y z c : Int} (hx0 : 0 ≤ x) (hx1 : x < 4294967296) (hy0 : 0 ≤ y) (hy1 : y < 4294967296) (hz0 : 0 ≤ z) (hz1 : z < 4294967296) (hc0 : 0 ≤ c) (hc1 : c < 4294967296) :
    IntKind.u64.wrap (IntKind.u64.wrap (IntKind.u64.wrap (IntKind.u64.wrap x * IntKind.u64.wrap y) + IntKind.u64.wrap z) + c) = x * y + z + c := by
  have hb := mac_bound hx0 hx1 hy0 hy1 hz0 hz1 hc0 hc1
  rw [u64w (x := x) (by omega) (by omega), u64w (x := y) (by omega) (by omega), u64w (x := z) (by omega) (by omega)]
  generalize x * y = p at *
  rw [u64w (x := p) (by omega) (by omega), u64w (x := p + z) (by omega) (by omega), u64w (x := p + z + c) (by omega) (by omega)]
theorem split_div (s : Int) : s % 4294967296 + 4294967296 * (s / 4294967296) = s := by omega
theorem div_bound {s : Int} (h0 : 0 ≤ s) (h1 : s < 18446744073709551616) : 0 ≤ s % 4294967296 ∧ s % 4294967296 < 4294967296 ∧ 0 ≤ s / 4294967296 ∧ s / 4294967296 < 4294967296 := by omega
theorem times_inner {x : Int} {b l18 : List Int} (hx0 : 0 ≤ x) (hx1 : x < 4294967296) (hb : Lm b) (hbl : b.length < 536870912) (x19 : Int) (i L : Nat) (hL : i + b.length + 1 ≤ L) (hL2 : L < 1073741824) (V : Int) (R : List Int)
    (next : ∀ o : List Int, o.length = L → Lm o → (∀ j : Nat, i + 1 + b.length ≤ j → rd o (j : Int) = 0) → Aside0 (lv o = V + (bp i : Int) * (x * lv b)) → Ev (fun k => nat_times.l0 k b o l18 x19 ((i + 1 : Nat) : Int)) R) :
    ∀ (d j : Nat) (o : List Int) (c : Int), j + d = b.length → o.length = L → Lm o → 0 ≤ c → c < 4294967296 → (∀ m : Nat, i + b.length ≤ m → rd o (m : Int) = 0) →
      Aside0 (lv o + (bp (i + j) : Int) * c = V + (bp i : Int) * (x * lv (b.take j))) →
      Ev (fun k => nat_times.l1 k b o (i : Int) x c l18 x19 (i : Int) b (b.length : Int) (j : Int)) R := by
  intro d
  induction d with
  | zero =>
    intro j o c hj ho hol hc0 hc1 hz hv
    have hj : j = b.length := by omega
    subst hj
    refine Ev.succ ?_
    simp only [nat_times.l1, wn (show (i : Int) + (b.length : Int) = ((i + b.length : Nat) : Int) by omega) (by omega), wn (show (i : Int) + 1 = ((i + 1 : Nat) : Int) by omega) (by omega), if_neg (show ¬ ((b.length : Nat) : Int) < (b.length : Int) by omega), if_pos (show (0 : Int) ≤ ((i + b.length : Nat) : Int) by omega), if_pos (show ((i + b.length : Nat) : Int) < (o.length : Int) by omega)]
    rw [Int.toNat_natCast, show c % 4294967296 = c by omega]
    refine next _ (by rw [List.length_set]; omega) (lm_set hol hc0 hc1) (fun m hm => ?_) ⟨?_⟩
    · rw [rd_set_ne _ (by omega)]; exact hz m (by omega)
    · rw [lv_set _ (by omega), hz _ (Nat.le_refl _), Int.sub_zero, hv.out, List.take_of_length_le (Nat.le_refl _)]
  | succ d ih =>
    intro j o c hj ho hol hc0 hc1 hz hv
    have hjb : j < b.length := by omega
    refine Ev.succ ?_
    have rb := rd_lm hb (j : Int)
    have ro := rd_lm hol ((i + j : Nat) : Int)
    simp only [nat_times.l1, wn (show (i : Int) + (j : Int) = ((i + j : Nat) : Int) by omega) (by omega), wn (show (j : Int) + 1 = ((j + 1 : Nat) : Int) by omega) (by omega), if_pos (show (j : Int) < (b.length : Int) by omega), if_pos (show (0 : Int) ≤ (j : Int) by omega), if_pos (show (0 : Int) ≤ ((i + j : Nat) : Int) by omega), if_pos (show ((i + j : Nat) : Int) < (o.length : Int) by omega), mac_wrap hx0 hx1 rb.1 rb.2 ro.1 ro.2 hc0 hc1]
    have hb2 := mac_bound hx0 hx1 rb.1 rb.2 ro.1 ro.2 hc0 hc1
    have hdef : ∃ s, s = x * rd b (j : Int) + rd o ((i + j : Nat) : Int) + c := ⟨_, rfl⟩
    obtain ⟨s, hs⟩ := hdef
    have hs0 : 0 ≤ s := by rw [hs]; exact Int.add_nonneg (Int.add_nonneg hb2.1 ro.1) hc0
    have hs1 : s < 18446744073709551616 := by rw [hs]; exact hb2.2
    have hd := div_bound hs0 hs1
    clear hb2
    rw [← hs]
    rw [Int.toNat_natCast]
    have hs := Aside0.mk hs
    refine ih (j + 1) _ _ (by omega) (by rw [List.length_set]; omega) (lm_set hol hd.1 hd.2.1) hd.2.2.1 hd.2.2.2 (fun m hm => ?_) ⟨?_⟩
    · rw [rd_set_ne _ (by omega)]; exact hz m hm
    · rw [lv_set _ (by omega), lv_take_succ hjb, ← Nat.add_assoc, bp_succ, Int.natCast_mul]
      have hdiv : s % 4294967296 + 4294967296 * (s / 4294967296) = x * rd b (j : Int) + rd o ((i + j : Nat) : Int) + c := by rw [split_div]; exact hs.out
      have hv := hv.out
      have hbp : ((bp (i + j) : Nat) : Int) = (bp i : Int) * (bp j : Int) := by rw [bp_add, Int.natCast_mul]
      clear ih hz next hs hs0 hs1 hd rb ro hc0 hc1
      generalize s % 4294967296 = y at *
      generalize s / 4294967296 = u at *
      generalize (bp (i + j) : Int) = p at *
      generalize (bp i : Int) = pi at *
      generalize (bp j : Int) = pj at *
      generalize rd b (j : Int) = rb at *
      generalize rd o ((i + j : Nat) : Int) = ro at *
      generalize lv o = lo at *
      generalize lv (b.take j) = lt at *
      subst hbp
      have h1 : lo + pi * pj * c = V + pi * (x * lt) := hv
      have h2 : y + 4294967296 * u = x * rb + ro + c := hdiv
      show lo + pi * pj * (y - ro) + 4294967296 * (pi * pj) * u = V + pi * (x * (lt + pj * rb))
      have h3 : pi * pj * (y + 4294967296 * u) = pi * pj * (x * rb + ro + c) := by rw [h2]
      grind
theorem times_outer {b l : List Int} (hb : Lm b) (hl : Lm l) (hbl : b.length < 268435456) (hll : l.length < 268435456) : ∀ (d i : Nat) (o : List Int), i + d = l.length → o.length = l.length + b.length → Lm o → (∀ m : Nat, i + b.length ≤ m → rd o (m : Int) = 0) →
    Aside0 (lv o = lv (l.take i) * lv b) → Ev (fun k => nat_times.l0 k b o l (l.length : Int) (i : Int)) (dg (lv l * lv b).toNat) := by
  intro d
  induction d with
  | zero =>
    intro i o hi ho hol hz hv
    have hi : i = l.length := by omega
    subst hi
    refine Ev.succ ?_
    simp only [nat_times.l0, if_neg (show ¬ ((l.length : Nat) : Int) < (l.length : Int) by omega)]
    refine Ev.bind (short_ev hol (by omega)) ?_
    refine Ev.cast (Ev.some _) ?_
    rw [hv.out, List.take_of_length_le (Nat.le_refl _)]
  | succ d ih =>
    intro i o hi ho hol hz hv
    have hil : i < l.length := by omega
    refine Ev.succ ?_
    have rl := rd_lm hl (i : Int)
    simp only [nat_times.l0, if_pos (show (i : Int) < (l.length : Int) by omega), if_pos (show (0 : Int) ≤ (i : Int) by omega)]
    refine times_inner (l18 := l) rl.1 rl.2 hb (by omega) (l.length : Int) i (l.length + b.length) (by omega) (by omega) (lv (l.take i) * lv b) _ (fun o2 h1 h2 h3 h4 => ?_) b.length 0 o 0 (by omega) ho hol (by omega) (by omega) hz ⟨?_⟩
    · refine ih (i + 1) o2 (by omega) h1 h2 (fun m hm => h3 m hm) ⟨?_⟩
      rw [h4.out, lv_take_succ hil, Int.add_mul, Int.mul_assoc]
    · rw [hv.out]; simp [lv_nil]
theorem times_ev {a b : List Int} (ha : Lm a) (hb : Lm b) (h1 : a.length < 268435456) (h2 : b.length < 268435456) : Ev (fun k => nat_times.f k a b) (dg (lv a * lv b).toNat) := by
  simp only [nat_times.f]
  simp only [wn (show (a.length : Int) + (b.length : Int) = ((a.length + b.length : Nat) : Int) by omega) (by omega), Int.toNat_natCast, if_pos (show (0 : Int) ≤ ((a.length + b.length : Nat) : Int) by omega), if_pos (show a.length + b.length ≤ 70368744177664 by omega)]
  exact times_outer hb ha h2 h1 a.length 0 _ (by omega) (by simp) (lm_rep _) (fun m _ => rd_rep _ m) ⟨by rw [lv_rep]; simp [lv_nil]⟩
theorem mul2_ev {a b : Nat} (ha : (dg a).length < 134217728) (hb : (dg b).length < 134217728) : Ev (fun k => nat_Mul.f k [dg a, dg b]) (dg (a * b)) := by
  simp only [nat_Mul.f]
  have mul_len : ∀ x y : Nat, (dg (x * y)).length ≤ (dg x).length + (dg y).length := by
    intro x y
    refine dg_len_le ?_
    rw [bp_add]
    exact Nat.mul_lt_mul'' (dg_lt_len x) (dg_lt_len y)
  have one : lv [1] = 1 := by rw [lv_cons, lv_nil]; rfl
  have l1 : Lm [1] := by rw [lm_cons]; exact ⟨by omega, lm_nil⟩
  refine Ev.succ ?_
  simp only [nat_Mul.l0, List.length_cons, List.length_nil, w64 (x := (0 : Int) + 1) (by omega) (by omega)]
  rw [show ((0 + 1 + 1 : Nat) : Int) = 2 from rfl]
  simp only [if_pos (show (0 : Int) < 2 by omega), if_pos (show (0 : Int) ≤ 0 by omega)]
  rw [show rd_L3 [dg a, dg b] 0 = dg a from rfl]
  refine Ev.bind (short_ev (lm_dg a) (by omega)) ?_
  rw [lv_dg, Int.toNat_natCast]
  refine Ev.bind (times_ev l1 (lm_dg a) (by simp) (by omega)) ?_
  rw [one, lv_dg, Int.one_mul, Int.toNat_natCast]
  refine Ev.succ ?_
  rw [show (0 : Int) + 1 = 1 from rfl]
  simp only [nat_Mul.l0, List.length_cons, List.length_nil, w64 (x := (1 : Int) + 1) (by omega) (by omega)]
  rw [show ((0 + 1 + 1 : Nat) : Int) = 2 from rfl]
  simp only [if_pos (show (1 : Int) < 2 by omega), if_pos (show (0 : Int) ≤ 1 by omega)]
  rw [show rd_L3 [dg a, dg b] 1 = dg b from rfl]
  refine Ev.bind (short_ev (lm_dg b) (by omega)) ?_
  rw [lv_dg, Int.toNat_natCast]
  refine Ev.bind (times_ev (lm_dg a) (lm_dg b) (by omega) (by omega)) ?_
  rw [lv_dg, lv_dg, ← Int.natCast_mul, Int.toNat_natCast]
  rw [show (1 : Int) + 1 = 2 from rfl]
  refine Ev.succ ?_
  simp only [nat_Mul.l0, if_neg (show ¬ (2 : Int) < 2 by omega)]
  have := mul_len a b
  refine Ev.bind (trim_ev (lm_dg (a * b)) (by omega)) ?_
  rw [lv_dg, Int.toNat_natCast]
  exact Ev.some _
end Mw
end
section
set_option linter.unusedVariables false
set_option linter.unusedSimpArgs false
namespace Mw
open Go Go.RowKit Go.Proofs.YtifkbghnmhineaaW.PrintWords Go.Proofs.YtifkbghnmhineaaW.PrintLast Go.Proofs.YtifkbghnmhineaaW.PrintMore Go.Proofs.Ytifkbghnmhineaa.PAll
theorem wraps_u64 (n : Int) (h0 : 0 ≤ n) (h1 : n < 2 ^ 64) : IntKind.u64.wrap n = n := u64w h0 (by omega)
theorem join32 {x y : Int} (hx0 : 0 ≤ x) (hx1 : x < 4294967296) (hy0 : 0 ≤ y) (hy1 : y < 4294967296) : Go.bits .or .u64 (IntKind.u64.wrap (x * 4294967296)) (IntKind.u64.wrap y) = x * 4294967296 + y := by
  rw [u64w (x := x * 4294967296) (by omega) (by omega), u64w (x := y) (by omega) (by omega)]
  exact bits_join .u64 64 (by decide) wraps_u64 32 _ _ (by omega) (by omega) (by omega) hy0 (by omega) (by omega)
theorem digit_bounds {r b y : Int} (hr0 : 0 ≤ r) (hrb : r < b) (hb : b < 4294967296) (hy0 : 0 ≤ y) (hy1 : y < 4294967296) :
    0 ≤ (r * 4294967296 + y) / b ∧ (r * 4294967296 + y) / b < 4294967296 ∧ 0 ≤ (r * 4294967296 + y) % b ∧ (r * 4294967296 + y) % b < b := by
  have hbp : 0 < b := by omega
  refine ⟨Int.ediv_nonneg (by omega) (by omega), ?_, Int.emod_nonneg _ (by omega), Int.emod_lt_of_pos _ hbp⟩
  refine Int.ediv_lt_of_lt_mul hbp ?_
  have : (r + 1) * 4294967296 ≤ b * 4294967296 := by omega
  omega
theorem digit_loop {a : List Int} {b : Int} (ha : Lm a) (hb0 : 0 < b) (hb1 : b < 4294967296) (hlen : a.length < 1073741824) : ∀ (n : Nat) (o : List Int) (r : Int), n ≤ a.length → o.length = a.length → Lm o → (∀ j : Nat, j < n → rd o (j : Int) = 0) → 0 ≤ r → r < b →
    Aside0 (lv o * b + (bp n : Int) * r = lv a - lv (a.take n)) → Ev (fun k => nat_digit.l0 k a b o r ((n : Int) - 1)) (dg (lv a / b).toNat, lv a % b) := by
  intro n
  induction n with
  | zero =>
    intro o r hn ho hol hz hr0 hr1 hv
    refine Ev.succ ?_
    simp only [nat_digit.l0, if_neg (show ¬ ((0 : Nat) : Int) - 1 ≥ 0 by omega)]
    refine Ev.bind (short_ev hol (by omega)) ?_
    refine Ev.cast (Ev.some _) ?_
    have hv := hv.out
    rw [List.take_zero, lv_nil, bp_zero] at hv
    have e : lv a = b * lv o + r := by rw [Int.mul_comm]; omega
    have h1 : lv a / b = lv o := by
      rw [e, Int.add_comm, Int.add_mul_ediv_left _ _ (by omega), Int.ediv_eq_zero_of_lt hr0 hr1]; omega
    have h2 : lv a % b = r := by
      rw [e, Int.add_comm, Int.add_mul_emod_self_left, Int.emod_eq_of_lt hr0 hr1]
    rw [h1, h2]
    clear hv e h1 h2
    congr 1
    omega
  | succ n ih =>
    intro o r hn ho hol hz hr0 hr1 hv
    refine Ev.succ ?_
    have ra := rd_lm ha (n : Int)
    have hd := digit_bounds hr0 hr1 hb1 ra.1 ra.2
    have hdiv : b * ((r * 4294967296 + rd a (n : Int)) / b) + (r * 4294967296 + rd a (n : Int)) % b = r * 4294967296 + rd a (n : Int) := Int.mul_ediv_add_emod _ _
    have t0 : 0 ≤ r * 4294967296 + rd a (n : Int) := by omega
    simp only [nat_digit.l0, show ((n + 1 : Nat) : Int) - 1 = (n : Int) from by omega, if_pos (show (n : Int) ≥ 0 by omega), if_pos (show (0 : Int) ≤ (n : Int) by omega), if_pos (show (n : Int) < (a.length : Int) by omega), if_pos (show (n : Int) < (o.length : Int) by omega), if_neg (show ¬ b = 0 by omega),
      join32 hr0 (by omega) ra.1 ra.2, w64 (x := (n : Int) - 1) (by omega) (by omega), u64w (x := b) (by omega) (by omega)]
    rw [Int.tdiv_eq_ediv_of_nonneg t0, Int.tmod_eq_emod_of_nonneg t0]
    generalize (r * 4294967296 + rd a (n : Int)) / b = q at *
    generalize (r * 4294967296 + rd a (n : Int)) % b = s at *
    rw [u64w (x := q) hd.1 (by omega), show q % 4294967296 = q by omega, Int.toNat_natCast]
    refine ih _ _ (by omega) (by rw [List.length_set]; exact ho) (lm_set hol hd.1 hd.2.1) (fun j hj => ?_) hd.2.2.1 hd.2.2.2 ⟨?_⟩
    · rw [rd_set_ne _ (by omega)]; exact hz j (by omega)
    · have hv := hv.out
      rw [lv_take_succ (l := a) (i := n) (by omega), bp_succ, Int.natCast_mul] at hv
      rw [lv_set (l := o) (i := n) _ (by omega), hz n (by omega)]
      clear ih hz hd ra t0
      generalize lv o = x at *
      generalize (bp n : Int) = p at *
      generalize rd a (n : Int) = y at *
      generalize lv a = A at *
      generalize lv (a.take n) = T at *
      have hv : x * b + 4294967296 * p * r = A - (T + p * y) := hv
      have h3 : p * (b * q + s) = p * (r * 4294967296 + y) := by rw [hdiv]
      grind
theorem digit_ev {a : List Int} {b : Int} (ha : Lm a) (hb0 : 0 < b) (hb1 : b < 4294967296) (hlen : a.length < 1073741824) : Ev (fun k => nat_digit.f k a b) (dg (lv a / b).toNat, lv a % b) := by
  simp only [nat_digit.f, Int.toNat_natCast, if_pos (show (0 : Int) ≤ (a.length : Int) by omega), if_pos (show a.length ≤ 70368744177664 by omega), w64 (x := (a.length : Int) - 1) (by omega) (by omega)]
  exact digit_loop ha hb0 hb1 hlen a.length _ 0 (Nat.le_refl _) (by simp) (lm_rep _) (fun j _ => rd_rep _ j) (by omega) (by omega) ⟨by rw [lv_rep, List.take_of_length_le (Nat.le_refl _)]; simp⟩
theorem bin_mul (n i : Nat) : bin n i * (n - i) = (i + 1) * bin n (i + 1) := by rw [bin_step, Nat.mul_comm]
theorem bin_lt (n k : Nat) : bin n k ≤ 2 ^ n := by
  induction n generalizing k with
  | zero => cases k <;> simp [bin]
  | succ n ih => cases k with
    | zero => rw [bin_zero]; exact Nat.one_le_two_pow
    | succ k => rw [bin_succ, Nat.pow_succ]; have h1 := ih k; have h2 := ih (k + 1); omega
theorem pow2_bp (m : Nat) : 2 ^ (32 * m) = bp m := by
  induction m with
  | zero => rw [bp_zero]
  | succ m ih => rw [Nat.mul_succ, Nat.pow_add, ih, bp_succ, Nat.mul_comm]
theorem bin_len {n : Nat} (hn : n ≤ 4096) (k : Nat) : (dg (bin n k)).length ≤ 129 := by
  refine dg_len_le ?_
  have h1 := bin_lt n k
  have h2 : ∀ m, n ≤ 32 * m → 2 ^ n ≤ bp m := fun m h => by rw [← pow2_bp]; exact Nat.pow_le_pow_right (by decide) h
  have h2 := h2 128 (by omega)
  have h3 := bp_pos 128
  rw [show 129 = 128 + 1 from rfl, bp_succ]
  generalize 2 ^ n = p at *
  generalize bp 128 = u at *
  omega
theorem binomial_loop {n : Nat} (hn : n ≤ 4096) : ∀ (d i m : Nat), i + d = m → m ≤ n → Ev (fun k => nat_Binomial.l0 k (n : Int) (dg (bin n i)) (m : Int) (i : Int)) (dg (bin n m), 0) := by
  intro d
  induction d with
  | zero =>
    intro i m hi hm
    have hi : i = m := by omega
    subst hi
    refine Ev.succ ?_
    simp only [nat_Binomial.l0, if_neg (show ¬ (i : Int) < (i : Int) by omega)]
    have := bin_len hn i
    refine Ev.bind (trim_ev (lm_dg _) (by omega)) ?_
    rw [lv_dg, Int.toNat_natCast]
    exact Ev.some _
  | succ d ih =>
    intro i m hi hm
    refine Ev.succ ?_
    have hl := bin_len hn i
    have e0 : ((n : Int) - (i : Int)) % 4294967296 = ((n - i : Nat) : Int) := by omega
    have e1 : ((i + 1 : Nat) : Int) % 4294967296 = ((i + 1 : Nat) : Int) := by omega
    simp only [nat_Binomial.l0, w64 (x := (n : Int) - (i : Int)) (by omega) (by omega), wn (show (i : Int) + 1 = ((i + 1 : Nat) : Int) by omega) (by omega), if_pos (show (i : Int) < (m : Int) by omega), e0, e1]
    have l1 : Lm [((n - i : Nat) : Int)] := by rw [lm_cons]; exact ⟨by omega, lm_nil⟩
    refine Ev.bind (times_ev (lm_dg _) l1 (by omega) (by simp)) ?_
    have v1 : lv (dg (bin n i)) * lv [((n - i : Nat) : Int)] = ((bin n i * (n - i) : Nat) : Int) := by rw [lv_dg, lv_cons, lv_nil, Int.natCast_mul]; simp
    rw [v1, Int.toNat_natCast, bin_mul]
    have hl2 : (dg ((i + 1) * bin n (i + 1))).length ≤ 130 := by
      refine dg_len_le ?_
      rw [← bin_mul]
      have h1 := dg_lt_len (bin n i)
      have h2 := bp_mono hl
      have h3 : bin n i < bp 129 := by omega
      rw [show 130 = 129 + 1 from rfl, bp_succ, Nat.mul_comm]
      have h4 : n - i ≤ 4294967296 := by omega
      exact Nat.lt_of_le_of_lt (Nat.mul_le_mul_right _ h4) (Nat.mul_lt_mul_of_pos_left h3 (by decide))
    refine Ev.bind (digit_ev (lm_dg _) (by omega) (by omega) (by omega)) ?_
    rw [lv_dg]
    have v2 : (((i + 1) * bin n (i + 1) : Nat) : Int) / ((i + 1 : Nat) : Int) = ((bin n (i + 1) : Nat) : Int) := by
      rw [Int.natCast_mul, Int.mul_ediv_cancel_left _ (by omega)]
    rw [v2, Int.toNat_natCast]
    exact ih (i + 1) m (by omega) hm
theorem binomial_ev {n m : Nat} (hn : n ≤ 4096) (hm : m ≤ n) : Ev (fun k => nat_Binomial.f k (n : Int) (m : Int)) (dg (bin n m), 0) := by
  simp only [nat_Binomial.f, if_neg (show ¬ (n : Int) < 0 by omega), decide_eq_false (show ¬ (n : Int) > 4096 by omega)]
  refine Ev.succ ?_
  simp only [nat_Binomial.j0, Bool.false_eq_true, if_false, if_neg (show ¬ (m : Int) < 0 by omega), decide_eq_false (show ¬ (m : Int) > (n : Int) by omega)]
  refine Ev.succ ?_
  simp only [nat_Binomial.j1, Bool.false_eq_true, if_false, wn (show (n : Int) - (m : Int) = ((n - m : Nat) : Int) by omega) (by omega)]
  have hone : ([1] : List Int) = dg (bin n 0) := by rw [bin_zero, dg_one]
  rw [hone]
  have hz : (0 : Int) = ((0 : Nat) : Int) := rfl
  by_cases h : m ≤ n - m
  · rw [show mn (m : Int) ((n - m : Nat) : Int) = (m : Int) from by unfold mn; split <;> omega]
    exact binomial_loop hn m 0 m (by omega) hm
  · rw [show mn (m : Int) ((n - m : Nat) : Int) = ((n - m : Nat) : Int) from by unfold mn; split <;> omega, ← bin_symm hm]
    exact binomial_loop hn (n - m) 0 (n - m) (by omega) (by omega)
theorem bits_half (x : Nat) (h : x < 4294967296) : Lib.bitLen x ≤ 32 := Lib.bitLen_le x 32 (by decide) (by omega)
theorem bitLen_zero : Lib.bitLen 0 = 0 := by decide
theorem bitLen_pos {x : Nat} (h0 : x ≠ 0) (h : x < 4294967296) : 1 ≤ Lib.bitLen x := by
  rw [Lib.bitLen_half x h0 (by omega)]; omega
theorem bitLen_lt : ∀ (b x : Nat), x < 4294967296 → Lib.bitLen x ≤ b → x < 2 ^ b := by
  intro b
  induction b with
  | zero =>
    intro x hx hb
    by_cases h : x = 0
    · subst h; decide
    · have := bitLen_pos h hx; omega
  | succ b ih =>
    intro x hx hb
    by_cases h : x = 0
    · subst h; exact Nat.two_pow_pos _
    · rw [Lib.bitLen_half x h (by omega)] at hb
      have := ih (x / 2) (by omega) (by omega)
      rw [Nat.pow_succ]
      omega
theorem dg_head {n : Nat} {i : Nat} (hi : i + 1 = (dg n).length) : rd (dg n) (i : Int) ≠ 0 := by
  have hne : dg n ≠ [] := by intro e; rw [e] at hi; simp at hi
  have := dg_last n hne
  rw [List.getLast_eq_getElem] at this
  rw [rd_lt (by omega)]
  have e : (dg n).length - 1 = i := by omega
  simpa [e] using this
def bl (n : Nat) : Nat := if n = 0 then 0 else 32 * ((dg n).length - 1) + Lib.bitLen (rd (dg n) (((dg n).length - 1 : Nat) : Int)).toNat
theorem bits_ev {n : Nat} (hn : (dg n).length < 33554432) : Ev (fun k => nat_Bits.f k (dg n)) ((bl n : Nat) : Int) := by
  simp only [nat_Bits.f]
  refine Ev.bind (short_ev (lm_dg n) (by omega)) ?_
  rw [lv_dg, Int.toNat_natCast]
  by_cases h : n = 0
  · subst h
    rw [dg_zero]
    simp only [List.length_nil, if_pos (show ((0 : Nat) : Int) = 0 from rfl)]
    exact Ev.cast (Ev.some _) (by simp [bl])
  · have hp : (dg n).length ≠ 0 := by rw [Ne, dg_len_zero]; exact h
    obtain ⟨m, hm⟩ : ∃ m, (dg n).length = m + 1 := ⟨(dg n).length - 1, by omega⟩
    have hb : bl n = 32 * m + Lib.bitLen (rd (dg n) (m : Int)).toNat := by unfold bl; rw [if_neg h, hm]; rfl
    have hr := rd_lm (lm_dg n) (m : Int)
    have hbl := bits_half (rd (dg n) (m : Int)).toNat (by omega)
    rw [hb, hm]
    have f1 : bits_Len32.f (rd (dg n) (m : Int)) = some ((Lib.bitLen (rd (dg n) (m : Int)).toNat : Nat) : Int) := by
      unfold bits_Len32.f
      rw [if_pos hr.1, if_pos (by omega)]
    simp only [if_neg (show ¬ ((m + 1 : Nat) : Int) = 0 by omega), wn (show ((m + 1 : Nat) : Int) - 1 = (m : Int) by omega) (by omega), if_pos (show (0 : Int) ≤ (m : Int) by omega), if_pos (show (m : Int) < ((m + 1 : Nat) : Int) by omega), f1, Option.bind_some]
    refine Ev.cast (Ev.some _) ?_
    rw [wn (show (32 : Int) * (m : Int) = ((32 * m : Nat) : Int) by omega) (by omega), wn (show ((32 * m : Nat) : Int) + ((Lib.bitLen (rd (dg n) (m : Int)).toNat : Nat) : Int) = ((32 * m + Lib.bitLen (rd (dg n) (m : Int)).toNat : Nat) : Int) by omega) (by omega)]
theorem bl_zero {n : Nat} : bl n = 0 ↔ n = 0 := by
  constructor
  · intro h
    by_cases h0 : n = 0
    · exact h0
    · unfold bl at h
      rw [if_neg h0] at h
      have hp : (dg n).length ≠ 0 := by rw [Ne, dg_len_zero]; exact h0
      obtain ⟨m, hm⟩ : ∃ m, (dg n).length = m + 1 := ⟨(dg n).length - 1, by omega⟩
      have hr := rd_lm (lm_dg n) (m : Int)
      have h1 := dg_head hm.symm
      rw [hm, show m + 1 - 1 = m from rfl] at h
      have := bitLen_pos (x := (rd (dg n) (m : Int)).toNat) (by omega) (by omega)
      omega
  · intro h; subst h; rfl
theorem bl_small {n : Nat} (h0 : n ≠ 0) (h : n < 4294967296) : bl n = Lib.bitLen n := by
  unfold bl
  rw [if_neg h0, dg_small h0 h]
  simp [rd]
theorem bl_one {n : Nat} : bl n = 1 ↔ n = 1 := by
  constructor
  · intro h
    have hn0 : n ≠ 0 := by intro e; subst e; rw [bl_zero.mpr rfl] at h; omega
    unfold bl at h
    rw [if_neg hn0] at h
    have hp : (dg n).length ≠ 0 := by rw [Ne, dg_len_zero]; exact hn0
    obtain ⟨m, hm⟩ : ∃ m, (dg n).length = m + 1 := ⟨(dg n).length - 1, by omega⟩
    have hr := rd_lm (lm_dg n) (m : Int)
    have h1 := dg_head hm.symm
    rw [hm, show m + 1 - 1 = m from rfl] at h
    have h2 := bitLen_pos (x := (rd (dg n) (m : Int)).toNat) (by omega) (by omega)
    have hm0 : m = 0 := by omega
    subst hm0
    have hn : n < 4294967296 := by
      have := dg_lt_len n
      rw [hm, show (0 + 1 : Nat) = 0 + 1 from rfl, bp_succ, bp_zero] at this
      omega
    have h4 : dg n = [(n : Int)] := dg_small hn0 hn
    rw [h4] at h
    have h3 := bitLen_lt 1 n hn (by simp [rd] at h; omega)
    omega
  · intro h; subst h; rw [bl_small (by decide) (by decide)]; decide
theorem pow_len (x n m : Nat) (h : (dg x).length ≤ m) : (dg (x ^ n)).length ≤ m * n + 1 := by
  refine dg_len_le ?_
  have h1 := dg_lt_len x
  have h2 := bp_mono h
  have h3 : ∀ n, x ^ n ≤ bp (m * n) := by
    intro n
    induction n with
    | zero => simp [bp_zero]
    | succ n ih => rw [Nat.pow_succ, Nat.mul_succ, bp_add]; exact Nat.mul_le_mul ih (by omega)
  have h4 := h3 n
  rw [bp_succ]
  have h5 := bp_pos (m * n)
  omega
theorem and1 {n : Nat} (hn : n < 9223372036854775808) : Go.bits .and .i64 (n : Int) 1 = ((n % 2 : Nat) : Int) := by
  have := bits_mask .i64 63 (by decide) (fun n h0 h1 => by
    rw [IntKind.wrap_i64]
    have : n < 9223372036854775808 := by omega
    omega) 1 (by decide) (n : Int) (by omega) (by have : (n : Int) < 9223372036854775808 := by omega
                                                  omega)
  rw [show (2 : Int) ^ 1 - 1 = 1 from rfl, show (2 : Int) ^ 1 = 2 from rfl] at this
  rw [this]
  omega
theorem mul_len (x y : Nat) : (dg (x * y)).length ≤ (dg x).length + (dg y).length := by
  refine dg_len_le ?_
  rw [bp_add]
  exact Nat.mul_lt_mul'' (dg_lt_len x) (dg_lt_len y)
theorem times2_ev {a b : Nat} (h1 : (dg a).length < 268435456) (h2 : (dg b).length < 268435456) : Ev (fun k => nat_times.f k (dg a) (dg b)) (dg (a * b)) := by
  refine Ev.cast (times_ev (lm_dg a) (lm_dg b) h1 h2) ?_
  rw [lv_dg, lv_dg, ← Int.natCast_mul, Int.toNat_natCast]
theorem trim2_ev {a : Nat} (h1 : (dg a).length < 268435456) : Ev (fun k => nat_Trim.f k (dg a)) (dg a) := by
  refine Ev.cast (trim_ev (lm_dg a) (by omega)) ?_
  rw [lv_dg, Int.toNat_natCast]
theorem pow_half (y x n : Nat) : y * x ^ n = (if n % 2 = 1 then y * x else y) * (x * x) ^ (n / 2) := by
  have e : n = 2 * (n / 2) + n % 2 := by omega
  have h : x ^ n = (x * x) ^ (n / 2) * x ^ (n % 2) := by
    conv => lhs; rw [e]
    rw [Nat.pow_add, Nat.pow_mul, Nat.pow_two]
  rw [h]
  by_cases g : n % 2 = 1
  · rw [if_pos g, g, Nat.pow_one]; simp only [Nat.mul_assoc, Nat.mul_comm x]
  · rw [if_neg g, show n % 2 = 0 by omega, Nat.pow_zero, Nat.mul_one]
theorem pow_loop : ∀ (n : Nat), 0 < n → n < 4611686018427387904 → ∀ (y x : Nat), Aside0 ((dg x).length * n + (dg y).length ≤ 4096) → Ev (fun k => nat_Pow.l0 k (n : Int) (dg y) (dg x)) (dg (y * x ^ n), 0) := by
  intro n
  induction n using Nat.strongRecOn with
  | _ n ih =>
    intro h0 h1 y x hl
    have hx : (dg x).length ≤ 4096 := by
      have h2 := hl.out
      have h3 : (dg x).length * 1 ≤ (dg x).length * n := Nat.mul_le_mul_left _ h0
      omega
    have hy : (dg y).length ≤ 4096 := by have := hl.out; omega
    have hyx := mul_len y x
    have hxx := mul_len x x
    refine Ev.succ ?_
    have hd : (n : Int) / 2 = ((n / 2 : Nat) : Int) := by omega
    have hy2 : Aside0 ((dg (x * x)).length * (n / 2) + (dg (if n % 2 = 1 then y * x else y)).length ≤ 4096) := by
      refine ⟨?_⟩
      have h2 := hl.out
      have h3 : (dg (x * x)).length * (n / 2) ≤ ((dg x).length + (dg x).length) * (n / 2) := Nat.mul_le_mul_right _ hxx
      have h4 : ((dg x).length + (dg x).length) * (n / 2) + (dg x).length * (n % 2) = (dg x).length * n := by
        conv => rhs; rw [show n = 2 * (n / 2) + n % 2 by omega]
        rw [Nat.mul_add, ← Nat.two_mul, Nat.mul_assoc, Nat.mul_left_comm]
      by_cases g : n % 2 = 1
      · rw [if_pos g]
        rw [g, Nat.mul_one] at h4
        omega
      · rw [if_neg g]
        rw [show n % 2 = 0 by omega, Nat.mul_zero] at h4
        omega
    have fin : n / 2 = 0 → Ev (fun k => if (((dg (if n % 2 = 1 then y * x else y)).length : Nat) : Int) > 4096 then some (([] : List Int), (8 : Int)) else (nat_Trim.f k (dg (if n % 2 = 1 then y * x else y))).bind fun t => some (t, 0)) (dg (y * x ^ n), 0) := by
      intro hz
      have h2 := hy2.out
      rw [hz, Nat.mul_zero] at h2
      rw [pow_half y x n, hz, Nat.pow_zero, Nat.mul_one]
      simp only [if_neg (show ¬ (((dg (if n % 2 = 1 then y * x else y)).length : Nat) : Int) > 4096 by omega)]
      refine Ev.bind (trim2_ev (by omega)) ?_
      exact Ev.some _
    have go : n / 2 ≠ 0 → Ev (fun k => (nat_times.f k (dg x) (dg x)).bind fun t => nat_Pow.l0 k ((n / 2 : Nat) : Int) (dg (if n % 2 = 1 then y * x else y)) t) (dg (y * x ^ n), 0) := by
      intro hz
      refine Ev.bind (times2_ev (by omega) (by omega)) ?_
      rw [pow_half y x n]
      exact ih (n / 2) (by omega) (by omega) (by omega) _ _ hy2
    simp only [nat_Pow.l0, and1 (show n < 9223372036854775808 by omega), hd]
    clear hy2 hl
    by_cases g : n % 2 = 1
    · rw [if_pos g] at fin go
      simp only [if_pos (show ((n % 2 : Nat) : Int) = 1 by omega)]
      refine Ev.bind (times2_ev (by omega) (by omega)) ?_
      by_cases hz : n / 2 = 0
      · simp only [if_pos (show ((n / 2 : Nat) : Int) = 0 by omega)]
        exact fin hz
      · simp only [if_neg (show ¬ ((n / 2 : Nat) : Int) = 0 by omega)]
        exact go hz
    · rw [if_neg g] at fin go
      simp only [if_neg (show ¬ ((n % 2 : Nat) : Int) = 1 by omega)]
      by_cases hz : n / 2 = 0
      · simp only [if_pos (show ((n / 2 : Nat) : Int) = 0 by omega)]
        exact fin hz
      · simp only [if_neg (show ¬ ((n / 2 : Nat) : Int) = 0 by omega)]
        exact go hz
theorem pow_ev {x n : Nat} (hx : x < 4294967296) (hn : n < 4096) : Ev (fun k => nat_Pow.f k (dg x) (n : Int)) (dg (x ^ n), 0) := by
  have hxl : (dg x).length ≤ 1 := dg_len_le (by rw [show (1 : Nat) = 0 + 1 from rfl, bp_succ, bp_zero]; omega)
  simp only [nat_Pow.f, if_neg (show ¬ (n : Int) < 0 by omega)]
  refine Ev.bind (bits_ev (by omega)) ?_
  have one : ([1] : List Int) = dg 1 := dg_one.symm
  by_cases h0 : n = 0
  · subst h0
    simp only [if_pos (show ((0 : Nat) : Int) = 0 from rfl)]
    refine Ev.succ ?_
    simp only [nat_Pow.j0, if_true, Nat.pow_zero, one]
    exact Ev.some _
  · simp only [if_neg (show ¬ (n : Int) = 0 by omega)]
    by_cases h1 : x = 1
    · subst h1
      rw [bl_one.mpr rfl]
      refine Ev.succ ?_
      simp only [nat_Pow.j0, Nat.one_pow, one]
      exact Ev.some _
    · have hb1 : bl x ≠ 1 := fun e => h1 (bl_one.mp e)
      have hbl : bl x ≤ 32 := by
        by_cases hx0 : x = 0
        · subst hx0; rw [bl_zero.mpr rfl]; omega
        · rw [bl_small hx0 hx]; exact bits_half x hx
      rw [show (((bl x : Nat) : Int) == 1) = false from by simp; omega]
      refine Ev.succ ?_
      simp only [nat_Pow.j0, Bool.false_eq_true, if_false]
      by_cases hx0 : x = 0
      · subst hx0
        simp only [bl_zero.mpr rfl, if_pos (show ((0 : Nat) : Int) = 0 from rfl)]
        rw [Nat.zero_pow (by omega), dg_zero]
        exact Ev.some _
      · have hb0 : bl x ≠ 0 := fun e => hx0 (bl_zero.mp e)
        have hmul : (bl x - 1) * n ≤ 31 * 4095 := Nat.mul_le_mul (by omega) (by omega)
        have e2 : wrap64 (wrap64 ((bl x : Int) - 1) * (n : Int)) = (((bl x - 1) * n : Nat) : Int) := by
          rw [wn (show (bl x : Int) - 1 = ((bl x - 1 : Nat) : Int) by omega) (by omega)]
          exact wn (by rw [Int.natCast_mul]) (by omega)
        have e3 : ¬ wrap64 (wrap64 ((bl x : Int) - 1) * (n : Int)) ≥ 131072 := by rw [e2]; clear e2; omega
        simp only [if_neg (show ¬ ((bl x : Nat) : Int) = 0 by clear e2 e3; omega), if_neg (show ¬ (n : Int) > 131072 by clear e2 e3; omega), if_neg e3]
        clear e2 e3
        refine Ev.bind (short_ev (lm_dg x) (by omega)) ?_
        rw [lv_dg, Int.toNat_natCast, one]
        refine Ev.cast (pow_loop n (by omega) (by omega) 1 x ⟨?_⟩) (by rw [Nat.one_mul])
        have h5 : (dg x).length * n ≤ 1 * 4095 := Nat.mul_le_mul hxl (by omega)
        rw [dg_one]
        simp only [List.length_cons, List.length_nil]
        omega
end Mw
end
