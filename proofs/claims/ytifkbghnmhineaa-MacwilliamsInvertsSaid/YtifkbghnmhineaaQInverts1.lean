/- What functions of the program do and come to, for the statement MacwilliamsInverts, part 1. Conditions: as each theorem says. -/
import Derived.Test.YtifkbghnmhineaaQInverts0

namespace Go.Proofs.Ytifkbghnmhineaa.PAll
open Go.RowKit Go.Proofs.YtifkbghnmhineaaW.PrintWords Go.Proofs.YtifkbghnmhineaaW.PrintLast Go.Proofs.YtifkbghnmhineaaW.PrintMore
attribute [local go_sem] max2_int min2_int max_two min_two max_three min_three max_four min_four
set_option linter.unusedVariables false
set_option linter.unusedSimpArgs false
set_option maxHeartbeats 8000000 in
set_option maxRecDepth 100000 in
theorem r1_Mul.calls (k : Nat) (A0 : Option Addr) (c0 : Nat) (l0 : List Int) (A1 : Option Addr) (c1 : Nat) (l1 : List Int) (r : List Int) (w : World) (hr0 : Kd.C (Kd.int .u32) w A0 l0.length l0) (hc0 : l0.length ≤ c0) (hr1 : Kd.C (Kd.int .u32) w A1 l1.length l1) (hc1 : l1.length ≤ c1) (h : r1_Mul.f k l0 l1 = some r) :
    Calls Try.prog 26 #[.slice A0 l0.length c0, .slice A1 l1.length c1] w fun e w' => ∃ v0_ : Value, e = .returned (v0_) ∧ Kd.R (Kd.int .u32) 97 w' w.heap.size (fun _ => True) v0_ r ∧ Below w.heap.size w w' := by
 have HR0 := Aside0.mk hr0
 have HC0 := Aside0.mk hc0
 clear hr0 hc0
 have HR1 := Aside0.mk hr1
 have HC1 := Aside0.mk hc1
 clear hr1 hc1
 have HB := Aside0.mk (Below.refl w.heap.size w)
 have H : (if 0 ≤ (wrap64 ((l0.length : Int) + (l1.length : Int))) then (if (wrap64 ((l0.length : Int) + (l1.length : Int)) : Int).toNat ≤ 70368744177664 then (r1_Mul.l0 k l0 l1 (List.replicate (wrap64 ((l0.length : Int) + (l1.length : Int)) : Int).toNat 0) 0) else (none)) else (none)) = some r := h
 clear h
 obtain ⟨ji3, hji3⟩ : ∃ j_ : Int, (wrap64 ((l0.length : Int) + (l1.length : Int))) = j_ := ⟨_, rfl⟩
 replace H : (if 0 ≤ (ji3) then (if (ji3 : Int).toNat ≤ 70368744177664 then (r1_Mul.l0 k l0 l1 (List.replicate (ji3 : Int).toNat 0) 0) else (none)) else (none)) = some r := by first | (rw [hji3] at H; exact H) | (simp only [hji3] at H ⊢; exact H)
 have hji3w : (IntKind.i64.wrap ((l0.length : Int) + (l1.length : Int))) = ji3 := (i64_w _).trans hji3
 replace H := zg H
 obtain ⟨c4, H⟩ := H
 have c4b0 := eq_true c4
 have c4b1 := decide_eq_true c4
 clear c4
 replace H := zg H
 obtain ⟨c5, H⟩ := H
 have c5b0 := eq_true c5
 have c5b1 := decide_eq_true c5
 clear c5
 obtain ⟨y101, hy101⟩ : ∃ y_ : List Int, y_ = (List.replicate (ji3 : Int).toNat 0) := ⟨_, rfl⟩
 replace H : (r1_Mul.l0 k l0 l1 y101 0) = some r := zY hy101 H
 have Ny101 := Aside0.mk hy101
 clear hy101
 have H' := Aside0.mk H
 clear H
 go_enter Try.func26, Try.ntmps26
 go_wp2_with (first | ((with_reducible refine gate_dst (N := 15) rfl ?_); refine Kd.R_make (Kd.int .u32) _ 97 rfl (N := 15) rfl 29 _ _ rfl ji3 rfl rfl Try.underlying29 (.int .u32 0) 4 info97 rfl (by decide) (by omega) 0 (ok := fun _ => True) (okp := fun _ => True) rfl (fun _ hk => hk) trivial zd (Nat.le_trans (Nat.mul_le_mul_right _ (zd : ji3.toNat ≤ 70368744177664)) (by omega)) (Below.refl _ _) (Nat.le_refl _) ?_; intro v102 w6 ho7 hb hg_ hnew_; clear hg_ hnew_; (first | rw [← Ny101.out] at ho7 | (simp only [Int.reduceToNat] at ho7; rw [← Ny101.out] at ho7)); have HO103 := yRl ho7 HB; replace HB := yS HB hb; clear hb ho7))
 repeat (go_quiet (first | ((with_reducible refine gate_dst (N := 15) rfl ?_); refine Kd.R_make (Kd.int .u32) _ 97 rfl (N := 15) rfl 29 _ _ rfl ji3 rfl rfl Try.underlying29 (.int .u32 0) 4 info97 rfl (by decide) (by omega) 0 (ok := fun _ => True) (okp := fun _ => True) rfl (fun _ hk => hk) trivial zd (Nat.le_trans (Nat.mul_le_mul_right _ (zd : ji3.toNat ≤ 70368744177664)) (by omega)) (Below.refl _ _) (Nat.le_refl _) ?_; intro v102 w6 ho7 hb hg_ hnew_; clear hg_ hnew_; (first | rw [← Ny101.out] at ho7 | (simp only [Int.reduceToNat] at ho7; rw [← Ny101.out] at ho7)); have HO103 := yRl ho7 HB; replace HB := yS HB hb; clear hb ho7)); try go_wp2_with (first | ((with_reducible refine gate_dst (N := 15) rfl ?_); refine Kd.R_make (Kd.int .u32) _ 97 rfl (N := 15) rfl 29 _ _ rfl ji3 rfl rfl Try.underlying29 (.int .u32 0) 4 info97 rfl (by decide) (by omega) 0 (ok := fun _ => True) (okp := fun _ => True) rfl (fun _ hk => hk) trivial zd (Nat.le_trans (Nat.mul_le_mul_right _ (zd : ji3.toNat ≤ 70368744177664)) (by omega)) (Below.refl _ _) (Nat.le_refl _) ?_; intro v102 w6 ho7 hb hg_ hnew_; clear hg_ hnew_; (first | rw [← Ny101.out] at ho7 | (simp only [Int.reduceToNat] at ho7; rw [← Ny101.out] at ho7)); have n0_ := yRl ho7 HB; have n1_ := yS HB hb; clear HB; have HO103 := n0_; have HB := n1_; clear n0_ n1_; clear hb ho7)))
 go_loopg [6] k (fun kq v6 w' => ∃ (x5_1 : List Int) (x6_1 : Int), v6 = .int .i64 x6_1 ∧ Aside0 (r1_Mul.l0 kq l0 l1 x5_1 x6_1 = some r) ∧ Aside0 (kq ≤ k) ∧ Aside0 (Kd.R (Kd.int .u32) 97 w' w.heap.size (fun _ => True) v102 x5_1) ∧ Aside0 (Below w.heap.size w w'))
 case atStart => exact ⟨(y101), (0), zF, H', ⟨Nat.le_refl _⟩, ⟨zR HO103.out⟩, ⟨zB HB.out⟩⟩
 clear H'
 (try clear c4);(try clear c4b0);(try clear c4b1);(try clear c5);(try clear c5b0);(try clear c5b1)
 obtain ⟨x5_1, x6_1, rfl, HA, HK1, HO_5, HB⟩ := hrel
 cases gk with | zero => exact absurd HA.out (by simp [r1_Mul.l0]) | succ k1 => ?_
 have H := HA.out
 clear HA
 simp only [r1_Mul.l0] at H
 replace H := zid H
 rcases H with ⟨c8b0, H⟩ | ⟨c8b0, H⟩
 · have H' := Aside0.mk H
   clear H
   go_wp2
   repeat (go_quiet (fail); try go_wp2)
   go_loopg [7, 8] k1 (fun kq v7 v8 w' => ∃ (x5_2 : List Int) (x7_2 : Int) (x8_2 : Int), v7 = .int .u64 x7_2 ∧ v8 = .int .i64 x8_2 ∧ Aside0 (r1_Mul.l1 kq l0 l1 x5_2 x6_1 x7_2 x8_2 = some r) ∧ Aside0 (kq ≤ k1) ∧ Aside0 (Kd.R (Kd.int .u32) 97 w' w.heap.size (fun _ => True) v102 x5_2) ∧ Aside0 (Below w.heap.size w w'))
   case atStart => exact ⟨(x5_1), (0), (0), zF, zF, H', ⟨Nat.le_refl _⟩, ⟨zR HO_5.out⟩, ⟨zB HB.out⟩⟩
   clear H'
   (try clear c4);(try clear c4b0);(try clear c4b1);(try clear c5);(try clear c5b0);(try clear c5b1);(try clear c8b0)
   obtain ⟨x5_2, x7_2, x8_2, rfl, rfl, HA, HK2, HO_5, HB⟩ := hrel
   cases gk with | zero => exact absurd HA.out (by simp [r1_Mul.l1]) | succ k2 => ?_
   have H := HA.out
   clear HA
   simp only [r1_Mul.l1] at H
   replace H := zid H
   rcases H with ⟨c9b0, H⟩ | ⟨c9b0, H⟩
   · replace H := zgd H
     obtain ⟨c10b0, H⟩ := H
     replace H := zgd H
     obtain ⟨c11b0, H⟩ := H
     replace H := zgd H
     obtain ⟨c12b0, H⟩ := H
     obtain ⟨ji13, hji13⟩ : ∃ j_ : Int, (wrap64 (x6_1 + x8_2)) = j_ := ⟨_, rfl⟩
     replace H : (if 0 ≤ (ji13) then (if (ji13) < (x5_2.length : Int) then (r1_Mul.l1 k2 l0 l1 (x5_2.set ((ji13) : Int).toNat ((Int.tmod (IntKind.u64.wrap ((IntKind.u64.wrap ((IntKind.u64.wrap ((IntKind.u64.wrap (rd l0 x6_1)) * (IntKind.u64.wrap (rd l1 x8_2)))) + (IntKind.u64.wrap (rd x5_2 (ji13))))) + x7_2)) 4294967296) % 4294967296)) x6_1 (IntKind.u64.wrap (Int.tdiv (IntKind.u64.wrap ((IntKind.u64.wrap ((IntKind.u64.wrap ((IntKind.u64.wrap (rd l0 x6_1)) * (IntKind.u64.wrap (rd l1 x8_2)))) + (IntKind.u64.wrap (rd x5_2 (ji13))))) + x7_2)) 4294967296)) (wrap64 (x8_2 + 1))) else (none)) else (none)) = some r := by first | (rw [hji13] at H; exact H) | (simp only [hji13] at H ⊢; exact H)
     have hji13w : (IntKind.i64.wrap (x6_1 + x8_2)) = ji13 := (i64_w _).trans hji13
     replace H := zgd H
     obtain ⟨c14b0, H⟩ := H
     replace H := zgd H
     obtain ⟨c15b0, H⟩ := H
     obtain ⟨y110, hy110⟩ : ∃ y_ : List Int, y_ = (x5_2.set ((ji13) : Int).toNat ((Int.tmod (IntKind.u64.wrap ((IntKind.u64.wrap ((IntKind.u64.wrap ((IntKind.u64.wrap (rd l0 x6_1)) * (IntKind.u64.wrap (rd l1 x8_2)))) + (IntKind.u64.wrap (rd x5_2 (ji13))))) + x7_2)) 4294967296) % 4294967296)) := ⟨_, rfl⟩
     replace H : (r1_Mul.l1 k2 l0 l1 y110 x6_1 (IntKind.u64.wrap (Int.tdiv (IntKind.u64.wrap ((IntKind.u64.wrap ((IntKind.u64.wrap ((IntKind.u64.wrap (rd l0 x6_1)) * (IntKind.u64.wrap (rd l1 x8_2)))) + (IntKind.u64.wrap (rd x5_2 (ji13))))) + x7_2)) 4294967296)) (wrap64 (x8_2 + 1))) = some r := zY hy110 H
     have Ny110 := Aside0.mk hy110
     clear hy110
     have H' := Aside0.mk H
     clear H
     have p107 : 0 ≤ (x6_1 : Int) := zd
     have q107 : x6_1 < (l0.length : Int) := zd
     obtain ⟨ad107, e107, hx107_0⟩ := Kd.at_int HR0.out x6_1 p107 q107
     cases e107
     replace hx107_0 := (HB.out.cell (World.block_lt_of_cell? w _ hx107_0)).trans hx107_0
     replace p107 := eq_true p107
     replace q107 := eq_true q107
     have p108 : 0 ≤ (x8_2 : Int) := zd
     have q108 : x8_2 < (l1.length : Int) := zd
     obtain ⟨ad108, e108, hx108_0⟩ := Kd.at_int HR1.out x8_2 p108 q108
     cases e108
     replace hx108_0 := (HB.out.cell (World.block_lt_of_cell? w _ hx108_0)).trans hx108_0
     replace p108 := eq_true p108
     replace q108 := eq_true q108
     obtain ⟨Ao17, co17, rfl⟩ := Kd.R_slice HO_5.out
     have p109 : 0 ≤ ((ji13) : Int) := zd
     have q109 : (ji13) < (x5_2.length : Int) := zd
     obtain ⟨ad109, e109, hx109_0⟩ := Kd.at_int (Kd.R_reads' HO_5.out).2.2 (ji13) p109 q109
     cases e109
     replace p109 := eq_true p109
     replace q109 := eq_true q109
     have p16 : 0 ≤ ((ji13) : Int) := zd
     have q16 : ((ji13) : Int) < ((x5_2.length : Int) : Int) := zd
     obtain ⟨go16, co16, eo16, gb16, gl16, cl16, HG16⟩ := Kd.R_form HO_5.out (by omega)
     (first | cases eo16 | (injection eo16 with ea_ en_ ec_; (first | subst ea_ | (injection ea_ with ea_; subst ea_)); subst ec_; clear en_))
     have GB16 := Aside0.mk gb16
     have GG16 := Aside0.mk HG16
     clear gb16 gl16 HG16
     (first | simp only [add_plain] at hx109_0 | skip)
     obtain ⟨hx16_0, hf16_0⟩ := Kd.R_celln 0 HO_5.out ((ji13) : Int) p16 q16
     replace p16 := eq_true p16
     replace q16 := eq_true q16
     obtain ⟨hy18_, hz18_⟩ := Kd.R_celln 0 HO_5.out ((ji13) : Int) zd zd
     have HP18 := Kd.R_putg HO_5.out ((ji13) : Int) ((Int.tmod (IntKind.u64.wrap ((IntKind.u64.wrap ((IntKind.u64.wrap ((IntKind.u64.wrap (rd l0 x6_1)) * (IntKind.u64.wrap (rd l1 x8_2)))) + (IntKind.u64.wrap (rd x5_2 (ji13))))) + x7_2)) 4294967296) % 4294967296)
     go_wp2_with (first | ((with_reducible refine gate_store (t := 97) (p := 56) rfl ?_); (try (rw [drewN_self wr]; generalize hq_ : World.drewN wr _ = wr; have n0_ := Aside0.mk (Kd.R_at hq_ HO_5.out); have n1_ := Aside0.mk (below_at hq_ HB.out); clear hq_ HO_5 HB; have HO_5 := n0_; have HB := n1_; clear n0_ n1_; (try (obtain ⟨hy18_, hz18_⟩ := Kd.R_celln 0 HO_5.out ((ji13) : Int) zd zd)); (try (have HP18 := Kd.R_putg HO_5.out ((ji13) : Int) ((Int.tmod (IntKind.u64.wrap ((IntKind.u64.wrap ((IntKind.u64.wrap ((IntKind.u64.wrap (rd l0 x6_1)) * (IntKind.u64.wrap (rd l1 x8_2)))) + (IntKind.u64.wrap (rd x5_2 (ji13))))) + x7_2)) 4294967296) % 4294967296))))); refine store_event (t := 97) (p := 56) (v := ?vo_w19) (w1 := (wr.setCell ⟨go16, ((ji13) : Int).toNat, none⟩ (.int .u32 ((Int.tmod (IntKind.u64.wrap ((IntKind.u64.wrap ((IntKind.u64.wrap ((IntKind.u64.wrap (rd l0 x6_1)) * (IntKind.u64.wrap (rd l1 x8_2)))) + (IntKind.u64.wrap (rd x5_2 (ji13))))) + x7_2)) 4294967296) % 4294967296)))) ?hg ?ho ?hn ?hr ?_; (case ho => rfl); (case hg => rfl); (case hn => rfl); (case hr => first | (go_simp; done) | (go_simp; rfl)); intro w19 hw; have hg : wr.grownBy w19 (some go16) := (by rw [hw]; exact HP18.2); have hp_ : Kd.R (Kd.int .u32) 97 w19 w.heap.size (fun _ => True) (.slice (some ⟨go16, 0, none⟩) x5_2.length co17) y110 := (by rw [hw, Ny110.out]; exact HP18.1); clear HP18; replace HO_5 := Aside0.mk (hp_); replace HB := Aside0.mk ((by rw [hw]; exact below_set (HB.out) GB16.out : Below w.heap.size w w19)); clear hg hw hp_))
     repeat (go_quiet (first | ((with_reducible refine gate_store (t := 97) (p := 56) rfl ?_); (try (rw [drewN_self wr]; generalize hq_ : World.drewN wr _ = wr; have n0_ := Aside0.mk (Kd.R_at hq_ HO_5.out); have n1_ := Aside0.mk (below_at hq_ HB.out); clear hq_ HO_5 HB; have HO_5 := n0_; have HB := n1_; clear n0_ n1_; (try (obtain ⟨hy18_, hz18_⟩ := Kd.R_celln 0 HO_5.out ((ji13) : Int) zd zd)); (try (have HP18 := Kd.R_putg HO_5.out ((ji13) : Int) ((Int.tmod (IntKind.u64.wrap ((IntKind.u64.wrap ((IntKind.u64.wrap ((IntKind.u64.wrap (rd l0 x6_1)) * (IntKind.u64.wrap (rd l1 x8_2)))) + (IntKind.u64.wrap (rd x5_2 (ji13))))) + x7_2)) 4294967296) % 4294967296))))); refine store_event (t := 97) (p := 56) (v := ?vo_w19) (w1 := (wr.setCell ⟨go16, ((ji13) : Int).toNat, none⟩ (.int .u32 ((Int.tmod (IntKind.u64.wrap ((IntKind.u64.wrap ((IntKind.u64.wrap ((IntKind.u64.wrap (rd l0 x6_1)) * (IntKind.u64.wrap (rd l1 x8_2)))) + (IntKind.u64.wrap (rd x5_2 (ji13))))) + x7_2)) 4294967296) % 4294967296)))) ?hg ?ho ?hn ?hr ?_; (case ho => rfl); (case hg => rfl); (case hn => rfl); (case hr => first | (go_simp; done) | (go_simp; rfl)); intro w19 hw; have hg : wr.grownBy w19 (some go16) := (by rw [hw]; exact HP18.2); have hp_ : Kd.R (Kd.int .u32) 97 w19 w.heap.size (fun _ => True) (.slice (some ⟨go16, 0, none⟩) x5_2.length co17) y110 := (by rw [hw, Ny110.out]; exact HP18.1); clear HP18; replace HO_5 := Aside0.mk (hp_); replace HB := Aside0.mk ((by rw [hw]; exact below_set (HB.out) GB16.out : Below w.heap.size w w19)); clear hg hw hp_)); try go_wp2_with (first | ((with_reducible refine gate_store (t := 97) (p := 56) rfl ?_); (try (rw [drewN_self wr]; generalize hq_ : World.drewN wr _ = wr; have n0_ := Aside0.mk (Kd.R_at hq_ HO_5.out); have n1_ := Aside0.mk (below_at hq_ HB.out); clear hq_ HO_5 HB; have HO_5 := n0_; have HB := n1_; clear n0_ n1_; (try (obtain ⟨hy18_, hz18_⟩ := Kd.R_celln 0 HO_5.out ((ji13) : Int) zd zd)); (try (have HP18 := Kd.R_putg HO_5.out ((ji13) : Int) ((Int.tmod (IntKind.u64.wrap ((IntKind.u64.wrap ((IntKind.u64.wrap ((IntKind.u64.wrap (rd l0 x6_1)) * (IntKind.u64.wrap (rd l1 x8_2)))) + (IntKind.u64.wrap (rd x5_2 (ji13))))) + x7_2)) 4294967296) % 4294967296))))); refine store_event (t := 97) (p := 56) (v := ?vo_w19) (w1 := (wr.setCell ⟨go16, ((ji13) : Int).toNat, none⟩ (.int .u32 ((Int.tmod (IntKind.u64.wrap ((IntKind.u64.wrap ((IntKind.u64.wrap ((IntKind.u64.wrap (rd l0 x6_1)) * (IntKind.u64.wrap (rd l1 x8_2)))) + (IntKind.u64.wrap (rd x5_2 (ji13))))) + x7_2)) 4294967296) % 4294967296)))) ?hg ?ho ?hn ?hr ?_; (case ho => rfl); (case hg => rfl); (case hn => rfl); (case hr => first | (go_simp; done) | (go_simp; rfl)); intro w19 hw; have hg : wr.grownBy w19 (some go16) := (by rw [hw]; exact HP18.2); have hp_ : Kd.R (Kd.int .u32) 97 w19 w.heap.size (fun _ => True) (.slice (some ⟨go16, 0, none⟩) x5_2.length co17) y110 := (by rw [hw, Ny110.out]; exact HP18.1); clear HP18; have n0_ := Aside0.mk (hp_); have n1_ := Aside0.mk ((by rw [hw]; exact below_set (HB.out) GB16.out : Below w.heap.size w w19)); clear HO_5; clear HB; have HO_5 := n0_; have HB := n1_; clear n0_ n1_; clear hg hw hp_)))
     go_roundg k2
     case measure => have := HK1.out; have := HK2.out; omega
     case rel => exact ⟨(y110), (IntKind.u64.wrap (Int.tdiv (IntKind.u64.wrap ((IntKind.u64.wrap ((IntKind.u64.wrap ((IntKind.u64.wrap (rd l0 x6_1)) * (IntKind.u64.wrap (rd l1 x8_2)))) + (IntKind.u64.wrap (rd x5_2 (ji13))))) + x7_2)) 4294967296)), (wrap64 (x8_2 + 1)), (by first | rfl | (simp; done) | (simp only [← hji13] <;> (first | rfl | simp)) | (simp [*]; done)), zF, H', ⟨zo2 HK1 HK2⟩, ⟨zR HO_5.out⟩, ⟨zB HB.out⟩⟩
   obtain ⟨ji20, hji20⟩ : ∃ j_ : Int, (wrap64 (x6_1 + (l1.length : Int))) = j_ := ⟨_, rfl⟩
   replace H : (if 0 ≤ (ji20) then (if (ji20) < (x5_2.length : Int) then (r1_Mul.l0 k2 l0 l1 (x5_2.set ((ji20) : Int).toNat ((x7_2) % 4294967296)) (wrap64 (x6_1 + 1))) else (none)) else (none)) = some r := by first | (rw [hji20] at H; exact H) | (simp only [hji20] at H ⊢; exact H)
   have hji20w : (IntKind.i64.wrap (x6_1 + (l1.length : Int))) = ji20 := (i64_w _).trans hji20
   replace H := zgd H
   obtain ⟨c21b0, H⟩ := H
   replace H := zgd H
   obtain ⟨c22b0, H⟩ := H
   obtain ⟨y111, hy111⟩ : ∃ y_ : List Int, y_ = (x5_2.set ((ji20) : Int).toNat ((x7_2) % 4294967296)) := ⟨_, rfl⟩
   replace H : (r1_Mul.l0 k2 l0 l1 y111 (wrap64 (x6_1 + 1))) = some r := zY hy111 H
   have Ny111 := Aside0.mk hy111
   clear hy111
   have H' := Aside0.mk H
   clear H
   have p23 : 0 ≤ ((ji20) : Int) := zd
   have q23 : ((ji20) : Int) < ((x5_2.length : Int) : Int) := zd
   obtain ⟨go23, co23, eo23, gb23, gl23, cl23, HG23⟩ := Kd.R_form HO_5.out (by omega)
   (first | cases eo23 | (injection eo23 with ea_ en_ ec_; (first | subst ea_ | (injection ea_ with ea_; subst ea_)); subst ec_; clear en_))
   have GB23 := Aside0.mk gb23
   have GG23 := Aside0.mk HG23
   clear gb23 gl23 HG23
   obtain ⟨hx23_0, hf23_0⟩ := Kd.R_celln 0 HO_5.out ((ji20) : Int) p23 q23
   replace p23 := eq_true p23
   replace q23 := eq_true q23
   obtain ⟨hy24_, hz24_⟩ := Kd.R_celln 0 HO_5.out ((ji20) : Int) zd zd
   have HP24 := Kd.R_putg HO_5.out ((ji20) : Int) ((x7_2) % 4294967296)
   go_wp2_with (first | ((with_reducible refine gate_store (t := 97) (p := 66) rfl ?_); (try (rw [drewN_self wr]; generalize hq_ : World.drewN wr _ = wr; have n0_ := Aside0.mk (Kd.R_at hq_ HO_5.out); have n1_ := Aside0.mk (below_at hq_ HB.out); clear hq_ HO_5 HB; have HO_5 := n0_; have HB := n1_; clear n0_ n1_; (try (obtain ⟨hy24_, hz24_⟩ := Kd.R_celln 0 HO_5.out ((ji20) : Int) zd zd)); (try (have HP24 := Kd.R_putg HO_5.out ((ji20) : Int) ((x7_2) % 4294967296))))); refine store_event (t := 97) (p := 66) (v := ?vo_w25) (w1 := (wr.setCell ⟨go23, ((ji20) : Int).toNat, none⟩ (.int .u32 ((x7_2) % 4294967296)))) ?hg ?ho ?hn ?hr ?_; (case ho => rfl); (case hg => rfl); (case hn => rfl); (case hr => first | (go_simp; done) | (go_simp; rfl)); intro w25 hw; have hg : wr.grownBy w25 (some go23) := (by rw [hw]; exact HP24.2); have hp_ : Kd.R (Kd.int .u32) 97 w25 w.heap.size (fun _ => True) (.slice (some ⟨go23, 0, none⟩) x5_2.length co23) y111 := (by rw [hw, Ny111.out]; exact HP24.1); clear HP24; replace HO_5 := Aside0.mk (hp_); replace HB := Aside0.mk ((by rw [hw]; exact below_set (HB.out) GB23.out : Below w.heap.size w w25)); clear hg hw hp_))
   repeat (go_quiet (first | ((with_reducible refine gate_store (t := 97) (p := 66) rfl ?_); (try (rw [drewN_self wr]; generalize hq_ : World.drewN wr _ = wr; have n0_ := Aside0.mk (Kd.R_at hq_ HO_5.out); have n1_ := Aside0.mk (below_at hq_ HB.out); clear hq_ HO_5 HB; have HO_5 := n0_; have HB := n1_; clear n0_ n1_; (try (obtain ⟨hy24_, hz24_⟩ := Kd.R_celln 0 HO_5.out ((ji20) : Int) zd zd)); (try (have HP24 := Kd.R_putg HO_5.out ((ji20) : Int) ((x7_2) % 4294967296))))); refine store_event (t := 97) (p := 66) (v := ?vo_w25) (w1 := (wr.setCell ⟨go23, ((ji20) : Int).toNat, none⟩ (.int .u32 ((x7_2) % 4294967296)))) ?hg ?ho ?hn ?hr ?_; (case ho => rfl); (case hg => rfl); (case hn => rfl); (case hr => first | (go_simp; done) | (go_simp; rfl)); intro w25 hw; have hg : wr.grownBy w25 (some go23) := (by rw [hw]; exact HP24.2); have hp_ : Kd.R (Kd.int .u32) 97 w25 w.heap.size (fun _ => True) (.slice (some ⟨go23, 0, none⟩) x5_2.length co23) y111 := (by rw [hw, Ny111.out]; exact HP24.1); clear HP24; replace HO_5 := Aside0.mk (hp_); replace HB := Aside0.mk ((by rw [hw]; exact below_set (HB.out) GB23.out : Below w.heap.size w w25)); clear hg hw hp_)); try go_wp2_with (first | ((with_reducible refine gate_store (t := 97) (p := 66) rfl ?_); (try (rw [drewN_self wr]; generalize hq_ : World.drewN wr _ = wr; have n0_ := Aside0.mk (Kd.R_at hq_ HO_5.out); have n1_ := Aside0.mk (below_at hq_ HB.out); clear hq_ HO_5 HB; have HO_5 := n0_; have HB := n1_; clear n0_ n1_; (try (obtain ⟨hy24_, hz24_⟩ := Kd.R_celln 0 HO_5.out ((ji20) : Int) zd zd)); (try (have HP24 := Kd.R_putg HO_5.out ((ji20) : Int) ((x7_2) % 4294967296))))); refine store_event (t := 97) (p := 66) (v := ?vo_w25) (w1 := (wr.setCell ⟨go23, ((ji20) : Int).toNat, none⟩ (.int .u32 ((x7_2) % 4294967296)))) ?hg ?ho ?hn ?hr ?_; (case ho => rfl); (case hg => rfl); (case hn => rfl); (case hr => first | (go_simp; done) | (go_simp; rfl)); intro w25 hw; have hg : wr.grownBy w25 (some go23) := (by rw [hw]; exact HP24.2); have hp_ : Kd.R (Kd.int .u32) 97 w25 w.heap.size (fun _ => True) (.slice (some ⟨go23, 0, none⟩) x5_2.length co23) y111 := (by rw [hw, Ny111.out]; exact HP24.1); clear HP24; have n0_ := Aside0.mk (hp_); have n1_ := Aside0.mk ((by rw [hw]; exact below_set (HB.out) GB23.out : Below w.heap.size w w25)); clear HO_5; clear HB; have HO_5 := n0_; have HB := n1_; clear n0_ n1_; clear hg hw hp_)))
   go_roundg k2
   case measure => have := HK1.out; have := HK2.out; omega
   case rel => exact ⟨(y111), (wrap64 (x6_1 + 1)), zF, H', ⟨zo2 HK1 HK2⟩, ⟨zR HO_5.out⟩, ⟨zB HB.out⟩⟩
 replace H := zb H
 obtain ⟨t104, A26, H⟩ := H
 obtain rfl := Option.some.inj H
 obtain ⟨Ao27, co27, rfl⟩ := Kd.R_slice HO_5.out
 go_wp2_with (first | (go_at_call 75; (with_reducible refine (r1_Trim.calls k1 _ _ x5_1 t104 _ ?side1 ?side2 A26.out).mono ?_); (case side1 => exact zC (Kd.R_reads' HO_5.out).2.2); (case side2 => exact (Kd.R_reads' HO_5.out).2.1); rintro e w28 ⟨v105, rfl, ho0, hb⟩; replace ho0 := yn ho0 HO_5; have HO106 := yRl ho0 HB; replace HO_5 := yRe HO_5 ho0 hb; replace HB := yS HB hb; (try clear hb ho0)))
 repeat (go_quiet (first | (go_at_call 75; (with_reducible refine (r1_Trim.calls k1 _ _ x5_1 t104 _ ?side1 ?side2 A26.out).mono ?_); (case side1 => exact zC (Kd.R_reads' HO_5.out).2.2); (case side2 => exact (Kd.R_reads' HO_5.out).2.1); rintro e w28 ⟨v105, rfl, ho0, hb⟩; replace ho0 := yn ho0 HO_5; have HO106 := yRl ho0 HB; replace HO_5 := yRe HO_5 ho0 hb; replace HB := yS HB hb; (try clear hb ho0))); try go_wp2_with (first | (go_at_call 75; (with_reducible refine (r1_Trim.calls k1 _ _ x5_1 t104 _ ?side1 ?side2 A26.out).mono ?_); (case side1 => exact zC (Kd.R_reads' HO_5.out).2.2); (case side2 => exact (Kd.R_reads' HO_5.out).2.1); rintro e w28 ⟨v105, rfl, ho0, hb⟩; have n0_ := yRe HO_5 ho0 hb; have n1_ := Aside0.mk (Kd.R_lower (Kd.R_new' ho0 (Kd.R_lt (zR HO_5.out))) (below_size (zB HB.out))); have n2_ := yS HB hb; clear HO_5; clear HB; have HO_5 := n0_; have HO106 := n1_; have HB := n2_; clear n0_ n1_ n2_; (try clear hb); (try clear hb2); (try clear hk); (try clear hi); (try clear ho0))))
 go_ret
 exact ⟨_, by first | rfl | (simp [errW_none, errW_some] <;> rfl) | (simp only [← hji3]; first | rfl | (simp [errW_none, errW_some] <;> rfl)) | (simp [*, errW_none, errW_some] <;> rfl), by (with_reducible repeat (first | apply Kd.R_alloc | apply Kd.R_drewN | apply Kd.R_drew)); exact Kd.R_mono HO106.out (fun _ hk => trivial), zB HB.out⟩
set_option maxHeartbeats 8000000 in
set_option maxRecDepth 100000 in
theorem r1_Zero.calls (k : Nat) (A0 : Option Addr) (c0 : Nat) (l0 : List Int) (r : Bool) (w : World) (hr0 : Kd.C (Kd.int .u32) w A0 l0.length l0) (hc0 : l0.length ≤ c0) (h : r1_Zero.f k l0 = some r) :
    Calls Try.prog 27 #[.slice A0 l0.length c0] w fun e w' => e = .returned (.bool r) ∧ Below w.heap.size w w' := by
 have HR0 := Aside0.mk hr0
 have HC0 := Aside0.mk hc0
 clear hr0 hc0
 have HB := Aside0.mk (Below.refl w.heap.size w)
 have H : ((r1_Trim.f k l0).bind fun t101 => (some ((t101.length : Int) == 0))) = some r := h
 clear h
 replace H := zb H
 obtain ⟨t101, A2, H⟩ := H
 obtain rfl := Option.some.inj H
 go_enter Try.func27, Try.ntmps27
 go_wp2_with (first | ((with_reducible refine gC 75 ?_); refine zG (some 4) Try.func75 #[.slice A0 l0.length c0] ?_; (with_reducible refine (r1_Trim.calls k _ _ l0 t101 _ ?side1 ?side2 A2.out).mono ?_); (case side1 => exact zC HR0.out); (case side2 => exact HC0.out); rintro e w3 ⟨v102, rfl, ho0, hb⟩; refine ⟨_, rfl, ?_⟩; have HO103 := yRl ho0 HB; replace HB := yS HB hb; (try clear hb ho0); obtain ⟨Ao4, co4, rfl⟩ := Kd.R_slice HO103.out))
 go_ret
 exact ⟨zE, zB HB.out⟩
set_option maxHeartbeats 8000000 in
set_option maxRecDepth 100000 in
theorem r1_Bits.calls (k : Nat) (A0 : Option Addr) (c0 : Nat) (l0 : List Int) (r : Int) (w : World) (hr0 : Kd.C (Kd.int .u32) w A0 l0.length l0) (hc0 : l0.length ≤ c0) (h : r1_Bits.f k l0 = some r) :
    Calls Try.prog 76 #[.slice A0 l0.length c0] w fun e w' => e = .returned (.int .i64 r) ∧ Below w.heap.size w w' := by
 have HR0 := Aside0.mk hr0
 have HC0 := Aside0.mk hc0
 clear hr0 hc0
 have HB := Aside0.mk (Below.refl w.heap.size w)
 have H : ((r1_Trim.f k l0).bind fun t101 => (if (t101.length : Int) = 0 then (some 0) else (if 0 ≤ (wrap64 ((t101.length : Int) - 1)) then (if (wrap64 ((t101.length : Int) - 1)) < (t101.length : Int) then (r1_Bits.l0 k (wrap64 (32 * (wrap64 ((t101.length : Int) - 1)))) (rd t101 (wrap64 ((t101.length : Int) - 1)))) else (none)) else (none)))) = some r := h
 clear h
 replace H := zb H
 obtain ⟨t101, A2, H⟩ := H
 replace H := zi H
 rcases H with ⟨c3, H⟩ | ⟨c3, H⟩
 · have c3b0 := beq_iff_eq.mpr c3
   have c3b1 := bne_eq_false_iff_eq.mpr c3
   clear c3
   obtain rfl := Option.some.inj H
   go_enter Try.func76, Try.ntmps76
   go_wp2_with (first | ((with_reducible refine gC 75 ?_); refine zG (some 6) Try.func75 #[.slice A0 l0.length c0] ?_; (with_reducible refine (r1_Trim.calls k _ _ l0 t101 _ ?side1 ?side2 A2.out).mono ?_); (case side1 => exact zC HR0.out); (case side2 => exact HC0.out); rintro e w4 ⟨v102, rfl, ho0, hb⟩; refine ⟨_, rfl, ?_⟩; have HO103 := yRl ho0 HB; replace HB := yS HB hb; (try clear hb ho0); obtain ⟨Ao5, co5, rfl⟩ := Kd.R_slice HO103.out))
   go_ret
   exact ⟨zE, zB HB.out⟩
 have c3b0 := beq_eq_false_iff_ne.mpr c3
 have c3b1 := bne_iff_ne.mpr c3
 have c3b2 : ¬ (t101 = []) := fun h_ => c3 (by rw [h_]; rfl)
 obtain ⟨ji6, hji6⟩ : ∃ j_ : Int, (wrap64 ((t101.length : Int) - 1)) = j_ := ⟨_, rfl⟩
 replace H : (if 0 ≤ (ji6) then (if (ji6) < (t101.length : Int) then (r1_Bits.l0 k (wrap64 (32 * (ji6))) (rd t101 (ji6))) else (none)) else (none)) = some r := by first | (rw [hji6] at H; exact H) | (simp only [hji6] at H ⊢; exact H)
 (try rw [hji6] at A2)
 have hji6w : (IntKind.i64.wrap ((t101.length : Int) - 1)) = ji6 := (i64_w _).trans hji6
 replace H := zgd H
 obtain ⟨c7b0, H⟩ := H
 replace H := zgd H
 obtain ⟨c8b0, H⟩ := H
 have H' := Aside0.mk H
 clear H
 go_enter Try.func76, Try.ntmps76
 go_wp2_with (first | ((with_reducible refine gC 75 ?_); refine zG (some 6) Try.func75 #[.slice A0 l0.length c0] ?_; (with_reducible refine (r1_Trim.calls k _ _ l0 t101 _ ?side1 ?side2 A2.out).mono ?_); (case side1 => exact zC HR0.out); (case side2 => exact HC0.out); rintro e w9 ⟨v102, rfl, ho0, hb⟩; refine ⟨_, rfl, ?_⟩; have HO103 := yRl ho0 HB; replace HB := yS HB hb; (try clear hb ho0); obtain ⟨Ao10, co10, rfl⟩ := Kd.R_slice HO103.out; have p104 : 0 ≤ ((ji6) : Int) := zd; have q104 : (ji6) < (t101.length : Int) := zd; obtain ⟨ad104, e104, hx104_0⟩ := Kd.at_int (Kd.R_reads' HO103.out).2.2 (ji6) p104 q104; cases e104; replace p104 := eq_true p104; replace q104 := eq_true q104))
 go_loopg [3, 4] k (fun kq v3 v4 w' => ∃ (x3_1 : Int) (x4_1 : Int), v3 = .int .i64 x3_1 ∧ v4 = .int .u32 x4_1 ∧ Aside0 (r1_Bits.l0 kq x3_1 x4_1 = some r) ∧ Aside0 (kq ≤ k) ∧ Aside0 (Below w.heap.size w w'))
 case atStart => exact ⟨(wrap64 (32 * (ji6))), (rd t101 (ji6)), (by first | rfl | (simp; done) | (simp only [← hji6] <;> (first | rfl | simp)) | (simp [*]; done)), (by first | rfl | (simp; done) | (simp only [← hji6] <;> (first | rfl | simp)) | (simp [*]; done)), H', ⟨Nat.le_refl _⟩, ⟨zB HB.out⟩⟩
 clear H'
 (try clear c3);(try clear c3b0);(try clear c3b1);(try clear c3b2);(try clear c7b0);(try clear c8b0);(try clear hx104_0);(try clear p104);(try clear q104)
 obtain ⟨x3_1, x4_1, rfl, rfl, HA, HK1, HB⟩ := hrel
 cases gk with | zero => exact absurd HA.out (by simp [r1_Bits.l0]) | succ k1 => ?_
 have H := HA.out
 clear HA
 simp only [r1_Bits.l0] at H
 replace H := zi H
 rcases H with ⟨c11, H⟩ | ⟨c11, H⟩
 · have c11b0 : decide (0 < x4_1) = true := decide_eq_true c11
   clear c11
   have H' := Aside0.mk H
   clear H
   go_wp2
   go_roundg k1
   case measure => have := HK1.out; omega
   case rel => exact ⟨(wrap64 (x3_1 + 1)), ((Int.tdiv x4_1 2) % 4294967296), zF, zF, H', ⟨zo1 HK1⟩, ⟨zB HB.out⟩⟩
 have c11b0 : decide (0 < x4_1) = false := decide_eq_false c11
 clear c11
 obtain rfl := Option.some.inj H
 go_wp2
 go_ret
 exact ⟨by first | rfl | (simp [errW_none, errW_some] <;> rfl) | (simp only [← hji6]; first | rfl | (simp [errW_none, errW_some] <;> rfl)) | (simp [*, errW_none, errW_some] <;> rfl), zB HB.out⟩
set_option maxHeartbeats 8000000 in
set_option maxRecDepth 100000 in
theorem r1_limb.calls (A0 : Option Addr) (c0 : Nat) (l0 : List Int) (a1 : Int) (r : Int) (w : World) (hr0 : Kd.C (Kd.int .u32) w A0 l0.length l0) (hc0 : l0.length ≤ c0) (h : r1_limb.f l0 a1 = some r) :
    Calls Try.prog 119 #[.slice A0 l0.length c0, .int .i64 a1] w fun e w' => e = .returned (.int .u64 r) ∧ Drawn0 w w' := by
 have HR0 := Aside0.mk hr0
 have HC0 := Aside0.mk hc0
 clear hr0 hc0
 have H : (if a1 < (l0.length : Int) then (if 0 ≤ a1 then (some (IntKind.u64.wrap (rd l0 a1))) else (none)) else (some 0)) = some r := h
 clear h
 replace H := zid H
 rcases H with ⟨c3b0, H⟩ | ⟨c3b0, H⟩
 · replace H := zgd H
   obtain ⟨c4b0, H⟩ := H
   obtain rfl := Option.some.inj H
   have p101 : 0 ≤ (a1 : Int) := zd
   have q101 : a1 < (l0.length : Int) := zd
   obtain ⟨ad101, e101, hx101_0⟩ := Kd.at_int HR0.out a1 p101 q101
   cases e101
   replace p101 := eq_true p101
   replace q101 := eq_true q101
   go_enter Try.func119, Try.ntmps119
   go_wp2
   go_ret
   exact ⟨zF, by repeat (first | exact Drawn0.refl _ | apply Drawn0.step)⟩
 obtain rfl := Option.some.inj H
 go_enter Try.func119, Try.ntmps119
 go_wp2
 go_ret
 exact ⟨zF, by repeat (first | exact Drawn0.refl _ | apply Drawn0.step)⟩
set_option maxHeartbeats 8000000 in
set_option maxRecDepth 100000 in
theorem r1_Cmp.calls (k : Nat) (A0 : Option Addr) (c0 : Nat) (l0 : List Int) (A1 : Option Addr) (c1 : Nat) (l1 : List Int) (r : Int) (w : World) (hr0 : Kd.C (Kd.int .u32) w A0 l0.length l0) (hc0 : l0.length ≤ c0) (hr1 : Kd.C (Kd.int .u32) w A1 l1.length l1) (hc1 : l1.length ≤ c1) (h : r1_Cmp.f k l0 l1 = some r) :
    Calls Try.prog 77 #[.slice A0 l0.length c0, .slice A1 l1.length c1] w fun e w' => e = .returned (.int .i64 r) ∧ Below w.heap.size w w' := by
 have HR0 := Aside0.mk hr0
 have HC0 := Aside0.mk hc0
 clear hr0 hc0
 have HR1 := Aside0.mk hr1
 have HC1 := Aside0.mk hc1
 clear hr1 hc1
 have HB := Aside0.mk (Below.refl w.heap.size w)
 have H : (r1_Cmp.l0 k l0 l1 (wrap64 ((mx (l0.length : Int) (l1.length : Int)) - 1))) = some r := h
 clear h
 obtain ⟨ji3, hji3⟩ : ∃ j_ : Int, (mx (l0.length : Int) (l1.length : Int)) = j_ := ⟨_, rfl⟩
 replace H : (r1_Cmp.l0 k l0 l1 (wrap64 ((ji3) - 1))) = some r := by first | (rw [hji3] at H; exact H) | (simp only [hji3] at H ⊢; exact H)
 (try (have hji3l : 0 ≤ ji3 := by (rw [← hji3]; unfold mx; (repeat' split) <;> omega)))
 (try (have hji3m : 0 ≤ ji3 := by omega))
 have hji3_ : (if (l0.length : Int) < (l1.length : Int) then (l1.length : Int) else (l0.length : Int)) = ji3 := hji3
 have hji3n : (if l0.length < l1.length then (l1.length : Int) else (l0.length : Int)) = ji3 := by rw [← hji3_]; simp only [Int.ofNat_lt]
 have H' := Aside0.mk H
 clear H
 go_enter Try.func77, Try.ntmps77
 go_wp2
 go_loopg [5] k (fun kq v5 w' => ∃ (x5_1 : Int), v5 = .int .i64 x5_1 ∧ Aside0 (r1_Cmp.l0 kq l0 l1 x5_1 = some r) ∧ Aside0 (kq ≤ k) ∧ Aside0 (Below w.heap.size w w'))
 case atStart => exact ⟨(wrap64 ((ji3) - 1)), (by first | rfl | (simp; done) | (simp only [← hji3] <;> (first | rfl | simp)) | (simp [*]; done)), H', ⟨Nat.le_refl _⟩, ⟨zB HB.out⟩⟩
 clear H'
 obtain ⟨x5_1, rfl, HA, HK1, HB⟩ := hrel
 cases gk with | zero => exact absurd HA.out (by simp [r1_Cmp.l0]) | succ k1 => ?_
 have H := HA.out
 clear HA
 simp only [r1_Cmp.l0] at H
 replace H := zi H
 rcases H with ⟨c4, H⟩ | ⟨c4, H⟩
 · have c4b0 : decide (0 ≤ x5_1) = true := decide_eq_true c4
   clear c4
   replace H := zb H
   obtain ⟨t101, A5, H⟩ := H
   replace H := zb H
   obtain ⟨t102, A6, H⟩ := H
   replace H := zid H
   rcases H with ⟨c7b0, H⟩ | ⟨c7b0, H⟩
   · obtain rfl := Option.some.inj H
     go_wp2_with (first | ((with_reducible refine gC 119 ?_); refine zG (some 18) Try.func119 #[.slice A0 l0.length c0, .int .i64 x5_1] ?_; (with_reducible refine (r1_limb.calls _ _ l0 x5_1 t101 _ ?side1 ?side2 A5.out).mono ?_); (case side1 => exact zC (Kd.C_below HR0.out HB.out)); (case side2 => exact HC0.out); rintro e w' ⟨rfl, ⟨nd, rfl⟩⟩; refine ⟨_, rfl, ?_⟩) | ((with_reducible refine gC 119 ?_); refine zG (some 21) Try.func119 #[.slice A1 l1.length c1, .int .i64 x5_1] ?_; (with_reducible refine (r1_limb.calls _ _ l1 x5_1 t102 _ ?side1 ?side2 A6.out).mono ?_); (case side1 => exact zC (Kd.C_below HR1.out (zB HB.out))); (case side2 => exact HC1.out); rintro e w' ⟨rfl, ⟨nd, rfl⟩⟩; refine ⟨_, rfl, ?_⟩))
     go_ret
     exact ⟨by first | rfl | (simp [errW_none, errW_some] <;> rfl) | (simp only [← hji3]; first | rfl | (simp [errW_none, errW_some] <;> rfl)) | (simp [*, errW_none, errW_some] <;> rfl), zB HB.out⟩
   replace H := zb H
   obtain ⟨t103, A8, H⟩ := H
   replace H := zb H
   obtain ⟨t104, A9, H⟩ := H
   replace H := zi H
   rcases H with ⟨c10, H⟩ | ⟨c10, H⟩
   · have c10b0 : decide (t104 < t103) = true := decide_eq_true c10
     clear c10
     obtain rfl := Option.some.inj H
     go_wp2_with (first | ((with_reducible refine gC 119 ?_); refine zG (some 18) Try.func119 #[.slice A0 l0.length c0, .int .i64 x5_1] ?_; (with_reducible refine (r1_limb.calls _ _ l0 x5_1 t101 _ ?side1 ?side2 A5.out).mono ?_); (case side1 => exact zC (Kd.C_below HR0.out HB.out)); (case side2 => exact HC0.out); rintro e w' ⟨rfl, ⟨nd, rfl⟩⟩; refine ⟨_, rfl, ?_⟩) | ((with_reducible refine gC 119 ?_); refine zG (some 21) Try.func119 #[.slice A1 l1.length c1, .int .i64 x5_1] ?_; (with_reducible refine (r1_limb.calls _ _ l1 x5_1 t102 _ ?side1 ?side2 A6.out).mono ?_); (case side1 => exact zC (Kd.C_below HR1.out (zB HB.out))); (case side2 => exact HC1.out); rintro e w' ⟨rfl, ⟨nd, rfl⟩⟩; refine ⟨_, rfl, ?_⟩) | ((with_reducible refine gC 119 ?_); refine zG (some 25) Try.func119 #[.slice A0 l0.length c0, .int .i64 x5_1] ?_; (with_reducible refine (r1_limb.calls _ _ l0 x5_1 t103 _ ?side1 ?side2 A8.out).mono ?_); (case side1 => exact zC (Kd.C_below HR0.out (zB HB.out))); (case side2 => exact HC0.out); rintro e w' ⟨rfl, ⟨nd, rfl⟩⟩; refine ⟨_, rfl, ?_⟩) | ((with_reducible refine gC 119 ?_); refine zG (some 28) Try.func119 #[.slice A1 l1.length c1, .int .i64 x5_1] ?_; (with_reducible refine (r1_limb.calls _ _ l1 x5_1 t104 _ ?side1 ?side2 A9.out).mono ?_); (case side1 => exact zC (Kd.C_below HR1.out (zB HB.out))); (case side2 => exact HC1.out); rintro e w' ⟨rfl, ⟨nd, rfl⟩⟩; refine ⟨_, rfl, ?_⟩))
     go_ret
     exact ⟨by first | rfl | (simp [errW_none, errW_some] <;> rfl) | (simp only [← hji3]; first | rfl | (simp [errW_none, errW_some] <;> rfl)) | (simp [*, errW_none, errW_some] <;> rfl), zB HB.out⟩
   have c10b0 : decide (t104 < t103) = false := decide_eq_false c10
   clear c10
   have H' := Aside0.mk H
   clear H
   go_wp2_with (first | ((with_reducible refine gC 119 ?_); refine zG (some 18) Try.func119 #[.slice A0 l0.length c0, .int .i64 x5_1] ?_; (with_reducible refine (r1_limb.calls _ _ l0 x5_1 t101 _ ?side1 ?side2 A5.out).mono ?_); (case side1 => exact zC (Kd.C_below HR0.out HB.out)); (case side2 => exact HC0.out); rintro e w' ⟨rfl, ⟨nd, rfl⟩⟩; refine ⟨_, rfl, ?_⟩) | ((with_reducible refine gC 119 ?_); refine zG (some 21) Try.func119 #[.slice A1 l1.length c1, .int .i64 x5_1] ?_; (with_reducible refine (r1_limb.calls _ _ l1 x5_1 t102 _ ?side1 ?side2 A6.out).mono ?_); (case side1 => exact zC (Kd.C_below HR1.out (zB HB.out))); (case side2 => exact HC1.out); rintro e w' ⟨rfl, ⟨nd, rfl⟩⟩; refine ⟨_, rfl, ?_⟩) | ((with_reducible refine gC 119 ?_); refine zG (some 25) Try.func119 #[.slice A0 l0.length c0, .int .i64 x5_1] ?_; (with_reducible refine (r1_limb.calls _ _ l0 x5_1 t103 _ ?side1 ?side2 A8.out).mono ?_); (case side1 => exact zC (Kd.C_below HR0.out (zB HB.out))); (case side2 => exact HC0.out); rintro e w' ⟨rfl, ⟨nd, rfl⟩⟩; refine ⟨_, rfl, ?_⟩) | ((with_reducible refine gC 119 ?_); refine zG (some 28) Try.func119 #[.slice A1 l1.length c1, .int .i64 x5_1] ?_; (with_reducible refine (r1_limb.calls _ _ l1 x5_1 t104 _ ?side1 ?side2 A9.out).mono ?_); (case side1 => exact zC (Kd.C_below HR1.out (zB HB.out))); (case side2 => exact HC1.out); rintro e w' ⟨rfl, ⟨nd, rfl⟩⟩; refine ⟨_, rfl, ?_⟩))
   go_roundg k1
   case measure => have := HK1.out; omega
   case rel => exact ⟨(wrap64 (x5_1 - 1)), zF, H', ⟨zo1 HK1⟩, ⟨zB HB.out⟩⟩
 have c4b0 : decide (0 ≤ x5_1) = false := decide_eq_false c4
 clear c4
 obtain rfl := Option.some.inj H
 go_wp2
 go_ret
 exact ⟨by first | rfl | (simp [errW_none, errW_some] <;> rfl) | (simp only [← hji3]; first | rfl | (simp [errW_none, errW_some] <;> rfl)) | (simp [*, errW_none, errW_some] <;> rfl), zB HB.out⟩
set_option maxHeartbeats 8000000 in
set_option maxRecDepth 100000 in
theorem r1_Add.calls (k : Nat) (A0 : Option Addr) (c0 : Nat) (l0 : List Int) (A1 : Option Addr) (c1 : Nat) (l1 : List Int) (r : List Int) (w : World) (hr0 : Kd.C (Kd.int .u32) w A0 l0.length l0) (hc0 : l0.length ≤ c0) (hr1 : Kd.C (Kd.int .u32) w A1 l1.length l1) (hc1 : l1.length ≤ c1) (h : r1_Add.f k l0 l1 = some r) :
    Calls Try.prog 86 #[.slice A0 l0.length c0, .slice A1 l1.length c1] w fun e w' => ∃ v0_ : Value, e = .returned (v0_) ∧ Kd.R (Kd.int .u32) 97 w' w.heap.size (fun _ => True) v0_ r ∧ Below w.heap.size w w' := by
 have HR0 := Aside0.mk hr0
 have HC0 := Aside0.mk hc0
 clear hr0 hc0
 have HR1 := Aside0.mk hr1
 have HC1 := Aside0.mk hc1
 clear hr1 hc1
 have HB := Aside0.mk (Below.refl w.heap.size w)
 have H : (r1_Add.l0 k l0 l1 ([] : List Int) 0 0) = some r := h
 clear h
 have H' := Aside0.mk H
 clear H
 go_enter Try.func86, Try.ntmps86
 go_wp2
 go_loopg [5, 6, 7] k (fun kq v5 v6 v7 w' => ∃ (x5_1 : List Int) (x6_1 : Int) (x7_1 : Int), v6 = .int .u64 x6_1 ∧ v7 = .int .i64 x7_1 ∧ Aside0 (r1_Add.l0 kq l0 l1 x5_1 x6_1 x7_1 = some r) ∧ Aside0 (kq ≤ k) ∧ Aside0 (Kd.R (Kd.int .u32) 97 w' w.heap.size (fun _ => True) v5 x5_1) ∧ Aside0 (Below w.heap.size w w'))
 case atStart => exact ⟨(([] : List Int)), (0), (0), zF, zF, H', ⟨Nat.le_refl _⟩, ⟨z0⟩, ⟨zB HB.out⟩⟩
 clear H'
 obtain ⟨x5_1, x6_1, x7_1, rfl, rfl, HA, HK1, HO_5, HB⟩ := hrel
 cases gk with | zero => exact absurd HA.out (by simp [r1_Add.l0]) | succ k1 => ?_
 have H := HA.out
 clear HA
 simp only [r1_Add.l0] at H
 have HC3 := Aside0.mk H
 clear H
 go_upto_region 4 with (fail)
 go_cut [22] (fun v22 wc => ∃ (kq : Nat) (x22_2 : Bool), v22 = .bool x22_2 ∧ Aside0 (r1_Add.j1 kq l0 l1 x5_1 x6_1 x7_1 x22_2 = some r) ∧ Aside0 (kq ≤ k1) ∧ Aside0 (Kd.R (Kd.int .u32) 97 wc w.heap.size (fun _ => True) u5 x5_1) ∧ Aside0 (Below w.heap.size w wc))
 case first =>
  have H := HC3.out
  clear HC3
  replace H := zid H
  rcases H with ⟨c4b0, H⟩ | ⟨c4b0, H⟩
  · (first | rw [c4b0] | (simp only [i64_w, i32_w]; rw [c4b0]) | rw [c4b1] | skip)
    have H' := Aside0.mk H
    clear H
    go_wp2
    go_meet
    case rel => exact ⟨_, (true), zF, H', ⟨by have := HK1.out; first | omega | exact Nat.le_refl _⟩, ⟨zR HO_5.out⟩, ⟨zB HB.out⟩⟩
  (first | rw [c4b0] | (simp only [i64_w, i32_w]; rw [c4b0]) | rw [c4b1] | skip)
  replace H := zid H
  rcases H with ⟨c5b0, H⟩ | ⟨c5b0, H⟩
  · have H' := Aside0.mk H
    clear H
    go_wp2
    go_meet
    case rel => exact ⟨_, (true), zF, H', ⟨by have := HK1.out; first | omega | exact Nat.le_refl _⟩, ⟨zR HO_5.out⟩, ⟨zB HB.out⟩⟩
  have H' := Aside0.mk H
  clear H
  go_wp2
  go_meet
  case rel => exact ⟨_, (decide (x6_1 > 0)), zF, H', ⟨by have := HK1.out; first | omega | exact Nat.le_refl _⟩, ⟨zR HO_5.out⟩, ⟨zB HB.out⟩⟩
 clear HC3
 (try clear c4b0);(try clear c5b0)
 obtain ⟨kq, x22_2, rfl, HA, HJ2, HO_5, HB⟩ := hcut
 cases kq with | zero => exact absurd HA.out (by simp [r1_Add.j1]) | succ kj2 => ?_
 have H := HA.out
 clear HA
 simp only [r1_Add.j1] at H
 by_cases c6 : x22_2 = true
 · subst c6
   rw [if_pos rfl] at H
   replace H := zb H
   obtain ⟨t101, A7, H⟩ := H
   replace H := zb H
   obtain ⟨t102, A8, H⟩ := H
   replace H := zg H
   obtain ⟨c9, H⟩ := H
   have LMc9 := Aside0.mk c9
   clear c9
   obtain ⟨y103, hy103⟩ : ∃ y_ : List Int, y_ = (x5_1 ++ [(Int.tmod (IntKind.u64.wrap ((IntKind.u64.wrap (t101 + t102)) + x6_1)) 4294967296) % 4294967296]) := ⟨_, rfl⟩
   replace H : (r1_Add.l0 kj2 l0 l1 y103 (IntKind.u64.wrap (Int.tdiv (IntKind.u64.wrap ((IntKind.u64.wrap (t101 + t102)) + x6_1)) 4294967296)) (wrap64 (x7_1 + 1))) = some r := zY hy103 H
   have Ny103 := Aside0.mk hy103
   clear hy103
   have H' := Aside0.mk H
   clear H
   go_wp2_with (first | ((with_reducible refine gC 119 ?_); refine zG (some 27) Try.func119 #[.slice A0 l0.length c0, .int .i64 x7_1] ?_; (with_reducible refine (r1_limb.calls _ _ l0 x7_1 t101 _ ?side1 ?side2 A7.out).mono ?_); (case side1 => exact zC (Kd.C_below HR0.out HB.out)); (case side2 => exact HC0.out); rintro e w' ⟨rfl, ⟨nd, rfl⟩⟩; refine ⟨_, rfl, ?_⟩) | ((with_reducible refine gC 119 ?_); refine zG (some 30) Try.func119 #[.slice A1 l1.length c1, .int .i64 x7_1] ?_; (with_reducible refine (r1_limb.calls _ _ l1 x7_1 t102 _ ?side1 ?side2 A8.out).mono ?_); (case side1 => exact zC (Kd.C_below HR1.out (zB HB.out))); (case side2 => exact HC1.out); rintro e w' ⟨rfl, ⟨nd, rfl⟩⟩; refine ⟨_, rfl, ?_⟩) | ((with_reducible refine gate_builtin (b := .append) (xs := #[.tmp 34, .tmp 38]) rfl ?_); (try (refine gate_guard (by rfl) ?_; dsimp only)); at_builtin; refine Kd.R_append (Kd.int .u32) (w0 := w) w.heap.size rfl (.tmp 34) (.tmp 38) 29 97 (.int .u32 0) 4 rfl Try.underlying29 info97 rfl (by decide) (by omega) u5 x5_1 ((Int.tmod (IntKind.u64.wrap ((IntKind.u64.wrap (t101 + t102)) + x6_1)) 4294967296) % 4294967296) [.int .u32 ((Int.tmod (IntKind.u64.wrap ((IntKind.u64.wrap (t101 + t102)) + x6_1)) 4294967296) % 4294967296)] (fun _ => True) (fun _ => False) rfl rfl ?aP (fun _ hk => hk.elim) ?aF ?aO ?aB ?aS ?aL ?_; (case aP => exact rfl); (case aB => exact (zB HB.out)); (case aF => exact (fun _ _ => trivial)); (case aO => exact (zR HO_5.out)); (case aS => exact (below_size (zB HB.out))); (case aL => have := LMc9.out; omega); intro v104 w10 ho hb hg hat; rw [← Ny103.out] at ho; replace HB := Aside0.mk (hb); have HO105 := Aside0.mk (ho); clear HO_5; clear ho hb hg hat))
   go_roundg kj2
   case measure => have := HK1.out; have := HJ2.out; omega
   case rel => exact ⟨(y103), (IntKind.u64.wrap (Int.tdiv (IntKind.u64.wrap ((IntKind.u64.wrap (t101 + t102)) + x6_1)) 4294967296)), (wrap64 (x7_1 + 1)), zF, zF, H', ⟨zo2 HK1 HJ2⟩, ⟨zR HO105.out⟩, ⟨zB HB.out⟩⟩
 replace c6 := Bool.eq_false_iff.mpr c6
 subst c6
 rw [if_neg Bool.false_ne_true] at H
 replace H := zb H
 obtain ⟨t106, A11, H⟩ := H
 obtain rfl := Option.some.inj H
 obtain ⟨Ao12, co12, rfl⟩ := Kd.R_slice HO_5.out
 go_wp2_with (first | ((with_reducible refine gC 75 ?_); refine zG (some 43) Try.func75 #[.slice Ao12 x5_1.length co12] ?_; (with_reducible refine (r1_Trim.calls kj2 _ _ x5_1 t106 _ ?side1 ?side2 A11.out).mono ?_); (case side1 => exact zC (Kd.R_reads' HO_5.out).2.2); (case side2 => exact (Kd.R_reads' HO_5.out).2.1); rintro e w13 ⟨v107, rfl, ho0, hb⟩; refine ⟨_, rfl, ?_⟩; replace ho0 := yn ho0 HO_5; have HO108 := yRl ho0 HB; replace HO_5 := yRe HO_5 ho0 hb; replace HB := yS HB hb; (try clear hb ho0)))
 go_ret
 exact ⟨_, zE, by (with_reducible repeat (first | apply Kd.R_alloc | apply Kd.R_drewN | apply Kd.R_drew)); exact Kd.R_mono HO108.out (fun _ hk => trivial), zB HB.out⟩
set_option maxHeartbeats 8000000 in
set_option maxRecDepth 100000 in
theorem r1_Sub.calls (k : Nat) (A0 : Option Addr) (c0 : Nat) (l0 : List Int) (A1 : Option Addr) (c1 : Nat) (l1 : List Int) (r : List Int) (w : World) (hr0 : Kd.C (Kd.int .u32) w A0 l0.length l0) (hc0 : l0.length ≤ c0) (hr1 : Kd.C (Kd.int .u32) w A1 l1.length l1) (hc1 : l1.length ≤ c1) (h : r1_Sub.f k l0 l1 = some r) :
    Calls Try.prog 100 #[.slice A0 l0.length c0, .slice A1 l1.length c1] w fun e w' => ∃ v0_ : Value, e = .returned (v0_) ∧ Kd.R (Kd.int .u32) 97 w' w.heap.size (fun _ => True) v0_ r ∧ Below w.heap.size w w' := by
 have HR0 := Aside0.mk hr0
 have HC0 := Aside0.mk hc0
 clear hr0 hc0
 have HR1 := Aside0.mk hr1
 have HC1 := Aside0.mk hc1
 clear hr1 hc1
 have HB := Aside0.mk (Below.refl w.heap.size w)
 have H : (r1_Sub.l0 k l0 l1 ([] : List Int) 0 0) = some r := h
 clear h
 have H' := Aside0.mk H
 clear H
 go_enter Try.func100, Try.ntmps100
 go_wp2
 go_loopg [5, 6, 7] k (fun kq v5 v6 v7 w' => ∃ (x5_1 : List Int) (x6_1 : Int) (x7_1 : Int), v6 = .int .u64 x6_1 ∧ v7 = .int .i64 x7_1 ∧ Aside0 (r1_Sub.l0 kq l0 l1 x5_1 x6_1 x7_1 = some r) ∧ Aside0 (kq ≤ k) ∧ Aside0 (Kd.R (Kd.int .u32) 97 w' w.heap.size (fun _ => True) v5 x5_1) ∧ Aside0 (Below w.heap.size w w'))
 case atStart => exact ⟨(([] : List Int)), (0), (0), zF, zF, H', ⟨Nat.le_refl _⟩, ⟨z0⟩, ⟨zB HB.out⟩⟩
 clear H'
 obtain ⟨x5_1, x6_1, x7_1, rfl, rfl, HA, HK1, HO_5, HB⟩ := hrel
 cases gk with | zero => exact absurd HA.out (by simp [r1_Sub.l0]) | succ k1 => ?_
 have H := HA.out
 clear HA
 simp only [r1_Sub.l0] at H
 replace H := zid H
 rcases H with ⟨c3b0, H⟩ | ⟨c3b0, H⟩
 · replace H := zb H
   obtain ⟨t101, A4, H⟩ := H
   replace H := zb H
   obtain ⟨t102, A5, H⟩ := H
   replace H := zg H
   obtain ⟨c6, H⟩ := H
   have LMc6 := Aside0.mk c6
   clear c6
   obtain ⟨y103, hy103⟩ : ∃ y_ : List Int, y_ = (x5_1 ++ [(Int.tmod (IntKind.u64.wrap ((IntKind.u64.wrap ((IntKind.u64.wrap (t101 + 4294967296)) - t102)) - x6_1)) 4294967296) % 4294967296]) := ⟨_, rfl⟩
   replace H : (r1_Sub.l0 k1 l0 l1 y103 (IntKind.u64.wrap (1 - (IntKind.u64.wrap (Int.tdiv (IntKind.u64.wrap ((IntKind.u64.wrap ((IntKind.u64.wrap (t101 + 4294967296)) - t102)) - x6_1)) 4294967296)))) (wrap64 (x7_1 + 1))) = some r := zY hy103 H
   have Ny103 := Aside0.mk hy103
   clear hy103
   have H' := Aside0.mk H
   clear H
   go_wp2_with (first | ((with_reducible refine gC 119 ?_); refine zG (some 17) Try.func119 #[.slice A0 l0.length c0, .int .i64 x7_1] ?_; (with_reducible refine (r1_limb.calls _ _ l0 x7_1 t101 _ ?side1 ?side2 A4.out).mono ?_); (case side1 => exact zC (Kd.C_below HR0.out HB.out)); (case side2 => exact HC0.out); rintro e w' ⟨rfl, ⟨nd, rfl⟩⟩; refine ⟨_, rfl, ?_⟩) | ((with_reducible refine gC 119 ?_); refine zG (some 21) Try.func119 #[.slice A1 l1.length c1, .int .i64 x7_1] ?_; (with_reducible refine (r1_limb.calls _ _ l1 x7_1 t102 _ ?side1 ?side2 A5.out).mono ?_); (case side1 => exact zC (Kd.C_below HR1.out (zB HB.out))); (case side2 => exact HC1.out); rintro e w' ⟨rfl, ⟨nd, rfl⟩⟩; refine ⟨_, rfl, ?_⟩) | ((with_reducible refine gate_builtin (b := .append) (xs := #[.tmp 25, .tmp 29]) rfl ?_); at_builtin; refine Kd.R_append (Kd.int .u32) (w0 := w) w.heap.size rfl (.tmp 25) (.tmp 29) 29 97 (.int .u32 0) 4 rfl Try.underlying29 info97 rfl (by decide) (by omega) u5 x5_1 ((Int.tmod (IntKind.u64.wrap ((IntKind.u64.wrap ((IntKind.u64.wrap (t101 + 4294967296)) - t102)) - x6_1)) 4294967296) % 4294967296) [.int .u32 ((Int.tmod (IntKind.u64.wrap ((IntKind.u64.wrap ((IntKind.u64.wrap (t101 + 4294967296)) - t102)) - x6_1)) 4294967296) % 4294967296)] (fun _ => True) (fun _ => False) rfl rfl ?aP (fun _ hk => hk.elim) ?aF ?aO ?aB ?aS ?aL ?_; (case aP => exact rfl); (case aB => exact (zB HB.out)); (case aF => exact (fun _ _ => trivial)); (case aO => exact (zR HO_5.out)); (case aS => exact (below_size (zB HB.out))); (case aL => have := LMc6.out; omega); intro v104 w7 ho hb hg hat; rw [← Ny103.out] at ho; replace HB := Aside0.mk (hb); have HO105 := Aside0.mk (ho); clear HO_5; clear ho hb hg hat))
   go_roundg k1
   case measure => have := HK1.out; omega
   case rel => exact ⟨(y103), (IntKind.u64.wrap (1 - (IntKind.u64.wrap (Int.tdiv (IntKind.u64.wrap ((IntKind.u64.wrap ((IntKind.u64.wrap (t101 + 4294967296)) - t102)) - x6_1)) 4294967296)))), (wrap64 (x7_1 + 1)), zF, zF, H', ⟨zo1 HK1⟩, ⟨zR HO105.out⟩, ⟨zB HB.out⟩⟩
 replace H := zb H
 obtain ⟨t106, A8, H⟩ := H
 obtain rfl := Option.some.inj H
 obtain ⟨Ao9, co9, rfl⟩ := Kd.R_slice HO_5.out
 go_wp2_with (first | ((with_reducible refine gC 75 ?_); refine zG (some 35) Try.func75 #[.slice Ao9 x5_1.length co9] ?_; (with_reducible refine (r1_Trim.calls k1 _ _ x5_1 t106 _ ?side1 ?side2 A8.out).mono ?_); (case side1 => exact zC (Kd.R_reads' HO_5.out).2.2); (case side2 => exact (Kd.R_reads' HO_5.out).2.1); rintro e w10 ⟨v107, rfl, ho0, hb⟩; refine ⟨_, rfl, ?_⟩; replace ho0 := yn ho0 HO_5; have HO108 := yRl ho0 HB; replace HO_5 := yRe HO_5 ho0 hb; replace HB := yS HB hb; (try clear hb ho0)))
 go_ret
 exact ⟨_, zE, by (with_reducible repeat (first | apply Kd.R_alloc | apply Kd.R_drewN | apply Kd.R_drew)); exact Kd.R_mono HO108.out (fun _ hk => trivial), zB HB.out⟩
set_option maxHeartbeats 8000000 in
set_option maxRecDepth 100000 in
theorem r1_shift.calls (k : Nat) (A0 : Option Addr) (c0 : Nat) (l0 : List Int) (a1 : Int) (r : List Int) (w : World) (hr0 : Kd.C (Kd.int .u32) w A0 l0.length l0) (hc0 : l0.length ≤ c0) (h : r1_shift.f k l0 a1 = some r) :
    Calls Try.prog 136 #[.slice A0 l0.length c0, .int .i64 a1] w fun e w' => ∃ v0_ : Value, e = .returned (v0_) ∧ Kd.R (Kd.int .u32) 97 w' w.heap.size (fun _ => True) v0_ r ∧ Below w.heap.size w w' := by
 have HR0 := Aside0.mk hr0
 have HC0 := Aside0.mk hc0
 clear hr0 hc0
 have HB := Aside0.mk (Below.refl w.heap.size w)
 have H : (if 0 ≤ (wrap64 (Int.tdiv a1 32)) then (if (wrap64 (Int.tdiv a1 32) : Int).toNat ≤ 70368744177664 then (r1_shift.l0 k l0 a1 (List.replicate (wrap64 (Int.tdiv a1 32) : Int).toNat 0) 0 0) else (none)) else (none)) = some r := h
 clear h
 obtain ⟨ji3, hji3⟩ : ∃ j_ : Int, (wrap64 (Int.tdiv a1 32)) = j_ := ⟨_, rfl⟩
 replace H : (if 0 ≤ (ji3) then (if (ji3 : Int).toNat ≤ 70368744177664 then (r1_shift.l0 k l0 a1 (List.replicate (ji3 : Int).toNat 0) 0 0) else (none)) else (none)) = some r := by first | (rw [hji3] at H; exact H) | (simp only [hji3] at H ⊢; exact H)
 have hji3w : (IntKind.i64.wrap (Int.tdiv a1 32)) = ji3 := (i64_w _).trans hji3
 replace H := zg H
 obtain ⟨c4, H⟩ := H
 have c4b0 := eq_true c4
 have c4b1 := decide_eq_true c4
 clear c4
 replace H := zg H
 obtain ⟨c5, H⟩ := H
 have c5b0 := eq_true c5
 have c5b1 := decide_eq_true c5
 clear c5
 obtain ⟨y101, hy101⟩ : ∃ y_ : List Int, y_ = (List.replicate (ji3 : Int).toNat 0) := ⟨_, rfl⟩
 replace H : (r1_shift.l0 k l0 a1 y101 0 0) = some r := zY hy101 H
 have Ny101 := Aside0.mk hy101
 clear hy101
 have H' := Aside0.mk H
 clear H
 go_enter Try.func136, Try.ntmps136
 go_wp2_with (first | ((with_reducible refine gate_dst (N := 11) rfl ?_); refine Kd.R_make (Kd.int .u32) _ 97 rfl (N := 11) rfl 29 _ _ rfl ji3 rfl rfl Try.underlying29 (.int .u32 0) 4 info97 rfl (by decide) (by omega) 0 (ok := fun _ => True) (okp := fun _ => True) rfl (fun _ hk => hk) trivial zd (Nat.le_trans (Nat.mul_le_mul_right _ (zd : ji3.toNat ≤ 70368744177664)) (by omega)) (Below.refl _ _) (Nat.le_refl _) ?_; intro v102 w6 ho7 hb hg_ hnew_; clear hg_ hnew_; (first | rw [← Ny101.out] at ho7 | (simp only [Int.reduceToNat] at ho7; rw [← Ny101.out] at ho7)); have HO103 := yRl ho7 HB; replace HB := yS HB hb; clear hb ho7))
 go_loopg [5, 6, 7] k (fun kq v5 v6 v7 w' => ∃ (x5_1 : List Int) (x6_1 : Int) (x7_1 : Int), v6 = .int .u64 x6_1 ∧ v7 = .int .i64 x7_1 ∧ Aside0 (r1_shift.l0 kq l0 a1 x5_1 x6_1 x7_1 = some r) ∧ Aside0 (kq ≤ k) ∧ Aside0 (Kd.R (Kd.int .u32) 97 w' w.heap.size (fun _ => True) v5 x5_1) ∧ Aside0 (Below w.heap.size w w'))
 case atStart => exact ⟨(y101), (0), (0), zF, zF, H', ⟨Nat.le_refl _⟩, ⟨zR HO103.out⟩, ⟨zB HB.out⟩⟩
 clear H'
 (try clear c4);(try clear c4b0);(try clear c4b1);(try clear c5);(try clear c5b0);(try clear c5b1)
 obtain ⟨x5_1, x6_1, x7_1, rfl, rfl, HA, HK1, HO_5, HB⟩ := hrel
 cases gk with | zero => exact absurd HA.out (by simp [r1_shift.l0]) | succ k1 => ?_
 have H := HA.out
 clear HA
 simp only [r1_shift.l0] at H
 replace H := zid H
 rcases H with ⟨c8b0, H⟩ | ⟨c8b0, H⟩
 · replace H := zgd H
   obtain ⟨c9b0, H⟩ := H
   obtain ⟨ji10, hji10⟩ : ∃ j_ : Int, (Int.tmod a1 32) = j_ := ⟨_, rfl⟩
   replace H : (if 0 ≤ (ji10) then (if x5_1.length < 35184372088832 then (r1_shift.l0 k1 l0 a1 (x5_1 ++ [(Int.tmod (IntKind.u64.wrap ((shl .u64 (IntKind.u64.wrap (rd l0 x7_1)) (ji10)) + x6_1)) 4294967296) % 4294967296]) (IntKind.u64.wrap (Int.tdiv (IntKind.u64.wrap ((shl .u64 (IntKind.u64.wrap (rd l0 x7_1)) (ji10)) + x6_1)) 4294967296)) (wrap64 (x7_1 + 1))) else (none)) else (none)) = some r := by first | (rw [hji10] at H; exact H) | (simp only [hji10] at H ⊢; exact H)
   replace H := zg H
   obtain ⟨c11, H⟩ := H
   have c11b0 := eq_true c11
   have c11b1 := decide_eq_true c11
   clear c11
   obtain ⟨ji12, hji12⟩ : ∃ j_ : Int, (shl .u64 (IntKind.u64.wrap (rd l0 x7_1)) (ji10)) = j_ := ⟨_, rfl⟩
   replace H : (if x5_1.length < 35184372088832 then (r1_shift.l0 k1 l0 a1 (x5_1 ++ [(Int.tmod (IntKind.u64.wrap ((ji12) + x6_1)) 4294967296) % 4294967296]) (IntKind.u64.wrap (Int.tdiv (IntKind.u64.wrap ((ji12) + x6_1)) 4294967296)) (wrap64 (x7_1 + 1))) else (none)) = some r := by first | (rw [hji12] at H; exact H) | (simp only [hji12] at H ⊢; exact H)
   have hji12_ : (IntKind.u64.wrap ((IntKind.u64.wrap (rd l0 x7_1)) * 2 ^ min (ji10).toNat 64)) = ji12 := hji12
   have hji12z : (ji10) ≤ 64 → (IntKind.u64.wrap ((IntKind.u64.wrap (rd l0 x7_1)) * 2 ^ (ji10).toNat)) = ji12 := shl_small hji12
   replace H := zg H
   obtain ⟨c13, H⟩ := H
   have LMc13 := Aside0.mk c13
   clear c13
   obtain ⟨y105, hy105⟩ : ∃ y_ : List Int, y_ = (x5_1 ++ [(Int.tmod (IntKind.u64.wrap ((ji12) + x6_1)) 4294967296) % 4294967296]) := ⟨_, rfl⟩
   replace H : (r1_shift.l0 k1 l0 a1 y105 (IntKind.u64.wrap (Int.tdiv (IntKind.u64.wrap ((ji12) + x6_1)) 4294967296)) (wrap64 (x7_1 + 1))) = some r := zY hy105 H
   have Ny105 := Aside0.mk hy105
   clear hy105
   have H' := Aside0.mk H
   clear H
   have p104 : 0 ≤ (x7_1 : Int) := zd
   have q104 : x7_1 < (l0.length : Int) := zd
   obtain ⟨ad104, e104, hx104_0⟩ := Kd.at_int HR0.out x7_1 p104 q104
   cases e104
   replace hx104_0 := (HB.out.cell (World.block_lt_of_cell? w _ hx104_0)).trans hx104_0
   replace p104 := eq_true p104
   replace q104 := eq_true q104
   go_wp2_with (first | ((with_reducible refine gate_builtin (b := .append) (xs := #[.tmp 28, .tmp 32]) rfl ?_); at_builtin; refine Kd.R_append (Kd.int .u32) (w0 := w) w.heap.size rfl (.tmp 28) (.tmp 32) 29 97 (.int .u32 0) 4 rfl Try.underlying29 info97 rfl (by decide) (by omega) u5 x5_1 ((Int.tmod (IntKind.u64.wrap ((ji12) + x6_1)) 4294967296) % 4294967296) [.int .u32 ((Int.tmod (IntKind.u64.wrap ((ji12) + x6_1)) 4294967296) % 4294967296)] (fun _ => True) (fun _ => False) rfl rfl ?aP (fun _ hk => hk.elim) ?aF ?aO ?aB ?aS ?aL ?_; (case aP => exact rfl); (case aB => exact (zB HB.out)); (case aF => exact (fun _ _ => trivial)); (case aO => exact (zR HO_5.out)); (case aS => exact (below_size (zB HB.out))); (case aL => have := LMc13.out; omega); intro v106 w14 ho hb hg hat; rw [← Ny105.out] at ho; replace HB := Aside0.mk (hb); have HO107 := Aside0.mk (ho); clear HO_5; clear ho hb hg hat))
   go_roundg k1
   case measure => have := HK1.out; omega
   case rel => exact ⟨(y105), (IntKind.u64.wrap (Int.tdiv (IntKind.u64.wrap ((ji12) + x6_1)) 4294967296)), (wrap64 (x7_1 + 1)), (by first | rfl | (simp; done) | (simp only [← hji12] <;> (first | rfl | simp)) | (simp [*]; done)), zF, H', ⟨zo1 HK1⟩, ⟨zR HO107.out⟩, ⟨zB HB.out⟩⟩
 replace H := zg H
 obtain ⟨c15, H⟩ := H
 have LMc15 := Aside0.mk c15
 clear c15
 obtain ⟨y108, hy108⟩ : ∃ y_ : List Int, y_ = (x5_1 ++ [(x6_1) % 4294967296]) := ⟨_, rfl⟩
 replace H : ((r1_Trim.f k1 y108).bind fun t111 => (some t111)) = some r := zY hy108 H
 have Ny108 := Aside0.mk hy108
 clear hy108
 replace H := zb H
 obtain ⟨t111, A16, H⟩ := H
 obtain rfl := Option.some.inj H
 go_wp2_with (first | ((with_reducible refine gate_builtin (b := .append) (xs := #[.tmp 36, .tmp 39]) rfl ?_); at_builtin; refine Kd.R_append (Kd.int .u32) (w0 := w) w.heap.size rfl (.tmp 36) (.tmp 39) 29 97 (.int .u32 0) 4 rfl Try.underlying29 info97 rfl (by decide) (by omega) u5 x5_1 ((x6_1) % 4294967296) [.int .u32 ((x6_1) % 4294967296)] (fun _ => True) (fun _ => False) rfl rfl ?aP (fun _ hk => hk.elim) ?aF ?aO ?aB ?aS ?aL ?_; (case aP => exact rfl); (case aB => exact (zB HB.out)); (case aF => exact (fun _ _ => trivial)); (case aO => exact (zR HO_5.out)); (case aS => exact (below_size (zB HB.out))); (case aL => have := LMc15.out; omega); intro v109 w17 ho hb hg hat; rw [← Ny108.out] at ho; replace HB := Aside0.mk (hb); have HO110 := Aside0.mk (ho); clear HO_5; clear ho hb hg hat; obtain ⟨Ao18, co18, rfl⟩ := Kd.R_slice HO110.out) | ((with_reducible refine gC 75 ?_); refine zG (some 41) Try.func75 #[.slice Ao18 y108.length co18] ?_; (with_reducible refine (r1_Trim.calls k1 _ _ y108 t111 _ ?side1 ?side2 A16.out).mono ?_); (case side1 => exact zC (Kd.R_reads' HO110.out).2.2); (case side2 => exact (Kd.R_reads' HO110.out).2.1); rintro e w19 ⟨v112, rfl, ho0, hb⟩; refine ⟨_, rfl, ?_⟩; replace ho0 := yn ho0 HO110; have HO113 := yRl ho0 HB; replace HO110 := yRe HO110 ho0 hb; replace HB := yS HB hb; (try clear hb ho0)))
 go_ret
 exact ⟨_, by first | rfl | (simp [errW_none, errW_some] <;> rfl) | (simp only [← hji3]; first | rfl | (simp [errW_none, errW_some] <;> rfl)) | (simp [*, errW_none, errW_some] <;> rfl), by (with_reducible repeat (first | apply Kd.R_alloc | apply Kd.R_drewN | apply Kd.R_drew)); exact Kd.R_mono HO113.out (fun _ hk => trivial), zB HB.out⟩
set_option maxHeartbeats 8000000 in
set_option maxRecDepth 100000 in
theorem r1_DivMod.calls (k : Nat) (A0 : Option Addr) (c0 : Nat) (l0 : List Int) (A1 : Option Addr) (c1 : Nat) (l1 : List Int) (r1 : List Int) (r2 : List Int) (w : World) (hr0 : Kd.C (Kd.int .u32) w A0 l0.length l0) (hc0 : l0.length ≤ c0) (hr1 : Kd.C (Kd.int .u32) w A1 l1.length l1) (hc1 : l1.length ≤ c1) (h : r1_DivMod.f k l0 l1 = some (r1, r2)) :
    Calls Try.prog 123 #[.slice A0 l0.length c0, .slice A1 l1.length c1] w fun e w' => ∃ v0_ v1_ : Value, e = .returned (.tuple #[v0_, v1_]) ∧ Kd.R (Kd.int .u32) 97 w' w.heap.size (fun k_ => some k_ ≠ (v1_ : Value).ownBlock) v0_ r1 ∧ Kd.R (Kd.int .u32) 97 w' w.heap.size (fun k_ => some k_ ≠ (v0_ : Value).ownBlock) v1_ r2 ∧ Below w.heap.size w w' := by
 have HR0 := Aside0.mk hr0
 have HC0 := Aside0.mk hc0
 clear hr0 hc0
 have HR1 := Aside0.mk hr1
 have HC1 := Aside0.mk hc1
 clear hr1 hc1
 have HB := Aside0.mk (Below.refl w.heap.size w)
 have H : ((r1_Trim.f k l0).bind fun t101 => ((r1_Bits.f k l0).bind fun t104 => ((r1_Bits.f k l1).bind fun t105 => (r1_DivMod.l0 k l1 ([] : List Int) t101 (wrap64 (t104 - t105)))))) = some (r1, r2) := h
 clear h
 replace H := zb H
 obtain ⟨t101, A3, H⟩ := H
 replace H := zb H
 obtain ⟨t104, A4, H⟩ := H
 replace H := zb H
 obtain ⟨t105, A5, H⟩ := H
 have H' := Aside0.mk H
 clear H
 go_enter Try.func123, Try.ntmps123
 go_wp2_with (first | ((with_reducible refine gC 75 ?_); refine zG (some 10) Try.func75 #[.slice A0 l0.length c0] ?_; (with_reducible refine (r1_Trim.calls k _ _ l0 t101 _ ?side1 ?side2 A3.out).mono ?_); (case side1 => exact zC HR0.out); (case side2 => exact HC0.out); rintro e w6 ⟨v102, rfl, ho0, hb⟩; refine ⟨_, rfl, ?_⟩; have HO103 := yRl ho0 HB; replace HB := yS HB hb; (try clear hb ho0)) | ((with_reducible refine gC 76 ?_); refine zG (some 12) Try.func76 #[.slice A0 l0.length c0] ?_; (with_reducible refine (r1_Bits.calls k _ _ l0 t104 _ ?side1 ?side2 A4.out).mono ?_); (case side1 => exact zC (Kd.C_below HR0.out HB.out)); (case side2 => exact HC0.out); rintro e w7 ⟨rfl, hb⟩; refine ⟨_, rfl, ?_⟩; replace HO103 := yRb HO103 hb; replace HB := yS HB hb; (try clear hb); (try clear hb2); (try clear hk); (try clear hi)) | ((with_reducible refine gC 76 ?_); refine zG (some 14) Try.func76 #[.slice A1 l1.length c1] ?_; (with_reducible refine (r1_Bits.calls k _ _ l1 t105 _ ?side1 ?side2 A5.out).mono ?_); (case side1 => exact zC (Kd.C_below HR1.out HB.out)); (case side2 => exact HC1.out); rintro e w8 ⟨rfl, hb⟩; refine ⟨_, rfl, ?_⟩; replace HO103 := yRb HO103 hb; replace HB := yS HB hb; (try clear hb); (try clear hb2); (try clear hk); (try clear hi)))
 go_loopg [4, 5, 7] k (fun kq v4 v5 v7 w' => ∃ (x4_1 : List Int) (x5_1 : List Int) (x7_1 : Int), v7 = .int .i64 x7_1 ∧ Aside0 (r1_DivMod.l0 kq l1 x4_1 x5_1 x7_1 = some (r1, r2)) ∧ Aside0 (kq ≤ k) ∧ Aside0 (Kd.R (Kd.int .u32) 97 w' w.heap.size (fun k_ => some k_ ≠ (v5 : Value).ownBlock) v4 x4_1) ∧ Aside0 (Kd.R (Kd.int .u32) 97 w' w.heap.size (fun k_ => some k_ ≠ (v4 : Value).ownBlock) v5 x5_1) ∧ Aside0 (Below w.heap.size w w'))
 case atStart => exact ⟨(([] : List Int)), (t101), (wrap64 (t104 - t105)), zF, H', ⟨Nat.le_refl _⟩, ⟨z0⟩, ⟨by (with_reducible repeat (first | apply Kd.R_alloc | apply Kd.R_drewN | apply Kd.R_drew)); exact Kd.R_mono HO103.out (fun _ hk => (by simp [Value.ownBlock]))⟩, ⟨zB HB.out⟩⟩
 clear H'
 obtain ⟨x4_1, x5_1, x7_1, rfl, HA, HK1, HO_4, HO_5, HB⟩ := hrel
 cases gk with | zero => exact absurd HA.out (by simp [r1_DivMod.l0]) | succ k1 => ?_
 have H := HA.out
 clear HA
 simp only [r1_DivMod.l0] at H
 replace H := zi H
 rcases H with ⟨c9, H⟩ | ⟨c9, H⟩
 · have c9b0 : decide (0 ≤ x7_1) = true := decide_eq_true c9
   clear c9
   replace H := zb H
   obtain ⟨t109, A10, H⟩ := H
   replace H := zb H
   obtain ⟨t112, A11, H⟩ := H
   replace H := zi H
   rcases H with ⟨c12, H⟩ | ⟨c12, H⟩
   · have c12b0 : decide (0 ≤ t112) = true := decide_eq_true c12
     clear c12
     replace H := zb H
     obtain ⟨t113, A13, H⟩ := H
     obtain ⟨y116, hy116⟩ : ∃ y_ : List Int, y_ = (([1] : List Int)) := ⟨_, rfl⟩
     replace H : ((r1_shift.f k1 y116 x7_1).bind fun t119 => ((r1_Add.f k1 x4_1 t119).bind fun t122 => (r1_DivMod.l0 k1 l1 t122 t113 (wrap64 (x7_1 - 1))))) = some (r1, r2) := zY hy116 H
     have Ny116 := Aside0.mk hy116
     clear hy116
     replace H := zb H
     obtain ⟨t119, A14, H⟩ := H
     replace H := zb H
     obtain ⟨t122, A15, H⟩ := H
     have H' := Aside0.mk H
     clear H
     go_wp2_with (first | ((with_reducible refine gC 136 ?_); refine zG (some 23) Try.func136 #[.slice A1 l1.length c1, .int .i64 x7_1] ?_; (with_reducible refine (r1_shift.calls k1 _ _ l1 x7_1 t109 _ ?side1 ?side2 A10.out).mono ?_); (case side1 => exact zC (Kd.C_below HR1.out HB.out)); (case side2 => exact HC1.out); rintro e w16 ⟨v110, rfl, ho0, hb⟩; refine ⟨_, rfl, ?_⟩; replace ho0 := yn ho0 HO_4; replace ho0 := yn ho0 HO_5; have HO111 := yRl ho0 HB; replace HO_4 := yRe HO_4 ho0 hb; replace HO_5 := yRe HO_5 ho0 hb; replace HB := yS HB hb; (try clear hb ho0); obtain ⟨Ao17, co17, rfl⟩ := Kd.R_slice HO_5.out; obtain ⟨Ao18, co18, rfl⟩ := Kd.R_slice HO111.out) | ((with_reducible refine gC 77 ?_); refine zG (some 26) Try.func77 #[.slice Ao17 x5_1.length co17, .slice Ao18 t109.length co18] ?_; (with_reducible refine (r1_Cmp.calls k1 _ _ x5_1 _ _ t109 t112 _ ?side1 ?side2 ?side3 ?side4 A11.out).mono ?_); (case side1 => exact zC (Kd.R_reads' HO_5.out).2.2); (case side2 => exact (Kd.R_reads' HO_5.out).2.1); (case side3 => exact zC (Kd.R_reads' HO111.out).2.2); (case side4 => exact (Kd.R_reads' HO111.out).2.1); rintro e w19 ⟨rfl, hb⟩; refine ⟨_, rfl, ?_⟩; replace HO_4 := yRb HO_4 hb; replace HO_5 := yRb HO_5 hb; replace HO111 := yRb HO111 hb; replace HB := yS HB hb; (try clear hb); (try clear hb2); (try clear hk); (try clear hi)) | ((with_reducible refine gC 100 ?_); refine zG (some 30) Try.func100 #[.slice Ao17 x5_1.length co17, .slice Ao18 t109.length co18] ?_; (with_reducible refine (r1_Sub.calls k1 _ _ x5_1 _ _ t109 t113 _ ?side1 ?side2 ?side3 ?side4 A13.out).mono ?_); (case side1 => exact zC (Kd.R_reads' HO_5.out).2.2); (case side2 => exact (Kd.R_reads' HO_5.out).2.1); (case side3 => exact zC (Kd.R_reads' HO111.out).2.2); (case side4 => exact (Kd.R_reads' HO111.out).2.1); rintro e w20 ⟨v114, rfl, ho0, hb⟩; refine ⟨_, rfl, ?_⟩; replace ho0 := yn ho0 HO_4; replace ho0 := yn ho0 HO_5; replace ho0 := yn ho0 HO111; have HO115 := yRl ho0 HB; replace HO_4 := yRe HO_4 ho0 hb; replace HO_5 := yRe HO_5 ho0 hb; replace HO111 := yRe HO111 ho0 hb; replace HB := yS HB hb; (try clear hb ho0)) | ((with_reducible refine gate_dst (N := 32) rfl ?_); refine Kd.R_lit (Kd.int .u32) _ 97 ?hg (N := 32) ?hd (xs := ([1] : List Int)) (inner := [.int .u32 1]) (ok := fun _ => True) (okp := fun _ => True) ?hr ?hp (fun _ hk => hk) trivial (Below.refl _ _) (Nat.le_refl _) (by simp) ?_; (case hd => rfl); (case hg => rfl); (case hr => first | (go_simp; done) | (go_simp; rfl)); (case hp => exact (Reps.one (show Kd.M (Kd.int .u32) _ _ _ 1 [.int .u32 1] from rfl) (Reps.none _ _))); intro v117 w21 ho22 hb hg_ hnew_; clear hg_ hnew_; (first | rw [← Ny116.out] at ho22 | (simp only [Int.reduceToNat] at ho22; rw [← Ny116.out] at ho22)); replace ho22 := yn ho22 HO_4; replace ho22 := yn ho22 HO_5; replace ho22 := yn ho22 HO111; replace ho22 := yn ho22 HO115; have HO118 := yRl ho22 HB; replace HO_4 := yRe HO_4 ho22 hb; replace HO_5 := yRe HO_5 ho22 hb; replace HO111 := yRe HO111 ho22 hb; replace HO115 := yRe HO115 ho22 hb; replace HB := yS HB hb; clear hb ho22; obtain ⟨Ao23, co23, rfl⟩ := Kd.R_slice HO118.out) | ((with_reducible refine gC 136 ?_); refine zG (some 34) Try.func136 #[.slice Ao23 y116.length co23, .int .i64 x7_1] ?_; (with_reducible refine (r1_shift.calls k1 _ _ y116 x7_1 t119 _ ?side1 ?side2 A14.out).mono ?_); (case side1 => exact zC (Kd.R_reads' HO118.out).2.2); (case side2 => exact (Kd.R_reads' HO118.out).2.1); rintro e w24 ⟨v120, rfl, ho0, hb⟩; refine ⟨_, rfl, ?_⟩; replace ho0 := yn ho0 HO_4; replace ho0 := yn ho0 HO_5; replace ho0 := yn ho0 HO111; replace ho0 := yn ho0 HO115; replace ho0 := yn ho0 HO118; have HO121 := yRl ho0 HB; replace HO_4 := yRe HO_4 ho0 hb; replace HO_5 := yRe HO_5 ho0 hb; replace HO111 := yRe HO111 ho0 hb; replace HO115 := yRe HO115 ho0 hb; replace HO118 := yRe HO118 ho0 hb; replace HB := yS HB hb; (try clear hb ho0); obtain ⟨Ao25, co25, rfl⟩ := Kd.R_slice HO_4.out; obtain ⟨Ao26, co26, rfl⟩ := Kd.R_slice HO121.out) | ((with_reducible refine gC 86 ?_); refine zG (some 35) Try.func86 #[.slice Ao25 x4_1.length co25, .slice Ao26 t119.length co26] ?_; (with_reducible refine (r1_Add.calls k1 _ _ x4_1 _ _ t119 t122 _ ?side1 ?side2 ?side3 ?side4 A15.out).mono ?_); (case side1 => exact zC (Kd.R_reads' HO_4.out).2.2); (case side2 => exact (Kd.R_reads' HO_4.out).2.1); (case side3 => exact zC (Kd.R_reads' HO121.out).2.2); (case side4 => exact (Kd.R_reads' HO121.out).2.1); rintro e w27 ⟨v123, rfl, ho0, hb⟩; refine ⟨_, rfl, ?_⟩; replace ho0 := yn ho0 HO_4; replace ho0 := yn ho0 HO_5; replace ho0 := yn ho0 HO111; replace ho0 := yn ho0 HO115; replace ho0 := yn ho0 HO118; replace ho0 := yn ho0 HO121; have HO124 := yRl ho0 HB; replace HO_4 := yRe HO_4 ho0 hb; replace HO_5 := yRe HO_5 ho0 hb; replace HO111 := yRe HO111 ho0 hb; replace HO115 := yRe HO115 ho0 hb; replace HO118 := yRe HO118 ho0 hb; replace HO121 := yRe HO121 ho0 hb; replace HB := yS HB hb; (try clear hb ho0)))
     go_roundg k1
     case measure => have := HK1.out; omega
     case rel => exact ⟨(t122), (t113), (wrap64 (x7_1 - 1)), zF, H', ⟨zo1 HK1⟩, ⟨by (with_reducible repeat (first | apply Kd.R_alloc | apply Kd.R_drewN | apply Kd.R_drew)); exact Kd.R_mono HO124.out (fun _ hk => hk.1.1.2)⟩, ⟨by (with_reducible repeat (first | apply Kd.R_alloc | apply Kd.R_drewN | apply Kd.R_drew)); exact Kd.R_mono HO115.out (fun _ hk => hk.2)⟩, ⟨zB HB.out⟩⟩
   have c12b0 : decide (0 ≤ t112) = false := decide_eq_false c12
   clear c12
   have H' := Aside0.mk H
   clear H
   go_wp2_with (first | ((with_reducible refine gC 136 ?_); refine zG (some 23) Try.func136 #[.slice A1 l1.length c1, .int .i64 x7_1] ?_; (with_reducible refine (r1_shift.calls k1 _ _ l1 x7_1 t109 _ ?side1 ?side2 A10.out).mono ?_); (case side1 => exact zC (Kd.C_below HR1.out HB.out)); (case side2 => exact HC1.out); rintro e w28 ⟨v110, rfl, ho0, hb⟩; refine ⟨_, rfl, ?_⟩; replace ho0 := yn ho0 HO_4; replace ho0 := yn ho0 HO_5; have HO111 := yRl ho0 HB; replace HO_4 := yRe HO_4 ho0 hb; replace HO_5 := yRe HO_5 ho0 hb; replace HB := yS HB hb; (try clear hb ho0); obtain ⟨Ao29, co29, rfl⟩ := Kd.R_slice HO_5.out; obtain ⟨Ao30, co30, rfl⟩ := Kd.R_slice HO111.out) | ((with_reducible refine gC 77 ?_); refine zG (some 26) Try.func77 #[.slice Ao29 x5_1.length co29, .slice Ao30 t109.length co30] ?_; (with_reducible refine (r1_Cmp.calls k1 _ _ x5_1 _ _ t109 t112 _ ?side1 ?side2 ?side3 ?side4 A11.out).mono ?_); (case side1 => exact zC (Kd.R_reads' HO_5.out).2.2); (case side2 => exact (Kd.R_reads' HO_5.out).2.1); (case side3 => exact zC (Kd.R_reads' HO111.out).2.2); (case side4 => exact (Kd.R_reads' HO111.out).2.1); rintro e w31 ⟨rfl, hb⟩; refine ⟨_, rfl, ?_⟩; replace HO_4 := yRb HO_4 hb; replace HO_5 := yRb HO_5 hb; replace HO111 := yRb HO111 hb; replace HB := yS HB hb; (try clear hb); (try clear hb2); (try clear hk); (try clear hi)))
   go_roundg k1
   case measure => have := HK1.out; omega
   case rel => exact ⟨(x4_1), (x5_1), (wrap64 (x7_1 - 1)), zF, H', ⟨zo1 HK1⟩, ⟨by (with_reducible repeat (first | apply Kd.R_alloc | apply Kd.R_drewN | apply Kd.R_drew)); exact Kd.R_mono HO_4.out (fun _ hk => hk.1)⟩, ⟨by (with_reducible repeat (first | apply Kd.R_alloc | apply Kd.R_drewN | apply Kd.R_drew)); exact Kd.R_mono HO_5.out (fun _ hk => hk.1)⟩, ⟨zB HB.out⟩⟩
 have c9b0 : decide (0 ≤ x7_1) = false := decide_eq_false c9
 clear c9
 replace H := zb H
 obtain ⟨t106, A32, H⟩ := H
 simp only [Option.some.injEq, Prod.mk.injEq] at H
 obtain ⟨rfl, rfl⟩ := H
 obtain ⟨Ao33, co33, rfl⟩ := Kd.R_slice HO_4.out
 go_wp2_with (first | ((with_reducible refine gC 75 ?_); refine zG (some 37) Try.func75 #[.slice Ao33 x4_1.length co33] ?_; (with_reducible refine (r1_Trim.calls k1 _ _ x4_1 t106 _ ?side1 ?side2 A32.out).mono ?_); (case side1 => exact zC (Kd.R_reads' HO_4.out).2.2); (case side2 => exact (Kd.R_reads' HO_4.out).2.1); rintro e w34 ⟨v107, rfl, ho0, hb⟩; refine ⟨_, rfl, ?_⟩; replace ho0 := yn ho0 HO_4; replace ho0 := yn ho0 HO_5; have HO108 := yRl ho0 HB; replace HO_4 := yRe HO_4 ho0 hb; replace HO_5 := yRe HO_5 ho0 hb; replace HB := yS HB hb; (try clear hb ho0)))
 go_ret2
 exact ⟨_, _, zE, by (with_reducible repeat (first | apply Kd.R_alloc | apply Kd.R_drewN | apply Kd.R_drew)); exact Kd.R_mono HO108.out (fun _ hk => hk.2), by (with_reducible repeat (first | apply Kd.R_alloc | apply Kd.R_drewN | apply Kd.R_drew)); exact Kd.R_mono HO_5.out (fun _ hk => hk.2), zB HB.out⟩
set_option maxHeartbeats 8000000 in
set_option maxRecDepth 100000 in
theorem r1_Gcd.calls (k : Nat) (P0_ : Nat → Prop) (A0 : Option Addr) (c0 : Nat) (l0 : List Int) (P1_ : Nat → Prop) (A1 : Option Addr) (c1 : Nat) (l1 : List Int) (r : List Int) (w : World) (hs0 : Kd.V (Kd.int .u32) 97 w w.heap.size (fun k_ => P0_ k_) (.slice A0 l0.length c0) l0) (hs1 : Kd.V (Kd.int .u32) 97 w w.heap.size (fun k_ => P1_ k_) (.slice A1 l1.length c1) l1) (h : r1_Gcd.f k l0 l1 = some r) :
    Calls Try.prog 122 #[.slice A0 l0.length c0, .slice A1 l1.length c1] w fun e w' => ∃ v0_ : Value, e = .returned (v0_) ∧ Kd.R (Kd.int .u32) 97 w' w.heap.size (fun k_ => (w.heap.size ≤ k_)) v0_ r ∧ Below w.heap.size w w' := by
 have HO0 := Aside0.mk (show Kd.V (Kd.int .u32) 97 w w.heap.size (fun k_ => ((P0_ k_ ∨ P1_ k_) ∨ w.heap.size ≤ k_)) (.slice A0 l0.length c0) l0 from Kd.V_mono hs0 (fun k_ hk => .inl (.inl hk)))
 have HO1 := Aside0.mk (show Kd.V (Kd.int .u32) 97 w w.heap.size (fun k_ => ((P0_ k_ ∨ P1_ k_) ∨ w.heap.size ≤ k_)) (.slice A1 l1.length c1) l1 from Kd.V_mono hs1 (fun k_ hk => .inl (.inr hk)))
 have HB := Aside0.mk (Below.refl w.heap.size w)
 have H : (r1_Gcd.l0 k l0 l1) = some r := h
 clear h
 have H' := Aside0.mk H
 clear H
 go_enter Try.func122, Try.ntmps122
 go_wp2
 go_loopg [0, 1] k (fun kq v0 v1 w' => ∃ (x0_1 : List Int) (x1_1 : List Int), Aside0 (r1_Gcd.l0 kq x0_1 x1_1 = some r) ∧ Aside0 (kq ≤ k) ∧ Aside0 (Kd.V (Kd.int .u32) 97 w' w.heap.size (fun k_ => ((P0_ k_ ∨ P1_ k_) ∨ w.heap.size ≤ k_)) v0 x0_1) ∧ Aside0 (Kd.V (Kd.int .u32) 97 w' w.heap.size (fun k_ => ((P0_ k_ ∨ P1_ k_) ∨ w.heap.size ≤ k_)) v1 x1_1) ∧ Aside0 (Below w.heap.size w w'))
 case atStart => exact ⟨(l0), (l1), H', ⟨Nat.le_refl _⟩, ⟨zV HO0.out⟩, ⟨zV HO1.out⟩, ⟨zB HB.out⟩⟩
 clear H'
 obtain ⟨x0_1, x1_1, HA, HK1, HO_0, HO_1, HB⟩ := hrel
 cases gk with | zero => exact absurd HA.out (by simp [r1_Gcd.l0]) | succ k1 => ?_
 have H := HA.out
 clear HA
 simp only [r1_Gcd.l0] at H
 replace H := zb H
 obtain ⟨t101, A3, H⟩ := H
 by_cases c4 : t101 = true
 · subst c4
   rw [if_pos rfl] at H
   replace H := zb H
   obtain ⟨t102, A5, H⟩ := H
   obtain rfl := Option.some.inj H
   obtain ⟨Ao6, co6, rfl⟩ := Kd.V_slice HO_1.out
   go_wp2_with (first | ((with_reducible refine gC 27 ?_); refine zG (some 8) Try.func27 #[.slice Ao6 x1_1.length co6] ?_; (with_reducible refine (r1_Zero.calls k1 _ _ x1_1 true _ ?side1 ?side2 A3.out).mono ?_); (case side1 => exact zC (Kd.V_reads' HO_1.out).2.2); (case side2 => exact (Kd.V_reads' HO_1.out).2.1); rintro e w7 ⟨rfl, hb⟩; refine ⟨_, rfl, ?_⟩; replace HO_0 := yVb HO_0 hb; replace HO_1 := yVb HO_1 hb; replace HB := yS HB hb; (try clear hb); (try clear hb2); (try clear hk); (try clear hi); obtain ⟨Ao8, co8, rfl⟩ := Kd.V_slice HO_0.out) | ((with_reducible refine gC 75 ?_); refine zG (some 19) Try.func75 #[.slice Ao8 x0_1.length co8] ?_; (with_reducible refine (r1_Trim.calls k1 _ _ x0_1 t102 _ ?side1 ?side2 A5.out).mono ?_); (case side1 => exact zC (Kd.V_reads' HO_0.out).2.2); (case side2 => exact (Kd.V_reads' HO_0.out).2.1); rintro e w9 ⟨v103, rfl, ho0, hb⟩; refine ⟨_, rfl, ?_⟩; replace HO_0 := yVe HO_0 ho0 hb; replace HO_1 := yVe HO_1 ho0 hb; replace ho0 := Kd.R_newM (M := fun k_ => (w.heap.size ≤ k_)) ho0 (below_size (zB HB.out)) (fun k_ h_ => h_); have HO104 := yRl ho0 HB; replace HB := yS HB hb; (try clear hb ho0)))
   go_ret
   exact ⟨_, zE, by (with_reducible repeat (first | apply Kd.R_alloc | apply Kd.R_drewN | apply Kd.R_drew)); exact Kd.R_mono HO104.out (fun _ hk => hk.1), zB HB.out⟩
 replace c4 := Bool.eq_false_iff.mpr c4
 subst c4
 rw [if_neg Bool.false_ne_true] at H
 replace H := zb H
 obtain ⟨⟨t105, t106⟩, A10, H⟩ := H
 dsimp only at H
 have H' := Aside0.mk H
 clear H
 obtain ⟨Ao11, co11, rfl⟩ := Kd.V_slice HO_1.out
 go_wp2_with (first | ((with_reducible refine gC 27 ?_); refine zG (some 8) Try.func27 #[.slice Ao11 x1_1.length co11] ?_; (with_reducible refine (r1_Zero.calls k1 _ _ x1_1 false _ ?side1 ?side2 A3.out).mono ?_); (case side1 => exact zC (Kd.V_reads' HO_1.out).2.2); (case side2 => exact (Kd.V_reads' HO_1.out).2.1); rintro e w12 ⟨rfl, hb⟩; refine ⟨_, rfl, ?_⟩; replace HO_0 := yVb HO_0 hb; replace HO_1 := yVb HO_1 hb; replace HB := yS HB hb; (try clear hb); (try clear hb2); (try clear hk); (try clear hi); obtain ⟨Ao13, co13, rfl⟩ := Kd.V_slice HO_0.out) | ((with_reducible refine gC 123 ?_); refine zG (some 13) Try.func123 #[.slice Ao13 x0_1.length co13, .slice Ao11 x1_1.length co11] ?_; (with_reducible refine (r1_DivMod.calls k1 _ _ x0_1 _ _ x1_1 t105 t106 _ ?side1 ?side2 ?side3 ?side4 A10.out).mono ?_); (case side1 => exact zC (Kd.V_reads' HO_0.out).2.2); (case side2 => exact (Kd.V_reads' HO_0.out).2.1); (case side3 => exact zC (Kd.V_reads' HO_1.out).2.2); (case side4 => exact (Kd.V_reads' HO_1.out).2.1); rintro e w14 ⟨v107, v109, rfl, ho0, ho1, hb⟩; refine ⟨_, rfl, ?_⟩; replace HO_0 := yVt HO_0 hb ho0 ho1; replace HO_1 := yVt HO_1 hb ho0 ho1; replace ho0 := Kd.R_newM (M := fun k_ => (w.heap.size ≤ k_)) ho0 (below_size (zB HB.out)) (fun k_ h_ => h_); have HO108 := yRl ho0 HB; replace ho1 := Kd.R_newM (M := fun k_ => (w.heap.size ≤ k_)) ho1 (below_size (zB HB.out)) (fun k_ h_ => h_); have HO110 := yRl ho1 HB; replace HB := yS HB hb; (try clear hb ho0); (try clear ho1)))
 go_roundg k1
 case measure => have := HK1.out; omega
 case rel => exact ⟨(x1_1), (t106), H', ⟨zo1 HK1⟩, ⟨by (with_reducible repeat (first | apply Kd.V_alloc | apply Kd.V_drewN | apply Kd.V_drew)); exact Kd.V_mono HO_1.out (fun _ hk => hk.1.1)⟩, ⟨Kd.V_mono (Kd.R_V (by (with_reducible repeat (first | apply Kd.R_alloc | apply Kd.R_drewN | apply Kd.R_drew)); exact Kd.R_mono HO110.out (fun _ hk => hk.1))) (fun k_ hk => by first | exact ⟨(.inr (hk.1)), hk.2⟩ | exact (.inr (hk)))⟩, ⟨zB HB.out⟩⟩
set_option maxHeartbeats 8000000 in
set_option maxRecDepth 100000 in
theorem r2_Make.calls (k : Nat) (a0 : Bool) (A1 : Option Addr) (c1 : Nat) (l1 : List Int) (A2 : Option Addr) (c2 : Nat) (l2 : List Int) (r1 : Bool) (r2 : List Int) (r3 : List Int) (w : World) (hr1 : Kd.C (Kd.int .u32) w A1 l1.length l1) (hc1 : l1.length ≤ c1) (hr2 : Kd.C (Kd.int .u32) w A2 l2.length l2) (hc2 : l2.length ≤ c2) (h : r2_Make.f k a0 l1 l2 = some (r1, r2, r3)) :
    Calls Try.prog 90 #[.bool a0, .slice A1 l1.length c1, .slice A2 l2.length c2] w fun e w' => ∃ v1_ v2_ : Value, e = .returned (.agg #[.bool r1, v1_, v2_]) ∧ Kd.R (Kd.int .u32) 97 w' w.heap.size (fun k_ => some k_ ≠ (v2_ : Value).ownBlock) v1_ r2 ∧ Kd.R (Kd.int .u32) 97 w' w.heap.size (fun k_ => some k_ ≠ (v1_ : Value).ownBlock) v2_ r3 ∧ Below w.heap.size w w' := by
 have hu60 := Try.underlying60
 have HR1 := Aside0.mk hr1
 have HC1 := Aside0.mk hc1
 clear hr1 hc1
 have HR2 := Aside0.mk hr2
 have HC2 := Aside0.mk hc2
 clear hr2 hc2
 have HB := Aside0.mk (Below.refl w.heap.size w)
 have H : ((r1_Zero.f k l1).bind fun t102 => (if t102 = true then (r2_Make.j0 k a0 l1 l2 true) else ((r1_Zero.f k l2).bind fun t103 => (r2_Make.j0 k a0 l1 l2 t103)))) = some (r1, r2, r3) := h
 clear h
 have HC4 := Aside0.mk H
 clear H
 go_enter Try.func90, Try.ntmps90
 go_upto_region 1 with (first | ((with_reducible refine gate_dst (N := 6) rfl ?_); refine box_event ?hg (N := 6) ?hd (cs := #[.bool false, .slice none 0 0, .slice none 0 0]) (t := 60) ?hr ?_; (case hd => rfl); (case hg => rfl); (case hr => first | (go_simp; done) | (go_simp; rfl)); intro gb101 hg w5 hbox hb; have BK101 := Aside0.mk (hbox); have GW101 := yg hg HB; have GE101 := yg hg HB; replace HB := yS HB hb; clear hb hbox hg))
 (try simp only [Act.put, List.setIfInBounds_toArray, List.set_cons_zero, List.set_cons_succ])
 go_cut [17] (fun v17 wc => ∃ (kq : Nat) (x17_3 : Bool), v17 = .bool x17_3 ∧ Aside0 (r2_Make.j0 kq a0 l1 l2 x17_3 = some (r1, r2, r3)) ∧ Aside0 (kq ≤ k) ∧ Aside0 (wc.heap[gb101]? = some (.cells #[.bool false, (.slice none 0 0), (.slice none 0 0)] 60 (0, 0))) ∧ Aside0 (Below w.heap.size w wc))
 case first =>
  have H := HC4.out
  clear HC4
  replace H := zb H
  obtain ⟨t102, A6, H⟩ := H
  by_cases c7 : t102 = true
  · subst c7
    rw [if_pos rfl] at H
    have H' := Aside0.mk H
    clear H
    go_wp2_with (first | ((with_reducible refine gC 27 ?_); refine zG (some 13) Try.func27 #[.slice A1 l1.length c1] ?_; (with_reducible refine (r1_Zero.calls k _ _ l1 true _ ?side1 ?side2 A6.out).mono ?_); (case side1 => exact zC (Kd.C_below HR1.out HB.out)); (case side2 => exact HC1.out); rintro e w8 ⟨rfl, hb⟩; refine ⟨_, rfl, ?_⟩; replace BK101 := yK BK101 hb; replace HB := yS1 HB GE101 hb; (try clear hb); (try clear hb2); (try clear hk); (try clear hi)))
    go_meet
    case rel => exact ⟨_, (true), zF, H', ⟨zO⟩, ⟨by (with_reducible repeat (first | refine blk_drewN ?_ _ | refine blk_drew ?_ | refine blk_alloc ?_ _)); exact BK101.out⟩, ⟨zB1 HB.out GE101.out⟩⟩
  replace c7 := Bool.eq_false_iff.mpr c7
  subst c7
  rw [if_neg Bool.false_ne_true] at H
  replace H := zb H
  obtain ⟨t103, A9, H⟩ := H
  have H' := Aside0.mk H
  clear H
  go_wp2_with (first | ((with_reducible refine gC 27 ?_); refine zG (some 13) Try.func27 #[.slice A1 l1.length c1] ?_; (with_reducible refine (r1_Zero.calls k _ _ l1 false _ ?side1 ?side2 A6.out).mono ?_); (case side1 => exact zC (Kd.C_below HR1.out HB.out)); (case side2 => exact HC1.out); rintro e w10 ⟨rfl, hb⟩; refine ⟨_, rfl, ?_⟩; replace BK101 := yK BK101 hb; replace HB := yS1 HB GE101 hb; (try clear hb); (try clear hb2); (try clear hk); (try clear hi)) | (go_at_call 27; (with_reducible refine (r1_Zero.calls k _ _ l2 t103 _ ?side1 ?side2 A9.out).mono ?_); (case side1 => exact zC (Kd.C_below HR2.out HB.out)); (case side2 => exact HC2.out); rintro e w11 ⟨rfl, hb⟩; replace BK101 := yK BK101 hb; replace HB := yS1 HB GE101 hb; (try clear hb); (try clear hb2); (try clear hk); (try clear hi)))
  go_meet
  case rel => exact ⟨_, (t103), zF, H', ⟨zO⟩, ⟨by (with_reducible repeat (first | refine blk_drewN ?_ _ | refine blk_drew ?_ | refine blk_alloc ?_ _)); exact BK101.out⟩, ⟨zB1 HB.out GE101.out⟩⟩
 clear HC4
 (try clear c7)
 obtain ⟨kq, x17_3, rfl, HA, HJ3, BK101, HB⟩ := hcut
 cases kq with | zero => exact absurd HA.out (by simp [r2_Make.j0]) | succ kj3 => ?_
 have H := HA.out
 clear HA
 simp only [r2_Make.j0] at H
 by_cases c12 : x17_3 = true
 · subst c12
   rw [if_pos rfl] at H
   obtain ⟨y104, hy104⟩ : ∃ y_ : List Int, y_ = (([] : List Int)) := ⟨_, rfl⟩
   replace H : (some (false, y104, (([1] : List Int)))) = some (r1, r2, r3) := zY hy104 H
   have Ny104 := Aside0.mk hy104
   clear hy104
   obtain ⟨y107, hy107⟩ : ∃ y_ : List Int, y_ = (([1] : List Int)) := ⟨_, rfl⟩
   replace H : (some (false, y104, y107)) = some (r1, r2, r3) := zY hy107 H
   have Ny107 := Aside0.mk hy107
   clear hy107
   simp only [Option.some.injEq, Prod.mk.injEq] at H
   obtain ⟨rfl, rfl, rfl⟩ := H
   go_wp2_with (first | ((with_reducible refine gate_dst (N := 18) rfl ?_); refine Kd.R_lit (Kd.int .u32) _ 97 ?hg (N := 18) ?hd (xs := ([] : List Int)) (inner := []) (ok := fun _ => True) (okp := fun _ => True) ?hr ?hp (fun _ hk => hk) trivial (Below.refl _ _) (Nat.le_refl _) (by simp) ?_; (case hd => rfl); (case hg => rfl); (case hr => first | (go_simp; done) | (go_simp; rfl)); (case hp => exact (Reps.none _ _)); intro v105 w13 ho14 hb hg_ hnew_; clear hg_ hnew_; (first | rw [← Ny104.out] at ho14 | (simp only [Int.reduceToNat] at ho14; rw [← Ny104.out] at ho14)); have HO106 := yRl1 ho14 HB GE101; replace BK101 := yK BK101 hb; replace HB := yS1 HB GE101 hb; clear hb ho14) | ((with_reducible refine gate_dst (N := 19) rfl ?_); refine Kd.R_lit (Kd.int .u32) _ 97 ?hg (N := 19) ?hd (xs := ([1] : List Int)) (inner := [.int .u32 1]) (ok := fun _ => True) (okp := fun _ => True) ?hr ?hp (fun _ hk => hk) trivial (Below.refl _ _) (Nat.le_refl _) (by simp) ?_; (case hd => rfl); (case hg => rfl); (case hr => first | (go_simp; done) | (go_simp; rfl)); (case hp => exact (Reps.one (show Kd.M (Kd.int .u32) _ _ _ 1 [.int .u32 1] from rfl) (Reps.none _ _))); intro v108 w15 ho16 hb hg_ hnew_; clear hg_ hnew_; (first | rw [← Ny107.out] at ho16 | (simp only [Int.reduceToNat] at ho16; rw [← Ny107.out] at ho16)); replace ho16 := yn ho16 HO106; have HO109 := yRl1 ho16 HB GE101; replace HO106 := yRe HO106 ho16 hb; replace BK101 := yK BK101 hb; replace HB := yS1 HB GE101 hb; clear hb ho16; obtain ⟨Ao17, co17, rfl⟩ := Kd.R_slice HO109.out; obtain ⟨Ao18, co18, rfl⟩ := Kd.R_slice HO106.out; obtain ⟨hcz19_0, hcz19_1, hcz19_2, hfz19_0, hfz19_1, hfz19_2⟩ := zz3 BK101))
   refine bodyPost_ret (results_cell_row rfl _ _ gb101 60 #[.bool false, .slice Ao18 y104.length co18, .slice Ao17 y107.length co17] (0, 0) _ rfl (zP3 BK101.out) Try.underlying60 rfl (by kernel_rfl)) rfl ?_
   exact ⟨_, _, zE, by (with_reducible repeat (first | apply Kd.R_alloc | apply Kd.R_drewN | apply Kd.R_drew)); exact yf HO106.out BK101.out (fun _ hk => hk.1.2), by (with_reducible repeat (first | apply Kd.R_alloc | apply Kd.R_drewN | apply Kd.R_drew)); exact yf HO109.out BK101.out (fun _ hk => hk.1.2), zB1 HB.out GE101.out⟩
 replace c12 := Bool.eq_false_iff.mpr c12
 subst c12
 rw [if_neg Bool.false_ne_true] at H
 replace H := zb H
 obtain ⟨t110, A20, H⟩ := H
 replace H := zb H
 obtain ⟨⟨t113, t114⟩, A21, H⟩ := H
 dsimp only at H
 replace H := zb H
 obtain ⟨⟨t119, t120⟩, A22, H⟩ := H
 dsimp only at H
 simp only [Option.some.injEq, Prod.mk.injEq] at H
 obtain ⟨rfl, rfl, rfl⟩ := H
 go_wp2_with (first | ((with_reducible refine gC 122 ?_); refine zG (some 23) Try.func122 #[.slice A1 l1.length c1, .slice A2 l2.length c2] ?_; (with_reducible refine (r1_Gcd.calls kj3 (fun k_ => k_ < w.heap.size) _ _ l1 (fun k_ => k_ < w.heap.size) _ _ l2 t110 _ ?side1 ?side2 A20.out).mono ?_); (case side1 => exact Kd.V_mk HC1.out (Kd.F_below (Kd.C_F (Kd.heap_int .u32) HR1.out) (zB1 HB.out GE101.out))); (case side2 => exact Kd.V_mk HC2.out (Kd.F_below (Kd.C_F (Kd.heap_int .u32) HR2.out) (zB1 HB.out GE101.out))); rintro e w23 ⟨v111, rfl, ho0, hb⟩; refine ⟨_, rfl, ?_⟩; replace ho0 := yt ho0; have HO112 := yRl1 ho0 HB GE101; replace BK101 := yK BK101 hb; replace HB := yS1 HB GE101 hb; (try clear hb ho0); obtain ⟨Ao24, co24, rfl⟩ := Kd.R_slice HO112.out) | ((with_reducible refine gC 123 ?_); refine zG (some 27) Try.func123 #[.slice A1 l1.length c1, .slice Ao24 t110.length co24] ?_; (with_reducible refine (r1_DivMod.calls kj3 _ _ l1 _ _ t110 t113 t114 _ ?side1 ?side2 ?side3 ?side4 A21.out).mono ?_); (case side1 => exact zC (Kd.C_below HR1.out HB.out)); (case side2 => exact HC1.out); (case side3 => exact zC (Kd.R_reads' HO112.out).2.2); (case side4 => exact (Kd.R_reads' HO112.out).2.1); rintro e w25 ⟨v115, v117, rfl, ho0, ho1, hb⟩; refine ⟨_, rfl, ?_⟩; replace ho0 := yn ho0 HO112; have HO116 := yRl1 ho0 HB GE101; replace ho1 := yn ho1 HO112; have HO118 := yRl1 ho1 HB GE101; replace HO112 := yRt HO112 hb ho0 ho1; replace BK101 := yK BK101 hb; replace HB := yS1 HB GE101 hb; (try clear hb ho0); (try clear ho1)) | ((with_reducible refine gC 123 ?_); refine zG (some 33) Try.func123 #[.slice A2 l2.length c2, .slice Ao24 t110.length co24] ?_; (with_reducible refine (r1_DivMod.calls kj3 _ _ l2 _ _ t110 t119 t120 _ ?side1 ?side2 ?side3 ?side4 A22.out).mono ?_); (case side1 => exact zC (Kd.C_below HR2.out HB.out)); (case side2 => exact HC2.out); (case side3 => exact zC (Kd.R_reads' HO112.out).2.2); (case side4 => exact (Kd.R_reads' HO112.out).2.1); rintro e w26 ⟨v121, v123, rfl, ho0, ho1, hb⟩; refine ⟨_, rfl, ?_⟩; replace ho0 := yn ho0 HO112; replace ho0 := yn ho0 HO116; replace ho0 := yn ho0 HO118; have HO122 := yRl1 ho0 HB GE101; replace ho1 := yn ho1 HO112; replace ho1 := yn ho1 HO116; replace ho1 := yn ho1 HO118; have HO124 := yRl1 ho1 HB GE101; replace HO112 := yRt HO112 hb ho0 ho1; replace HO116 := yRt HO116 hb ho0 ho1; replace HO118 := yRt HO118 hb ho0 ho1; replace BK101 := yK BK101 hb; replace HB := yS1 HB GE101 hb; (try clear hb ho0); (try clear ho1); obtain ⟨Ao27, co27, rfl⟩ := Kd.R_slice HO122.out; obtain ⟨Ao28, co28, rfl⟩ := Kd.R_slice HO116.out; obtain ⟨hcz29_0, hcz29_1, hcz29_2, hfz29_0, hfz29_1, hfz29_2⟩ := zz3 BK101))
 refine bodyPost_ret (results_cell_row rfl _ _ gb101 60 #[.bool a0, .slice Ao28 t113.length co28, .slice Ao27 t119.length co27] (0, 0) _ rfl (zP3 BK101.out) Try.underlying60 rfl (by kernel_rfl)) rfl ?_
 exact ⟨_, _, zE, by (with_reducible repeat (first | apply Kd.R_alloc | apply Kd.R_drewN | apply Kd.R_drew)); exact yf HO116.out BK101.out (fun _ hk => hk.1.1.2), by (with_reducible repeat (first | apply Kd.R_alloc | apply Kd.R_drewN | apply Kd.R_drew)); exact yf HO122.out BK101.out (fun _ hk => hk.1.1.2), zB1 HB.out GE101.out⟩
set_option maxHeartbeats 8000000 in
set_option maxRecDepth 100000 in
theorem r2_Trim.calls (k : Nat) (a0_0 : Bool) (A0_1 : Option Addr) (c0_1 : Nat) (l0_1 : List Int) (A0_2 : Option Addr) (c0_2 : Nat) (l0_2 : List Int) (r1 : Bool) (r2 : List Int) (r3 : List Int) (w : World) (hr0_1 : Kd.C (Kd.int .u32) w A0_1 l0_1.length l0_1) (hc0_1 : l0_1.length ≤ c0_1) (hr0_2 : Kd.C (Kd.int .u32) w A0_2 l0_2.length l0_2) (hc0_2 : l0_2.length ≤ c0_2) (h : r2_Trim.f k a0_0 l0_1 l0_2 = some (r1, r2, r3)) :
    Calls Try.prog 99 #[.agg #[.bool a0_0, .slice A0_1 l0_1.length c0_1, .slice A0_2 l0_2.length c0_2]] w fun e w' => ∃ v1_ v2_ : Value, e = .returned (.agg #[.bool r1, v1_, v2_]) ∧ Kd.R (Kd.int .u32) 97 w' w.heap.size (fun k_ => some k_ ≠ (v2_ : Value).ownBlock) v1_ r2 ∧ Kd.R (Kd.int .u32) 97 w' w.heap.size (fun k_ => some k_ ≠ (v1_ : Value).ownBlock) v2_ r3 ∧ Below w.heap.size w w' := by
 have hu60 := Try.underlying60
 have HR0_1 := Aside0.mk hr0_1
 have HC0_1 := Aside0.mk hc0_1
 clear hr0_1 hc0_1
 have HR0_2 := Aside0.mk hr0_2
 have HC0_2 := Aside0.mk hc0_2
 clear hr0_2 hc0_2
 have HB := Aside0.mk (Below.refl w.heap.size w)
 have H : ((r2_Make.f k a0_0 l0_1 l0_2).bind fun bt103 => (some (bt103.1, bt103.2.1, bt103.2.2))) = some (r1, r2, r3) := h
 clear h
 replace H := zb H
 obtain ⟨⟨t103, t104, t107⟩, A2, H⟩ := H
 dsimp only at H
 simp only [Option.some.injEq, Prod.mk.injEq] at H
 obtain ⟨rfl, rfl, rfl⟩ := H
 go_enter Try.func99, Try.ntmps99
 go_wp2_with (first | ((with_reducible refine gate_dst (N := 1) rfl ?_); refine box_event ?hg (N := 1) ?hd (cs := #[.bool a0_0, .slice A0_1 l0_1.length c0_1, .slice A0_2 l0_2.length c0_2]) (t := 60) ?hr ?_; (case hd => rfl); (case hg => rfl); (case hr => first | (go_simp; done) | (go_simp; rfl)); intro gb101 hg w3 hbox hb; have BK101 := Aside0.mk (hbox); have GW101 := yg hg HB; have GE101 := yg hg HB; replace HB := yS HB hb; clear hb hbox hg) | ((with_reducible refine gate_dst (N := 2) rfl ?_); refine box_event ?hg (N := 2) ?hd (cs := #[.bool false, .slice none 0 0, .slice none 0 0]) (t := 60) ?hr ?_; (case hd => rfl); (case hg => rfl); (case hr => first | (go_simp; done) | (go_simp; rfl)); intro gb102 hg w4 hbox hb; have BK102 := Aside0.mk (hbox); have GW102 := yg1 hg HB GE101; have GE102 := yg1 hg HB GE101; replace HB := yS1 HB GE101 hb; have NB101_102 := ynl hg BK101; have NB102_101 := yng hg BK101; replace BK101 := yK BK101 hb; clear hb hbox hg; have hnb5 := NB101_102.out; have hnc5 := NB102_101.out; obtain ⟨hcz6_0, hcz6_1, hcz6_2, hfz6_0, hfz6_1, hfz6_2⟩ := zz3 BK101) | ((with_reducible refine gC 90 ?_); refine zG (some 9) Try.func90 #[.bool a0_0, .slice A0_1 l0_1.length c0_1, .slice A0_2 l0_2.length c0_2] ?_; (with_reducible refine (r2_Make.calls k a0_0 _ _ l0_1 _ _ l0_2 t103 t104 t107 _ ?side1 ?side2 ?side3 ?side4 A2.out).mono ?_); (case side1 => exact zC (Kd.C_below HR0_1.out HB.out)); (case side2 => exact HC0_1.out); (case side3 => exact zC (Kd.C_below HR0_2.out HB.out)); (case side4 => exact HC0_2.out); rintro e w7 ⟨v105, v108, rfl, ho0, ho1, hb⟩; refine ⟨_, rfl, ?_⟩; have HO106 := yRl2 ho0 HB GE101 GE102; have HO109 := yRl2 ho1 HB GE101 GE102; replace BK101 := yK BK101 hb; replace BK102 := yK BK102 hb; replace HB := yS2 HB GE101 GE102 hb; (try clear hb ho0); (try clear ho1); obtain ⟨hcz8_0, hcz8_1, hcz8_2, hfz8_0, hfz8_1, hfz8_2⟩ := zz3 BK102; obtain ⟨Ao9, co9, rfl⟩ := Kd.R_slice HO106.out; obtain ⟨Ao10, co10, rfl⟩ := Kd.R_slice HO109.out))
 refine bodyPost_ret (results_cell_row rfl _ _ gb102 60 #[.bool t103, .slice Ao9 t104.length co9, .slice Ao10 t107.length co10] (0, 0) _ rfl (zP3 BK102.out) Try.underlying60 rfl (by kernel_rfl)) rfl ?_
 exact ⟨_, _, zE, by (with_reducible repeat (first | apply Kd.R_alloc | apply Kd.R_drewN | apply Kd.R_drew)); exact yf HO106.out BK102.out (fun _ hk => hk.1), by (with_reducible repeat (first | apply Kd.R_alloc | apply Kd.R_drewN | apply Kd.R_drew)); exact yf HO109.out BK102.out (fun _ hk => hk.1), zB2 HB.out GE101.out GE102.out⟩
def r2_Mul.T3 : Bool × List (List Nat × List Nat) := (true, [([], []), ([0], [0]), ([], []), ([2], [2]), ([1, 3], [1, 3]), ([], []), ([5], [5]), ([], []), ([7], [7]), ([6, 8], [6, 8]), ([], []), ([10], [10]), ([], []), ([12], [12]), ([11, 13, 9], [11, 13]), ([4, 9, 14, 14], [4, 9, 14]), ([15, 15, 0, 1, 2, 3, 4, 5, 6, 7, 8, 9, 10, 11, 12, 13, 14, 15], [15])])
def r2_Mul.B3 : List Nat := [0, 1, 0, 4, 15, 0, 32, 0, 128, 480, 0, 1024, 0, 4096, 16352, 32767, 65535]
theorem r2_Mul.tab3 : rtab .any (opsOf Try.f51 3) = r2_Mul.T3 := by kernel_rfl
theorem r2_Mul.bits3 : waitsOk r2_Mul.T3.2 r2_Mul.B3 = true := by kernel_rfl
set_option maxHeartbeats 8000000 in
set_option maxRecDepth 100000 in
theorem r2_Mul.calls (k : Nat) (a0_0 : Bool) (A0_1 : Option Addr) (c0_1 : Nat) (l0_1 : List Int) (A0_2 : Option Addr) (c0_2 : Nat) (l0_2 : List Int) (a1_0 : Bool) (A1_1 : Option Addr) (c1_1 : Nat) (l1_1 : List Int) (A1_2 : Option Addr) (c1_2 : Nat) (l1_2 : List Int) (r1 : Bool) (r2 : List Int) (r3 : List Int) (w : World) (hr0_1 : Kd.C (Kd.int .u32) w A0_1 l0_1.length l0_1) (hc0_1 : l0_1.length ≤ c0_1) (hr0_2 : Kd.C (Kd.int .u32) w A0_2 l0_2.length l0_2) (hc0_2 : l0_2.length ≤ c0_2) (hr1_1 : Kd.C (Kd.int .u32) w A1_1 l1_1.length l1_1) (hc1_1 : l1_1.length ≤ c1_1) (hr1_2 : Kd.C (Kd.int .u32) w A1_2 l1_2.length l1_2) (hc1_2 : l1_2.length ≤ c1_2) (h : r2_Mul.f k a0_0 l0_1 l0_2 a1_0 l1_1 l1_2 = some (r1, r2, r3)) :
    Calls Try.prog 51 #[.agg #[.bool a0_0, .slice A0_1 l0_1.length c0_1, .slice A0_2 l0_2.length c0_2], .agg #[.bool a1_0, .slice A1_1 l1_1.length c1_1, .slice A1_2 l1_2.length c1_2]] w fun e w' => ∃ v1_ v2_ : Value, e = .returned (.agg #[.bool r1, v1_, v2_]) ∧ Kd.R (Kd.int .u32) 97 w' w.heap.size (fun k_ => some k_ ≠ (v2_ : Value).ownBlock) v1_ r2 ∧ Kd.R (Kd.int .u32) 97 w' w.heap.size (fun k_ => some k_ ≠ (v1_ : Value).ownBlock) v2_ r3 ∧ Below w.heap.size w w' := by
 have hu60 := Try.underlying60
 have HR0_1 := Aside0.mk hr0_1
 have HC0_1 := Aside0.mk hc0_1
 clear hr0_1 hc0_1
 have HR0_2 := Aside0.mk hr0_2
 have HC0_2 := Aside0.mk hc0_2
 clear hr0_2 hc0_2
 have HR1_1 := Aside0.mk hr1_1
 have HC1_1 := Aside0.mk hc1_1
 clear hr1_1 hc1_1
 have HR1_2 := Aside0.mk hr1_2
 have HC1_2 := Aside0.mk hc1_2
 clear hr1_2 hc1_2
 have HB := Aside0.mk (Below.refl w.heap.size w)
 have H : ((r2_Trim.f k a0_0 l0_1 l0_2).bind fun bt104 => ((r2_Trim.f k a1_0 l1_1 l1_2).bind fun bt111 => ((r1_Mul.f k bt104.2.1 bt111.2.1).bind fun t118 => ((r1_Mul.f k bt104.2.2 bt111.2.2).bind fun t121 => ((r2_Make.f k (bt104.1 != bt111.1) t118 t121).bind fun bt124 => (some (bt124.1, bt124.2.1, bt124.2.2))))))) = some (r1, r2, r3) := h
 clear h
 replace H := zb H
 obtain ⟨⟨t104, t105, t108⟩, A3, H⟩ := H
 dsimp only at H
 replace H := zb H
 obtain ⟨⟨t111, t112, t115⟩, A4, H⟩ := H
 dsimp only at H
 replace H := zb H
 obtain ⟨t118, A5, H⟩ := H
 replace H := zb H
 obtain ⟨t121, A6, H⟩ := H
 replace H := zb H
 obtain ⟨⟨t124, t125, t128⟩, A7, H⟩ := H
 dsimp only at H
 simp only [Option.some.injEq, Prod.mk.injEq] at H
 obtain ⟨rfl, rfl, rfl⟩ := H
 go_enter Try.func51, Try.ntmps51
 try go_wp2_with (first | ((with_reducible refine gate_dst (N := 2) rfl ?_); refine box_event ?hg (N := 2) ?hd (cs := #[.bool a0_0, .slice A0_1 l0_1.length c0_1, .slice A0_2 l0_2.length c0_2]) (t := 60) ?hr ?_; (case hd => rfl); (case hg => rfl); (case hr => first | (go_simp; done) | (go_simp; rfl)); intro gb101 hg w8 hbox hb; have BK101 := Aside0.mk (hbox); have GW101 := yg hg HB; have GE101 := yg hg HB; replace HB := yS HB hb; clear hb hbox hg) | ((with_reducible refine gate_dst (N := 3) rfl ?_); refine box_event ?hg (N := 3) ?hd (cs := #[.bool a1_0, .slice A1_1 l1_1.length c1_1, .slice A1_2 l1_2.length c1_2]) (t := 60) ?hr ?_; (case hd => rfl); (case hg => rfl); (case hr => first | (go_simp; done) | (go_simp; rfl)); intro gb102 hg w9 hbox hb; have BK102 := Aside0.mk (hbox); have GW102 := yg1 hg HB GE101; have GE102 := yg1 hg HB GE101; replace HB := yS1 HB GE101 hb; have NB101_102 := ynl hg BK101; have NB102_101 := yng hg BK101; replace BK101 := yK BK101 hb; clear hb hbox hg) | ((with_reducible refine gate_dst (N := 4) rfl ?_); refine box_event ?hg (N := 4) ?hd (cs := #[.bool false, .slice none 0 0, .slice none 0 0]) (t := 60) ?hr ?_; (case hd => rfl); (case hg => rfl); (case hr => first | (go_simp; done) | (go_simp; rfl)); intro gb103 hg w10 hbox hb; have BK103 := Aside0.mk (hbox); have GW103 := yg2 hg HB GE101 GE102; have GE103 := yg2 hg HB GE101 GE102; replace HB := yS2 HB GE101 GE102 hb; have NB101_103 := ynl hg BK101; have NB103_101 := yng hg BK101; replace BK101 := yK BK101 hb; have NB102_103 := ynl hg BK102; have NB103_102 := yng hg BK102; replace BK102 := yK BK102 hb; clear hb hbox hg; have hnb11 := NB101_102.out; have hnc11 := NB102_101.out; have hnb12 := NB101_103.out; have hnc12 := NB103_101.out; obtain ⟨hcz13_0, hcz13_1, hcz13_2, hfz13_0, hfz13_1, hfz13_2⟩ := zz3 BK101) | ((with_reducible refine gC 99 ?_); refine zG (some 6) Try.func99 #[.agg #[.bool a0_0, .slice A0_1 l0_1.length c0_1, .slice A0_2 l0_2.length c0_2]] ?_; (with_reducible refine (r2_Trim.calls k a0_0 _ _ l0_1 _ _ l0_2 t104 t105 t108 _ ?side1 ?side2 ?side3 ?side4 A3.out).mono ?_); (case side1 => exact zC (Kd.C_below HR0_1.out HB.out)); (case side2 => exact HC0_1.out); (case side3 => exact zC (Kd.C_below HR0_2.out HB.out)); (case side4 => exact HC0_2.out); rintro e w14 ⟨v106, v109, rfl, ho0, ho1, hb⟩; refine ⟨_, rfl, ?_⟩; have HO107 := yRl3 ho0 HB GE101 GE102 GE103; have HO110 := yRl3 ho1 HB GE101 GE102 GE103; replace BK101 := yK BK101 hb; replace BK102 := yK BK102 hb; replace BK103 := yK BK103 hb; replace HB := yS3 HB GE101 GE102 GE103 hb; (try clear hb ho0); (try clear ho1); obtain ⟨hcz15_0, hcz15_1, hcz15_2, hfz15_0, hfz15_1, hfz15_2⟩ := zz3 BK101; obtain ⟨Ao16, co16, rfl⟩ := Kd.R_slice HO107.out; obtain ⟨Ao17, co17, rfl⟩ := Kd.R_slice HO110.out; have hnb18 := NB102_103.out; have hnc18 := NB103_102.out; obtain ⟨hcz19_0, hcz19_1, hcz19_2, hfz19_0, hfz19_1, hfz19_2⟩ := zz3 BK102) | ((with_reducible refine gC 99 ?_); refine zG (some 8) Try.func99 #[.agg #[.bool a1_0, .slice A1_1 l1_1.length c1_1, .slice A1_2 l1_2.length c1_2]] ?_; (with_reducible refine (r2_Trim.calls k a1_0 _ _ l1_1 _ _ l1_2 t111 t112 t115 _ ?side1 ?side2 ?side3 ?side4 A4.out).mono ?_); (case side1 => exact Kd.C_below HR1_1.out (zB3 HB.out GE101.out GE102.out GE103.out)); (case side2 => exact HC1_1.out); (case side3 => exact Kd.C_below HR1_2.out (zB3 HB.out GE101.out GE102.out GE103.out)); (case side4 => exact HC1_2.out); rintro e w20 ⟨v113, v116, rfl, ho0, ho1, hb⟩; refine ⟨_, rfl, ?_⟩; replace ho0 := ynf ho0 HO107 BK101; replace ho0 := ynf ho0 HO110 BK101; have HO114 := yRl3 ho0 HB GE101 GE102 GE103; replace ho1 := ynf ho1 HO107 BK101; replace ho1 := ynf ho1 HO110 BK101; have HO117 := yRl3 ho1 HB GE101 GE102 GE103; replace HO107 := yRtf HO107 BK101 hb ho0 ho1; replace HO110 := yRtf HO110 BK101 hb ho0 ho1; replace BK101 := yP3 BK101 hb; replace BK102 := yF3 BK102 NB102_101 hb; replace BK103 := yF3 BK103 NB103_101 hb; replace HB := yS3 HB GE101 GE102 GE103 hb; (try clear hb ho0); (try clear ho1); obtain ⟨hcz21_0, hcz21_1, hcz21_2, hfz21_0, hfz21_1, hfz21_2⟩ := zz3 BK102; obtain ⟨Ao22, co22, rfl⟩ := Kd.R_slice HO114.out; obtain ⟨Ao23, co23, rfl⟩ := Kd.R_slice HO117.out))
 have n0_ : Aside0 (Kd.R (Kd.int .u32) 97 (((w20.setCell ⟨gb102, 0, none⟩ (.bool t111)).setCell ⟨gb102, 1, none⟩ (.slice Ao22 t112.length co22)).setCell ⟨gb102, 2, none⟩ (.slice Ao23 t115.length co23)) w.heap.size (fun k_ => some k_ ≠ (.slice Ao17 t108.length co17 : Value).ownBlock ∧ some k_ ≠ (.slice Ao22 t112.length co22 : Value).ownBlock ∧ some k_ ≠ (.slice Ao23 t115.length co23 : Value).ownBlock) (.slice Ao16 t105.length co16) t105) := ⟨by (with_reducible repeat (first | apply Kd.R_alloc | apply Kd.R_drewN | apply Kd.R_drew)); exact yf HO107.out BK102.out (fun _ hk => ⟨hk.1.1.1, ⟨hk.1.1.2, hk.1.2⟩⟩)⟩
 have n1_ : Aside0 (Kd.R (Kd.int .u32) 97 (((w20.setCell ⟨gb102, 0, none⟩ (.bool t111)).setCell ⟨gb102, 1, none⟩ (.slice Ao22 t112.length co22)).setCell ⟨gb102, 2, none⟩ (.slice Ao23 t115.length co23)) w.heap.size (fun k_ => some k_ ≠ (.slice Ao16 t105.length co16 : Value).ownBlock ∧ some k_ ≠ (.slice Ao22 t112.length co22 : Value).ownBlock ∧ some k_ ≠ (.slice Ao23 t115.length co23 : Value).ownBlock) (.slice Ao17 t108.length co17) t108) := ⟨by (with_reducible repeat (first | apply Kd.R_alloc | apply Kd.R_drewN | apply Kd.R_drew)); exact yf HO110.out BK102.out (fun _ hk => ⟨hk.1.1.1, ⟨hk.1.1.2, hk.1.2⟩⟩)⟩
 have n2_ : Aside0 (Kd.R (Kd.int .u32) 97 (((w20.setCell ⟨gb102, 0, none⟩ (.bool t111)).setCell ⟨gb102, 1, none⟩ (.slice Ao22 t112.length co22)).setCell ⟨gb102, 2, none⟩ (.slice Ao23 t115.length co23)) w.heap.size (fun k_ => some k_ ≠ (.slice Ao16 t105.length co16 : Value).ownBlock ∧ some k_ ≠ (.slice Ao17 t108.length co17 : Value).ownBlock ∧ some k_ ≠ (.slice Ao23 t115.length co23 : Value).ownBlock) (.slice Ao22 t112.length co22) t112) := ⟨by (with_reducible repeat (first | apply Kd.R_alloc | apply Kd.R_drewN | apply Kd.R_drew)); exact yf HO114.out BK102.out (fun _ hk => ⟨hk.1.1.2, ⟨hk.1.2, hk.1.1.1⟩⟩)⟩
 have n3_ : Aside0 (Kd.R (Kd.int .u32) 97 (((w20.setCell ⟨gb102, 0, none⟩ (.bool t111)).setCell ⟨gb102, 1, none⟩ (.slice Ao22 t112.length co22)).setCell ⟨gb102, 2, none⟩ (.slice Ao23 t115.length co23)) w.heap.size (fun k_ => some k_ ≠ (.slice Ao16 t105.length co16 : Value).ownBlock ∧ some k_ ≠ (.slice Ao17 t108.length co17 : Value).ownBlock ∧ some k_ ≠ (.slice Ao22 t112.length co22 : Value).ownBlock) (.slice Ao23 t115.length co23) t115) := ⟨by (with_reducible repeat (first | apply Kd.R_alloc | apply Kd.R_drewN | apply Kd.R_drew)); exact yf HO117.out BK102.out (fun _ hk => ⟨hk.1.1.2, ⟨hk.1.2, hk.1.1.1⟩⟩)⟩
 have n4_ : Aside0 ((((w20.setCell ⟨gb102, 0, none⟩ (.bool t111)).setCell ⟨gb102, 1, none⟩ (.slice Ao22 t112.length co22)).setCell ⟨gb102, 2, none⟩ (.slice Ao23 t115.length co23)).heap[gb101]? = some (.cells #[.bool t104, .slice Ao16 t105.length co16, .slice Ao17 t108.length co17] 60 (0, 0))) := ⟨zF3 BK101.out NB101_102.out⟩
 have n5_ : Aside0 ((((w20.setCell ⟨gb102, 0, none⟩ (.bool t111)).setCell ⟨gb102, 1, none⟩ (.slice Ao22 t112.length co22)).setCell ⟨gb102, 2, none⟩ (.slice Ao23 t115.length co23)).heap[gb102]? = some (.cells #[.bool t111, .slice Ao22 t112.length co22, .slice Ao23 t115.length co23] 60 (0, 0))) := ⟨zP3 BK102.out⟩
 have n6_ : Aside0 ((((w20.setCell ⟨gb102, 0, none⟩ (.bool t111)).setCell ⟨gb102, 1, none⟩ (.slice Ao22 t112.length co22)).setCell ⟨gb102, 2, none⟩ (.slice Ao23 t115.length co23)).heap[gb103]? = some (.cells #[.bool false, .slice none 0 0, .slice none 0 0] 60 (0, 0))) := ⟨zF3 BK103.out NB103_102.out⟩
 have n7_ : Aside0 (Below w.heap.size w (((w20.setCell ⟨gb102, 0, none⟩ (.bool t111)).setCell ⟨gb102, 1, none⟩ (.slice Ao22 t112.length co22)).setCell ⟨gb102, 2, none⟩ (.slice Ao23 t115.length co23))) := ⟨zB3 HB.out GE101.out GE102.out GE103.out⟩
 (try clear HO107)
 (try clear HO110)
 (try clear HO114)
 (try clear HO117)
 (try clear BK101)
 (try clear BK102)
 (try clear BK103)
 (try clear HB)
 generalize (((w20.setCell ⟨gb102, 0, none⟩ (.bool t111)).setCell ⟨gb102, 1, none⟩ (.slice Ao22 t112.length co22)).setCell ⟨gb102, 2, none⟩ (.slice Ao23 t115.length co23)) = w24 at n0_ n1_ n2_ n3_ n4_ n5_ n6_ n7_ ⊢
 have HO107 := n0_
 have HO110 := n1_
 have HO114 := n2_
 have HO117 := n3_
 have BK101 := n4_
 have BK102 := n5_
 have BK103 := n6_
 have HB := n7_
 clear n0_ n1_ n2_ n3_ n4_ n5_ n6_ n7_
 replace HO107 := Aside0.mk (Kd.R_drew HO107.out)
 replace HO110 := Aside0.mk (Kd.R_drew HO110.out)
 replace HO114 := Aside0.mk (Kd.R_drew HO114.out)
 replace HO117 := Aside0.mk (Kd.R_drew HO117.out)
 replace BK101 := Aside0.mk (blk_drew BK101.out)
 replace BK102 := Aside0.mk (blk_drew BK102.out)
 replace BK103 := Aside0.mk (blk_drew BK103.out)
 replace HB := Aside0.mk (below_drew1 HB.out)
 refine start_ (n := 17) (S := fun w' => w'.cell? ⟨gb101, 0, none⟩ = some (.bool t104) ∧ w'.cell? ⟨gb101, 1, none⟩ = some (.slice Ao16 t105.length co16) ∧ w'.cell? ⟨gb101, 2, none⟩ = some (.slice Ao17 t108.length co17) ∧ w'.cell? ⟨gb102, 0, none⟩ = some (.bool t111) ∧ w'.cell? ⟨gb102, 1, none⟩ = some (.slice Ao22 t112.length co22) ∧ w'.cell? ⟨gb102, 2, none⟩ = some (.slice Ao23 t115.length co23)) (ds := []) #[false, false, false, false, false, false, false, false, false, false, false, false, false, false, false, false, false] (by kernel_rfl) rfl rfl ⟨(blk_cell BK101.out 0).trans rfl, (blk_cell BK101.out 1).trans rfl, (blk_cell BK101.out 2).trans rfl, (blk_cell BK102.out 0).trans rfl, (blk_cell BK102.out 1).trans rfl, (blk_cell BK102.out 2).trans rfl⟩ (fun hHeld => ?_); refine with_tabW r2_Mul.tab3 r2_Mul.bits3 (fun HT_ HW_ => ?_)
 generalize w24.drew = w25 at HO107 HO110 HO114 HO117 BK101 BK102 BK103 HB hHeld ⊢
 refine zp (i := 0) (N := some 9) HT_ ?_
 refine zp (i := 2) (N := some 11) HT_ ?_
 refine zp (i := 5) (N := some 14) HT_ ?_
 refine zp (i := 7) (N := some 16) HT_ ?_
 refine zp (i := 10) (N := some 19) HT_ ?_
 refine zp (i := 12) (N := some 21) HT_ ?_
 refine take_ (i := 1) (N := some 10) (v := ?_) (a' := ?_) #[true, true, true, false, false, true, false, true, false, false, true, false, true, false, false, false, false] rfl rfl (take_ofW HT_.out HW_.out (by kernel_rfl)) (fun _ _ _ h => h) (Or.inl ⟨by rfl, ?_⟩) hHeld ?_ ?_
 rotate_left
 · rintro w' ⟨s0, s1, s2, s3, s4, s5⟩
   go_simp
   with_reducible rfl
 rotate_left
 · simp only [Act.put, List.setIfInBounds_toArray, List.set_cons_zero, List.set_cons_succ, i64_w, i32_w]
   rfl
 refine take_ (i := 3) (N := some 12) (v := ?_) (a' := ?_) #[true, true, true, true, false, true, false, true, false, false, true, false, true, false, false, false, false] rfl rfl (take_ofW HT_.out HW_.out (by kernel_rfl)) (fun _ _ _ h => h) (Or.inl ⟨by rfl, ?_⟩) hHeld ?_ ?_
 rotate_left
 · rintro w' ⟨s0, s1, s2, s3, s4, s5⟩
   go_simp
   with_reducible rfl
 rotate_left
 · simp only [Act.put, List.setIfInBounds_toArray, List.set_cons_zero, List.set_cons_succ, i64_w, i32_w]
   rfl
 refine zp (i := 4) (N := some 13) HT_ ?_
 refine take_ (i := 6) (N := some 15) (v := ?_) (a' := ?_) #[true, true, true, true, true, true, true, true, false, false, true, false, true, false, false, false, false] rfl rfl (take_ofW HT_.out HW_.out (by kernel_rfl)) (fun _ _ _ h => h) (Or.inl ⟨by rfl, ?_⟩) hHeld ?_ ?_
 rotate_left
 · rintro w' ⟨s0, s1, s2, s3, s4, s5⟩
   go_simp
   with_reducible rfl
 rotate_left
 · simp only [Act.put, List.setIfInBounds_toArray, List.set_cons_zero, List.set_cons_succ, i64_w, i32_w]
   rfl
 refine take_ (i := 8) (N := some 17) (v := ?_) (a' := ?_) #[true, true, true, true, true, true, true, true, true, false, true, false, true, false, false, false, false] rfl rfl (take_ofW HT_.out HW_.out (by kernel_rfl)) (fun _ _ _ h => h) (Or.inl ⟨by rfl, ?_⟩) hHeld ?_ ?_
 rotate_left
 · rintro w' ⟨s0, s1, s2, s3, s4, s5⟩
   go_simp
   with_reducible rfl
 rotate_left
 · simp only [Act.put, List.setIfInBounds_toArray, List.set_cons_zero, List.set_cons_succ, i64_w, i32_w]
   rfl
 refine take_ (i := 11) (N := some 20) (v := ?_) (a' := ?_) #[true, true, true, true, true, true, true, true, true, false, true, true, true, false, false, false, false] rfl rfl (take_ofW HT_.out HW_.out (by kernel_rfl)) (fun _ _ _ h => h) (Or.inl ⟨by rfl, ?_⟩) hHeld ?_ ?_
 rotate_left
 · rintro w' ⟨s0, s1, s2, s3, s4, s5⟩
   go_simp
   with_reducible rfl
 rotate_left
 · simp only [Act.put, List.setIfInBounds_toArray, List.set_cons_zero, List.set_cons_succ, i64_w, i32_w]
   rfl
 refine take_ (i := 13) (N := some 22) (v := ?_) (a' := ?_) #[true, true, true, true, true, true, true, true, true, false, true, true, true, true, false, false, false] rfl rfl (take_ofW HT_.out HW_.out (by kernel_rfl)) (fun _ _ _ h => h) (Or.inl ⟨by rfl, ?_⟩) hHeld ?_ ?_
 rotate_left
 · rintro w' ⟨s0, s1, s2, s3, s4, s5⟩
   go_simp
   with_reducible rfl
 rotate_left
 · simp only [Act.put, List.setIfInBounds_toArray, List.set_cons_zero, List.set_cons_succ, i64_w, i32_w]
   rfl
 refine one_ (i := 9) (N := some 18) #[true, true, true, true, true, true, true, true, true, true, true, true, true, true, false, false, false] rfl rfl (one_of HT_.out (by kernel_rfl)) (by decide) (fun K hK => ?_)
 refine goes_ Try.func26 (by kernel_rfl) rfl #[.slice Ao16 t105.length co16, .slice Ao22 t112.length co22] (by rfl) rfl rfl (by (try simp only [List.map_toArray, List.map_cons, List.map_nil]); first | done | rfl | (simp only [List.length_drop, List.length_take]; rfl)) ?_
 with_reducible refine (r1_Mul.calls k _ _ t105 _ _ t112 t118 _ ?side1 ?side2 ?side3 ?side4 A5.out).mono ?_
 (case side1 => exact zC (Kd.R_reads' HO107.out).2.2)
 (case side2 => exact (Kd.R_reads' HO107.out).2.1)
 (case side3 => exact zC (Kd.R_reads' HO114.out).2.2)
 (case side4 => exact (Kd.R_reads' HO114.out).2.1)
 rintro e w26 ⟨v119, rfl, ho0, hb⟩
 refine ⟨_, rfl, ?_⟩
 replace ho0 := yn ho0 HO107
 replace ho0 := yn ho0 HO110
 replace ho0 := yn ho0 HO114
 replace ho0 := yn ho0 HO117
 have HO120 := yRl3 ho0 HB GE101 GE102 GE103
 replace HO107 := yRe HO107 ho0 hb
 replace HO110 := yRe HO110 ho0 hb
 replace HO114 := yRe HO114 ho0 hb
 replace HO117 := yRe HO117 ho0 hb
 replace BK101 := yK BK101 hb
 replace BK102 := yK BK102 hb
 replace BK103 := yK BK103 hb
 replace HB := yS3 HB GE101 GE102 GE103 hb
 (try clear hb)
 (try clear ho0)
 refine hK.out _ _ ⟨(blk_cell BK101.out 0).trans rfl, (blk_cell BK101.out 1).trans rfl, (blk_cell BK101.out 2).trans rfl, (blk_cell BK102.out 0).trans rfl, (blk_cell BK102.out 1).trans rfl, (blk_cell BK102.out 2).trans rfl⟩ (fun hHeld => ?_)
 clear hK K
 refine norm_ (a' := ?_) ?_ ?_
 rotate_left
 · show Act.put _ (some 18) _ = _
   simp only [Act.put, List.setIfInBounds_toArray, List.set_cons_zero, List.set_cons_succ, i64_w, i32_w]
   rfl
 refine one_ (i := 14) (N := some 23) #[true, true, true, true, true, true, true, true, true, true, true, true, true, true, true, false, false] rfl rfl (one_of HT_.out (by kernel_rfl)) (by decide) (fun K hK => ?_)
 refine goes_ Try.func26 (by kernel_rfl) rfl #[.slice Ao17 t108.length co17, .slice Ao23 t115.length co23] (by rfl) rfl rfl (by (try simp only [List.map_toArray, List.map_cons, List.map_nil]); first | done | rfl | (simp only [List.length_drop, List.length_take]; rfl)) ?_
 with_reducible refine (r1_Mul.calls k _ _ t108 _ _ t115 t121 _ ?side1 ?side2 ?side3 ?side4 A6.out).mono ?_
 (case side1 => exact zC (Kd.R_reads' HO110.out).2.2)
 (case side2 => exact (Kd.R_reads' HO110.out).2.1)
 (case side3 => exact zC (Kd.R_reads' HO117.out).2.2)
 (case side4 => exact (Kd.R_reads' HO117.out).2.1)
 rintro e w27 ⟨v122, rfl, ho0, hb⟩
 refine ⟨_, rfl, ?_⟩
 replace ho0 := yn ho0 HO107
 replace ho0 := yn ho0 HO110
 replace ho0 := yn ho0 HO114
 replace ho0 := yn ho0 HO117
 replace ho0 := yn ho0 HO120
 have HO123 := yRl3 ho0 HB GE101 GE102 GE103
 replace HO107 := yRe HO107 ho0 hb
 replace HO110 := yRe HO110 ho0 hb
 replace HO114 := yRe HO114 ho0 hb
 replace HO117 := yRe HO117 ho0 hb
 replace HO120 := yRe HO120 ho0 hb
 replace BK101 := yK BK101 hb
 replace BK102 := yK BK102 hb
 replace BK103 := yK BK103 hb
 replace HB := yS3 HB GE101 GE102 GE103 hb
 (try clear hb)
 (try clear ho0)
 obtain ⟨Ao28, co28, eo28⟩ := Kd.R_slice HO120.out
 (first | subst eo28 | (injection eo28 with f1_ f2_ f3_; have f4_ := f1_.symm; have f5_ := f3_.symm; clear f1_ f2_ f3_; subst f4_; subst f5_))
 obtain ⟨Ao29, co29, eo29⟩ := Kd.R_slice HO123.out
 (first | subst eo29 | (injection eo29 with f1_ f2_ f3_; have f4_ := f1_.symm; have f5_ := f3_.symm; clear f1_ f2_ f3_; subst f4_; subst f5_))
 refine hK.out _ _ ⟨(blk_cell BK101.out 0).trans rfl, (blk_cell BK101.out 1).trans rfl, (blk_cell BK101.out 2).trans rfl, (blk_cell BK102.out 0).trans rfl, (blk_cell BK102.out 1).trans rfl, (blk_cell BK102.out 2).trans rfl⟩ (fun hHeld => ?_)
 clear hK K
 refine norm_ (a' := ?_) ?_ ?_
 rotate_left
 · show Act.put _ (some 23) _ = _
   simp only [Act.put, List.setIfInBounds_toArray, List.set_cons_zero, List.set_cons_succ, i64_w, i32_w]
   rfl
 refine one_ (i := 15) (N := some 24) #[true, true, true, true, true, true, true, true, true, true, true, true, true, true, true, true, false] rfl rfl (one_of HT_.out (by kernel_rfl)) (by decide) (fun K hK => ?_)
 refine goes_ Try.func90 (by kernel_rfl) rfl #[.bool (t104 != t111), .slice Ao28 t118.length co28, .slice Ao29 t121.length co29] (by rfl) rfl rfl (by (try simp only [List.map_toArray, List.map_cons, List.map_nil]); first | done | rfl | (simp only [List.length_drop, List.length_take]; rfl)) ?_
 with_reducible refine (r2_Make.calls k (t104 != t111) _ _ t118 _ _ t121 t124 t125 t128 _ ?side1 ?side2 ?side3 ?side4 A7.out).mono ?_
 (case side1 => exact zC (Kd.R_reads' HO120.out).2.2)
 (case side2 => exact (Kd.R_reads' HO120.out).2.1)
 (case side3 => exact zC (Kd.R_reads' HO123.out).2.2)
 (case side4 => exact (Kd.R_reads' HO123.out).2.1)
 rintro e w30 ⟨v126, v129, rfl, ho0, ho1, hb⟩
 refine ⟨_, rfl, ?_⟩
 replace ho0 := yn ho0 HO107
 replace ho0 := yn ho0 HO110
 replace ho0 := yn ho0 HO114
 replace ho0 := yn ho0 HO117
 replace ho0 := yn ho0 HO120
 replace ho0 := yn ho0 HO123
 have HO127 := yRl3 ho0 HB GE101 GE102 GE103
 replace ho1 := yn ho1 HO107
 replace ho1 := yn ho1 HO110
 replace ho1 := yn ho1 HO114
 replace ho1 := yn ho1 HO117
 replace ho1 := yn ho1 HO120
 replace ho1 := yn ho1 HO123
 have HO130 := yRl3 ho1 HB GE101 GE102 GE103
 replace HO107 := yRt HO107 hb ho0 ho1
 replace HO110 := yRt HO110 hb ho0 ho1
 replace HO114 := yRt HO114 hb ho0 ho1
 replace HO117 := yRt HO117 hb ho0 ho1
 replace HO120 := yRt HO120 hb ho0 ho1
 replace HO123 := yRt HO123 hb ho0 ho1
 replace BK101 := yK BK101 hb
 replace BK102 := yK BK102 hb
 replace BK103 := yK BK103 hb
 replace HB := yS3 HB GE101 GE102 GE103 hb
 (try clear hb)
 (try clear ho0)
 (try clear ho1)
 obtain ⟨Ao32, co32, eo32⟩ := Kd.R_slice HO127.out
 (first | subst eo32 | (injection eo32 with f1_ f2_ f3_; have f4_ := f1_.symm; have f5_ := f3_.symm; clear f1_ f2_ f3_; subst f4_; subst f5_))
 obtain ⟨Ao34, co34, eo34⟩ := Kd.R_slice HO130.out
 (first | subst eo34 | (injection eo34 with f1_ f2_ f3_; have f4_ := f1_.symm; have f5_ := f3_.symm; clear f1_ f2_ f3_; subst f4_; subst f5_))
 refine hK.out _ _ ⟨(blk_cell BK101.out 0).trans rfl, (blk_cell BK101.out 1).trans rfl, (blk_cell BK101.out 2).trans rfl, (blk_cell BK102.out 0).trans rfl, (blk_cell BK102.out 1).trans rfl, (blk_cell BK102.out 2).trans rfl⟩ (fun hHeld => ?_)
 clear hK K
 refine norm_ (a' := ?_) ?_ ?_
 rotate_left
 · show Act.put _ (some 24) _ = _
   simp only [Act.put, List.setIfInBounds_toArray, List.set_cons_zero, List.set_cons_succ, i64_w, i32_w]
   rfl
 refine one_ (i := 16) (N := none) #[true, true, true, true, true, true, true, true, true, true, true, true, true, true, true, true, true] rfl rfl (one_of HT_.out (by kernel_rfl)) (by decide) (fun K hK => ?_)
 have hs31 : w30.cell? ⟨gb103, 0, none⟩ = some (.bool false) := (blk_cell BK103.out 0).trans rfl
 have hfs31 := blk_frozen BK103.out 0
 have hns31_0 := NB101_103.out
 have hns31_1 := NB102_103.out
 have hms31_0 := NB103_101.out
 have hms31_1 := NB103_102.out
 have hs33 : w30.cell? ⟨gb103, 1, none⟩ = some (.slice none 0 0) := (blk_cell BK103.out 1).trans rfl
 have hfs33 := blk_frozen BK103.out 1
 have hns33_0 := NB101_103.out
 have hns33_1 := NB102_103.out
 have hms33_0 := NB103_101.out
 have hms33_1 := NB103_102.out
 have hs35 : w30.cell? ⟨gb103, 2, none⟩ = some (.slice none 0 0) := (blk_cell BK103.out 2).trans rfl
 have hfs35 := blk_frozen BK103.out 2
 have hns35_0 := NB101_103.out
 have hns35_1 := NB102_103.out
 have hms35_0 := NB103_101.out
 have hms35_1 := NB103_102.out
 refine skip_ (w1 := ?_) (by rfl) rfl ?_ ?_
 rotate_left
 · go_simp
   rfl
 refine hK.out _ _ ⟨((cell_far (p := ⟨gb103, _, none⟩) NB101_103.out _).trans (((cell_far (p := ⟨gb103, _, none⟩) NB101_103.out _).trans (((cell_far (p := ⟨gb103, _, none⟩) NB101_103.out _).trans (hHeld.1)))))), ((cell_far (p := ⟨gb103, _, none⟩) NB101_103.out _).trans (((cell_far (p := ⟨gb103, _, none⟩) NB101_103.out _).trans (((cell_far (p := ⟨gb103, _, none⟩) NB101_103.out _).trans (hHeld.2.1)))))), ((cell_far (p := ⟨gb103, _, none⟩) NB101_103.out _).trans (((cell_far (p := ⟨gb103, _, none⟩) NB101_103.out _).trans (((cell_far (p := ⟨gb103, _, none⟩) NB101_103.out _).trans (hHeld.2.2.1)))))), ((cell_far (p := ⟨gb103, _, none⟩) NB102_103.out _).trans (((cell_far (p := ⟨gb103, _, none⟩) NB102_103.out _).trans (((cell_far (p := ⟨gb103, _, none⟩) NB102_103.out _).trans (hHeld.2.2.2.1)))))), ((cell_far (p := ⟨gb103, _, none⟩) NB102_103.out _).trans (((cell_far (p := ⟨gb103, _, none⟩) NB102_103.out _).trans (((cell_far (p := ⟨gb103, _, none⟩) NB102_103.out _).trans (hHeld.2.2.2.2.1)))))), ((cell_far (p := ⟨gb103, _, none⟩) NB102_103.out _).trans (((cell_far (p := ⟨gb103, _, none⟩) NB102_103.out _).trans (((cell_far (p := ⟨gb103, _, none⟩) NB102_103.out _).trans (hHeld.2.2.2.2.2))))))⟩ (fun hHeld => ?_)
 clear hK K
 refine done_ (done_of HT_.out (by kernel_rfl)) ?_
 try go_wp2
 refine bodyPost_ret (results_cell_row rfl _ _ gb103 60 #[.bool t124, .slice Ao32 t125.length co32, .slice Ao34 t128.length co34] (0, 0) _ rfl (zP3 BK103.out) Try.underlying60 rfl (by kernel_rfl)) rfl ?_
 exact ⟨_, _, zE, by (with_reducible repeat (first | apply Kd.R_alloc | apply Kd.R_drewN | apply Kd.R_drew)); exact yf HO127.out BK103.out (fun _ hk => hk.1.1.1.1.1.1.1), by (with_reducible repeat (first | apply Kd.R_alloc | apply Kd.R_drewN | apply Kd.R_drew)); exact yf HO130.out BK103.out (fun _ hk => hk.1.1.1.1.1.1.1), zB3 HB.out GE101.out GE102.out GE103.out⟩
set_option maxHeartbeats 8000000 in
set_option maxRecDepth 100000 in
theorem r1_Same.calls (k : Nat) (A0 : Option Addr) (c0 : Nat) (l0 : List Int) (A1 : Option Addr) (c1 : Nat) (l1 : List Int) (r : Bool) (w : World) (hr0 : Kd.C (Kd.int .u32) w A0 l0.length l0) (hc0 : l0.length ≤ c0) (hr1 : Kd.C (Kd.int .u32) w A1 l1.length l1) (hc1 : l1.length ≤ c1) (h : r1_Same.f k l0 l1 = some r) :
    Calls Try.prog 25 #[.slice A0 l0.length c0, .slice A1 l1.length c1] w fun e w' => e = .returned (.bool r) ∧ Drawn0 w w' := by
 have HR0 := Aside0.mk hr0
 have HC0 := Aside0.mk hc0
 clear hr0 hc0
 have HR1 := Aside0.mk hr1
 have HC1 := Aside0.mk hc1
 clear hr1 hc1
 have H : (if (l0.length : Int) = (l1.length : Int) then (r1_Same.l0 k l0 l1 0) else (some false)) = some r := h
 clear h
 replace H := zi H
 rcases H with ⟨c3, H⟩ | ⟨c3, H⟩
 · have c3b0 := beq_iff_eq.mpr c3
   have c3b1 := bne_eq_false_iff_eq.mpr c3
   have c3b2 : (l0.length == l1.length) = true := by first | simpa using c3 | (simp at c3 ⊢; omega)
   clear c3
   have H' := Aside0.mk H
   clear H
   go_enter Try.func25, Try.ntmps25
   go_wp2
   repeat (go_quiet (fail); try go_wp2)
   go_loopg [5] k (fun kq v5 w' => ∃ (x5_1 : Int), v5 = .int .i64 x5_1 ∧ Aside0 (r1_Same.l0 kq l0 l1 x5_1 = some r) ∧ Aside0 (kq ≤ k) ∧ Drawn0 w w')
   case atStart => exact ⟨(0), zF, H', ⟨Nat.le_refl _⟩, by repeat (first | exact Drawn0.refl _ | apply Drawn0.step)⟩
   clear H'
   (try clear c3);(try clear c3b0);(try clear c3b1);(try clear c3b2)
   obtain ⟨x5_1, rfl, HA, HK1, ⟨m1, rfl⟩⟩ := hrel
   cases gk with | zero => exact absurd HA.out (by simp [r1_Same.l0]) | succ k1 => ?_
   have H := HA.out
   clear HA
   simp only [r1_Same.l0] at H
   replace H := zid H
   rcases H with ⟨c4b0, H⟩ | ⟨c4b0, H⟩
   · replace H := zgd H
     obtain ⟨c5b0, H⟩ := H
     replace H := zgd H
     obtain ⟨c6b0, H⟩ := H
     replace H := zi H
     rcases H with ⟨c7, H⟩ | ⟨c7, H⟩
     · have c7b0 := beq_iff_eq.mpr c7
       have c7b1 := bne_eq_false_iff_eq.mpr c7
       clear c7
       have H' := Aside0.mk H
       clear H
       have p101 : 0 ≤ (x5_1 : Int) := zd
       have q101 : x5_1 < (l0.length : Int) := zd
       obtain ⟨ad101, e101, hx101_0⟩ := Kd.at_int HR0.out x5_1 p101 q101
       cases e101
       replace p101 := eq_true p101
       replace q101 := eq_true q101
       have p102 : 0 ≤ (x5_1 : Int) := zd
       have q102 : x5_1 < (l1.length : Int) := zd
       obtain ⟨ad102, e102, hx102_0⟩ := Kd.at_int HR1.out x5_1 p102 q102
       cases e102
       replace p102 := eq_true p102
       replace q102 := eq_true q102
       go_wp2
       repeat (go_quiet (fail); try go_wp2)
       go_roundg k1
       case measure => have := HK1.out; omega
       case rel => exact ⟨(wrap64 (x5_1 + 1)), zF, H', ⟨zo1 HK1⟩, by repeat (first | exact Drawn0.refl _ | apply Drawn0.step)⟩
     have c7b0 := beq_eq_false_iff_ne.mpr c7
     have c7b1 := bne_iff_ne.mpr c7
     obtain rfl := Option.some.inj H
     have p101 : 0 ≤ (x5_1 : Int) := zd
     have q101 : x5_1 < (l0.length : Int) := zd
     obtain ⟨ad101, e101, hx101_0⟩ := Kd.at_int HR0.out x5_1 p101 q101
     cases e101
     replace p101 := eq_true p101
     replace q101 := eq_true q101
     have p102 : 0 ≤ (x5_1 : Int) := zd
     have q102 : x5_1 < (l1.length : Int) := zd
     obtain ⟨ad102, e102, hx102_0⟩ := Kd.at_int HR1.out x5_1 p102 q102
     cases e102
     replace p102 := eq_true p102
     replace q102 := eq_true q102
     go_wp2
     repeat (go_quiet (fail); try go_wp2)
     go_ret
     exact ⟨zF, by repeat (first | exact Drawn0.refl _ | apply Drawn0.step)⟩
   obtain rfl := Option.some.inj H
   go_wp2
   repeat (go_quiet (fail); try go_wp2)
   go_ret
   exact ⟨zF, by repeat (first | exact Drawn0.refl _ | apply Drawn0.step)⟩
 have c3b0 := beq_eq_false_iff_ne.mpr c3
 have c3b1 := bne_iff_ne.mpr c3
 have c3b2 : (l0.length == l1.length) = false := by first | simpa using c3 | (simp at c3 ⊢; omega)
 obtain rfl := Option.some.inj H
 go_enter Try.func25, Try.ntmps25
 go_wp2
 repeat (go_quiet (fail); try go_wp2)
 go_ret
 exact ⟨zF, by repeat (first | exact Drawn0.refl _ | apply Drawn0.step)⟩
set_option maxHeartbeats 8000000 in
set_option maxRecDepth 100000 in
theorem r2_Same.calls (k : Nat) (a0_0 : Bool) (A0_1 : Option Addr) (c0_1 : Nat) (l0_1 : List Int) (A0_2 : Option Addr) (c0_2 : Nat) (l0_2 : List Int) (a1_0 : Bool) (A1_1 : Option Addr) (c1_1 : Nat) (l1_1 : List Int) (A1_2 : Option Addr) (c1_2 : Nat) (l1_2 : List Int) (r : Bool) (w : World) (hr0_1 : Kd.C (Kd.int .u32) w A0_1 l0_1.length l0_1) (hc0_1 : l0_1.length ≤ c0_1) (hr0_2 : Kd.C (Kd.int .u32) w A0_2 l0_2.length l0_2) (hc0_2 : l0_2.length ≤ c0_2) (hr1_1 : Kd.C (Kd.int .u32) w A1_1 l1_1.length l1_1) (hc1_1 : l1_1.length ≤ c1_1) (hr1_2 : Kd.C (Kd.int .u32) w A1_2 l1_2.length l1_2) (hc1_2 : l1_2.length ≤ c1_2) (h : r2_Same.f k a0_0 l0_1 l0_2 a1_0 l1_1 l1_2 = some r) :
    Calls Try.prog 45 #[.agg #[.bool a0_0, .slice A0_1 l0_1.length c0_1, .slice A0_2 l0_2.length c0_2], .agg #[.bool a1_0, .slice A1_1 l1_1.length c1_1, .slice A1_2 l1_2.length c1_2]] w fun e w' => e = .returned (.bool r) ∧ Below w.heap.size w w' := by
 have hu60 := Try.underlying60
 have HR0_1 := Aside0.mk hr0_1
 have HC0_1 := Aside0.mk hc0_1
 clear hr0_1 hc0_1
 have HR0_2 := Aside0.mk hr0_2
 have HC0_2 := Aside0.mk hc0_2
 clear hr0_2 hc0_2
 have HR1_1 := Aside0.mk hr1_1
 have HC1_1 := Aside0.mk hc1_1
 clear hr1_1 hc1_1
 have HR1_2 := Aside0.mk hr1_2
 have HC1_2 := Aside0.mk hc1_2
 clear hr1_2 hc1_2
 have HB := Aside0.mk (Below.refl w.heap.size w)
 have H : (if (a0_0 == a1_0) = true then ((r1_Same.f k l0_1 l1_1).bind fun t103 => (if t103 = true then ((r1_Same.f k l0_2 l1_2).bind fun t104 => (some t104)) else (some false))) else (some false)) = some r := h
 clear h
 replace H := zi H
 rcases H with ⟨c3, H⟩ | ⟨c3, H⟩
 · have c3b0 : (a0_0 == a1_0) = true := c3
   (try (have c3b1 : decide (a0_0 = a1_0) = true := by simpa using c3))
   (try (have c3b2 : (a0_0 == a1_0) = true := by simpa using c3))
   clear c3
   replace H := zb H
   obtain ⟨t103, A4, H⟩ := H
   by_cases c5 : t103 = true
   · subst c5
     rw [if_pos rfl] at H
     replace H := zb H
     obtain ⟨t104, A6, H⟩ := H
     obtain rfl := Option.some.inj H
     go_enter Try.func45, Try.ntmps45
     go_wp2_with (first | ((with_reducible refine gate_dst (N := 2) rfl ?_); refine box_event ?hg (N := 2) ?hd (cs := #[.bool a0_0, .slice A0_1 l0_1.length c0_1, .slice A0_2 l0_2.length c0_2]) (t := 60) ?hr ?_; (case hd => rfl); (case hg => rfl); (case hr => first | (go_simp; done) | (go_simp; rfl)); intro gb101 hg w7 hbox hb; have BK101 := Aside0.mk (hbox); have GW101 := yg hg HB; have GE101 := yg hg HB; replace HB := yS HB hb; clear hb hbox hg) | ((with_reducible refine gate_dst (N := 3) rfl ?_); refine box_event ?hg (N := 3) ?hd (cs := #[.bool a1_0, .slice A1_1 l1_1.length c1_1, .slice A1_2 l1_2.length c1_2]) (t := 60) ?hr ?_; (case hd => rfl); (case hg => rfl); (case hr => first | (go_simp; done) | (go_simp; rfl)); intro gb102 hg w8 hbox hb; have BK102 := Aside0.mk (hbox); have GW102 := yg1 hg HB GE101; have GE102 := yg1 hg HB GE101; replace HB := yS1 HB GE101 hb; have NB101_102 := ynl hg BK101; have NB102_101 := yng hg BK101; replace BK101 := yK BK101 hb; clear hb hbox hg; have hnb9 := NB101_102.out; have hnc9 := NB102_101.out; obtain ⟨hcz10_0, hcz10_1, hcz10_2, hfz10_0, hfz10_1, hfz10_2⟩ := zz3 BK101; obtain ⟨hcz11_0, hcz11_1, hcz11_2, hfz11_0, hfz11_1, hfz11_2⟩ := zz3 BK102) | (go_at_call 25; (with_reducible refine (r1_Same.calls k _ _ l0_1 _ _ l1_1 true _ ?side1 ?side2 ?side3 ?side4 A4.out).mono ?_); (case side1 => exact zC (Kd.C_below HR0_1.out HB.out)); (case side2 => exact HC0_1.out); (case side3 => exact zC (Kd.C_below HR1_1.out HB.out)); (case side4 => exact HC1_1.out); rintro e w' ⟨rfl, ⟨nd, rfl⟩⟩) | (go_at_call 25; (with_reducible refine (r1_Same.calls k _ _ l0_2 _ _ l1_2 t104 _ ?side1 ?side2 ?side3 ?side4 A6.out).mono ?_); (case side1 => exact zC (Kd.C_below HR0_2.out (zB2 HB.out GE101.out GE102.out))); (case side2 => exact HC0_2.out); (case side3 => exact zC (Kd.C_below HR1_2.out (zB2 HB.out GE101.out GE102.out))); (case side4 => exact HC1_2.out); rintro e w' ⟨rfl, ⟨nd, rfl⟩⟩))
     go_ret
     exact ⟨zE, zB2 HB.out GE101.out GE102.out⟩
   replace c5 := Bool.eq_false_iff.mpr c5
   subst c5
   rw [if_neg Bool.false_ne_true] at H
   obtain rfl := Option.some.inj H
   go_enter Try.func45, Try.ntmps45
   go_wp2_with (first | ((with_reducible refine gate_dst (N := 2) rfl ?_); refine box_event ?hg (N := 2) ?hd (cs := #[.bool a0_0, .slice A0_1 l0_1.length c0_1, .slice A0_2 l0_2.length c0_2]) (t := 60) ?hr ?_; (case hd => rfl); (case hg => rfl); (case hr => first | (go_simp; done) | (go_simp; rfl)); intro gb101 hg w12 hbox hb; have BK101 := Aside0.mk (hbox); have GW101 := yg hg HB; have GE101 := yg hg HB; replace HB := yS HB hb; clear hb hbox hg) | ((with_reducible refine gate_dst (N := 3) rfl ?_); refine box_event ?hg (N := 3) ?hd (cs := #[.bool a1_0, .slice A1_1 l1_1.length c1_1, .slice A1_2 l1_2.length c1_2]) (t := 60) ?hr ?_; (case hd => rfl); (case hg => rfl); (case hr => first | (go_simp; done) | (go_simp; rfl)); intro gb102 hg w13 hbox hb; have BK102 := Aside0.mk (hbox); have GW102 := yg1 hg HB GE101; have GE102 := yg1 hg HB GE101; replace HB := yS1 HB GE101 hb; have NB101_102 := ynl hg BK101; have NB102_101 := yng hg BK101; replace BK101 := yK BK101 hb; clear hb hbox hg; have hnb14 := NB101_102.out; have hnc14 := NB102_101.out; obtain ⟨hcz15_0, hcz15_1, hcz15_2, hfz15_0, hfz15_1, hfz15_2⟩ := zz3 BK101; obtain ⟨hcz16_0, hcz16_1, hcz16_2, hfz16_0, hfz16_1, hfz16_2⟩ := zz3 BK102) | (go_at_call 25; (with_reducible refine (r1_Same.calls k _ _ l0_1 _ _ l1_1 false _ ?side1 ?side2 ?side3 ?side4 A4.out).mono ?_); (case side1 => exact zC (Kd.C_below HR0_1.out HB.out)); (case side2 => exact HC0_1.out); (case side3 => exact zC (Kd.C_below HR1_1.out HB.out)); (case side4 => exact HC1_1.out); rintro e w' ⟨rfl, ⟨nd, rfl⟩⟩))
   go_ret
   exact ⟨zE, zB2 HB.out GE101.out GE102.out⟩
 have c3b0 : (a0_0 == a1_0) = false := by simpa using c3
 (try (have c3b1 : decide (a0_0 = a1_0) = false := by simpa using c3))
 (try (have c3b2 : (a0_0 == a1_0) = false := by simpa using c3))
 (try (have c3b3 : ¬ (a0_0 = a1_0) := by simpa using c3))
 clear c3
 obtain rfl := Option.some.inj H
 go_enter Try.func45, Try.ntmps45
 go_wp2_with (first | ((with_reducible refine gate_dst (N := 2) rfl ?_); refine box_event ?hg (N := 2) ?hd (cs := #[.bool a0_0, .slice A0_1 l0_1.length c0_1, .slice A0_2 l0_2.length c0_2]) (t := 60) ?hr ?_; (case hd => rfl); (case hg => rfl); (case hr => first | (go_simp; done) | (go_simp; rfl)); intro gb101 hg w17 hbox hb; have BK101 := Aside0.mk (hbox); have GW101 := yg hg HB; have GE101 := yg hg HB; replace HB := yS HB hb; clear hb hbox hg) | ((with_reducible refine gate_dst (N := 3) rfl ?_); refine box_event ?hg (N := 3) ?hd (cs := #[.bool a1_0, .slice A1_1 l1_1.length c1_1, .slice A1_2 l1_2.length c1_2]) (t := 60) ?hr ?_; (case hd => rfl); (case hg => rfl); (case hr => first | (go_simp; done) | (go_simp; rfl)); intro gb102 hg w18 hbox hb; have BK102 := Aside0.mk (hbox); have GW102 := yg1 hg HB GE101; have GE102 := yg1 hg HB GE101; replace HB := yS1 HB GE101 hb; have NB101_102 := ynl hg BK101; have NB102_101 := yng hg BK101; replace BK101 := yK BK101 hb; clear hb hbox hg; have hnb19 := NB101_102.out; have hnc19 := NB102_101.out; obtain ⟨hcz20_0, hcz20_1, hcz20_2, hfz20_0, hfz20_1, hfz20_2⟩ := zz3 BK101; obtain ⟨hcz21_0, hcz21_1, hcz21_2, hfz21_0, hfz21_1, hfz21_2⟩ := zz3 BK102))
 go_ret
 exact ⟨zE, zB2 HB.out GE101.out GE102.out⟩
set_option maxHeartbeats 8000000 in
set_option maxRecDepth 100000 in
theorem r1_Of.calls (k : Nat) (a0 : Int) (r : List Int) (w : World) (h : r1_Of.f k a0 = some r) :
    Calls Try.prog 23 #[.int .u64 a0] w fun e w' => ∃ v0_ : Value, e = .returned (v0_) ∧ Kd.R (Kd.int .u32) 97 w' w.heap.size (fun _ => True) v0_ r ∧ Below w.heap.size w w' := by
 have HB := Aside0.mk (Below.refl w.heap.size w)
 have H : ((r1_Trim.f k (([(Int.tmod a0 4294967296) % 4294967296, (IntKind.u64.wrap (Int.tdiv a0 4294967296)) % 4294967296] : List Int))).bind fun t104 => (some t104)) = some r := h
 clear h
 obtain ⟨y101, hy101⟩ : ∃ y_ : List Int, y_ = (([(Int.tmod a0 4294967296) % 4294967296, (IntKind.u64.wrap (Int.tdiv a0 4294967296)) % 4294967296] : List Int)) := ⟨_, rfl⟩
 replace H : ((r1_Trim.f k y101).bind fun t104 => (some t104)) = some r := zY hy101 H
 have Ny101 := Aside0.mk hy101
 clear hy101
 replace H := zb H
 obtain ⟨t104, A2, H⟩ := H
 obtain rfl := Option.some.inj H
 go_enter Try.func23, Try.ntmps23
 go_wp2_with (first | ((with_reducible refine gate_dst (N := 9) rfl ?_); refine Kd.R_lit (Kd.int .u32) _ 97 ?hg (N := 9) ?hd (xs := ([(Int.tmod a0 4294967296) % 4294967296, (IntKind.u64.wrap (Int.tdiv a0 4294967296)) % 4294967296] : List Int)) (inner := [.int .u32 ((Int.tmod a0 4294967296) % 4294967296), .int .u32 ((IntKind.u64.wrap (Int.tdiv a0 4294967296)) % 4294967296)]) (ok := fun _ => True) (okp := fun _ => True) ?hr ?hp (fun _ hk => hk) trivial (Below.refl _ _) (Nat.le_refl _) (by simp) ?_; (case hd => rfl); (case hg => rfl); (case hr => first | (go_simp; done) | (go_simp; rfl)); (case hp => exact (Reps.one (show Kd.M (Kd.int .u32) _ _ _ ((Int.tmod a0 4294967296) % 4294967296) [.int .u32 ((Int.tmod a0 4294967296) % 4294967296)] from rfl) (Reps.one (show Kd.M (Kd.int .u32) _ _ _ ((IntKind.u64.wrap (Int.tdiv a0 4294967296)) % 4294967296) [.int .u32 ((IntKind.u64.wrap (Int.tdiv a0 4294967296)) % 4294967296)] from rfl) (Reps.none _ _)))); intro v102 w3 ho4 hb hg_ hnew_; clear hg_ hnew_; (first | rw [← Ny101.out] at ho4 | (simp only [Int.reduceToNat] at ho4; rw [← Ny101.out] at ho4)); have HO103 := yRl ho4 HB; replace HB := yS HB hb; clear hb ho4; obtain ⟨Ao5, co5, rfl⟩ := Kd.R_slice HO103.out) | ((with_reducible refine gC 75 ?_); refine zG (some 10) Try.func75 #[.slice Ao5 y101.length co5] ?_; (with_reducible refine (r1_Trim.calls k _ _ y101 t104 _ ?side1 ?side2 A2.out).mono ?_); (case side1 => exact zC (Kd.R_reads' HO103.out).2.2); (case side2 => exact (Kd.R_reads' HO103.out).2.1); rintro e w6 ⟨v105, rfl, ho0, hb⟩; refine ⟨_, rfl, ?_⟩; replace ho0 := yn ho0 HO103; have HO106 := yRl ho0 HB; replace HO103 := yRe HO103 ho0 hb; replace HB := yS HB hb; (try clear hb ho0)))
 go_ret
 exact ⟨_, zE, by (with_reducible repeat (first | apply Kd.R_alloc | apply Kd.R_drewN | apply Kd.R_drew)); exact Kd.R_mono HO106.out (fun _ hk => trivial), zB HB.out⟩
set_option maxHeartbeats 8000000 in
set_option maxRecDepth 100000 in
theorem r1_Pow.calls (k : Nat) (A0 : Option Addr) (c0 : Nat) (l0 : List Int) (a1 : Int) (r1 : List Int) (r2 : Int) (w : World) (hr0 : Kd.C (Kd.int .u32) w A0 l0.length l0) (hc0 : l0.length ≤ c0) (h : r1_Pow.f k l0 a1 = some (r1, r2)) :
    Calls Try.prog 22 #[.slice A0 l0.length c0, .int .i64 a1] w fun e w' => ∃ v0_ : Value, e = .returned (.tuple #[v0_, .int .i64 r2]) ∧ Kd.R (Kd.int .u32) 97 w' w.heap.size (fun _ => True) v0_ r1 ∧ Below w.heap.size w w' := by
 have HR0 := Aside0.mk hr0
 have HC0 := Aside0.mk hc0
 clear hr0 hc0
 have HB := Aside0.mk (Below.refl w.heap.size w)
 have H : (if a1 < 0 then (some (([] : List Int), 6)) else ((r1_Trim.f k l0).bind fun t101 => (if a1 = 0 then (some ((([1] : List Int)), 0)) else ((r1_Bits.f k t101).bind fun t107 => (if t107 ≤ 1 then (some (t101, 0)) else (if a1 > 131072 then (some (([] : List Int), 8)) else (r1_Pow.l0 k t101 a1 (([1] : List Int)) 262144))))))) = some (r1, r2) := h
 clear h
 replace H := zid H
 rcases H with ⟨c3b0, H⟩ | ⟨c3b0, H⟩
 · simp only [Option.some.injEq, Prod.mk.injEq] at H
   obtain ⟨rfl, rfl⟩ := H
   go_enter Try.func22, Try.ntmps22
   go_wp2
   go_ret2
   exact ⟨_, zE, z0, zB HB.out⟩
 replace H := zb H
 obtain ⟨t101, A4, H⟩ := H
 replace H := zi H
 rcases H with ⟨c5, H⟩ | ⟨c5, H⟩
 · have c5b0 := beq_iff_eq.mpr c5
   have c5b1 := bne_eq_false_iff_eq.mpr c5
   clear c5
   obtain ⟨y104, hy104⟩ : ∃ y_ : List Int, y_ = (([1] : List Int)) := ⟨_, rfl⟩
   replace H : (some (y104, 0)) = some (r1, r2) := zY hy104 H
   have Ny104 := Aside0.mk hy104
   clear hy104
   simp only [Option.some.injEq, Prod.mk.injEq] at H
   obtain ⟨rfl, rfl⟩ := H
   go_enter Try.func22, Try.ntmps22
   go_wp2_with (first | ((with_reducible refine gC 75 ?_); refine zG (some 11) Try.func75 #[.slice A0 l0.length c0] ?_; (with_reducible refine (r1_Trim.calls k _ _ l0 t101 _ ?side1 ?side2 A4.out).mono ?_); (case side1 => exact zC HR0.out); (case side2 => exact HC0.out); rintro e w6 ⟨v102, rfl, ho0, hb⟩; refine ⟨_, rfl, ?_⟩; have HO103 := yRl ho0 HB; replace HB := yS HB hb; (try clear hb ho0)) | ((with_reducible refine gate_dst (N := 14) rfl ?_); refine Kd.R_lit (Kd.int .u32) _ 97 ?hg (N := 14) ?hd (xs := ([1] : List Int)) (inner := [.int .u32 1]) (ok := fun _ => True) (okp := fun _ => True) ?hr ?hp (fun _ hk => hk) trivial (Below.refl _ _) (Nat.le_refl _) (by simp) ?_; (case hd => rfl); (case hg => rfl); (case hr => first | (go_simp; done) | (go_simp; rfl)); (case hp => exact (Reps.one (show Kd.M (Kd.int .u32) _ _ _ 1 [.int .u32 1] from rfl) (Reps.none _ _))); intro v105 w7 ho8 hb hg_ hnew_; clear hg_ hnew_; (first | rw [← Ny104.out] at ho8 | (simp only [Int.reduceToNat] at ho8; rw [← Ny104.out] at ho8)); replace ho8 := yn ho8 HO103; have HO106 := yRl ho8 HB; replace HO103 := yRe HO103 ho8 hb; replace HB := yS HB hb; clear hb ho8))
   go_ret2
   exact ⟨_, zE, by (with_reducible repeat (first | apply Kd.R_alloc | apply Kd.R_drewN | apply Kd.R_drew)); exact Kd.R_mono HO106.out (fun _ hk => trivial), zB HB.out⟩
 have c5b0 := beq_eq_false_iff_ne.mpr c5
 have c5b1 := bne_iff_ne.mpr c5
 replace H := zb H
 obtain ⟨t107, A9, H⟩ := H
 replace H := zid H
 rcases H with ⟨c10b0, H⟩ | ⟨c10b0, H⟩
 · simp only [Option.some.injEq, Prod.mk.injEq] at H
   obtain ⟨rfl, rfl⟩ := H
   go_enter Try.func22, Try.ntmps22
   go_wp2_with (first | ((with_reducible refine gC 75 ?_); refine zG (some 11) Try.func75 #[.slice A0 l0.length c0] ?_; (with_reducible refine (r1_Trim.calls k _ _ l0 t101 _ ?side1 ?side2 A4.out).mono ?_); (case side1 => exact zC HR0.out); (case side2 => exact HC0.out); rintro e w11 ⟨v102, rfl, ho0, hb⟩; refine ⟨_, rfl, ?_⟩; have HO103 := yRl ho0 HB; replace HB := yS HB hb; (try clear hb ho0); obtain ⟨Ao12, co12, rfl⟩ := Kd.R_slice HO103.out) | ((with_reducible refine gC 76 ?_); refine zG (some 16) Try.func76 #[.slice Ao12 t101.length co12] ?_; (with_reducible refine (r1_Bits.calls k _ _ t101 t107 _ ?side1 ?side2 A9.out).mono ?_); (case side1 => exact zC (Kd.R_reads' HO103.out).2.2); (case side2 => exact (Kd.R_reads' HO103.out).2.1); rintro e w13 ⟨rfl, hb⟩; refine ⟨_, rfl, ?_⟩; replace HO103 := yRb HO103 hb; replace HB := yS HB hb; (try clear hb); (try clear hb2); (try clear hk); (try clear hi)))
   go_ret2
   exact ⟨_, zE, zR HO103.out, zB HB.out⟩
 replace H := zi H
 rcases H with ⟨c14, H⟩ | ⟨c14, H⟩
 · have c14b0 : decide (131072 < a1) = true := decide_eq_true c14
   clear c14
   simp only [Option.some.injEq, Prod.mk.injEq] at H
   obtain ⟨rfl, rfl⟩ := H
   go_enter Try.func22, Try.ntmps22
   go_wp2_with (first | ((with_reducible refine gC 75 ?_); refine zG (some 11) Try.func75 #[.slice A0 l0.length c0] ?_; (with_reducible refine (r1_Trim.calls k _ _ l0 t101 _ ?side1 ?side2 A4.out).mono ?_); (case side1 => exact zC HR0.out); (case side2 => exact HC0.out); rintro e w15 ⟨v102, rfl, ho0, hb⟩; refine ⟨_, rfl, ?_⟩; have HO103 := yRl ho0 HB; replace HB := yS HB hb; (try clear hb ho0); obtain ⟨Ao16, co16, rfl⟩ := Kd.R_slice HO103.out) | ((with_reducible refine gC 76 ?_); refine zG (some 16) Try.func76 #[.slice Ao16 t101.length co16] ?_; (with_reducible refine (r1_Bits.calls k _ _ t101 t107 _ ?side1 ?side2 A9.out).mono ?_); (case side1 => exact zC (Kd.R_reads' HO103.out).2.2); (case side2 => exact (Kd.R_reads' HO103.out).2.1); rintro e w17 ⟨rfl, hb⟩; refine ⟨_, rfl, ?_⟩; replace HO103 := yRb HO103 hb; replace HB := yS HB hb; (try clear hb); (try clear hb2); (try clear hk); (try clear hi)))
   go_ret2
   exact ⟨_, zE, z0, zB HB.out⟩
 have c14b0 : decide (131072 < a1) = false := decide_eq_false c14
 clear c14
 obtain ⟨y108, hy108⟩ : ∃ y_ : List Int, y_ = (([1] : List Int)) := ⟨_, rfl⟩
 replace H : (r1_Pow.l0 k t101 a1 y108 262144) = some (r1, r2) := zY hy108 H
 have Ny108 := Aside0.mk hy108
 clear hy108
 have H' := Aside0.mk H
 clear H
 go_enter Try.func22, Try.ntmps22
 go_wp2_with (first | ((with_reducible refine gC 75 ?_); refine zG (some 11) Try.func75 #[.slice A0 l0.length c0] ?_; (with_reducible refine (r1_Trim.calls k _ _ l0 t101 _ ?side1 ?side2 A4.out).mono ?_); (case side1 => exact zC HR0.out); (case side2 => exact HC0.out); rintro e w18 ⟨v102, rfl, ho0, hb⟩; refine ⟨_, rfl, ?_⟩; have HO103 := yRl ho0 HB; replace HB := yS HB hb; (try clear hb ho0); obtain ⟨Ao19, co19, rfl⟩ := Kd.R_slice HO103.out) | ((with_reducible refine gC 76 ?_); refine zG (some 16) Try.func76 #[.slice Ao19 t101.length co19] ?_; (with_reducible refine (r1_Bits.calls k _ _ t101 t107 _ ?side1 ?side2 A9.out).mono ?_); (case side1 => exact zC (Kd.R_reads' HO103.out).2.2); (case side2 => exact (Kd.R_reads' HO103.out).2.1); rintro e w20 ⟨rfl, hb⟩; refine ⟨_, rfl, ?_⟩; replace HO103 := yRb HO103 hb; replace HB := yS HB hb; (try clear hb); (try clear hb2); (try clear hk); (try clear hi)) | ((with_reducible refine gate_dst (N := 21) rfl ?_); refine Kd.R_lit (Kd.int .u32) _ 97 ?hg (N := 21) ?hd (xs := ([1] : List Int)) (inner := [.int .u32 1]) (ok := fun _ => True) (okp := fun _ => True) ?hr ?hp (fun _ hk => hk) trivial (Below.refl _ _) (Nat.le_refl _) (by simp) ?_; (case hd => rfl); (case hg => rfl); (case hr => first | (go_simp; done) | (go_simp; rfl)); (case hp => exact (Reps.one (show Kd.M (Kd.int .u32) _ _ _ 1 [.int .u32 1] from rfl) (Reps.none _ _))); intro v109 w21 ho22 hb hg_ hnew_; clear hg_ hnew_; (first | rw [← Ny108.out] at ho22 | (simp only [Int.reduceToNat] at ho22; rw [← Ny108.out] at ho22)); replace ho22 := yn ho22 HO103; have HO110 := yRl ho22 HB; replace HO103 := yRe HO103 ho22 hb; replace HB := yS HB hb; clear hb ho22))
 go_loopg [6, 7] k (fun kq v6 v7 w' => ∃ (x6_1 : List Int) (x7_1 : Int), v7 = .int .i64 x7_1 ∧ Aside0 (r1_Pow.l0 kq t101 a1 x6_1 x7_1 = some (r1, r2)) ∧ Aside0 (kq ≤ k) ∧ Aside0 (Kd.R (Kd.int .u32) 97 w' w.heap.size (fun k_ => some k_ ≠ (v6 : Value).ownBlock) (.slice Ao19 t101.length co19) t101) ∧ Aside0 (Kd.R (Kd.int .u32) 97 w' w.heap.size (fun k_ => some k_ ≠ ((.slice Ao19 t101.length co19) : Value).ownBlock) v6 x6_1) ∧ Aside0 (Below w.heap.size w w'))
 case atStart => exact ⟨(y108), (262144), zF, H', ⟨Nat.le_refl _⟩, ⟨by (with_reducible repeat (first | apply Kd.R_alloc | apply Kd.R_drewN | apply Kd.R_drew)); exact Kd.R_mono HO103.out (fun _ hk => hk.2)⟩, ⟨by (with_reducible repeat (first | apply Kd.R_alloc | apply Kd.R_drewN | apply Kd.R_drew)); exact Kd.R_mono HO110.out (fun _ hk => hk.2)⟩, ⟨zB HB.out⟩⟩
 clear H'
 (try clear c3b0);(try clear c5);(try clear c5b0);(try clear c5b1);(try clear c10b0);(try clear c14);(try clear c14b0)
 obtain ⟨x6_1, x7_1, rfl, HA, HK1, HO_0, HO_6, HB⟩ := hrel
 cases gk with | zero => exact absurd HA.out (by simp [r1_Pow.l0]) | succ k1 => ?_
 have H := HA.out
 clear HA
 simp only [r1_Pow.l0] at H
 replace H := zi H
 rcases H with ⟨c23, H⟩ | ⟨c23, H⟩
 · have c23b0 : decide (0 < x7_1) = true := decide_eq_true c23
   clear c23
   replace H := zb H
   obtain ⟨t111, A24, H⟩ := H
   replace H := zh H
   obtain ⟨c25, H⟩ := H
   have c25b0 := beq_eq_false_iff_ne.mpr c25
   have c25b1 := bne_iff_ne.mpr c25
   replace H := zi H
   rcases H with ⟨c26, H⟩ | ⟨c26, H⟩
   · have c26b0 := beq_iff_eq.mpr c26
     have c26b1 := bne_eq_false_iff_eq.mpr c26
     clear c26
     replace H := zb H
     obtain ⟨t114, A27, H⟩ := H
     replace H := zi H
     rcases H with ⟨c28, H⟩ | ⟨c28, H⟩
     · have c28b0 : decide (4096 < (t114.length : Int)) = true := decide_eq_true c28
       have c28b1 : decide (4096 < t114.length) = true := decide_eq_true (by omega)
       clear c28
       simp only [Option.some.injEq, Prod.mk.injEq] at H
       obtain ⟨rfl, rfl⟩ := H
       obtain ⟨Ao29, co29, rfl⟩ := Kd.R_slice HO_6.out
       go_wp2_with (first | ((with_reducible refine gC 26 ?_); refine zG (some 28) Try.func26 #[.slice Ao29 x6_1.length co29, .slice Ao29 x6_1.length co29] ?_; (with_reducible refine (r1_Mul.calls k1 _ _ x6_1 _ _ x6_1 t111 _ ?side1 ?side2 ?side3 ?side4 A24.out).mono ?_); (case side1 => exact zC (Kd.R_reads' HO_6.out).2.2); (case side2 => exact (Kd.R_reads' HO_6.out).2.1); (case side3 => exact zC (Kd.R_reads' HO_6.out).2.2); (case side4 => exact (Kd.R_reads' HO_6.out).2.1); rintro e w30 ⟨v112, rfl, ho0, hb⟩; refine ⟨_, rfl, ?_⟩; replace ho0 := yn ho0 HO_0; replace ho0 := yn ho0 HO_6; have HO113 := yRl ho0 HB; replace HO_0 := yRe HO_0 ho0 hb; replace HO_6 := yRe HO_6 ho0 hb; replace HB := yS HB hb; (try clear hb ho0); obtain ⟨Ao31, co31, rfl⟩ := Kd.R_slice HO113.out) | ((with_reducible refine gC 26 ?_); refine zG (some 36) Try.func26 #[.slice Ao31 t111.length co31, .slice Ao19 t101.length co19] ?_; (with_reducible refine (r1_Mul.calls k1 _ _ t111 _ _ t101 t114 _ ?side1 ?side2 ?side3 ?side4 A27.out).mono ?_); (case side1 => exact zC (Kd.R_reads' HO113.out).2.2); (case side2 => exact (Kd.R_reads' HO113.out).2.1); (case side3 => exact zC (Kd.R_reads' HO_0.out).2.2); (case side4 => exact (Kd.R_reads' HO_0.out).2.1); rintro e w32 ⟨v115, rfl, ho0, hb⟩; refine ⟨_, rfl, ?_⟩; replace ho0 := yn ho0 HO_0; replace ho0 := yn ho0 HO_6; replace ho0 := yn ho0 HO113; have HO116 := yRl ho0 HB; replace HO_0 := yRe HO_0 ho0 hb; replace HO_6 := yRe HO_6 ho0 hb; replace HO113 := yRe HO113 ho0 hb; replace HB := yS HB hb; (try clear hb ho0); obtain ⟨Ao33, co33, rfl⟩ := Kd.R_slice HO116.out))
       go_ret2
       exact ⟨_, zE, z0, zB HB.out⟩
     have c28b0 : decide (4096 < (t114.length : Int)) = false := decide_eq_false c28
     have c28b1 : decide (4096 < t114.length) = false := decide_eq_false (by omega)
     clear c28
     have H' := Aside0.mk H
     clear H
     obtain ⟨Ao34, co34, rfl⟩ := Kd.R_slice HO_6.out
     go_wp2_with (first | ((with_reducible refine gC 26 ?_); refine zG (some 28) Try.func26 #[.slice Ao34 x6_1.length co34, .slice Ao34 x6_1.length co34] ?_; (with_reducible refine (r1_Mul.calls k1 _ _ x6_1 _ _ x6_1 t111 _ ?side1 ?side2 ?side3 ?side4 A24.out).mono ?_); (case side1 => exact zC (Kd.R_reads' HO_6.out).2.2); (case side2 => exact (Kd.R_reads' HO_6.out).2.1); (case side3 => exact zC (Kd.R_reads' HO_6.out).2.2); (case side4 => exact (Kd.R_reads' HO_6.out).2.1); rintro e w35 ⟨v112, rfl, ho0, hb⟩; refine ⟨_, rfl, ?_⟩; replace ho0 := yn ho0 HO_0; replace ho0 := yn ho0 HO_6; have HO113 := yRl ho0 HB; replace HO_0 := yRe HO_0 ho0 hb; replace HO_6 := yRe HO_6 ho0 hb; replace HB := yS HB hb; (try clear hb ho0); obtain ⟨Ao36, co36, rfl⟩ := Kd.R_slice HO113.out) | ((with_reducible refine gC 26 ?_); refine zG (some 36) Try.func26 #[.slice Ao36 t111.length co36, .slice Ao19 t101.length co19] ?_; (with_reducible refine (r1_Mul.calls k1 _ _ t111 _ _ t101 t114 _ ?side1 ?side2 ?side3 ?side4 A27.out).mono ?_); (case side1 => exact zC (Kd.R_reads' HO113.out).2.2); (case side2 => exact (Kd.R_reads' HO113.out).2.1); (case side3 => exact zC (Kd.R_reads' HO_0.out).2.2); (case side4 => exact (Kd.R_reads' HO_0.out).2.1); rintro e w37 ⟨v115, rfl, ho0, hb⟩; refine ⟨_, rfl, ?_⟩; replace ho0 := yn ho0 HO_0; replace ho0 := yn ho0 HO_6; replace ho0 := yn ho0 HO113; have HO116 := yRl ho0 HB; replace HO_0 := yRe HO_0 ho0 hb; replace HO_6 := yRe HO_6 ho0 hb; replace HO113 := yRe HO113 ho0 hb; replace HB := yS HB hb; (try clear hb ho0); obtain ⟨Ao38, co38, rfl⟩ := Kd.R_slice HO116.out))
     go_roundg k1
     case measure => have := HK1.out; omega
     case rel => exact ⟨(t114), (wrap64 (Int.tdiv x7_1 2)), zF, H', ⟨zo1 HK1⟩, ⟨by (with_reducible repeat (first | apply Kd.R_alloc | apply Kd.R_drewN | apply Kd.R_drew)); exact Kd.R_mono HO_0.out (fun _ hk => hk.2)⟩, ⟨by (with_reducible repeat (first | apply Kd.R_alloc | apply Kd.R_drewN | apply Kd.R_drew)); exact Kd.R_mono HO116.out (fun _ hk => hk.1.1.2)⟩, ⟨zB HB.out⟩⟩
   have c26b0 := beq_eq_false_iff_ne.mpr c26
   have c26b1 := bne_iff_ne.mpr c26
   replace H := zi H
   rcases H with ⟨c39, H⟩ | ⟨c39, H⟩
   · have c39b0 : decide (4096 < (t111.length : Int)) = true := decide_eq_true c39
     have c39b1 : decide (4096 < t111.length) = true := decide_eq_true (by omega)
     clear c39
     simp only [Option.some.injEq, Prod.mk.injEq] at H
     obtain ⟨rfl, rfl⟩ := H
     obtain ⟨Ao40, co40, rfl⟩ := Kd.R_slice HO_6.out
     go_wp2_with (first | ((with_reducible refine gC 26 ?_); refine zG (some 28) Try.func26 #[.slice Ao40 x6_1.length co40, .slice Ao40 x6_1.length co40] ?_; (with_reducible refine (r1_Mul.calls k1 _ _ x6_1 _ _ x6_1 t111 _ ?side1 ?side2 ?side3 ?side4 A24.out).mono ?_); (case side1 => exact zC (Kd.R_reads' HO_6.out).2.2); (case side2 => exact (Kd.R_reads' HO_6.out).2.1); (case side3 => exact zC (Kd.R_reads' HO_6.out).2.2); (case side4 => exact (Kd.R_reads' HO_6.out).2.1); rintro e w41 ⟨v112, rfl, ho0, hb⟩; refine ⟨_, rfl, ?_⟩; replace ho0 := yn ho0 HO_0; replace ho0 := yn ho0 HO_6; have HO113 := yRl ho0 HB; replace HO_0 := yRe HO_0 ho0 hb; replace HO_6 := yRe HO_6 ho0 hb; replace HB := yS HB hb; (try clear hb ho0); obtain ⟨Ao42, co42, rfl⟩ := Kd.R_slice HO113.out))
     go_ret2
     exact ⟨_, zE, z0, zB HB.out⟩
   have c39b0 : decide (4096 < (t111.length : Int)) = false := decide_eq_false c39
   have c39b1 : decide (4096 < t111.length) = false := decide_eq_false (by omega)
   clear c39
   have H' := Aside0.mk H
   clear H
   obtain ⟨Ao43, co43, rfl⟩ := Kd.R_slice HO_6.out
   go_wp2_with (first | ((with_reducible refine gC 26 ?_); refine zG (some 28) Try.func26 #[.slice Ao43 x6_1.length co43, .slice Ao43 x6_1.length co43] ?_; (with_reducible refine (r1_Mul.calls k1 _ _ x6_1 _ _ x6_1 t111 _ ?side1 ?side2 ?side3 ?side4 A24.out).mono ?_); (case side1 => exact zC (Kd.R_reads' HO_6.out).2.2); (case side2 => exact (Kd.R_reads' HO_6.out).2.1); (case side3 => exact zC (Kd.R_reads' HO_6.out).2.2); (case side4 => exact (Kd.R_reads' HO_6.out).2.1); rintro e w44 ⟨v112, rfl, ho0, hb⟩; refine ⟨_, rfl, ?_⟩; replace ho0 := yn ho0 HO_0; replace ho0 := yn ho0 HO_6; have HO113 := yRl ho0 HB; replace HO_0 := yRe HO_0 ho0 hb; replace HO_6 := yRe HO_6 ho0 hb; replace HB := yS HB hb; (try clear hb ho0); obtain ⟨Ao45, co45, rfl⟩ := Kd.R_slice HO113.out))
   go_roundg k1
   case measure => have := HK1.out; omega
   case rel => exact ⟨(t111), (wrap64 (Int.tdiv x7_1 2)), zF, H', ⟨zo1 HK1⟩, ⟨by (with_reducible repeat (first | apply Kd.R_alloc | apply Kd.R_drewN | apply Kd.R_drew)); exact Kd.R_mono HO_0.out (fun _ hk => hk.2)⟩, ⟨by (with_reducible repeat (first | apply Kd.R_alloc | apply Kd.R_drewN | apply Kd.R_drew)); exact Kd.R_mono HO113.out (fun _ hk => hk.1.2)⟩, ⟨zB HB.out⟩⟩
 have c23b0 : decide (0 < x7_1) = false := decide_eq_false c23
 clear c23
 simp only [Option.some.injEq, Prod.mk.injEq] at H
 obtain ⟨rfl, rfl⟩ := H
 go_wp2
 go_ret2
 exact ⟨_, zE, by (with_reducible repeat (first | apply Kd.R_alloc | apply Kd.R_drewN | apply Kd.R_drew)); exact Kd.R_mono HO_6.out (fun _ hk => trivial), zB HB.out⟩
set_option maxHeartbeats 8000000 in
set_option maxRecDepth 100000 in
theorem r2_Nat.calls (k : Nat) (A0 : Option Addr) (c0 : Nat) (l0 : List Int) (r1 : Bool) (r2 : List Int) (r3 : List Int) (w : World) (hr0 : Kd.C (Kd.int .u32) w A0 l0.length l0) (hc0 : l0.length ≤ c0) (h : r2_Nat.f k l0 = some (r1, r2, r3)) :
    Calls Try.prog 95 #[.slice A0 l0.length c0] w fun e w' => ∃ v1_ v2_ : Value, e = .returned (.agg #[.bool r1, v1_, v2_]) ∧ Kd.R (Kd.int .u32) 97 w' w.heap.size (fun k_ => some k_ ≠ (v2_ : Value).ownBlock) v1_ r2 ∧ Kd.R (Kd.int .u32) 97 w' w.heap.size (fun k_ => some k_ ≠ (v1_ : Value).ownBlock) v2_ r3 ∧ Below w.heap.size w w' := by
 have hu60 := Try.underlying60
 have HR0 := Aside0.mk hr0
 have HC0 := Aside0.mk hc0
 clear hr0 hc0
 have HB := Aside0.mk (Below.refl w.heap.size w)
 have H : ((r2_Make.f k false l0 (([1] : List Int))).bind fun bt105 => (some (bt105.1, bt105.2.1, bt105.2.2))) = some (r1, r2, r3) := h
 clear h
 obtain ⟨y102, hy102⟩ : ∃ y_ : List Int, y_ = (([1] : List Int)) := ⟨_, rfl⟩
 replace H : ((r2_Make.f k false l0 y102).bind fun bt105 => (some (bt105.1, bt105.2.1, bt105.2.2))) = some (r1, r2, r3) := zY hy102 H
 have Ny102 := Aside0.mk hy102
 clear hy102
 replace H := zb H
 obtain ⟨⟨t105, t106, t109⟩, A2, H⟩ := H
 dsimp only at H
 simp only [Option.some.injEq, Prod.mk.injEq] at H
 obtain ⟨rfl, rfl, rfl⟩ := H
 go_enter Try.func95, Try.ntmps95
 go_wp2_with (first | ((with_reducible refine gate_dst (N := 2) rfl ?_); refine box_event ?hg (N := 2) ?hd (cs := #[.bool false, .slice none 0 0, .slice none 0 0]) (t := 60) ?hr ?_; (case hd => rfl); (case hg => rfl); (case hr => first | (go_simp; done) | (go_simp; rfl)); intro gb101 hg w3 hbox hb; have BK101 := Aside0.mk (hbox); have GW101 := yg hg HB; have GE101 := yg hg HB; replace HB := yS HB hb; clear hb hbox hg) | ((with_reducible refine gate_dst (N := 4) rfl ?_); refine Kd.R_lit (Kd.int .u32) _ 97 ?hg (N := 4) ?hd (xs := ([1] : List Int)) (inner := [.int .u32 1]) (ok := fun _ => True) (okp := fun _ => True) ?hr ?hp (fun _ hk => hk) trivial (Below.refl _ _) (Nat.le_refl _) (by simp) ?_; (case hd => rfl); (case hg => rfl); (case hr => first | (go_simp; done) | (go_simp; rfl)); (case hp => exact (Reps.one (show Kd.M (Kd.int .u32) _ _ _ 1 [.int .u32 1] from rfl) (Reps.none _ _))); intro v103 w4 ho5 hb hg_ hnew_; clear hg_ hnew_; (first | rw [← Ny102.out] at ho5 | (simp only [Int.reduceToNat] at ho5; rw [← Ny102.out] at ho5)); have HO104 := yRl1 ho5 HB GE101; replace BK101 := yK BK101 hb; replace HB := yS1 HB GE101 hb; clear hb ho5; obtain ⟨Ao6, co6, rfl⟩ := Kd.R_slice HO104.out) | ((with_reducible refine gC 90 ?_); refine zG (some 5) Try.func90 #[.bool false, .slice A0 l0.length c0, .slice Ao6 y102.length co6] ?_; (with_reducible refine (r2_Make.calls k false _ _ l0 _ _ y102 t105 t106 t109 _ ?side1 ?side2 ?side3 ?side4 A2.out).mono ?_); (case side1 => exact zC (Kd.C_below HR0.out HB.out)); (case side2 => exact HC0.out); (case side3 => exact zC (Kd.R_reads' HO104.out).2.2); (case side4 => exact (Kd.R_reads' HO104.out).2.1); rintro e w7 ⟨v107, v110, rfl, ho0, ho1, hb⟩; refine ⟨_, rfl, ?_⟩; replace ho0 := yn ho0 HO104; have HO108 := yRl1 ho0 HB GE101; replace ho1 := yn ho1 HO104; have HO111 := yRl1 ho1 HB GE101; replace HO104 := yRt HO104 hb ho0 ho1; replace BK101 := yK BK101 hb; replace HB := yS1 HB GE101 hb; (try clear hb ho0); (try clear ho1); obtain ⟨hcz8_0, hcz8_1, hcz8_2, hfz8_0, hfz8_1, hfz8_2⟩ := zz3 BK101; obtain ⟨Ao9, co9, rfl⟩ := Kd.R_slice HO108.out; obtain ⟨Ao10, co10, rfl⟩ := Kd.R_slice HO111.out))
 refine bodyPost_ret (results_cell_row rfl _ _ gb101 60 #[.bool t105, .slice Ao9 t106.length co9, .slice Ao10 t109.length co10] (0, 0) _ rfl (zP3 BK101.out) Try.underlying60 rfl (by kernel_rfl)) rfl ?_
 exact ⟨_, _, zE, by (with_reducible repeat (first | apply Kd.R_alloc | apply Kd.R_drewN | apply Kd.R_drew)); exact yf HO108.out BK101.out (fun _ hk => hk.1.1), by (with_reducible repeat (first | apply Kd.R_alloc | apply Kd.R_drewN | apply Kd.R_drew)); exact yf HO111.out BK101.out (fun _ hk => hk.1.1), zB1 HB.out GE101.out⟩
set_option maxHeartbeats 8000000 in
set_option maxRecDepth 100000 in
theorem w24_pow.calls (k : Nat) (a0 : Int) (a1 : Int) (r1 : Bool) (r2 : List Int) (r3 : List Int) (w : World) (h : w24_pow.f k a0 a1 = some (r1, r2, r3)) :
    Calls Try.prog 54 #[.int .i64 a0, .int .i64 a1] w fun e w' => ∃ v1_ v2_ : Value, e = .returned (.agg #[.bool r1, v1_, v2_]) ∧ Kd.R (Kd.int .u32) 97 w' w.heap.size (fun k_ => some k_ ≠ (v2_ : Value).ownBlock) v1_ r2 ∧ Kd.R (Kd.int .u32) 97 w' w.heap.size (fun k_ => some k_ ≠ (v1_ : Value).ownBlock) v2_ r3 ∧ Below w.heap.size w w' := by
 have hu60 := Try.underlying60
 have HB := Aside0.mk (Below.refl w.heap.size w)
 have H : ((r1_Of.f k (IntKind.u64.wrap (a0))).bind fun t102 => ((r1_Pow.f k t102 a1).bind fun bt105 => ((r2_Nat.f k bt105.1).bind fun bt109 => (some (bt109.1, bt109.2.1, bt109.2.2))))) = some (r1, r2, r3) := h
 clear h
 replace H := zb H
 obtain ⟨t102, A3, H⟩ := H
 replace H := zb H
 obtain ⟨⟨t105, t106⟩, A4, H⟩ := H
 dsimp only at H
 replace H := zb H
 obtain ⟨⟨t109, t110, t113⟩, A5, H⟩ := H
 dsimp only at H
 simp only [Option.some.injEq, Prod.mk.injEq] at H
 obtain ⟨rfl, rfl, rfl⟩ := H
 go_enter Try.func54, Try.ntmps54
 go_wp2_with (first | ((with_reducible refine gate_dst (N := 4) rfl ?_); refine box_event ?hg (N := 4) ?hd (cs := #[.bool false, .slice none 0 0, .slice none 0 0]) (t := 60) ?hr ?_; (case hd => rfl); (case hg => rfl); (case hr => first | (go_simp; done) | (go_simp; rfl)); intro gb101 hg w6 hbox hb; have BK101 := Aside0.mk (hbox); have GW101 := yg hg HB; have GE101 := yg hg HB; replace HB := yS HB hb; clear hb hbox hg) | ((with_reducible refine gC 23 ?_); refine zG (some 10) Try.func23 #[.int .u64 (IntKind.u64.wrap (a0))] ?_; (with_reducible refine (r1_Of.calls k (IntKind.u64.wrap (a0)) t102 _ A3.out).mono ?_); rintro e w7 ⟨v103, rfl, ho0, hb⟩; refine ⟨_, rfl, ?_⟩; have HO104 := yRl1 ho0 HB GE101; replace BK101 := yK BK101 hb; replace HB := yS1 HB GE101 hb; (try clear hb ho0); obtain ⟨Ao8, co8, rfl⟩ := Kd.R_slice HO104.out) | ((with_reducible refine gC 22 ?_); refine zG (some 12) Try.func22 #[.slice Ao8 t102.length co8, .int .i64 a1] ?_; (with_reducible refine (r1_Pow.calls k _ _ t102 a1 t105 t106 _ ?side1 ?side2 A4.out).mono ?_); (case side1 => exact zC (Kd.R_reads' HO104.out).2.2); (case side2 => exact (Kd.R_reads' HO104.out).2.1); rintro e w9 ⟨v107, rfl, ho0, hb⟩; refine ⟨_, rfl, ?_⟩; replace ho0 := yn ho0 HO104; have HO108 := yRl1 ho0 HB GE101; replace HO104 := yRe HO104 ho0 hb; replace BK101 := yK BK101 hb; replace HB := yS1 HB GE101 hb; (try clear hb ho0); obtain ⟨Ao10, co10, rfl⟩ := Kd.R_slice HO108.out) | ((with_reducible refine gC 95 ?_); refine zG (some 16) Try.func95 #[.slice Ao10 t105.length co10] ?_; (with_reducible refine (r2_Nat.calls k _ _ t105 t109 t110 t113 _ ?side1 ?side2 A5.out).mono ?_); (case side1 => exact zC (Kd.R_reads' HO108.out).2.2); (case side2 => exact (Kd.R_reads' HO108.out).2.1); rintro e w11 ⟨v111, v114, rfl, ho0, ho1, hb⟩; refine ⟨_, rfl, ?_⟩; replace ho0 := yn ho0 HO104; replace ho0 := yn ho0 HO108; have HO112 := yRl1 ho0 HB GE101; replace ho1 := yn ho1 HO104; replace ho1 := yn ho1 HO108; have HO115 := yRl1 ho1 HB GE101; replace HO104 := yRt HO104 hb ho0 ho1; replace HO108 := yRt HO108 hb ho0 ho1; replace BK101 := yK BK101 hb; replace HB := yS1 HB GE101 hb; (try clear hb ho0); (try clear ho1); obtain ⟨hcz12_0, hcz12_1, hcz12_2, hfz12_0, hfz12_1, hfz12_2⟩ := zz3 BK101; obtain ⟨Ao13, co13, rfl⟩ := Kd.R_slice HO112.out; obtain ⟨Ao14, co14, rfl⟩ := Kd.R_slice HO115.out))
 refine bodyPost_ret (results_cell_row rfl _ _ gb101 60 #[.bool t109, .slice Ao13 t110.length co13, .slice Ao14 t113.length co14] (0, 0) _ rfl (zP3 BK101.out) Try.underlying60 rfl (by kernel_rfl)) rfl ?_
 exact ⟨_, _, zE, by (with_reducible repeat (first | apply Kd.R_alloc | apply Kd.R_drewN | apply Kd.R_drew)); exact yf HO112.out BK101.out (fun _ hk => hk.1.1.1), by (with_reducible repeat (first | apply Kd.R_alloc | apply Kd.R_drewN | apply Kd.R_drew)); exact yf HO115.out BK101.out (fun _ hk => hk.1.1.1), zB1 HB.out GE101.out⟩
set_option maxHeartbeats 8000000 in
set_option maxRecDepth 100000 in
theorem w24_large.calls (k : Nat) (a0 : Int) (A1 : Option Addr) (c1 : Nat) (l1 : List (S60)) (r : Bool) (w : World) (hr1 : Kd.C k60 w A1 l1.length l1) (hc1 : l1.length ≤ c1) (h : w24_large.f k a0 l1 = some r) :
    Calls Try.prog 63 #[.int .i64 a0, .slice A1 l1.length c1] w fun e w' => e = .returned (.bool r) ∧ Drawn0 w w' := by
 have HR1 := Aside0.mk hr1
 have HC1 := Aside0.mk hc1
 clear hr1 hc1
 have H : (w24_large.l0 k a0 l1 0) = some r := h
 clear h
 have H' := Aside0.mk H
 clear H
 go_enter Try.func63, Try.ntmps63
 go_wp2
 repeat (go_quiet (fail); try go_wp2)
 go_loopg [5] k (fun kq v5 w' => ∃ (x5_1 : Int), v5 = .int .i64 x5_1 ∧ Aside0 (w24_large.l0 kq a0 l1 x5_1 = some r) ∧ Aside0 (kq ≤ k) ∧ Drawn0 w w')
 case atStart => exact ⟨(0), zF, H', ⟨Nat.le_refl _⟩, by repeat (first | exact Drawn0.refl _ | apply Drawn0.step)⟩
 clear H'
 obtain ⟨x5_1, rfl, HA, HK1, ⟨m1, rfl⟩⟩ := hrel
 cases gk with | zero => exact absurd HA.out (by simp [w24_large.l0]) | succ k1 => ?_
 have H := HA.out
 clear HA
 simp only [w24_large.l0] at H
 replace H := zid H
 rcases H with ⟨c3b0, H⟩ | ⟨c3b0, H⟩
 · replace H := zgd H
   obtain ⟨c4b0, H⟩ := H
   replace H := zi H
   rcases H with ⟨c5, H⟩ | ⟨c5, H⟩
   · have c5b0 : decide (a0 < (wrap64 ((((rd_T60 l1 x5_1).f1).length : Int) + (((rd_T60 l1 x5_1).f2).length : Int)))) = true := decide_eq_true c5
     clear c5
     obtain rfl := Option.some.inj H
     have p101 : 0 ≤ (x5_1 : Int) := zd
     have q101 : x5_1 < (l1.length : Int) := zd
     obtain ⟨ad101, A101_1, c101_1, A101_2, c101_2, e101, hx101_0, hx101_1, hx101_2, hl101_1, hi101_1, hl101_2, hi101_2⟩ := at_T60 HR1.out x5_1 p101 q101
     cases e101
     have HR101_1 := Aside0.mk hi101_1
     have HC101_1 := Aside0.mk hl101_1
     clear hi101_1 hl101_1
     have HR101_2 := Aside0.mk hi101_2
     have HC101_2 := Aside0.mk hl101_2
     clear hi101_2 hl101_2
     replace p101 := eq_true p101
     replace q101 := eq_true q101
     have p102 : 0 ≤ (x5_1 : Int) := zd
     have q102 : x5_1 < (l1.length : Int) := zd
     obtain ⟨ad102, A102_1, c102_1, A102_2, c102_2, e102, hx102_0, hx102_1, hx102_2, hl102_1, hi102_1, hl102_2, hi102_2⟩ := at_T60 HR1.out x5_1 p102 q102
     obtain rfl : ad101 = ad102 := (by injection e102)
     have HR102_1 := Aside0.mk hi102_1
     have HC102_1 := Aside0.mk hl102_1
     clear hi102_1 hl102_1
     have HR102_2 := Aside0.mk hi102_2
     have HC102_2 := Aside0.mk hl102_2
     clear hi102_2 hl102_2
     replace p102 := eq_true p102
     replace q102 := eq_true q102
     have ea_ := Option.some.inj (hx101_1.symm.trans hx102_1)
     injection ea_ with ea_ en_ ec_
     subst ea_
     subst ec_
     clear en_
     have ea_ := Option.some.inj (hx101_2.symm.trans hx102_2)
     injection ea_ with ea_ en_ ec_
     subst ea_
     subst ec_
     clear en_
     go_wp2
     repeat (go_quiet (fail); try go_wp2)
     go_ret
     exact ⟨zF, by repeat (first | exact Drawn0.refl _ | apply Drawn0.step)⟩
   have c5b0 : decide (a0 < (wrap64 ((((rd_T60 l1 x5_1).f1).length : Int) + (((rd_T60 l1 x5_1).f2).length : Int)))) = false := decide_eq_false c5
   clear c5
   have H' := Aside0.mk H
   clear H
   have p101 : 0 ≤ (x5_1 : Int) := zd
   have q101 : x5_1 < (l1.length : Int) := zd
   obtain ⟨ad101, A101_1, c101_1, A101_2, c101_2, e101, hx101_0, hx101_1, hx101_2, hl101_1, hi101_1, hl101_2, hi101_2⟩ := at_T60 HR1.out x5_1 p101 q101
   cases e101
   have HR101_1 := Aside0.mk hi101_1
   have HC101_1 := Aside0.mk hl101_1
   clear hi101_1 hl101_1
   have HR101_2 := Aside0.mk hi101_2
   have HC101_2 := Aside0.mk hl101_2
   clear hi101_2 hl101_2
   replace p101 := eq_true p101
   replace q101 := eq_true q101
   have p102 : 0 ≤ (x5_1 : Int) := zd
   have q102 : x5_1 < (l1.length : Int) := zd
   obtain ⟨ad102, A102_1, c102_1, A102_2, c102_2, e102, hx102_0, hx102_1, hx102_2, hl102_1, hi102_1, hl102_2, hi102_2⟩ := at_T60 HR1.out x5_1 p102 q102
   obtain rfl : ad101 = ad102 := (by injection e102)
   have HR102_1 := Aside0.mk hi102_1
   have HC102_1 := Aside0.mk hl102_1
   clear hi102_1 hl102_1
   have HR102_2 := Aside0.mk hi102_2
   have HC102_2 := Aside0.mk hl102_2
   clear hi102_2 hl102_2
   replace p102 := eq_true p102
   replace q102 := eq_true q102
   have ea_ := Option.some.inj (hx101_1.symm.trans hx102_1)
   injection ea_ with ea_ en_ ec_
   subst ea_
   subst ec_
   clear en_
   have ea_ := Option.some.inj (hx101_2.symm.trans hx102_2)
   injection ea_ with ea_ en_ ec_
   subst ea_
   subst ec_
   clear en_
   go_wp2
   repeat (go_quiet (fail); try go_wp2)
   go_roundg k1
   case measure => have := HK1.out; omega
   case rel => exact ⟨(wrap64 (x5_1 + 1)), zF, H', ⟨zo1 HK1⟩, by repeat (first | exact Drawn0.refl _ | apply Drawn0.step)⟩
 obtain rfl := Option.some.inj H
 go_wp2
 repeat (go_quiet (fail); try go_wp2)
 go_ret
 exact ⟨zF, by repeat (first | exact Drawn0.refl _ | apply Drawn0.step)⟩
set_option maxHeartbeats 8000000 in
set_option maxRecDepth 100000 in
theorem nat_short.calls (k : Nat) (P0_ : Nat → Prop) (A0 : Option Addr) (c0 : Nat) (l0 : List Int) (r : List Int) (w : World) (hs0 : Kd.V (Kd.int .u32) 97 w w.heap.size (fun k_ => P0_ k_) (.slice A0 l0.length c0) l0) (h : nat_short.f k l0 = some r) :
    Calls Try.prog 118 #[.slice A0 l0.length c0] w fun e w' => ∃ v0_ : Value, e = .returned (v0_) ∧ Kd.V (Kd.int .u32) 97 w' w.heap.size (fun k_ => (P0_ k_ ∨ w.heap.size ≤ k_)) v0_ r ∧ Below w.heap.size w w' := by
 have HO0 := Aside0.mk (show Kd.V (Kd.int .u32) 97 w w.heap.size (fun k_ => (P0_ k_ ∨ w.heap.size ≤ k_)) (.slice A0 l0.length c0) l0 from Kd.V_mono hs0 (fun k_ hk => .inl hk))
 have HB := Aside0.mk (Below.refl w.heap.size w)
 have H : (nat_short.l0 k l0 (l0.length : Int)) = some r := h
 clear h
 have H' := Aside0.mk H
 clear H
 go_enter Try.func118, Try.ntmps118
 go_wp2
 go_loopg [3] k (fun kq v3 w' => ∃ (x3_1 : Int), v3 = .int .i64 x3_1 ∧ Aside0 (nat_short.l0 kq l0 x3_1 = some r) ∧ Aside0 (kq ≤ k) ∧ Aside0 (Kd.V (Kd.int .u32) 97 w' w.heap.size (fun k_ => (P0_ k_ ∨ w.heap.size ≤ k_)) (.slice A0 l0.length c0) l0) ∧ Aside0 (Below w.heap.size w w'))
 case atStart => exact ⟨((l0.length : Int)), zF, H', ⟨Nat.le_refl _⟩, ⟨zV HO0.out⟩, ⟨zB HB.out⟩⟩
 clear H'
 obtain ⟨x3_1, rfl, HA, HK1, HO_0, HB⟩ := hrel
 cases gk with | zero => exact absurd HA.out (by simp [nat_short.l0]) | succ k1 => ?_
 have H := HA.out
 clear HA
 simp only [nat_short.l0] at H
 replace H := zi H
 rcases H with ⟨c2, H⟩ | ⟨c2, H⟩
 · have c2b0 : decide (0 < x3_1) = true := decide_eq_true c2
   clear c2
   obtain ⟨ji3, hji3⟩ : ∃ j_ : Int, (wrap64 (x3_1 - 1)) = j_ := ⟨_, rfl⟩
   replace H : (if 0 ≤ (ji3) then (if (ji3) < (l0.length : Int) then (if (rd l0 (ji3)) = 0 then (nat_short.l0 k1 l0 ji3) else (if 0 ≤ x3_1 then (if x3_1 ≤ (l0.length : Int) then (some (l0.take (x3_1 : Int).toNat)) else (none)) else (none))) else (none)) else (none)) = some r := by first | (rw [hji3] at H; exact H) | (simp only [hji3] at H ⊢; exact H)
   have hji3w : (IntKind.i64.wrap (x3_1 - 1)) = ji3 := (i64_w _).trans hji3
   replace H := zgd H
   obtain ⟨c4b0, H⟩ := H
   replace H := zgd H
   obtain ⟨c5b0, H⟩ := H
   replace H := zi H
   rcases H with ⟨c6, H⟩ | ⟨c6, H⟩
   · have c6b0 := beq_iff_eq.mpr c6
     have c6b1 := bne_eq_false_iff_eq.mpr c6
     clear c6
     have H' := Aside0.mk H
     clear H
     have p101 : 0 ≤ ((ji3) : Int) := zd
     have q101 : (ji3) < (l0.length : Int) := zd
     obtain ⟨ad101, e101, hx101_0⟩ := Kd.at_int (Kd.V_reads' HO_0.out).2.2 (ji3) p101 q101
     cases e101
     replace p101 := eq_true p101
     replace q101 := eq_true q101
     go_wp2
     go_roundg k1
     case measure => have := HK1.out; omega
     case rel => exact ⟨(ji3), (by first | rfl | (simp; done) | (simp only [← hji3] <;> (first | rfl | simp)) | (simp [*]; done)), H', ⟨zo1 HK1⟩, ⟨zV HO_0.out⟩, ⟨zB HB.out⟩⟩
   have c6b0 := beq_eq_false_iff_ne.mpr c6
   have c6b1 := bne_iff_ne.mpr c6
   replace H := zg H
   obtain ⟨c7, H⟩ := H
   have c7b0 := eq_true c7
   have c7b1 := decide_eq_true c7
   clear c7
   replace H := zg H
   obtain ⟨c8, H⟩ := H
   have c8b0 := eq_true c8
   have c8b1 := decide_eq_true c8
   clear c8
   obtain ⟨y102, hy102⟩ : ∃ y_ : List Int, y_ = (l0.take (x3_1 : Int).toNat) := ⟨_, rfl⟩
   replace H : (some y102) = some r := zY hy102 H
   have Ny102 := Aside0.mk hy102
   clear hy102
   obtain rfl := Option.some.inj H
   have p101 : 0 ≤ ((ji3) : Int) := zd
   have q101 : (ji3) < (l0.length : Int) := zd
   obtain ⟨ad101, e101, hx101_0⟩ := Kd.at_int (Kd.V_reads' HO_0.out).2.2 (ji3) p101 q101
   cases e101
   replace p101 := eq_true p101
   replace q101 := eq_true q101
   have q9 : (x3_1 : Int) ≤ ((l0.length : Int) : Int) := zd
   obtain ⟨i09, hi09, _, hsz9, _⟩ := info_parts info97
   have hroom9 : l0.length ≤ c0 := (Kd.V_reads' HO_0.out).2.1
   have hC9 : Kd.F (Kd.int .u32) _ _ (some ad101) l0.length l0 := (Kd.V_at (base := w.heap.size) HO_0.out).2.2
   have hcut9 := Mw.cut_to_max (P := Try.prog) 29 97 .i64 Try.underlying29 hi09 (some ad101) l0.length c0 x3_1 zd q9 hroom9
   have hr9 := Kd.F_take (m := (x3_1 : Int).toNat) hC9 (by omega)
   have hy9 : y102.length = (x3_1 : Int).toNat := (by rw [Ny102.out, List.length_take]; omega)
   rw [← Ny102.out] at hr9
   rw [← hy9] at hcut9
   have HO106 := Aside0.mk (show Kd.V (Kd.int .u32) 97 _ w.heap.size _ (.slice (some ad101) y102.length y102.length) y102 from Kd.V_mk (by omega) hr9)
   have HC106 := Aside0.mk (show y102.length ≤ y102.length from by omega)
   clear hr9 hC9 hroom9 hi09 hsz9
   have KY9 := Aside0.mk hy9
   clear hy9
   replace q9 := eq_true q9
   go_wp2
   go_ret
   exact ⟨_, by first | rfl | (simp [errW_none, errW_some] <;> rfl) | (simp only [← hji3]; first | rfl | (simp [errW_none, errW_some] <;> rfl)) | (simp [*, errW_none, errW_some] <;> rfl), zV HO106.out, zB HB.out⟩
 have c2b0 : decide (0 < x3_1) = false := decide_eq_false c2
 clear c2
 replace H := zg H
 obtain ⟨c10, H⟩ := H
 have c10b0 := eq_true c10
 have c10b1 := decide_eq_true c10
 clear c10
 replace H := zg H
 obtain ⟨c11, H⟩ := H
 have c11b0 := eq_true c11
 have c11b1 := decide_eq_true c11
 clear c11
 obtain ⟨y107, hy107⟩ : ∃ y_ : List Int, y_ = (l0.take (x3_1 : Int).toNat) := ⟨_, rfl⟩
 replace H : (some y107) = some r := zY hy107 H
 have Ny107 := Aside0.mk hy107
 clear hy107
 obtain rfl := Option.some.inj H
 have q12 : (x3_1 : Int) ≤ ((l0.length : Int) : Int) := zd
 obtain ⟨i012, hi012, _, hsz12, _⟩ := info_parts info97
 have hroom12 : l0.length ≤ c0 := (Kd.V_reads' HO_0.out).2.1
 have hC12 : Kd.F (Kd.int .u32) _ _ A0 l0.length l0 := (Kd.V_at (base := w.heap.size) HO_0.out).2.2
 have hcut12 := Mw.cut_to_max (P := Try.prog) 29 97 .i64 Try.underlying29 hi012 A0 l0.length c0 x3_1 zd q12 hroom12
 have hr12 := Kd.F_take (m := (x3_1 : Int).toNat) hC12 (by omega)
 have hy12 : y107.length = (x3_1 : Int).toNat := (by rw [Ny107.out, List.length_take]; omega)
 rw [← Ny107.out] at hr12
 rw [← hy12] at hcut12
 have HO111 := Aside0.mk (show Kd.V (Kd.int .u32) 97 _ w.heap.size _ (.slice A0 y107.length y107.length) y107 from Kd.V_mk (by omega) hr12)
 have HC111 := Aside0.mk (show y107.length ≤ y107.length from by omega)
 clear hr12 hC12 hroom12 hi012 hsz12
 have KY12 := Aside0.mk hy12
 clear hy12
 replace q12 := eq_true q12
 go_wp2
 go_ret
 exact ⟨_, zE, zV HO111.out, zB HB.out⟩
set_option maxHeartbeats 8000000 in
set_option maxRecDepth 100000 in
theorem nat_Trim.calls (k : Nat) (A0 : Option Addr) (c0 : Nat) (l0 : List Int) (r : List Int) (w : World) (hr0 : Kd.C (Kd.int .u32) w A0 l0.length l0) (hc0 : l0.length ≤ c0) (h : nat_Trim.f k l0 = some r) :
    Calls Try.prog 103 #[.slice A0 l0.length c0] w fun e w' => ∃ v0_ : Value, e = .returned (v0_) ∧ Kd.R (Kd.int .u32) 97 w' w.heap.size (fun _ => True) v0_ r ∧ Below w.heap.size w w' := by
 have HR0 := Aside0.mk hr0
 have HC0 := Aside0.mk hc0
 clear hr0 hc0
 have HB := Aside0.mk (Below.refl w.heap.size w)
 have H : ((nat_short.f k l0).bind fun t101 => (if ([] : List Int).length + t101.length < 35184372088832 then (some (([] : List Int) ++ t101)) else (none))) = some r := h
 clear h
 replace H := zb H
 obtain ⟨t101, A2, H⟩ := H
 replace H := zg H
 obtain ⟨c3, H⟩ := H
 have LMc3 := Aside0.mk c3
 clear c3
 obtain ⟨y104, hy104⟩ : ∃ y_ : List Int, y_ = (([] : List Int) ++ t101) := ⟨_, rfl⟩
 replace H : (some y104) = some r := zY hy104 H
 have Ny104 := Aside0.mk hy104
 clear hy104
 obtain rfl := Option.some.inj H
 go_enter Try.func103, Try.ntmps103
 go_wp2_with (first | ((with_reducible refine gC 118 ?_); refine zG (some 4) Try.func118 #[.slice A0 l0.length c0] ?_; (with_reducible refine (nat_short.calls k (fun k_ => k_ < w.heap.size) _ _ l0 t101 _ ?side1 A2.out).mono ?_); (case side1 => exact Kd.V_mk HC0.out (Kd.F_below (Kd.C_F (Kd.heap_int .u32) HR0.out) (zB HB.out))); rintro e w4 ⟨v102, rfl, ho0, hb⟩; refine ⟨_, rfl, ?_⟩; have HO103 := yVm ho0 HB; replace HB := yS HB hb; (try clear hb ho0); obtain ⟨Ao6, co6, rfl⟩ := Kd.V_slice HO103.out) | ((with_reducible refine gate_builtin (b := .append) (xs := #[.const (.slice none 0 0), .tmp 4]) rfl ?_); at_builtin; refine Kd.R_append_rows (Kd.int .u32) (w0 := w) w.heap.size rfl (.const (.slice none 0 0)) (.tmp 4) 29 97 (.int .u32 0) 4 rfl Try.underlying29 info97 rfl (by decide) (by omega) (.slice none 0 0) ([] : List Int) t101 _ _ _ (fun _ => True) (fun _ => False) rfl rfl ?aO ?aR (fun _ _ h => h) (fun _ h => h.elim) ?aF ?aB ?aS ?aL ?_; (case aR => repeat (first | exact (Kd.V_reads' HO103.out).2.2 | (with_reducible refine Kd.C_alloc ?_ _) | (with_reducible refine Kd.C_drewN ?_ _) | (with_reducible refine Kd.C_drew ?_))); (case aB => exact (zB HB.out)); (case aF => exact (fun _ _ => trivial)); (case aO => exact ((Kd.R_nil _ _ _ _ (fun _ => True)))); (case aS => exact (below_size (zB HB.out))); (case aL => have := LMc3.out; omega); intro v105 w5 ho hb hg hat; rw [← Ny104.out] at ho; replace HO103 := Aside0.mk (Kd.V_afterv (Kd.V_apart_nil (zV HO103.out)) hg hat); replace HB := Aside0.mk (hb); have HO106 := Aside0.mk (ho); clear ho hb hg hat))
 go_ret
 exact ⟨_, zE, zR HO106.out, zB HB.out⟩
set_option maxHeartbeats 8000000 in
set_option maxRecDepth 100000 in
theorem nat_times.calls (k : Nat) (A0 : Option Addr) (c0 : Nat) (l0 : List Int) (A1 : Option Addr) (c1 : Nat) (l1 : List Int) (r : List Int) (w : World) (hr0 : Kd.C (Kd.int .u32) w A0 l0.length l0) (hc0 : l0.length ≤ c0) (hr1 : Kd.C (Kd.int .u32) w A1 l1.length l1) (hc1 : l1.length ≤ c1) (h : nat_times.f k l0 l1 = some r) :
    Calls Try.prog 116 #[.slice A0 l0.length c0, .slice A1 l1.length c1] w fun e w' => ∃ v0_ : Value, e = .returned (v0_) ∧ Kd.V (Kd.int .u32) 97 w' w.heap.size (fun k_ => (w.heap.size ≤ k_)) v0_ r ∧ Below w.heap.size w w' := by
 have HR0 := Aside0.mk hr0
 have HC0 := Aside0.mk hc0
 clear hr0 hc0
 have HR1 := Aside0.mk hr1
 have HC1 := Aside0.mk hc1
 clear hr1 hc1
 have HB := Aside0.mk (Below.refl w.heap.size w)
 have H : (if 0 ≤ (wrap64 ((l0.length : Int) + (l1.length : Int))) then (if (wrap64 ((l0.length : Int) + (l1.length : Int)) : Int).toNat ≤ 70368744177664 then (nat_times.l0 k l1 (List.replicate (wrap64 ((l0.length : Int) + (l1.length : Int)) : Int).toNat 0) l0 (l0.length : Int) 0) else (none)) else (none)) = some r := h
 clear h
 obtain ⟨ji3, hji3⟩ : ∃ j_ : Int, (wrap64 ((l0.length : Int) + (l1.length : Int))) = j_ := ⟨_, rfl⟩
 replace H : (if 0 ≤ (ji3) then (if (ji3 : Int).toNat ≤ 70368744177664 then (nat_times.l0 k l1 (List.replicate (ji3 : Int).toNat 0) l0 (l0.length : Int) 0) else (none)) else (none)) = some r := by first | (rw [hji3] at H; exact H) | (simp only [hji3] at H ⊢; exact H)
 have hji3w : (IntKind.i64.wrap ((l0.length : Int) + (l1.length : Int))) = ji3 := (i64_w _).trans hji3
 replace H := zg H
 obtain ⟨c4, H⟩ := H
 have c4b0 := eq_true c4
 have c4b1 := decide_eq_true c4
 clear c4
 replace H := zg H
 obtain ⟨c5, H⟩ := H
 have c5b0 := eq_true c5
 have c5b1 := decide_eq_true c5
 clear c5
 obtain ⟨y101, hy101⟩ : ∃ y_ : List Int, y_ = (List.replicate (ji3 : Int).toNat 0) := ⟨_, rfl⟩
 replace H : (nat_times.l0 k l1 y101 l0 (l0.length : Int) 0) = some r := zY hy101 H
 have Ny101 := Aside0.mk hy101
 clear hy101
 have H' := Aside0.mk H
 clear H
 go_enter Try.func116, Try.ntmps116
 go_wp2_with (first | ((with_reducible refine gate_dst (N := 17) rfl ?_); refine Kd.R_make (Kd.int .u32) _ 97 rfl (N := 17) rfl 29 _ _ rfl ji3 rfl rfl Try.underlying29 (.int .u32 0) 4 info97 rfl (by decide) (by omega) 0 (ok := fun _ => True) (okp := fun _ => True) rfl (fun _ hk => hk) trivial zd (Nat.le_trans (Nat.mul_le_mul_right _ (zd : ji3.toNat ≤ 70368744177664)) (by omega)) (Below.refl _ _) (Nat.le_refl _) ?_; intro v102 w6 ho7 hb hg_ hnew_; clear hg_ hnew_; (first | rw [← Ny101.out] at ho7 | (simp only [Int.reduceToNat] at ho7; rw [← Ny101.out] at ho7)); replace ho7 := Kd.R_newM (M := fun k_ => (w.heap.size ≤ k_)) ho7 (below_size (zB HB.out)) (fun k_ h_ => h_); have HO103 := yRl ho7 HB; replace HB := yS HB hb; clear hb ho7))
 go_loopg [20] k (fun kq v20 w' => ∃ (x5_1 : List Int) (x20_1 : Int), v20 = .int .i64 x20_1 ∧ Aside0 (nat_times.l0 kq l1 x5_1 l0 (l0.length : Int) x20_1 = some r) ∧ Aside0 (kq ≤ k) ∧ Aside0 (Kd.R (Kd.int .u32) 97 w' w.heap.size (fun k_ => (w.heap.size ≤ k_)) v102 x5_1) ∧ Aside0 (Below w.heap.size w w'))
 case atStart => exact ⟨(y101), (0), zF, H', ⟨Nat.le_refl _⟩, ⟨by (with_reducible repeat (first | apply Kd.R_alloc | apply Kd.R_drewN | apply Kd.R_drew)); exact Kd.R_mono HO103.out (fun _ hk => hk.1)⟩, ⟨zB HB.out⟩⟩
 clear H'
 (try clear c4);(try clear c4b0);(try clear c4b1);(try clear c5);(try clear c5b0);(try clear c5b1)
 obtain ⟨x5_1, x20_1, rfl, HA, HK1, HO_5, HB⟩ := hrel
 cases gk with | zero => exact absurd HA.out (by simp [nat_times.l0]) | succ k1 => ?_
 have H := HA.out
 clear HA
 simp only [nat_times.l0] at H
 replace H := zid H
 rcases H with ⟨c8b0, H⟩ | ⟨c8b0, H⟩
 · replace H := zgd H
   obtain ⟨c9b0, H⟩ := H
   replace H := zgd H
   obtain ⟨c10b0, H⟩ := H
   have H' := Aside0.mk H
   clear H
   have p107 : 0 ≤ (x20_1 : Int) := zd
   have q107 : x20_1 < (l0.length : Int) := zd
   obtain ⟨ad107, e107, hx107_0⟩ := Kd.at_int HR0.out x20_1 p107 q107
   cases e107
   replace hx107_0 := (HB.out.cell (World.block_lt_of_cell? w _ hx107_0)).trans hx107_0
   replace p107 := eq_true p107
   replace q107 := eq_true q107
   go_wp2
   go_loopg [8, 27] k1 (fun kq v8 v27 w' => ∃ (x5_2 : List Int) (x8_2 : Int) (x27_2 : Int), v8 = .int .u64 x8_2 ∧ v27 = .int .i64 x27_2 ∧ Aside0 (nat_times.l1 kq l1 x5_2 x20_1 (rd l0 x20_1) x8_2 l0 (l0.length : Int) x20_1 l1 (l1.length : Int) x27_2 = some r) ∧ Aside0 (kq ≤ k1) ∧ Aside0 (Kd.R (Kd.int .u32) 97 w' w.heap.size (fun k_ => (w.heap.size ≤ k_)) v102 x5_2) ∧ Aside0 (Below w.heap.size w w'))
   case atStart => exact ⟨(x5_1), (0), (0), zF, zF, H', ⟨Nat.le_refl _⟩, ⟨zR HO_5.out⟩, ⟨zB HB.out⟩⟩
   clear H'
   (try clear c4);(try clear c4b0);(try clear c4b1);(try clear c5);(try clear c5b0);(try clear c5b1);(try clear c8b0);(try clear c9b0);(try clear c10b0);(try clear hx107_0);(try clear p107);(try clear q107)
   obtain ⟨x5_2, x8_2, x27_2, rfl, rfl, HA, HK2, HO_5, HB⟩ := hrel
   cases gk with | zero => exact absurd HA.out (by simp [nat_times.l1]) | succ k2 => ?_
   have H := HA.out
   clear HA
   simp only [nat_times.l1] at H
   replace H := zid H
   rcases H with ⟨c11b0, H⟩ | ⟨c11b0, H⟩
   · replace H := zgd H
     obtain ⟨c12b0, H⟩ := H
     replace H := zgd H
     obtain ⟨c13b0, H⟩ := H
     obtain ⟨ji14, hji14⟩ : ∃ j_ : Int, (wrap64 (x20_1 + x27_2)) = j_ := ⟨_, rfl⟩
     replace H : (if 0 ≤ (ji14) then (if (ji14) < (x5_2.length : Int) then (nat_times.l1 k2 l1 (x5_2.set ((ji14) : Int).toNat ((IntKind.u64.wrap ((IntKind.u64.wrap ((IntKind.u64.wrap ((IntKind.u64.wrap ((rd l0 x20_1))) * (IntKind.u64.wrap (rd l1 x27_2)))) + (IntKind.u64.wrap (rd x5_2 (ji14))))) + x8_2)) % 4294967296)) x20_1 (rd l0 x20_1) ((IntKind.u64.wrap ((IntKind.u64.wrap ((IntKind.u64.wrap ((IntKind.u64.wrap ((rd l0 x20_1))) * (IntKind.u64.wrap (rd l1 x27_2)))) + (IntKind.u64.wrap (rd x5_2 (ji14))))) + x8_2)) / 4294967296) l0 (l0.length : Int) x20_1 l1 (l1.length : Int) (wrap64 (x27_2 + 1))) else (none)) else (none)) = some r := by first | (rw [hji14] at H; exact H) | (simp only [hji14] at H ⊢; exact H)
     have hji14w : (IntKind.i64.wrap (x20_1 + x27_2)) = ji14 := (i64_w _).trans hji14
     replace H := zgd H
     obtain ⟨c15b0, H⟩ := H
     replace H := zgd H
     obtain ⟨c16b0, H⟩ := H
     obtain ⟨y110, hy110⟩ : ∃ y_ : List Int, y_ = (x5_2.set ((ji14) : Int).toNat ((IntKind.u64.wrap ((IntKind.u64.wrap ((IntKind.u64.wrap ((IntKind.u64.wrap ((rd l0 x20_1))) * (IntKind.u64.wrap (rd l1 x27_2)))) + (IntKind.u64.wrap (rd x5_2 (ji14))))) + x8_2)) % 4294967296)) := ⟨_, rfl⟩
     replace H : (nat_times.l1 k2 l1 y110 x20_1 (rd l0 x20_1) ((IntKind.u64.wrap ((IntKind.u64.wrap ((IntKind.u64.wrap ((IntKind.u64.wrap ((rd l0 x20_1))) * (IntKind.u64.wrap (rd l1 x27_2)))) + (IntKind.u64.wrap (rd x5_2 (ji14))))) + x8_2)) / 4294967296) l0 (l0.length : Int) x20_1 l1 (l1.length : Int) (wrap64 (x27_2 + 1))) = some r := zY hy110 H
     have Ny110 := Aside0.mk hy110
     clear hy110
     have H' := Aside0.mk H
     clear H
     have p108 : 0 ≤ (x27_2 : Int) := zd
     have q108 : x27_2 < (l1.length : Int) := zd
     obtain ⟨ad108, e108, hx108_0⟩ := Kd.at_int HR1.out x27_2 p108 q108
     cases e108
     replace hx108_0 := (HB.out.cell (World.block_lt_of_cell? w _ hx108_0)).trans hx108_0
     replace p108 := eq_true p108
     replace q108 := eq_true q108
     obtain ⟨Ao18, co18, rfl⟩ := Kd.R_slice HO_5.out
     have p109 : 0 ≤ ((ji14) : Int) := zd
     have q109 : (ji14) < (x5_2.length : Int) := zd
     obtain ⟨ad109, e109, hx109_0⟩ := Kd.at_int (Kd.R_reads' HO_5.out).2.2 (ji14) p109 q109
     cases e109
     replace p109 := eq_true p109
     replace q109 := eq_true q109
     have p17 : 0 ≤ ((ji14) : Int) := zd
     have q17 : ((ji14) : Int) < ((x5_2.length : Int) : Int) := zd
     obtain ⟨go17, co17, eo17, gb17, gl17, cl17, HG17⟩ := Kd.R_form HO_5.out (by omega)
     (first | cases eo17 | (injection eo17 with ea_ en_ ec_; (first | subst ea_ | (injection ea_ with ea_; subst ea_)); subst ec_; clear en_))
     have GB17 := Aside0.mk gb17
     have GG17 := Aside0.mk HG17
     clear gb17 gl17 HG17
     (first | simp only [add_plain] at hx109_0 | skip)
     obtain ⟨hx17_0, hf17_0⟩ := Kd.R_celln 0 HO_5.out ((ji14) : Int) p17 q17
     replace p17 := eq_true p17
     replace q17 := eq_true q17
     have HP19 := Kd.R_putg HO_5.out ((ji14) : Int) ((IntKind.u64.wrap ((IntKind.u64.wrap ((IntKind.u64.wrap ((IntKind.u64.wrap ((rd l0 x20_1))) * (IntKind.u64.wrap (rd l1 x27_2)))) + (IntKind.u64.wrap (rd x5_2 (ji14))))) + x8_2)) % 4294967296)
     go_wp2_with (first | ((with_reducible refine gate_store (t := 97) (p := 53) rfl ?_); refine store_event (t := 97) (p := 53) (v := ?vo_w20) (w1 := (wr.setCell ⟨go17, ((ji14) : Int).toNat, none⟩ (.int .u32 ((IntKind.u64.wrap ((IntKind.u64.wrap ((IntKind.u64.wrap ((IntKind.u64.wrap ((rd l0 x20_1))) * (IntKind.u64.wrap (rd l1 x27_2)))) + (IntKind.u64.wrap (rd x5_2 (ji14))))) + x8_2)) % 4294967296)))) ?hg ?ho ?hn ?hr ?_; (case ho => rfl); (case hg => rfl); (case hn => rfl); (case hr => first | (go_simp; done) | (go_simp; rfl)); intro w20 hw; have hg : wr.grownBy w20 (some go17) := (by rw [hw]; exact HP19.2); have hp_ : Kd.R (Kd.int .u32) 97 w20 w.heap.size (fun k_ => (w.heap.size ≤ k_)) (.slice (some ⟨go17, 0, none⟩) x5_2.length co18) y110 := (by rw [hw, Ny110.out]; exact HP19.1); clear HP19; replace HO_5 := Aside0.mk (hp_); replace HB := Aside0.mk ((by rw [hw]; exact below_set (HB.out) GB17.out : Below w.heap.size w w20)); clear hg hw hp_))
     go_roundg k2
     case measure => have := HK1.out; have := HK2.out; omega
     case rel => exact ⟨(y110), ((IntKind.u64.wrap ((IntKind.u64.wrap ((IntKind.u64.wrap ((IntKind.u64.wrap ((rd l0 x20_1))) * (IntKind.u64.wrap (rd l1 x27_2)))) + (IntKind.u64.wrap (rd x5_2 (ji14))))) + x8_2)) / 4294967296), (wrap64 (x27_2 + 1)), (by first | rfl | (simp; done) | (simp only [← hji14] <;> (first | rfl | simp)) | (simp [*]; done)), zF, H', ⟨zo2 HK1 HK2⟩, ⟨zR HO_5.out⟩, ⟨zB HB.out⟩⟩
   obtain ⟨ji21, hji21⟩ : ∃ j_ : Int, (wrap64 (x20_1 + (l1.length : Int))) = j_ := ⟨_, rfl⟩
   replace H : (if 0 ≤ (ji21) then (if (ji21) < (x5_2.length : Int) then (nat_times.l0 k2 l1 (x5_2.set ((ji21) : Int).toNat ((x8_2) % 4294967296)) l0 (l0.length : Int) (wrap64 (x20_1 + 1))) else (none)) else (none)) = some r := by first | (rw [hji21] at H; exact H) | (simp only [hji21] at H ⊢; exact H)
   have hji21w : (IntKind.i64.wrap (x20_1 + (l1.length : Int))) = ji21 := (i64_w _).trans hji21
   replace H := zgd H
   obtain ⟨c22b0, H⟩ := H
   replace H := zgd H
   obtain ⟨c23b0, H⟩ := H
   obtain ⟨y111, hy111⟩ : ∃ y_ : List Int, y_ = (x5_2.set ((ji21) : Int).toNat ((x8_2) % 4294967296)) := ⟨_, rfl⟩
   replace H : (nat_times.l0 k2 l1 y111 l0 (l0.length : Int) (wrap64 (x20_1 + 1))) = some r := zY hy111 H
   have Ny111 := Aside0.mk hy111
   clear hy111
   have H' := Aside0.mk H
   clear H
   have p24 : 0 ≤ ((ji21) : Int) := zd
   have q24 : ((ji21) : Int) < ((x5_2.length : Int) : Int) := zd
   obtain ⟨go24, co24, eo24, gb24, gl24, cl24, HG24⟩ := Kd.R_form HO_5.out (by omega)
   (first | cases eo24 | (injection eo24 with ea_ en_ ec_; (first | subst ea_ | (injection ea_ with ea_; subst ea_)); subst ec_; clear en_))
   have GB24 := Aside0.mk gb24
   have GG24 := Aside0.mk HG24
   clear gb24 gl24 HG24
   obtain ⟨hx24_0, hf24_0⟩ := Kd.R_celln 0 HO_5.out ((ji21) : Int) p24 q24
   replace p24 := eq_true p24
   replace q24 := eq_true q24
   have HP25 := Kd.R_putg HO_5.out ((ji21) : Int) ((x8_2) % 4294967296)
   go_wp2_with (first | ((with_reducible refine gate_store (t := 97) (p := 64) rfl ?_); refine store_event (t := 97) (p := 64) (v := ?vo_w26) (w1 := (wr.setCell ⟨go24, ((ji21) : Int).toNat, none⟩ (.int .u32 ((x8_2) % 4294967296)))) ?hg ?ho ?hn ?hr ?_; (case ho => rfl); (case hg => rfl); (case hn => rfl); (case hr => first | (go_simp; done) | (go_simp; rfl)); intro w26 hw; have hg : wr.grownBy w26 (some go24) := (by rw [hw]; exact HP25.2); have hp_ : Kd.R (Kd.int .u32) 97 w26 w.heap.size (fun k_ => (w.heap.size ≤ k_)) (.slice (some ⟨go24, 0, none⟩) x5_2.length co24) y111 := (by rw [hw, Ny111.out]; exact HP25.1); clear HP25; replace HO_5 := Aside0.mk (hp_); replace HB := Aside0.mk ((by rw [hw]; exact below_set (HB.out) GB24.out : Below w.heap.size w w26)); clear hg hw hp_))
   go_roundg k2
   case measure => have := HK1.out; have := HK2.out; omega
   case rel => exact ⟨(y111), (wrap64 (x20_1 + 1)), zF, H', ⟨zo2 HK1 HK2⟩, ⟨zR HO_5.out⟩, ⟨zB HB.out⟩⟩
 replace H := zb H
 obtain ⟨t104, A27, H⟩ := H
 obtain rfl := Option.some.inj H
 obtain ⟨Ao28, co28, rfl⟩ := Kd.R_slice HO_5.out
 go_wp2_with (first | ((with_reducible refine gC 118 ?_); refine zG (some 67) Try.func118 #[.slice Ao28 x5_1.length co28] ?_; (with_reducible refine (nat_short.calls k1 (fun k_ => some k_ = (.slice Ao28 x5_1.length co28 : Value).ownBlock) _ _ x5_1 t104 _ ?side1 A27.out).mono ?_); (case side1 => exact Kd.R_V (Kd.R_tight rfl (HO_5.out))); rintro e w29 ⟨v105, rfl, ho0, hb⟩; refine ⟨_, rfl, ?_⟩; have HO106 := Aside0.mk (Kd.V_lower (Kd.V_mono (ok' := fun k_ => (w.heap.size ≤ k_)) ho0 (fun k_ hk_ => Or.elim hk_ (fun hs_ => ((HO_5.out).1 k_ hs_.symm)) (fun hn_ => (Nat.le_trans (below_size (zB HB.out)) hn_)))) (below_size (zB HB.out))); replace HO_5 := yRb HO_5 hb; replace HB := yS HB hb; (try clear hb ho0)))
 go_ret
 exact ⟨_, by first | rfl | (simp [errW_none, errW_some] <;> rfl) | (simp only [← hji3]; first | rfl | (simp [errW_none, errW_some] <;> rfl)) | (simp [*, errW_none, errW_some] <;> rfl), zV HO106.out, zB HB.out⟩
set_option maxHeartbeats 8000000 in
set_option maxRecDepth 100000 in
theorem nat_Mul.calls (k : Nat) (A0 : Option Addr) (c0 : Nat) (l0 : List (List Int)) (r : List Int) (w : World) (hr0 : Kd.C (Kd.slice 97 (Kd.int .u32)) w A0 l0.length l0) (hc0 : l0.length ≤ c0) (h : nat_Mul.f k l0 = some r) :
    Calls Try.prog 74 #[.slice A0 l0.length c0] w fun e w' => ∃ v0_ : Value, e = .returned (v0_) ∧ Kd.R (Kd.int .u32) 97 w' w.heap.size (fun _ => True) v0_ r ∧ Below w.heap.size w w' := by
 have HR0 := Aside0.mk hr0
 have HC0 := Aside0.mk hc0
 clear hr0 hc0
 have HB := Aside0.mk (Below.refl w.heap.size w)
 have H : (nat_Mul.l0 k (([1] : List Int)) l0 (l0.length : Int) 0) = some r := h
 clear h
 obtain ⟨y101, hy101⟩ : ∃ y_ : List Int, y_ = (([1] : List Int)) := ⟨_, rfl⟩
 replace H : (nat_Mul.l0 k y101 l0 (l0.length : Int) 0) = some r := zY hy101 H
 have Ny101 := Aside0.mk hy101
 clear hy101
 have H' := Aside0.mk H
 clear H
 go_enter Try.func74, Try.ntmps74
 go_wp2_with (first | ((with_reducible refine gate_dst (N := 6) rfl ?_); refine Kd.R_lit (Kd.int .u32) _ 97 ?hg (N := 6) ?hd (xs := ([1] : List Int)) (inner := [.int .u32 1]) (ok := fun _ => True) (okp := fun _ => True) ?hr ?hp (fun _ hk => hk) trivial (Below.refl _ _) (Nat.le_refl _) (by simp) ?_; (case hd => rfl); (case hg => rfl); (case hr => first | (go_simp; done) | (go_simp; rfl)); (case hp => exact (Reps.one (show Kd.M (Kd.int .u32) _ _ _ 1 [.int .u32 1] from rfl) (Reps.none _ _))); intro v102 w2 ho3 hb hg_ hnew_; clear hg_ hnew_; (first | rw [← Ny101.out] at ho3 | (simp only [Int.reduceToNat] at ho3; rw [← Ny101.out] at ho3)); have HO103 := yRl ho3 HB; replace HB := yS HB hb; clear hb ho3))
 go_loopg [3, 9] k (fun kq v3 v9 w' => ∃ (x3_1 : List Int) (x9_1 : Int), v9 = .int .i64 x9_1 ∧ Aside0 (nat_Mul.l0 kq x3_1 l0 (l0.length : Int) x9_1 = some r) ∧ Aside0 (kq ≤ k) ∧ Aside0 (Kd.V (Kd.int .u32) 97 w' w.heap.size (fun _ => True) v3 x3_1) ∧ Aside0 (Below w.heap.size w w'))
 case atStart => exact ⟨(y101), (0), zF, H', ⟨Nat.le_refl _⟩, ⟨Kd.R_V (zR HO103.out)⟩, ⟨zB HB.out⟩⟩
 clear H'
 obtain ⟨x3_1, x9_1, rfl, HA, HK1, HO_3, HB⟩ := hrel
 cases gk with | zero => exact absurd HA.out (by simp [nat_Mul.l0]) | succ k1 => ?_
 have H := HA.out
 clear HA
 simp only [nat_Mul.l0] at H
 replace H := zid H
 rcases H with ⟨c4b0, H⟩ | ⟨c4b0, H⟩
 · replace H := zgd H
   obtain ⟨c5b0, H⟩ := H
   replace H := zgd H
   obtain ⟨c6b0, H⟩ := H
   replace H := zb H
   obtain ⟨t105, A7, H⟩ := H
   replace H := zb H
   obtain ⟨t108, A8, H⟩ := H
   have H' := Aside0.mk H
   clear H
   have p104 : 0 ≤ (x9_1 : Int) := zd
   have q104 : x9_1 < (l0.length : Int) := zd
   obtain ⟨ad104, A104_0, c104_0, e104, hx104_0, hl104_0, hi104_0⟩ := at_L3 HR0.out x9_1 p104 q104
   cases e104
   replace hx104_0 := (HB.out.cell (World.block_lt_of_cell? w _ hx104_0)).trans hx104_0
   have HR104_0 := Aside0.mk hi104_0
   have HC104_0 := Aside0.mk hl104_0
   clear hi104_0 hl104_0
   replace p104 := eq_true p104
   replace q104 := eq_true q104
   go_wp2_with (first | ((with_reducible refine gC 118 ?_); refine zG (some 15) Try.func118 #[.slice A104_0 (rd_L3 l0 x9_1).length c104_0] ?_; (with_reducible refine (nat_short.calls k1 (fun k_ => k_ < w.heap.size) _ _ (rd_L3 l0 x9_1) t105 _ ?side1 A7.out).mono ?_); (case side1 => exact Kd.V_mk HC104_0.out (Kd.F_below (Kd.C_F (Kd.heap_int .u32) HR104_0.out) (zB HB.out))); rintro e w9 ⟨v106, rfl, ho0, hb⟩; refine ⟨_, rfl, ?_⟩; replace HO_3 := yVb HO_3 hb; have HO107 := yVm ho0 HB; replace HB := yS HB hb; (try clear hb ho0); obtain ⟨Ao10, co10, rfl⟩ := Kd.V_slice HO_3.out; obtain ⟨Ao11, co11, rfl⟩ := Kd.V_slice HO107.out) | ((with_reducible refine gC 116 ?_); refine zG (some 16) Try.func116 #[.slice Ao10 x3_1.length co10, .slice Ao11 t105.length co11] ?_; (with_reducible refine (nat_times.calls k1 _ _ x3_1 _ _ t105 t108 _ ?side1 ?side2 ?side3 ?side4 A8.out).mono ?_); (case side1 => exact zC (Kd.V_reads' HO_3.out).2.2); (case side2 => exact (Kd.V_reads' HO_3.out).2.1); (case side3 => exact zC (Kd.V_reads' HO107.out).2.2); (case side4 => exact (Kd.V_reads' HO107.out).2.1); rintro e w12 ⟨v109, rfl, ho0, hb⟩; refine ⟨_, rfl, ?_⟩; replace HO_3 := yVb HO_3 hb; replace HO107 := yVb HO107 hb; have HO110 := yVm ho0 HB; replace HB := yS HB hb; (try clear hb ho0)))
   go_roundg k1
   case measure => have := HK1.out; omega
   case rel => exact ⟨(t108), (wrap64 (x9_1 + 1)), zF, H', ⟨zo1 HK1⟩, ⟨zV HO110.out⟩, ⟨zB HB.out⟩⟩
 replace H := zb H
 obtain ⟨t111, A13, H⟩ := H
 obtain rfl := Option.some.inj H
 obtain ⟨Ao14, co14, rfl⟩ := Kd.V_slice HO_3.out
 go_wp2_with (first | ((with_reducible refine gC 103 ?_); refine zG (some 19) Try.func103 #[.slice Ao14 x3_1.length co14] ?_; (with_reducible refine (nat_Trim.calls k1 _ _ x3_1 t111 _ ?side1 ?side2 A13.out).mono ?_); (case side1 => exact zC (Kd.V_reads' HO_3.out).2.2); (case side2 => exact (Kd.V_reads' HO_3.out).2.1); rintro e w15 ⟨v112, rfl, ho0, hb⟩; refine ⟨_, rfl, ?_⟩; replace HO_3 := yVe HO_3 ho0 hb; have HO113 := yRl ho0 HB; replace HB := yS HB hb; (try clear hb ho0)))
 go_ret
 exact ⟨_, zE, zR HO113.out, zB HB.out⟩
set_option maxHeartbeats 8000000 in
set_option maxRecDepth 100000 in
theorem mw_shape.calls (a0 : Int) (r : Int) (w : World) (h : mw_shape.f a0 = some r) :
    Calls Try.prog 71 #[.int .i64 a0] w fun e w' => e = .returned (.int .i64 r) ∧ Drawn0 w w' := by
 have H : (if a0 < 1 then (some 3) else (if a0 > 65 then (some 3) else (some 0))) = some r := h
 clear h
 replace H := zid H
 rcases H with ⟨c2b0, H⟩ | ⟨c2b0, H⟩
 · obtain rfl := Option.some.inj H
   go_enter Try.func71, Try.ntmps71
   go_wp2
   go_ret
   exact ⟨zF, by repeat (first | exact Drawn0.refl _ | apply Drawn0.step)⟩
 replace H := zi H
 rcases H with ⟨c3, H⟩ | ⟨c3, H⟩
 · have c3b0 : decide (65 < a0) = true := decide_eq_true c3
   clear c3
   obtain rfl := Option.some.inj H
   go_enter Try.func71, Try.ntmps71
   go_wp2
   go_ret
   exact ⟨zF, by repeat (first | exact Drawn0.refl _ | apply Drawn0.step)⟩
 have c3b0 : decide (65 < a0) = false := decide_eq_false c3
 clear c3
 obtain rfl := Option.some.inj H
 go_enter Try.func71, Try.ntmps71
 go_wp2
 go_ret
 exact ⟨zF, by repeat (first | exact Drawn0.refl _ | apply Drawn0.step)⟩
set_option maxHeartbeats 8000000 in
set_option maxRecDepth 100000 in
theorem mw_wrong.calls (a0 : Int) (a1 : Int) (r : Int) (w : World) (h : mw_wrong.f a0 a1 = some r) :
    Calls Try.prog 102 #[.int .i64 a0, .int .i64 a1] w fun e w' => e = .returned (.int .i64 r) ∧ Drawn0 w w' := by
 have H : (if a0 < 2 then (some 6) else (if a0 > 256 then (some 6) else ((mw_shape.f a1).bind fun t101 => (some t101)))) = some r := h
 clear h
 replace H := zid H
 rcases H with ⟨c3b0, H⟩ | ⟨c3b0, H⟩
 · obtain rfl := Option.some.inj H
   go_enter Try.func102, Try.ntmps102
   go_wp2
   go_ret
   exact ⟨zF, by repeat (first | exact Drawn0.refl _ | apply Drawn0.step)⟩
 replace H := zi H
 rcases H with ⟨c4, H⟩ | ⟨c4, H⟩
 · have c4b0 : decide (256 < a0) = true := decide_eq_true c4
   clear c4
   obtain rfl := Option.some.inj H
   go_enter Try.func102, Try.ntmps102
   go_wp2
   go_ret
   exact ⟨zF, by repeat (first | exact Drawn0.refl _ | apply Drawn0.step)⟩
 have c4b0 : decide (256 < a0) = false := decide_eq_false c4
 clear c4
 replace H := zb H
 obtain ⟨t101, A5, H⟩ := H
 obtain rfl := Option.some.inj H
 go_enter Try.func102, Try.ntmps102
 go_wp2_with (first | ((with_reducible refine gC 71 ?_); refine zG (some 12) Try.func71 #[.int .i64 a1] ?_; (with_reducible refine (mw_shape.calls a1 t101 _ A5.out).mono ?_); rintro e w' ⟨rfl, ⟨nd, rfl⟩⟩; refine ⟨_, rfl, ?_⟩))
 go_ret
 exact ⟨zF, by repeat (first | exact Drawn0.refl _ | apply Drawn0.step)⟩
set_option maxHeartbeats 8000000 in
set_option maxRecDepth 100000 in
theorem nat_plus.calls (k : Nat) (P0_ : Nat → Prop) (A0 : Option Addr) (c0 : Nat) (l0 : List Int) (P1_ : Nat → Prop) (A1 : Option Addr) (c1 : Nat) (l1 : List Int) (r : List Int) (w : World) (hs0 : Kd.V (Kd.int .u32) 97 w w.heap.size (fun k_ => P0_ k_) (.slice A0 l0.length c0) l0) (hs1 : Kd.V (Kd.int .u32) 97 w w.heap.size (fun k_ => P1_ k_) (.slice A1 l1.length c1) l1) (h : nat_plus.f k l0 l1 = some r) :
    Calls Try.prog 117 #[.slice A0 l0.length c0, .slice A1 l1.length c1] w fun e w' => ∃ v0_ : Value, e = .returned (v0_) ∧ Kd.V (Kd.int .u32) 97 w' w.heap.size (fun k_ => ((P0_ k_ ∨ P1_ k_) ∨ w.heap.size ≤ k_)) v0_ r ∧ Below w.heap.size w w' := by
 have HO0 := Aside0.mk (show Kd.V (Kd.int .u32) 97 w w.heap.size (fun k_ => ((P0_ k_ ∨ P1_ k_) ∨ w.heap.size ≤ k_)) (.slice A0 l0.length c0) l0 from Kd.V_mono hs0 (fun k_ hk => .inl (.inl hk)))
 have HO1 := Aside0.mk (show Kd.V (Kd.int .u32) 97 w w.heap.size (fun k_ => ((P0_ k_ ∨ P1_ k_) ∨ w.heap.size ≤ k_)) (.slice A1 l1.length c1) l1 from Kd.V_mono hs1 (fun k_ hk => .inl (.inr hk)))
 have HB := Aside0.mk (Below.refl w.heap.size w)
 have H : (if (l0.length : Int) < (l1.length : Int) then (nat_plus.j0 k l1 l0) else (nat_plus.j0 k l0 l1)) = some r := h
 clear h
 have HC3 := Aside0.mk H
 clear H
 go_enter Try.func117, Try.ntmps117
 go_upto_if 13 with (fail)
 go_cut [0, 1] (fun v0 v1 wc => ∃ (kq : Nat) (x0_2 : List Int) (x1_2 : List Int), Aside0 (nat_plus.j0 kq x0_2 x1_2 = some r) ∧ Aside0 (kq ≤ k) ∧ Aside0 (Kd.V (Kd.int .u32) 97 wc w.heap.size (fun k_ => ((P0_ k_ ∨ P1_ k_) ∨ w.heap.size ≤ k_)) v0 x0_2) ∧ Aside0 (Kd.V (Kd.int .u32) 97 wc w.heap.size (fun k_ => ((P0_ k_ ∨ P1_ k_) ∨ w.heap.size ≤ k_)) v1 x1_2) ∧ Aside0 (Below w.heap.size w wc))
 case first =>
  have H := HC3.out
  clear HC3
  replace H := zi H
  rcases H with ⟨c4, H⟩ | ⟨c4, H⟩
  · have c4b0 := decide_eq_true c4
    have c4b1 : decide (l0.length < l1.length) = true := decide_eq_true (Int.ofNat_lt.mp c4)
    clear c4
    (first | rw [c4b0] | (simp only [i64_w, i32_w]; rw [c4b0]) | rw [c4b1] | skip)
    have H' := Aside0.mk H
    clear H
    go_wp2
    go_meet
    case rel => exact ⟨_, (l1), (l0), H', ⟨zO⟩, ⟨zV HO1.out⟩, ⟨zV HO0.out⟩, ⟨zB HB.out⟩⟩
  have c4b0 := decide_eq_false c4
  have c4b1 : decide (l0.length < l1.length) = false := decide_eq_false (fun h => c4 (Int.ofNat_lt.mpr h))
  clear c4
  (first | rw [c4b0] | (simp only [i64_w, i32_w]; rw [c4b0]) | rw [c4b1] | skip)
  have H' := Aside0.mk H
  clear H
  go_wp2
  go_meet
  case rel => exact ⟨_, (l0), (l1), H', ⟨zO⟩, ⟨zV HO0.out⟩, ⟨zV HO1.out⟩, ⟨zB HB.out⟩⟩
 clear HC3
 (try clear c4);(try clear c4b0);(try clear c4b1)
 obtain ⟨kq, x0_2, x1_2, HA, HJ2, HO_0, HO_1, HB⟩ := hcut
 cases kq with | zero => exact absurd HA.out (by simp [nat_plus.j0]) | succ kj2 => ?_
 have H := HA.out
 clear HA
 simp only [nat_plus.j0] at H
 obtain ⟨ji5, hji5⟩ : ∃ j_ : Int, (wrap64 ((x0_2.length : Int) + 1)) = j_ := ⟨_, rfl⟩
 replace H : (if 0 ≤ (ji5) then (if (ji5 : Int).toNat ≤ 70368744177664 then (nat_plus.l0 kj2 x0_2 x1_2 (List.replicate (ji5 : Int).toNat 0) 0 (x0_2.length : Int) 0) else (none)) else (none)) = some r := by first | (rw [hji5] at H; exact H) | (simp only [hji5] at H ⊢; exact H)
 have hji5w : (IntKind.i64.wrap ((x0_2.length : Int) + 1)) = ji5 := (i64_w _).trans hji5
 replace H := zg H
 obtain ⟨c6, H⟩ := H
 have c6b0 := eq_true c6
 have c6b1 := decide_eq_true c6
 clear c6
 replace H := zg H
 obtain ⟨c7, H⟩ := H
 have c7b0 := eq_true c7
 have c7b1 := decide_eq_true c7
 clear c7
 obtain ⟨y101, hy101⟩ : ∃ y_ : List Int, y_ = (List.replicate (ji5 : Int).toNat 0) := ⟨_, rfl⟩
 replace H : (nat_plus.l0 kj2 x0_2 x1_2 y101 0 (x0_2.length : Int) 0) = some r := zY hy101 H
 have Ny101 := Aside0.mk hy101
 clear hy101
 have H' := Aside0.mk H
 clear H
 obtain ⟨Ao8, co8, rfl⟩ := Kd.V_slice HO_0.out
 go_wp2_with (first | ((with_reducible refine gate_dst (N := 19) rfl ?_); refine Kd.R_make (Kd.int .u32) _ 97 rfl (N := 19) rfl 29 _ _ rfl ji5 rfl rfl Try.underlying29 (.int .u32 0) 4 info97 rfl (by decide) (by omega) 0 (ok := fun _ => True) (okp := fun _ => True) rfl (fun _ hk => hk) trivial zd (Nat.le_trans (Nat.mul_le_mul_right _ (zd : ji5.toNat ≤ 70368744177664)) (by omega)) (Below.refl _ _) (Nat.le_refl _) ?_; intro v102 w9 ho10 hb hg_ hnew_; clear hg_ hnew_; (first | rw [← Ny101.out] at ho10 | (simp only [Int.reduceToNat] at ho10; rw [← Ny101.out] at ho10)); replace HO_0 := yVe HO_0 ho10 hb; replace HO_1 := yVe HO_1 ho10 hb; replace ho10 := Kd.R_newM (M := fun k_ => (w.heap.size ≤ k_)) ho10 (below_size (zB HB.out)) (fun k_ h_ => h_); have HO103 := yRl ho10 HB; replace HB := yS HB hb; clear hb ho10))
 go_loopg [6, 22] kj2 (fun kq v6 v22 w' => ∃ (x5_2 : List Int) (x6_2 : Int) (x22_2 : Int), v6 = .int .u64 x6_2 ∧ v22 = .int .i64 x22_2 ∧ Aside0 (nat_plus.l0 kq x0_2 x1_2 x5_2 x6_2 (x0_2.length : Int) x22_2 = some r) ∧ Aside0 (kq ≤ kj2) ∧ Aside0 (Kd.V (Kd.int .u32) 97 w' w.heap.size (fun k_ => ((P0_ k_ ∨ P1_ k_) ∨ w.heap.size ≤ k_) ∧ some k_ ≠ (v102 : Value).ownBlock) (.slice Ao8 x0_2.length co8) x0_2) ∧ Aside0 (Kd.V (Kd.int .u32) 97 w' w.heap.size (fun k_ => ((P0_ k_ ∨ P1_ k_) ∨ w.heap.size ≤ k_) ∧ some k_ ≠ (v102 : Value).ownBlock) u1 x1_2) ∧ Aside0 (Kd.R (Kd.int .u32) 97 w' w.heap.size (fun k_ => (w.heap.size ≤ k_)) v102 x5_2) ∧ Aside0 (Below w.heap.size w w'))
 case atStart => exact ⟨(y101), (0), (0), zF, zF, H', ⟨Nat.le_refl _⟩, ⟨zV HO_0.out⟩, ⟨zV HO_1.out⟩, ⟨by (with_reducible repeat (first | apply Kd.R_alloc | apply Kd.R_drewN | apply Kd.R_drew)); exact Kd.R_mono HO103.out (fun _ hk => hk.1)⟩, ⟨zB HB.out⟩⟩
 clear H'
 (try clear c4);(try clear c4b0);(try clear c4b1);(try clear c6);(try clear c6b0);(try clear c6b1);(try clear c7);(try clear c7b0);(try clear c7b1)
 obtain ⟨x5_2, x6_2, x22_2, rfl, rfl, HA, HK2, HO_0, HO_1, HO_5, HB⟩ := hrel
 cases gk with | zero => exact absurd HA.out (by simp [nat_plus.l0]) | succ k2 => ?_
 have H := HA.out
 clear HA
 simp only [nat_plus.l0] at H
 replace H := zid H
 rcases H with ⟨c11b0, H⟩ | ⟨c11b0, H⟩
 · replace H := zgd H
   obtain ⟨c12b0, H⟩ := H
   replace H := zgd H
   obtain ⟨c13b0, H⟩ := H
   replace H := zid H
   rcases H with ⟨c14b0, H⟩ | ⟨c14b0, H⟩
   · replace H := zgd H
     obtain ⟨c15b0, H⟩ := H
     obtain ⟨y106, hy106⟩ : ∃ y_ : List Int, y_ = (x5_2.set (x22_2 : Int).toNat ((IntKind.u64.wrap ((IntKind.u64.wrap ((IntKind.u64.wrap (rd x0_2 x22_2)) + x6_2)) + (IntKind.u64.wrap (rd x1_2 x22_2)))) % 4294967296)) := ⟨_, rfl⟩
     replace H : (nat_plus.l0 k2 x0_2 x1_2 y106 ((IntKind.u64.wrap ((IntKind.u64.wrap ((IntKind.u64.wrap (rd x0_2 x22_2)) + x6_2)) + (IntKind.u64.wrap (rd x1_2 x22_2)))) / 4294967296) (x0_2.length : Int) (wrap64 (x22_2 + 1))) = some r := zY hy106 H
     have Ny106 := Aside0.mk hy106
     clear hy106
     have H' := Aside0.mk H
     clear H
     have p104 : 0 ≤ (x22_2 : Int) := zd
     have q104 : x22_2 < (x0_2.length : Int) := zd
     obtain ⟨ad104, e104, hx104_0⟩ := Kd.at_int (Kd.V_reads' HO_0.out).2.2 x22_2 p104 q104
     cases e104
     replace p104 := eq_true p104
     replace q104 := eq_true q104
     obtain ⟨Ao17, co17, rfl⟩ := Kd.V_slice HO_1.out
     have p105 : 0 ≤ (x22_2 : Int) := zd
     have q105 : x22_2 < (x1_2.length : Int) := zd
     obtain ⟨ad105, e105, hx105_0⟩ := Kd.at_int (Kd.V_reads' HO_1.out).2.2 x22_2 p105 q105
     cases e105
     replace p105 := eq_true p105
     replace q105 := eq_true q105
     have p16 : 0 ≤ (x22_2 : Int) := zd
     have q16 : (x22_2 : Int) < ((x5_2.length : Int) : Int) := zd
     obtain ⟨go16, co16, eo16, gb16, gl16, cl16, HG16⟩ := Kd.R_form HO_5.out (by omega)
     (first | cases eo16 | (injection eo16 with ea_ en_ ec_; (first | subst ea_ | (injection ea_ with ea_; subst ea_)); subst ec_; clear en_))
     have GB16 := Aside0.mk gb16
     have GG16 := Aside0.mk HG16
     clear gb16 gl16 HG16
     obtain ⟨hx16_0, hf16_0⟩ := Kd.R_celln 0 HO_5.out (x22_2 : Int) p16 q16
     replace p16 := eq_true p16
     replace q16 := eq_true q16
     have HP18 := Kd.R_putg HO_5.out (x22_2 : Int) ((IntKind.u64.wrap ((IntKind.u64.wrap ((IntKind.u64.wrap (rd x0_2 x22_2)) + x6_2)) + (IntKind.u64.wrap (rd x1_2 x22_2)))) % 4294967296)
     go_wp2_with (first | ((with_reducible refine gate_store (t := 97) (p := 47) rfl ?_); refine store_event (t := 97) (p := 47) (v := ?vo_w19) (w1 := (wr.setCell ⟨go16, (x22_2 : Int).toNat, none⟩ (.int .u32 ((IntKind.u64.wrap ((IntKind.u64.wrap ((IntKind.u64.wrap (rd x0_2 x22_2)) + x6_2)) + (IntKind.u64.wrap (rd x1_2 x22_2)))) % 4294967296)))) ?hg ?ho ?hn ?hr ?_; (case ho => rfl); (case hg => rfl); (case hn => rfl); (case hr => first | (go_simp; done) | (go_simp; rfl)); intro w19 hw; have hg : wr.grownBy w19 (some go16) := (by rw [hw]; exact HP18.2); have hp_ : Kd.R (Kd.int .u32) 97 w19 w.heap.size (fun k_ => (w.heap.size ≤ k_)) (.slice (some ⟨go16, 0, none⟩) x5_2.length co16) y106 := (by rw [hw, Ny106.out]; exact HP18.1); clear HP18; replace HO_0 := Aside0.mk (Kd.V_afterv (v := (.slice (some ⟨go16, 0, none⟩) x5_2.length co16)) (v1 := (.slice (some ⟨go16, 0, none⟩) x5_2.length co16)) (ok := (fun k_ => ((P0_ k_ ∨ P1_ k_) ∨ w.heap.size ≤ k_))) (zV HO_0.out) hg (.inl rfl)); replace HO_1 := Aside0.mk (Kd.V_afterv (v := (.slice (some ⟨go16, 0, none⟩) x5_2.length co16)) (v1 := (.slice (some ⟨go16, 0, none⟩) x5_2.length co16)) (ok := (fun k_ => ((P0_ k_ ∨ P1_ k_) ∨ w.heap.size ≤ k_))) (zV HO_1.out) hg (.inl rfl)); replace HO_5 := Aside0.mk (hp_); replace HB := Aside0.mk ((by rw [hw]; exact below_set (HB.out) GB16.out : Below w.heap.size w w19)); clear hg hw hp_))
     go_roundg k2
     case measure => have := HJ2.out; have := HK2.out; omega
     case rel => exact ⟨(y106), ((IntKind.u64.wrap ((IntKind.u64.wrap ((IntKind.u64.wrap (rd x0_2 x22_2)) + x6_2)) + (IntKind.u64.wrap (rd x1_2 x22_2)))) / 4294967296), (wrap64 (x22_2 + 1)), zF, zF, H', ⟨zo2 HJ2 HK2⟩, ⟨zV HO_0.out⟩, ⟨zV HO_1.out⟩, ⟨zR HO_5.out⟩, ⟨zB HB.out⟩⟩
   replace H := zgd H
   obtain ⟨c20b0, H⟩ := H
   obtain ⟨y107, hy107⟩ : ∃ y_ : List Int, y_ = (x5_2.set (x22_2 : Int).toNat ((IntKind.u64.wrap ((IntKind.u64.wrap (rd x0_2 x22_2)) + x6_2)) % 4294967296)) := ⟨_, rfl⟩
   replace H : (nat_plus.l0 k2 x0_2 x1_2 y107 ((IntKind.u64.wrap ((IntKind.u64.wrap (rd x0_2 x22_2)) + x6_2)) / 4294967296) (x0_2.length : Int) (wrap64 (x22_2 + 1))) = some r := zY hy107 H
   have Ny107 := Aside0.mk hy107
   clear hy107
   have H' := Aside0.mk H
   clear H
   have p104 : 0 ≤ (x22_2 : Int) := zd
   have q104 : x22_2 < (x0_2.length : Int) := zd
   obtain ⟨ad104, e104, hx104_0⟩ := Kd.at_int (Kd.V_reads' HO_0.out).2.2 x22_2 p104 q104
   cases e104
   replace p104 := eq_true p104
   replace q104 := eq_true q104
   obtain ⟨Ao22, co22, rfl⟩ := Kd.V_slice HO_1.out
   have p21 : 0 ≤ (x22_2 : Int) := zd
   have q21 : (x22_2 : Int) < ((x5_2.length : Int) : Int) := zd
   obtain ⟨go21, co21, eo21, gb21, gl21, cl21, HG21⟩ := Kd.R_form HO_5.out (by omega)
   (first | cases eo21 | (injection eo21 with ea_ en_ ec_; (first | subst ea_ | (injection ea_ with ea_; subst ea_)); subst ec_; clear en_))
   have GB21 := Aside0.mk gb21
   have GG21 := Aside0.mk HG21
   clear gb21 gl21 HG21
   obtain ⟨hx21_0, hf21_0⟩ := Kd.R_celln 0 HO_5.out (x22_2 : Int) p21 q21
   replace p21 := eq_true p21
   replace q21 := eq_true q21
   have HP23 := Kd.R_putg HO_5.out (x22_2 : Int) ((IntKind.u64.wrap ((IntKind.u64.wrap (rd x0_2 x22_2)) + x6_2)) % 4294967296)
   go_wp2_with (first | ((with_reducible refine gate_store (t := 97) (p := 47) rfl ?_); refine store_event (t := 97) (p := 47) (v := ?vo_w24) (w1 := (wr.setCell ⟨go21, (x22_2 : Int).toNat, none⟩ (.int .u32 ((IntKind.u64.wrap ((IntKind.u64.wrap (rd x0_2 x22_2)) + x6_2)) % 4294967296)))) ?hg ?ho ?hn ?hr ?_; (case ho => rfl); (case hg => rfl); (case hn => rfl); (case hr => first | (go_simp; done) | (go_simp; rfl)); intro w24 hw; have hg : wr.grownBy w24 (some go21) := (by rw [hw]; exact HP23.2); have hp_ : Kd.R (Kd.int .u32) 97 w24 w.heap.size (fun k_ => (w.heap.size ≤ k_)) (.slice (some ⟨go21, 0, none⟩) x5_2.length co21) y107 := (by rw [hw, Ny107.out]; exact HP23.1); clear HP23; replace HO_0 := Aside0.mk (Kd.V_afterv (v := (.slice (some ⟨go21, 0, none⟩) x5_2.length co21)) (v1 := (.slice (some ⟨go21, 0, none⟩) x5_2.length co21)) (ok := (fun k_ => ((P0_ k_ ∨ P1_ k_) ∨ w.heap.size ≤ k_))) (zV HO_0.out) hg (.inl rfl)); replace HO_1 := Aside0.mk (Kd.V_afterv (v := (.slice (some ⟨go21, 0, none⟩) x5_2.length co21)) (v1 := (.slice (some ⟨go21, 0, none⟩) x5_2.length co21)) (ok := (fun k_ => ((P0_ k_ ∨ P1_ k_) ∨ w.heap.size ≤ k_))) (zV HO_1.out) hg (.inl rfl)); replace HO_5 := Aside0.mk (hp_); replace HB := Aside0.mk ((by rw [hw]; exact below_set (HB.out) GB21.out : Below w.heap.size w w24)); clear hg hw hp_))
   go_roundg k2
   case measure => have := HJ2.out; have := HK2.out; omega
   case rel => exact ⟨(y107), ((IntKind.u64.wrap ((IntKind.u64.wrap (rd x0_2 x22_2)) + x6_2)) / 4294967296), (wrap64 (x22_2 + 1)), zF, zF, H', ⟨zo2 HJ2 HK2⟩, ⟨zV HO_0.out⟩, ⟨zV HO_1.out⟩, ⟨zR HO_5.out⟩, ⟨zB HB.out⟩⟩
 replace H := zg H
 obtain ⟨c25, H⟩ := H
 have c25b0 := decide_eq_true c25
 have c25b1 : decide (0 ≤ x0_2.length) = true := decide_eq_true (by omega)
 clear c25
 replace H := zg H
 obtain ⟨c26, H⟩ := H
 have c26b0 := decide_eq_true c26
 have c26b1 : decide (x0_2.length < x5_2.length) = true := decide_eq_true (Int.ofNat_lt.mp c26)
 clear c26
 obtain ⟨y108, hy108⟩ : ∃ y_ : List Int, y_ = (x5_2.set ((x0_2.length : Int) : Int).toNat ((x6_2) % 4294967296)) := ⟨_, rfl⟩
 replace H : ((nat_short.f k2 y108).bind fun t109 => (some t109)) = some r := zY hy108 H
 have Ny108 := Aside0.mk hy108
 clear hy108
 replace H := zb H
 obtain ⟨t109, A28, H⟩ := H
 obtain rfl := Option.some.inj H
 have p27 : 0 ≤ ((x0_2.length : Int) : Int) := zd
 have q27 : ((x0_2.length : Int) : Int) < ((x5_2.length : Int) : Int) := zd
 obtain ⟨go27, co27, eo27, gb27, gl27, cl27, HG27⟩ := Kd.R_form HO_5.out (by omega)
 (first | cases eo27 | (injection eo27 with ea_ en_ ec_; (first | subst ea_ | (injection ea_ with ea_; subst ea_)); subst ec_; clear en_))
 have GB27 := Aside0.mk gb27
 have GG27 := Aside0.mk HG27
 clear gb27 gl27 HG27
 obtain ⟨hx27_0, hf27_0⟩ := Kd.R_celln 0 HO_5.out ((x0_2.length : Int) : Int) p27 q27
 replace p27 := eq_true p27
 replace q27 := eq_true q27
 obtain ⟨hy29_, hz29_⟩ := Kd.R_celln 0 HO_5.out ((x0_2.length : Int) : Int) zd zd
 (try simp only [Go.IntWalk.toNatUp] at hy29_ hz29_)
 have HP29 := Kd.R_putg HO_5.out ((x0_2.length : Int) : Int) ((x6_2) % 4294967296)
 go_wp2_with (first | ((with_reducible refine gate_store (t := 97) (p := 56) rfl ?_); refine store_event (t := 97) (p := 56) (v := ?vo_w30) (w1 := (wr.setCell ⟨go27, ((x0_2.length : Int) : Int).toNat, none⟩ (.int .u32 ((x6_2) % 4294967296)))) ?hg ?ho ?hn ?hr ?_; (case ho => rfl); (case hg => rfl); (case hn => rfl); (case hr => first | (go_simp; done) | (go_simp; rfl)); intro w30 hw; have hg : wr.grownBy w30 (some go27) := (by rw [hw]; exact HP29.2); have hp_ : Kd.R (Kd.int .u32) 97 w30 w.heap.size (fun k_ => (w.heap.size ≤ k_)) (.slice (some ⟨go27, 0, none⟩) x5_2.length co27) y108 := (by rw [hw, Ny108.out]; exact HP29.1); clear HP29; replace HO_0 := Aside0.mk (Kd.V_afterv (v := (.slice (some ⟨go27, 0, none⟩) x5_2.length co27)) (v1 := (.slice (some ⟨go27, 0, none⟩) x5_2.length co27)) (ok := (fun k_ => ((P0_ k_ ∨ P1_ k_) ∨ w.heap.size ≤ k_))) (zV HO_0.out) hg (.inl rfl)); replace HO_1 := Aside0.mk (Kd.V_afterv (v := (.slice (some ⟨go27, 0, none⟩) x5_2.length co27)) (v1 := (.slice (some ⟨go27, 0, none⟩) x5_2.length co27)) (ok := (fun k_ => ((P0_ k_ ∨ P1_ k_) ∨ w.heap.size ≤ k_))) (zV HO_1.out) hg (.inl rfl)); replace HO_5 := Aside0.mk (hp_); replace HB := Aside0.mk ((by rw [hw]; exact below_set (HB.out) GB27.out : Below w.heap.size w w30)); clear hg hw hp_) | ((with_reducible refine gC 118 ?_); refine goesL_ (some 58) rfl rfl Try.func118 (by kernel_rfl) rfl #[.slice (some ⟨go27, 0, none⟩) y108.length co27] rfl (by (try simp only [List.map_toArray, List.map_cons, List.map_nil]); first | done | (rw [show y108.length = x5_2.length from (Kd.R_reads' HO_5.out).1.symm] <;> rfl) | rfl | (simp only [List.length_drop, List.length_take]; rfl)) ?_; (with_reducible refine (nat_short.calls k2 (fun k_ => some k_ = (.slice (some ⟨go27, 0, none⟩) x5_2.length co27 : Value).ownBlock) _ _ y108 t109 _ ?side1 A28.out).mono ?_); (case side1 => rw [show y108.length = x5_2.length from (Kd.R_reads' HO_5.out).1.symm]; exact Kd.R_V (Kd.R_tight rfl (HO_5.out))); rintro e w31 ⟨v110, rfl, ho0, hb⟩; refine ⟨_, rfl, ?_⟩; replace HO_0 := yVb HO_0 hb; replace HO_1 := yVb HO_1 hb; have HO111 := Aside0.mk (Kd.V_lower (Kd.V_mono (ok' := fun k_ => ((P0_ k_ ∨ P1_ k_) ∨ w.heap.size ≤ k_)) ho0 (fun k_ hk_ => Or.elim hk_ (fun hs_ => (.inr (((HO_5.out).1 k_ hs_.symm)))) (fun hn_ => (.inr (Nat.le_trans (below_size (zB HB.out)) hn_))))) (below_size (zB HB.out))); replace HO_5 := yRb HO_5 hb; replace HB := yS HB hb; (try clear hb ho0)))
 go_ret
 exact ⟨_, by first | rfl | (simp [errW_none, errW_some] <;> rfl) | (simp only [← hji5]; first | rfl | (simp [errW_none, errW_some] <;> rfl)) | (simp [*, errW_none, errW_some] <;> rfl), zV HO111.out, zB HB.out⟩
set_option maxHeartbeats 8000000 in
set_option maxRecDepth 100000 in
theorem nat_Add.calls (k : Nat) (A0 : Option Addr) (c0 : Nat) (l0 : List (List Int)) (r : List Int) (w : World) (hr0 : Kd.C (Kd.slice 97 (Kd.int .u32)) w A0 l0.length l0) (hc0 : l0.length ≤ c0) (h : nat_Add.f k l0 = some r) :
    Calls Try.prog 73 #[.slice A0 l0.length c0] w fun e w' => ∃ v0_ : Value, e = .returned (v0_) ∧ Kd.R (Kd.int .u32) 97 w' w.heap.size (fun _ => True) v0_ r ∧ Below w.heap.size w w' := by
 have HR0 := Aside0.mk hr0
 have HC0 := Aside0.mk hc0
 clear hr0 hc0
 have HB := Aside0.mk (Below.refl w.heap.size w)
 have H : (nat_Add.l0 k ([] : List Int) l0 (l0.length : Int) 0) = some r := h
 clear h
 have H' := Aside0.mk H
 clear H
 go_enter Try.func73, Try.ntmps73
 go_wp2
 go_loopg [3, 8] k (fun kq v3 v8 w' => ∃ (x3_1 : List Int) (x8_1 : Int), v8 = .int .i64 x8_1 ∧ Aside0 (nat_Add.l0 kq x3_1 l0 (l0.length : Int) x8_1 = some r) ∧ Aside0 (kq ≤ k) ∧ Aside0 (Kd.V (Kd.int .u32) 97 w' w.heap.size (fun _ => True) v3 x3_1) ∧ Aside0 (Below w.heap.size w w'))
 case atStart => exact ⟨(([] : List Int)), (0), zF, H', ⟨Nat.le_refl _⟩, ⟨by exact Kd.V_nil _ _ _ _ _⟩, ⟨zB HB.out⟩⟩
 clear H'
 obtain ⟨x3_1, x8_1, rfl, HA, HK1, HO_3, HB⟩ := hrel
 cases gk with | zero => exact absurd HA.out (by simp [nat_Add.l0]) | succ k1 => ?_
 have H := HA.out
 clear HA
 simp only [nat_Add.l0] at H
 replace H := zid H
 rcases H with ⟨c2b0, H⟩ | ⟨c2b0, H⟩
 · replace H := zgd H
   obtain ⟨c3b0, H⟩ := H
   replace H := zgd H
   obtain ⟨c4b0, H⟩ := H
   replace H := zb H
   obtain ⟨t102, A5, H⟩ := H
   replace H := zb H
   obtain ⟨t105, A6, H⟩ := H
   have H' := Aside0.mk H
   clear H
   have p101 : 0 ≤ (x8_1 : Int) := zd
   have q101 : x8_1 < (l0.length : Int) := zd
   obtain ⟨ad101, A101_0, c101_0, e101, hx101_0, hl101_0, hi101_0⟩ := at_L3 HR0.out x8_1 p101 q101
   cases e101
   replace hx101_0 := (HB.out.cell (World.block_lt_of_cell? w _ hx101_0)).trans hx101_0
   have HR101_0 := Aside0.mk hi101_0
   have HC101_0 := Aside0.mk hl101_0
   clear hi101_0 hl101_0
   replace p101 := eq_true p101
   replace q101 := eq_true q101
   go_wp2_with (first | ((with_reducible refine gC 118 ?_); refine zG (some 14) Try.func118 #[.slice A101_0 (rd_L3 l0 x8_1).length c101_0] ?_; (with_reducible refine (nat_short.calls k1 (fun k_ => k_ < w.heap.size) _ _ (rd_L3 l0 x8_1) t102 _ ?side1 A5.out).mono ?_); (case side1 => exact Kd.V_mk HC101_0.out (Kd.F_below (Kd.C_F (Kd.heap_int .u32) HR101_0.out) (zB HB.out))); rintro e w7 ⟨v103, rfl, ho0, hb⟩; refine ⟨_, rfl, ?_⟩; replace HO_3 := yVb HO_3 hb; have HO104 := yVm ho0 HB; replace HB := yS HB hb; (try clear hb ho0); obtain ⟨Ao8, co8, rfl⟩ := Kd.V_slice HO_3.out; obtain ⟨Ao9, co9, rfl⟩ := Kd.V_slice HO104.out) | ((with_reducible refine gC 117 ?_); refine zG (some 15) Try.func117 #[.slice Ao8 x3_1.length co8, .slice Ao9 t102.length co9] ?_; (with_reducible refine (nat_plus.calls k1 (fun k_ => True) _ _ x3_1 (fun k_ => True) _ _ t102 t105 _ ?side1 ?side2 A6.out).mono ?_); (case side1 => exact HO_3.out); (case side2 => exact HO104.out); rintro e w10 ⟨v106, rfl, ho0, hb⟩; refine ⟨_, rfl, ?_⟩; replace HO_3 := yVb HO_3 hb; replace HO104 := yVb HO104 hb; have HO107 := yVm ho0 HB; replace HB := yS HB hb; (try clear hb ho0)))
   go_roundg k1
   case measure => have := HK1.out; omega
   case rel => exact ⟨(t105), (wrap64 (x8_1 + 1)), zF, H', ⟨zo1 HK1⟩, ⟨zV HO107.out⟩, ⟨zB HB.out⟩⟩
 replace H := zb H
 obtain ⟨t108, A11, H⟩ := H
 obtain rfl := Option.some.inj H
 obtain ⟨Ao12, co12, rfl⟩ := Kd.V_slice HO_3.out
 go_wp2_with (first | ((with_reducible refine gC 103 ?_); refine zG (some 18) Try.func103 #[.slice Ao12 x3_1.length co12] ?_; (with_reducible refine (nat_Trim.calls k1 _ _ x3_1 t108 _ ?side1 ?side2 A11.out).mono ?_); (case side1 => exact zC (Kd.V_reads' HO_3.out).2.2); (case side2 => exact (Kd.V_reads' HO_3.out).2.1); rintro e w13 ⟨v109, rfl, ho0, hb⟩; refine ⟨_, rfl, ?_⟩; replace HO_3 := yVe HO_3 ho0 hb; have HO110 := yRl ho0 HB; replace HB := yS HB hb; (try clear hb ho0)))
 go_ret
 exact ⟨_, zE, zR HO110.out, zB HB.out⟩
set_option maxHeartbeats 8000000 in
set_option maxRecDepth 100000 in
theorem nat_Cmp.calls (k : Nat) (A0 : Option Addr) (c0 : Nat) (l0 : List Int) (A1 : Option Addr) (c1 : Nat) (l1 : List Int) (r : Int) (w : World) (hr0 : Kd.C (Kd.int .u32) w A0 l0.length l0) (hc0 : l0.length ≤ c0) (hr1 : Kd.C (Kd.int .u32) w A1 l1.length l1) (hc1 : l1.length ≤ c1) (h : nat_Cmp.f k l0 l1 = some r) :
    Calls Try.prog 79 #[.slice A0 l0.length c0, .slice A1 l1.length c1] w fun e w' => e = .returned (.int .i64 r) ∧ Below w.heap.size w w' := by
 have HR0 := Aside0.mk hr0
 have HC0 := Aside0.mk hc0
 clear hr0 hc0
 have HR1 := Aside0.mk hr1
 have HC1 := Aside0.mk hc1
 clear hr1 hc1
 have HB := Aside0.mk (Below.refl w.heap.size w)
 have H : ((nat_short.f k l0).bind fun t101 => ((nat_short.f k l1).bind fun t104 => (if (t101.length : Int) = (t104.length : Int) then (nat_Cmp.l0 k t101 t104 (wrap64 ((t101.length : Int) - 1))) else (if (t101.length : Int) < (t104.length : Int) then (some (-1)) else (some 1))))) = some r := h
 clear h
 replace H := zb H
 obtain ⟨t101, A3, H⟩ := H
 replace H := zb H
 obtain ⟨t104, A4, H⟩ := H
 replace H := zi H
 rcases H with ⟨c5, H⟩ | ⟨c5, H⟩
 · have c5b0 := beq_iff_eq.mpr c5
   have c5b1 := bne_eq_false_iff_eq.mpr c5
   have c5b2 : (t101.length == t104.length) = true := by first | simpa using c5 | (simp at c5 ⊢; omega)
   clear c5
   have H' := Aside0.mk H
   clear H
   go_enter Try.func79, Try.ntmps79
   go_wp2_with (first | (go_at_call 118; (with_reducible refine (nat_short.calls k (fun k_ => k_ < w.heap.size) _ _ l0 t101 _ ?side1 A3.out).mono ?_); (case side1 => exact Kd.V_mk HC0.out (Kd.F_below (Kd.C_F (Kd.heap_int .u32) HR0.out) (zB HB.out))); rintro e w6 ⟨v102, rfl, ho0, hb⟩; have HO103 := yVm ho0 HB; replace HB := yS HB hb; (try clear hb ho0)) | (go_at_call 118; (with_reducible refine (nat_short.calls k (fun k_ => k_ < w.heap.size) _ _ l1 t104 _ ?side1 A4.out).mono ?_); (case side1 => exact Kd.V_mk HC1.out (Kd.F_below (Kd.C_F (Kd.heap_int .u32) HR1.out) (zB HB.out))); rintro e w7 ⟨v105, rfl, ho0, hb⟩; replace HO103 := yVb HO103 hb; have HO106 := yVm ho0 HB; replace HB := yS HB hb; (try clear hb ho0); obtain ⟨Ao8, co8, rfl⟩ := Kd.V_slice HO103.out; obtain ⟨Ao9, co9, rfl⟩ := Kd.V_slice HO106.out))
   repeat (go_quiet (first | (go_at_call 118; (with_reducible refine (nat_short.calls k (fun k_ => k_ < w.heap.size) _ _ l0 t101 _ ?side1 A3.out).mono ?_); (case side1 => exact Kd.V_mk HC0.out (Kd.F_below (Kd.C_F (Kd.heap_int .u32) HR0.out) (zB HB.out))); rintro e w6 ⟨v102, rfl, ho0, hb⟩; have HO103 := yVm ho0 HB; replace HB := yS HB hb; (try clear hb ho0)) | (go_at_call 118; (with_reducible refine (nat_short.calls k (fun k_ => k_ < w.heap.size) _ _ l1 t104 _ ?side1 A4.out).mono ?_); (case side1 => exact Kd.V_mk HC1.out (Kd.F_below (Kd.C_F (Kd.heap_int .u32) HR1.out) (zB HB.out))); rintro e w7 ⟨v105, rfl, ho0, hb⟩; replace HO103 := yVb HO103 hb; have HO106 := yVm ho0 HB; replace HB := yS HB hb; (try clear hb ho0); obtain ⟨Ao8, co8, rfl⟩ := Kd.V_slice HO103.out; obtain ⟨Ao9, co9, rfl⟩ := Kd.V_slice HO106.out)); try go_wp2_with (first | (go_at_call 118; (with_reducible refine (nat_short.calls k (fun k_ => k_ < w.heap.size) _ _ l0 t101 _ ?side1 A3.out).mono ?_); (case side1 => exact Kd.V_mk HC0.out (Kd.F_below (Kd.C_F (Kd.heap_int .u32) HR0.out) (zB HB.out))); rintro e w6 ⟨v102, rfl, ho0, hb⟩; have n0_ := yVm ho0 HB; have n1_ := yS HB hb; clear HB; have HO103 := n0_; have HB := n1_; clear n0_ n1_; (try clear hb); (try clear hb2); (try clear hk); (try clear hi); (try clear ho0)) | (go_at_call 118; (with_reducible refine (nat_short.calls k (fun k_ => k_ < w.heap.size) _ _ l1 t104 _ ?side1 A4.out).mono ?_); (case side1 => exact Kd.V_mk HC1.out (Kd.F_below (Kd.C_F (Kd.heap_int .u32) HR1.out) (zB HB.out))); rintro e w7 ⟨v105, rfl, ho0, hb⟩; have n0_ := yVb HO103 hb; have n1_ := yVm ho0 HB; have n2_ := yS HB hb; clear HO103; clear HB; have HO103 := n0_; have HO106 := n1_; have HB := n2_; clear n0_ n1_ n2_; (try clear hb); (try clear hb2); (try clear hk); (try clear hi); (try clear ho0); obtain ⟨Ao8, co8, eo8⟩ := Kd.V_slice HO103.out; subst eo8; obtain ⟨Ao9, co9, eo9⟩ := Kd.V_slice HO106.out; subst eo9)))
   go_loopg [5] k (fun kq v5 w' => ∃ (x5_1 : Int), v5 = .int .i64 x5_1 ∧ Aside0 (nat_Cmp.l0 kq t101 t104 x5_1 = some r) ∧ Aside0 (kq ≤ k) ∧ Aside0 (Kd.V (Kd.int .u32) 97 w' w.heap.size (fun _ => True) (.slice Ao8 t101.length co8) t101) ∧ Aside0 (Kd.V (Kd.int .u32) 97 w' w.heap.size (fun _ => True) (.slice Ao9 t104.length co9) t104) ∧ Aside0 (Below w.heap.size w w'))
   case atStart => exact ⟨(wrap64 ((t101.length : Int) - 1)), zF, H', ⟨Nat.le_refl _⟩, ⟨zV HO103.out⟩, ⟨zV HO106.out⟩, ⟨zB HB.out⟩⟩
   clear H'
   (try clear c5);(try clear c5b0);(try clear c5b1);(try clear c5b2)
   obtain ⟨x5_1, rfl, HA, HK1, HO_0, HO_1, HB⟩ := hrel
   cases gk with | zero => exact absurd HA.out (by simp [nat_Cmp.l0]) | succ k1 => ?_
   have H := HA.out
   clear HA
   simp only [nat_Cmp.l0] at H
   replace H := zi H
   rcases H with ⟨c10, H⟩ | ⟨c10, H⟩
   · have c10b0 : decide (0 ≤ x5_1) = true := decide_eq_true c10
     clear c10
     replace H := zgd H
     obtain ⟨c11b0, H⟩ := H
     replace H := zgd H
     obtain ⟨c12b0, H⟩ := H
     replace H := zgd H
     obtain ⟨c13b0, H⟩ := H
     replace H := zid H
     rcases H with ⟨c14b0, H⟩ | ⟨c14b0, H⟩
     · obtain rfl := Option.some.inj H
       have p107 : 0 ≤ (x5_1 : Int) := zd
       have q107 : x5_1 < (t101.length : Int) := zd
       obtain ⟨ad107, e107, hx107_0⟩ := Kd.at_int (Kd.V_reads' HO_0.out).2.2 x5_1 p107 q107
       cases e107
       replace p107 := eq_true p107
       replace q107 := eq_true q107
       have p108 : 0 ≤ (x5_1 : Int) := zd
       have q108 : x5_1 < (t104.length : Int) := zd
       obtain ⟨ad108, e108, hx108_0⟩ := Kd.at_int (Kd.V_reads' HO_1.out).2.2 x5_1 p108 q108
       cases e108
       replace p108 := eq_true p108
       replace q108 := eq_true q108
       go_wp2
       repeat (go_quiet (fail); try go_wp2)
       go_ret
       exact ⟨zE, zB HB.out⟩
     replace H := zi H
     rcases H with ⟨c15, H⟩ | ⟨c15, H⟩
     · have c15b0 : decide ((rd t104 x5_1) < (rd t101 x5_1)) = true := decide_eq_true c15
       clear c15
       obtain rfl := Option.some.inj H
       have p107 : 0 ≤ (x5_1 : Int) := zd
       have q107 : x5_1 < (t101.length : Int) := zd
       obtain ⟨ad107, e107, hx107_0⟩ := Kd.at_int (Kd.V_reads' HO_0.out).2.2 x5_1 p107 q107
       cases e107
       replace p107 := eq_true p107
       replace q107 := eq_true q107
       have p108 : 0 ≤ (x5_1 : Int) := zd
       have q108 : x5_1 < (t104.length : Int) := zd
       obtain ⟨ad108, e108, hx108_0⟩ := Kd.at_int (Kd.V_reads' HO_1.out).2.2 x5_1 p108 q108
       cases e108
       replace p108 := eq_true p108
       replace q108 := eq_true q108
       have p109 : 0 ≤ (x5_1 : Int) := zd
       have q109 : x5_1 < (t101.length : Int) := zd
       obtain ⟨ad109, e109, hx109_0⟩ := Kd.at_int (Kd.V_reads' HO_0.out).2.2 x5_1 p109 q109
       obtain rfl : ad107 = ad109 := (by injection e109)
       replace p109 := eq_true p109
       replace q109 := eq_true q109
       have p110 : 0 ≤ (x5_1 : Int) := zd
       have q110 : x5_1 < (t104.length : Int) := zd
       obtain ⟨ad110, e110, hx110_0⟩ := Kd.at_int (Kd.V_reads' HO_1.out).2.2 x5_1 p110 q110
       obtain rfl : ad108 = ad110 := (by injection e110)
       replace p110 := eq_true p110
       replace q110 := eq_true q110
       go_wp2
       repeat (go_quiet (fail); try go_wp2)
       go_ret
       exact ⟨zE, zB HB.out⟩
     have c15b0 : decide ((rd t104 x5_1) < (rd t101 x5_1)) = false := decide_eq_false c15
     clear c15
     have H' := Aside0.mk H
     clear H
     have p107 : 0 ≤ (x5_1 : Int) := zd
     have q107 : x5_1 < (t101.length : Int) := zd
     obtain ⟨ad107, e107, hx107_0⟩ := Kd.at_int (Kd.V_reads' HO_0.out).2.2 x5_1 p107 q107
     cases e107
     replace p107 := eq_true p107
     replace q107 := eq_true q107
     have p108 : 0 ≤ (x5_1 : Int) := zd
     have q108 : x5_1 < (t104.length : Int) := zd
     obtain ⟨ad108, e108, hx108_0⟩ := Kd.at_int (Kd.V_reads' HO_1.out).2.2 x5_1 p108 q108
     cases e108
     replace p108 := eq_true p108
     replace q108 := eq_true q108
     have p109 : 0 ≤ (x5_1 : Int) := zd
     have q109 : x5_1 < (t101.length : Int) := zd
     obtain ⟨ad109, e109, hx109_0⟩ := Kd.at_int (Kd.V_reads' HO_0.out).2.2 x5_1 p109 q109
     obtain rfl : ad107 = ad109 := (by injection e109)
     replace p109 := eq_true p109
     replace q109 := eq_true q109
     have p110 : 0 ≤ (x5_1 : Int) := zd
     have q110 : x5_1 < (t104.length : Int) := zd
     obtain ⟨ad110, e110, hx110_0⟩ := Kd.at_int (Kd.V_reads' HO_1.out).2.2 x5_1 p110 q110
     obtain rfl : ad108 = ad110 := (by injection e110)
     replace p110 := eq_true p110
     replace q110 := eq_true q110
     go_wp2
     repeat (go_quiet (fail); try go_wp2)
     go_roundg k1
     case measure => have := HK1.out; omega
     case rel => exact ⟨(wrap64 (x5_1 - 1)), zF, H', ⟨zo1 HK1⟩, ⟨zV HO_0.out⟩, ⟨zV HO_1.out⟩, ⟨zB HB.out⟩⟩
   have c10b0 : decide (0 ≤ x5_1) = false := decide_eq_false c10
   clear c10
   obtain rfl := Option.some.inj H
   go_wp2
   repeat (go_quiet (fail); try go_wp2)
   go_ret
   exact ⟨zE, zB HB.out⟩
 have c5b0 := beq_eq_false_iff_ne.mpr c5
 have c5b1 := bne_iff_ne.mpr c5
 have c5b2 : (t101.length == t104.length) = false := by first | simpa using c5 | (simp at c5 ⊢; omega)
 replace H := zi H
 rcases H with ⟨c16, H⟩ | ⟨c16, H⟩
 · have c16b0 := decide_eq_true c16
   have c16b1 : decide (t101.length < t104.length) = true := decide_eq_true (Int.ofNat_lt.mp c16)
   clear c16
   obtain rfl := Option.some.inj H
   go_enter Try.func79, Try.ntmps79
   go_wp2_with (first | (go_at_call 118; (with_reducible refine (nat_short.calls k (fun k_ => k_ < w.heap.size) _ _ l0 t101 _ ?side1 A3.out).mono ?_); (case side1 => exact Kd.V_mk HC0.out (Kd.F_below (Kd.C_F (Kd.heap_int .u32) HR0.out) (zB HB.out))); rintro e w17 ⟨v102, rfl, ho0, hb⟩; have HO103 := yVm ho0 HB; replace HB := yS HB hb; (try clear hb ho0)) | (go_at_call 118; (with_reducible refine (nat_short.calls k (fun k_ => k_ < w.heap.size) _ _ l1 t104 _ ?side1 A4.out).mono ?_); (case side1 => exact Kd.V_mk HC1.out (Kd.F_below (Kd.C_F (Kd.heap_int .u32) HR1.out) (zB HB.out))); rintro e w18 ⟨v105, rfl, ho0, hb⟩; replace HO103 := yVb HO103 hb; have HO106 := yVm ho0 HB; replace HB := yS HB hb; (try clear hb ho0); obtain ⟨Ao19, co19, rfl⟩ := Kd.V_slice HO103.out; obtain ⟨Ao20, co20, rfl⟩ := Kd.V_slice HO106.out))
   repeat (go_quiet (first | (go_at_call 118; (with_reducible refine (nat_short.calls k (fun k_ => k_ < w.heap.size) _ _ l0 t101 _ ?side1 A3.out).mono ?_); (case side1 => exact Kd.V_mk HC0.out (Kd.F_below (Kd.C_F (Kd.heap_int .u32) HR0.out) (zB HB.out))); rintro e w17 ⟨v102, rfl, ho0, hb⟩; have HO103 := yVm ho0 HB; replace HB := yS HB hb; (try clear hb ho0)) | (go_at_call 118; (with_reducible refine (nat_short.calls k (fun k_ => k_ < w.heap.size) _ _ l1 t104 _ ?side1 A4.out).mono ?_); (case side1 => exact Kd.V_mk HC1.out (Kd.F_below (Kd.C_F (Kd.heap_int .u32) HR1.out) (zB HB.out))); rintro e w18 ⟨v105, rfl, ho0, hb⟩; replace HO103 := yVb HO103 hb; have HO106 := yVm ho0 HB; replace HB := yS HB hb; (try clear hb ho0); obtain ⟨Ao19, co19, rfl⟩ := Kd.V_slice HO103.out; obtain ⟨Ao20, co20, rfl⟩ := Kd.V_slice HO106.out)); try go_wp2_with (first | (go_at_call 118; (with_reducible refine (nat_short.calls k (fun k_ => k_ < w.heap.size) _ _ l0 t101 _ ?side1 A3.out).mono ?_); (case side1 => exact Kd.V_mk HC0.out (Kd.F_below (Kd.C_F (Kd.heap_int .u32) HR0.out) (zB HB.out))); rintro e w17 ⟨v102, rfl, ho0, hb⟩; have n0_ := yVm ho0 HB; have n1_ := yS HB hb; clear HB; have HO103 := n0_; have HB := n1_; clear n0_ n1_; (try clear hb); (try clear hb2); (try clear hk); (try clear hi); (try clear ho0)) | (go_at_call 118; (with_reducible refine (nat_short.calls k (fun k_ => k_ < w.heap.size) _ _ l1 t104 _ ?side1 A4.out).mono ?_); (case side1 => exact Kd.V_mk HC1.out (Kd.F_below (Kd.C_F (Kd.heap_int .u32) HR1.out) (zB HB.out))); rintro e w18 ⟨v105, rfl, ho0, hb⟩; have n0_ := yVb HO103 hb; have n1_ := yVm ho0 HB; have n2_ := yS HB hb; clear HO103; clear HB; have HO103 := n0_; have HO106 := n1_; have HB := n2_; clear n0_ n1_ n2_; (try clear hb); (try clear hb2); (try clear hk); (try clear hi); (try clear ho0); obtain ⟨Ao19, co19, eo19⟩ := Kd.V_slice HO103.out; subst eo19; obtain ⟨Ao20, co20, eo20⟩ := Kd.V_slice HO106.out; subst eo20)))
   go_ret
   exact ⟨zE, zB HB.out⟩
 have c16b0 := decide_eq_false c16
 have c16b1 : decide (t101.length < t104.length) = false := decide_eq_false (fun h => c16 (Int.ofNat_lt.mpr h))
 clear c16
 obtain rfl := Option.some.inj H
 go_enter Try.func79, Try.ntmps79
 go_wp2_with (first | (go_at_call 118; (with_reducible refine (nat_short.calls k (fun k_ => k_ < w.heap.size) _ _ l0 t101 _ ?side1 A3.out).mono ?_); (case side1 => exact Kd.V_mk HC0.out (Kd.F_below (Kd.C_F (Kd.heap_int .u32) HR0.out) (zB HB.out))); rintro e w21 ⟨v102, rfl, ho0, hb⟩; have HO103 := yVm ho0 HB; replace HB := yS HB hb; (try clear hb ho0)) | (go_at_call 118; (with_reducible refine (nat_short.calls k (fun k_ => k_ < w.heap.size) _ _ l1 t104 _ ?side1 A4.out).mono ?_); (case side1 => exact Kd.V_mk HC1.out (Kd.F_below (Kd.C_F (Kd.heap_int .u32) HR1.out) (zB HB.out))); rintro e w22 ⟨v105, rfl, ho0, hb⟩; replace HO103 := yVb HO103 hb; have HO106 := yVm ho0 HB; replace HB := yS HB hb; (try clear hb ho0); obtain ⟨Ao23, co23, rfl⟩ := Kd.V_slice HO103.out; obtain ⟨Ao24, co24, rfl⟩ := Kd.V_slice HO106.out))
 repeat (go_quiet (first | (go_at_call 118; (with_reducible refine (nat_short.calls k (fun k_ => k_ < w.heap.size) _ _ l0 t101 _ ?side1 A3.out).mono ?_); (case side1 => exact Kd.V_mk HC0.out (Kd.F_below (Kd.C_F (Kd.heap_int .u32) HR0.out) (zB HB.out))); rintro e w21 ⟨v102, rfl, ho0, hb⟩; have HO103 := yVm ho0 HB; replace HB := yS HB hb; (try clear hb ho0)) | (go_at_call 118; (with_reducible refine (nat_short.calls k (fun k_ => k_ < w.heap.size) _ _ l1 t104 _ ?side1 A4.out).mono ?_); (case side1 => exact Kd.V_mk HC1.out (Kd.F_below (Kd.C_F (Kd.heap_int .u32) HR1.out) (zB HB.out))); rintro e w22 ⟨v105, rfl, ho0, hb⟩; replace HO103 := yVb HO103 hb; have HO106 := yVm ho0 HB; replace HB := yS HB hb; (try clear hb ho0); obtain ⟨Ao23, co23, rfl⟩ := Kd.V_slice HO103.out; obtain ⟨Ao24, co24, rfl⟩ := Kd.V_slice HO106.out)); try go_wp2_with (first | (go_at_call 118; (with_reducible refine (nat_short.calls k (fun k_ => k_ < w.heap.size) _ _ l0 t101 _ ?side1 A3.out).mono ?_); (case side1 => exact Kd.V_mk HC0.out (Kd.F_below (Kd.C_F (Kd.heap_int .u32) HR0.out) (zB HB.out))); rintro e w21 ⟨v102, rfl, ho0, hb⟩; have n0_ := yVm ho0 HB; have n1_ := yS HB hb; clear HB; have HO103 := n0_; have HB := n1_; clear n0_ n1_; (try clear hb); (try clear hb2); (try clear hk); (try clear hi); (try clear ho0)) | (go_at_call 118; (with_reducible refine (nat_short.calls k (fun k_ => k_ < w.heap.size) _ _ l1 t104 _ ?side1 A4.out).mono ?_); (case side1 => exact Kd.V_mk HC1.out (Kd.F_below (Kd.C_F (Kd.heap_int .u32) HR1.out) (zB HB.out))); rintro e w22 ⟨v105, rfl, ho0, hb⟩; have n0_ := yVb HO103 hb; have n1_ := yVm ho0 HB; have n2_ := yS HB hb; clear HO103; clear HB; have HO103 := n0_; have HO106 := n1_; have HB := n2_; clear n0_ n1_ n2_; (try clear hb); (try clear hb2); (try clear hk); (try clear hi); (try clear ho0); obtain ⟨Ao23, co23, eo23⟩ := Kd.V_slice HO103.out; subst eo23; obtain ⟨Ao24, co24, eo24⟩ := Kd.V_slice HO106.out; subst eo24)))
 go_ret
 exact ⟨zE, zB HB.out⟩
set_option maxHeartbeats 8000000 in
set_option maxRecDepth 100000 in
theorem nat_Sub.calls (k : Nat) (A0 : Option Addr) (c0 : Nat) (l0 : List Int) (A1 : Option Addr) (c1 : Nat) (l1 : List Int) (r1 : List Int) (r2 : Int) (w : World) (hr0 : Kd.C (Kd.int .u32) w A0 l0.length l0) (hc0 : l0.length ≤ c0) (hr1 : Kd.C (Kd.int .u32) w A1 l1.length l1) (hc1 : l1.length ≤ c1) (h : nat_Sub.f k l0 l1 = some (r1, r2)) :
    Calls Try.prog 137 #[.slice A0 l0.length c0, .slice A1 l1.length c1] w fun e w' => ∃ v0_ : Value, e = .returned (.tuple #[v0_, .int .i64 r2]) ∧ Kd.V (Kd.int .u32) 97 w' w.heap.size (fun k_ => (w.heap.size ≤ k_)) v0_ r1 ∧ Below w.heap.size w w' := by
 have HR0 := Aside0.mk hr0
 have HC0 := Aside0.mk hc0
 clear hr0 hc0
 have HR1 := Aside0.mk hr1
 have HC1 := Aside0.mk hc1
 clear hr1 hc1
 have HB := Aside0.mk (Below.refl w.heap.size w)
 have H : ((nat_Cmp.f k l0 l1).bind fun t101 => (if t101 < 0 then (some (([] : List Int), 6)) else ((nat_Trim.f k l0).bind fun t102 => (nat_Sub.l0 k l1 t102 0 (t102.length : Int) 0)))) = some (r1, r2) := h
 clear h
 replace H := zb H
 obtain ⟨t101, A3, H⟩ := H
 replace H := zid H
 rcases H with ⟨c4b0, H⟩ | ⟨c4b0, H⟩
 · simp only [Option.some.injEq, Prod.mk.injEq] at H
   obtain ⟨rfl, rfl⟩ := H
   go_enter Try.func137, Try.ntmps137
   go_wp2_with (first | ((with_reducible refine gC 79 ?_); refine zG (some 12) Try.func79 #[.slice A0 l0.length c0, .slice A1 l1.length c1] ?_; (with_reducible refine (nat_Cmp.calls k _ _ l0 _ _ l1 t101 _ ?side1 ?side2 ?side3 ?side4 A3.out).mono ?_); (case side1 => exact zC HR0.out); (case side2 => exact HC0.out); (case side3 => exact zC HR1.out); (case side4 => exact HC1.out); rintro e w5 ⟨rfl, hb⟩; refine ⟨_, rfl, ?_⟩; replace HB := yS HB hb; (try clear hb); (try clear hb2); (try clear hk); (try clear hi)))
   go_ret2
   exact ⟨_, zE, by exact Kd.V_nil _ _ _ _ _, zB HB.out⟩
 replace H := zb H
 obtain ⟨t102, A6, H⟩ := H
 have H' := Aside0.mk H
 clear H
 go_enter Try.func137, Try.ntmps137
 go_wp2_with (first | ((with_reducible refine gC 79 ?_); refine zG (some 12) Try.func79 #[.slice A0 l0.length c0, .slice A1 l1.length c1] ?_; (with_reducible refine (nat_Cmp.calls k _ _ l0 _ _ l1 t101 _ ?side1 ?side2 ?side3 ?side4 A3.out).mono ?_); (case side1 => exact zC HR0.out); (case side2 => exact HC0.out); (case side3 => exact zC HR1.out); (case side4 => exact HC1.out); rintro e w7 ⟨rfl, hb⟩; refine ⟨_, rfl, ?_⟩; replace HB := yS HB hb; (try clear hb); (try clear hb2); (try clear hk); (try clear hi)) | ((with_reducible refine gC 103 ?_); refine zG (some 15) Try.func103 #[.slice A0 l0.length c0] ?_; (with_reducible refine (nat_Trim.calls k _ _ l0 t102 _ ?side1 ?side2 A6.out).mono ?_); (case side1 => exact zC (Kd.C_below HR0.out HB.out)); (case side2 => exact HC0.out); rintro e w8 ⟨v103, rfl, ho0, hb⟩; refine ⟨_, rfl, ?_⟩; replace ho0 := Kd.R_newM (M := fun k_ => (w.heap.size ≤ k_)) ho0 (below_size (zB HB.out)) (fun k_ h_ => h_); have HO104 := yRl ho0 HB; replace HB := yS HB hb; (try clear hb ho0); obtain ⟨Ao9, co9, rfl⟩ := Kd.R_slice HO104.out))
 go_loopg [7, 18] k (fun kq v7 v18 w' => ∃ (x6_1 : List Int) (x7_1 : Int) (x18_1 : Int), v7 = .int .u64 x7_1 ∧ v18 = .int .i64 x18_1 ∧ Aside0 (nat_Sub.l0 kq l1 x6_1 x7_1 (t102.length : Int) x18_1 = some (r1, r2)) ∧ Aside0 (kq ≤ k) ∧ Aside0 (Kd.R (Kd.int .u32) 97 w' w.heap.size (fun k_ => (w.heap.size ≤ k_)) (.slice Ao9 t102.length co9) x6_1) ∧ Aside0 (Below w.heap.size w w'))
 case atStart => exact ⟨(t102), (0), (0), zF, zF, H', ⟨Nat.le_refl _⟩, ⟨by (with_reducible repeat (first | apply Kd.R_alloc | apply Kd.R_drewN | apply Kd.R_drew)); exact Kd.R_mono HO104.out (fun _ hk => hk.1)⟩, ⟨zB HB.out⟩⟩
 clear H'
 (try clear c4b0)
 obtain ⟨x6_1, x7_1, x18_1, rfl, rfl, HA, HK1, HO_6, HB⟩ := hrel
 have hl6_1 := (Kd.R_reads' HO_6.out).1
 rw [hl6_1] at HO_6
 (try simp only [hl6_1])
 cases gk with | zero => exact absurd HA.out (by simp [nat_Sub.l0]) | succ k1 => ?_
 have H := HA.out
 clear HA
 simp only [nat_Sub.l0] at H
 replace H := zi H
 rcases H with ⟨c10, H⟩ | ⟨c10, H⟩
 · have c10b0 := decide_eq_true c10
   (try (have c10h0 := c10b0; simp only [hl6_1] at c10h0))
   clear c10
   replace H := zgd H
   obtain ⟨c11b0, H⟩ := H
   replace H := zg H
   obtain ⟨c12, H⟩ := H
   have c12b0 := decide_eq_true c12
   (try (have c12h0 := c12b0; simp only [hl6_1] at c12h0))
   clear c12
   replace H := zi H
   rcases H with ⟨c13, H⟩ | ⟨c13, H⟩
   · have c13b0 := decide_eq_true c13
     (try (have c13h0 := c13b0; simp only [hl6_1] at c13h0))
     clear c13
     obtain ⟨y107, hy107⟩ : ∃ y_ : List Int, y_ = (x6_1.set (x18_1 : Int).toNat ((IntKind.u64.wrap ((IntKind.u64.wrap ((IntKind.u64.wrap (rd x6_1 x18_1)) - x7_1)) - (IntKind.u64.wrap (rd l1 x18_1)))) % 4294967296)) := ⟨_, rfl⟩
     replace H : (nat_Sub.l0 k1 l1 y107 ((IntKind.u64.wrap ((IntKind.u64.wrap ((IntKind.u64.wrap (rd x6_1 x18_1)) - x7_1)) - (IntKind.u64.wrap (rd l1 x18_1)))) / 9223372036854775808) (t102.length : Int) (wrap64 (x18_1 + 1))) = some (r1, r2) := zY hy107 H
     have Ny107 := Aside0.mk hy107
     clear hy107
     have H' := Aside0.mk H
     clear H
     have p105 : 0 ≤ (x18_1 : Int) := zd
     have q105 : x18_1 < (x6_1.length : Int) := zd
     obtain ⟨ad105, e105, hx105_0⟩ := Kd.at_int (Kd.R_reads' HO_6.out).2.2 x18_1 p105 q105
     cases e105
     replace p105 := eq_true p105
     replace q105 := eq_true q105
     have p106 : 0 ≤ (x18_1 : Int) := zd
     have q106 : x18_1 < (l1.length : Int) := zd
     obtain ⟨ad106, e106, hx106_0⟩ := Kd.at_int HR1.out x18_1 p106 q106
     cases e106
     replace hx106_0 := (HB.out.cell (World.block_lt_of_cell? w _ hx106_0)).trans hx106_0
     replace p106 := eq_true p106
     replace q106 := eq_true q106
     have p14 : 0 ≤ (x18_1 : Int) := zd
     have q14 : (x18_1 : Int) < ((x6_1.length : Int) : Int) := zd
     obtain ⟨go14, co14, eo14, gb14, gl14, cl14, HG14⟩ := Kd.R_form HO_6.out (by omega)
     (first | cases eo14 | (injection eo14 with ea_ en_ ec_; (first | subst ea_ | (injection ea_ with ea_; subst ea_)); subst ec_; clear en_))
     have GB14 := Aside0.mk gb14
     have GG14 := Aside0.mk HG14
     clear gb14 gl14 HG14
     (first | simp only [add_plain] at hx105_0 | skip)
     obtain ⟨hx14_0, hf14_0⟩ := Kd.R_celln 0 HO_6.out (x18_1 : Int) p14 q14
     replace p14 := eq_true p14
     replace q14 := eq_true q14
     have HP15 := Kd.R_putg HO_6.out (x18_1 : Int) ((IntKind.u64.wrap ((IntKind.u64.wrap ((IntKind.u64.wrap (rd x6_1 x18_1)) - x7_1)) - (IntKind.u64.wrap (rd l1 x18_1)))) % 4294967296)
     go_wp2_with (first | ((with_reducible refine gate_store (t := 97) (p := 43) rfl ?_); refine store_event (t := 97) (p := 43) (v := ?vo_w16) (w1 := (wr.setCell ⟨go14, (x18_1 : Int).toNat, none⟩ (.int .u32 ((IntKind.u64.wrap ((IntKind.u64.wrap ((IntKind.u64.wrap (rd x6_1 x18_1)) - x7_1)) - (IntKind.u64.wrap (rd l1 x18_1)))) % 4294967296)))) ?hg ?ho ?hn ?hr ?_; (case ho => rfl); (case hg => rfl); (case hn => rfl); (case hr => first | (go_simp; done) | (go_simp; rfl)); intro w16 hw; have hg : wr.grownBy w16 (some go14) := (by rw [hw]; exact HP15.2); have hp_ : Kd.R (Kd.int .u32) 97 w16 w.heap.size (fun k_ => (w.heap.size ≤ k_)) (.slice (some ⟨go14, 0, none⟩) x6_1.length co9) y107 := (by rw [hw, Ny107.out]; exact HP15.1); clear HP15; replace HO_6 := Aside0.mk (hp_); replace HB := Aside0.mk ((by rw [hw]; exact below_set (HB.out) GB14.out : Below w.heap.size w w16)); clear hg hw hp_))
     (try simp only [← hl6_1])
     go_roundg k1
     case measure => have := HK1.out; omega
     case rel => exact ⟨(y107), ((IntKind.u64.wrap ((IntKind.u64.wrap ((IntKind.u64.wrap (rd x6_1 x18_1)) - x7_1)) - (IntKind.u64.wrap (rd l1 x18_1)))) / 9223372036854775808), (wrap64 (x18_1 + 1)), zF, zF, H', ⟨zo1 HK1⟩, ⟨by (try simp only [hl6_1]); (with_reducible repeat (first | apply Kd.R_alloc | apply Kd.R_drewN | apply Kd.R_drew)); exact HO_6.out⟩, ⟨zB HB.out⟩⟩
   have c13b0 := decide_eq_false c13
   (try (have c13h0 := c13b0; simp only [hl6_1] at c13h0))
   clear c13
   obtain ⟨y108, hy108⟩ : ∃ y_ : List Int, y_ = (x6_1.set (x18_1 : Int).toNat ((IntKind.u64.wrap ((IntKind.u64.wrap (rd x6_1 x18_1)) - x7_1)) % 4294967296)) := ⟨_, rfl⟩
   replace H : (nat_Sub.l0 k1 l1 y108 ((IntKind.u64.wrap ((IntKind.u64.wrap (rd x6_1 x18_1)) - x7_1)) / 9223372036854775808) (t102.length : Int) (wrap64 (x18_1 + 1))) = some (r1, r2) := zY hy108 H
   have Ny108 := Aside0.mk hy108
   clear hy108
   have H' := Aside0.mk H
   clear H
   have p105 : 0 ≤ (x18_1 : Int) := zd
   have q105 : x18_1 < (x6_1.length : Int) := zd
   obtain ⟨ad105, e105, hx105_0⟩ := Kd.at_int (Kd.R_reads' HO_6.out).2.2 x18_1 p105 q105
   cases e105
   replace p105 := eq_true p105
   replace q105 := eq_true q105
   have p17 : 0 ≤ (x18_1 : Int) := zd
   have q17 : (x18_1 : Int) < ((x6_1.length : Int) : Int) := zd
   obtain ⟨go17, co17, eo17, gb17, gl17, cl17, HG17⟩ := Kd.R_form HO_6.out (by omega)
   (first | cases eo17 | (injection eo17 with ea_ en_ ec_; (first | subst ea_ | (injection ea_ with ea_; subst ea_)); subst ec_; clear en_))
   have GB17 := Aside0.mk gb17
   have GG17 := Aside0.mk HG17
   clear gb17 gl17 HG17
   (first | simp only [add_plain] at hx105_0 | skip)
   obtain ⟨hx17_0, hf17_0⟩ := Kd.R_celln 0 HO_6.out (x18_1 : Int) p17 q17
   replace p17 := eq_true p17
   replace q17 := eq_true q17
   have HP18 := Kd.R_putg HO_6.out (x18_1 : Int) ((IntKind.u64.wrap ((IntKind.u64.wrap (rd x6_1 x18_1)) - x7_1)) % 4294967296)
   go_wp2_with (first | ((with_reducible refine gate_store (t := 97) (p := 43) rfl ?_); refine store_event (t := 97) (p := 43) (v := ?vo_w19) (w1 := (wr.setCell ⟨go17, (x18_1 : Int).toNat, none⟩ (.int .u32 ((IntKind.u64.wrap ((IntKind.u64.wrap (rd x6_1 x18_1)) - x7_1)) % 4294967296)))) ?hg ?ho ?hn ?hr ?_; (case ho => rfl); (case hg => rfl); (case hn => rfl); (case hr => first | (go_simp; done) | (go_simp; rfl)); intro w19 hw; have hg : wr.grownBy w19 (some go17) := (by rw [hw]; exact HP18.2); have hp_ : Kd.R (Kd.int .u32) 97 w19 w.heap.size (fun k_ => (w.heap.size ≤ k_)) (.slice (some ⟨go17, 0, none⟩) x6_1.length co9) y108 := (by rw [hw, Ny108.out]; exact HP18.1); clear HP18; replace HO_6 := Aside0.mk (hp_); replace HB := Aside0.mk ((by rw [hw]; exact below_set (HB.out) GB17.out : Below w.heap.size w w19)); clear hg hw hp_))
   (try simp only [← hl6_1])
   go_roundg k1
   case measure => have := HK1.out; omega
   case rel => exact ⟨(y108), ((IntKind.u64.wrap ((IntKind.u64.wrap (rd x6_1 x18_1)) - x7_1)) / 9223372036854775808), (wrap64 (x18_1 + 1)), zF, zF, H', ⟨zo1 HK1⟩, ⟨by (try simp only [hl6_1]); (with_reducible repeat (first | apply Kd.R_alloc | apply Kd.R_drewN | apply Kd.R_drew)); exact HO_6.out⟩, ⟨zB HB.out⟩⟩
 have c10b0 := decide_eq_false c10
 (try (have c10h0 := c10b0; simp only [hl6_1] at c10h0))
 clear c10
 replace H := zb H
 obtain ⟨t109, A20, H⟩ := H
 simp only [Option.some.injEq, Prod.mk.injEq] at H
 obtain ⟨rfl, rfl⟩ := H
 go_wp2_with (first | ((with_reducible refine gC 118 ?_); refine zG (some 48) Try.func118 #[.slice Ao9 x6_1.length co9] ?_; (with_reducible refine (nat_short.calls k1 (fun k_ => some k_ = (.slice Ao9 x6_1.length co9 : Value).ownBlock) _ _ x6_1 t109 _ ?side1 A20.out).mono ?_); (case side1 => exact Kd.R_V (Kd.R_tight rfl (HO_6.out))); rintro e w21 ⟨v110, rfl, ho0, hb⟩; refine ⟨_, rfl, ?_⟩; have HO111 := Aside0.mk (Kd.V_lower (Kd.V_mono (ok' := fun k_ => (w.heap.size ≤ k_)) ho0 (fun k_ hk_ => Or.elim hk_ (fun hs_ => ((HO_6.out).1 k_ hs_.symm)) (fun hn_ => (Nat.le_trans (below_size (zB HB.out)) hn_)))) (below_size (zB HB.out))); replace HO_6 := yRb HO_6 hb; replace HB := yS HB hb; (try clear hb ho0)))
 go_ret2
 exact ⟨_, zE, zV HO111.out, zB HB.out⟩
end Go.Proofs.Ytifkbghnmhineaa.PAll
