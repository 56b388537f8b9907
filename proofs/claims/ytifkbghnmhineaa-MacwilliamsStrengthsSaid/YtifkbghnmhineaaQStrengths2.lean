/- What functions of the program do and come to, for the statement MacwilliamsStrengths, part 2. Conditions: as each theorem says. -/
import Derived.Test.YtifkbghnmhineaaQStrengths1

namespace Go.Proofs.Ytifkbghnmhineaa.PAll
open Go.RowKit Go.Proofs.YtifkbghnmhineaaW.PrintWords Go.Proofs.YtifkbghnmhineaaW.PrintLast Go.Proofs.YtifkbghnmhineaaW.PrintMore
attribute [local go_sem] max2_int min2_int max_two min_two max_three min_three max_four min_four
set_option linter.unusedVariables false
set_option linter.unusedSimpArgs false
def mw_sums.T10 : Bool × List (List Nat × List Nat) := (true, [([], []), ([], []), ([], []), ([], []), ([2, 3], [2, 3]), ([4], [4]), ([], []), ([], []), ([], []), ([7, 8], [7, 8]), ([9], [9]), ([], []), ([10, 11], [10, 11]), ([12], [12]), ([6, 13], [6, 13]), ([5, 14, 14], [5, 14]), ([0, 1, 0, 1, 2, 3, 4, 5, 6, 7, 8, 9, 10, 11, 12, 13, 14, 15], [0, 1]), ([16, 15, 15, 0, 1, 2, 3, 4, 5, 6, 7, 8, 9, 10, 11, 12, 13, 14, 15], [15, 16])])
def mw_sums.B10 : List Nat := [0, 0, 0, 0, 12, 28, 0, 0, 0, 384, 896, 0, 3968, 8064, 16320, 32764, 65535, 131071]
theorem mw_sums.tab10 : rtab .any (opsOf Try.f104 10) = mw_sums.T10 := by kernel_rfl
theorem mw_sums.bits10 : waitsOk mw_sums.T10.2 mw_sums.B10 = true := by kernel_rfl
set_option maxHeartbeats 8000000 in
set_option maxRecDepth 100000 in
theorem mw_sums.calls (k : Nat) (a0 : Int) (A1 : Option Addr) (c1 : Nat) (l1 : List (S113)) (r : List (S113)) (w : World) (hr1 : Kd.C k113 w A1 l1.length l1) (hc1 : l1.length ≤ c1) (h : mw_sums.f k a0 l1 = some r) :
    Calls Try.prog 104 #[.int .i64 a0, .slice A1 l1.length c1] w fun e w' => ∃ v0_ : Value, e = .returned (v0_) ∧ Kd.N k113 113 w' w.heap.size (fun k_ => (w.heap.size ≤ k_)) v0_ r ∧ Below w.heap.size w w' := by
 have hu113 := Try.underlying113
 have HR1 := Aside0.mk hr1
 have HC1 := Aside0.mk hc1
 clear hr1 hc1
 have HB := Aside0.mk (Below.refl w.heap.size w)
 have H : ((mw_table.f k a0 (wrap64 ((l1.length : Int) - 1))).bind fun t101 => (if 0 ≤ (l1.length : Int) then (if ((l1.length : Int) : Int).toNat ≤ 8796093022208 then ((some (List.replicate ((l1.length : Int) : Int).toNat z113 : List (S113))).bind fun y104 => (mw_sums.l0 k l1 t101 y104 (y104.length : Int) 0)) else (none)) else (none))) = some r := h
 clear h
 replace H := zb H
 obtain ⟨t101, A3, H⟩ := H
 replace H := zg H
 obtain ⟨c4, H⟩ := H
 have c4b0 := eq_true c4
 have c4b1 := decide_eq_true c4
 clear c4
 replace H := zg H
 obtain ⟨c5, H⟩ := H
 have c5b0 := eq_true c5
 have c5b1 := decide_eq_true c5
 clear c5
 obtain ⟨y104, hy104⟩ : ∃ y_ : List (S113), y_ = (List.replicate ((l1.length : Int) : Int).toNat z113) := ⟨_, rfl⟩
 replace H : (mw_sums.l0 k l1 t101 y104 (y104.length : Int) 0) = some r := zY hy104 H
 have Ny104 := Aside0.mk hy104
 clear hy104
 have H' := Aside0.mk H
 clear H
 go_enter Try.func104, Try.ntmps104
 go_wp2_with (first | ((with_reducible refine gC 94 ?_); refine zG (some 14) Try.func94 #[.int .i64 a0, .int .i64 (wrap64 ((l1.length : Int) - 1))] ?_; (with_reducible refine (mw_table.calls k a0 (wrap64 ((l1.length : Int) - 1)) t101 _ A3.out).mono ?_); rintro e w6 ⟨v102, rfl, ho0, hb⟩; refine ⟨_, rfl, ?_⟩; have HO103 := Aside0.mk (Kd.N_lower (Kd.N_mono (ok' := fun k_ => (w.heap.size ≤ k_)) ho0 (fun k_ hk_ => (Nat.le_trans (below_size (zB HB.out)) hk_))) (below_size (zB HB.out))); replace HB := yS HB hb; (try clear hb ho0)) | ((with_reducible refine gate_dst (N := 17) rfl ?_); refine Kd.N_make k113 _ 113 rfl (N' := 17) rfl 114 _ _ rfl (l1.length : Int) rfl rfl Try.underlying114 (.agg #[(.bool false), (.slice none 0 0)]) 32 info113 rfl (by decide) (by omega) z113 (ok := fun k_ => w6.heap.size ≤ k_) (okp := fun _ => False) (k113_mkF _ _ z113 (Nat.le_refl _) (Kd.F_nil _ _ _)) (fun _ hk => hk.elim) (Nat.le_refl _) zd (Nat.le_trans (Nat.mul_le_mul_right _ (zd : (l1.length : Int).toNat ≤ 8796093022208)) (by omega)) (Below.refl _ _) (Nat.le_refl _) ?_; intro v105 w7 ho8 hb hg_ hnew_; clear hg_ hnew_; (first | rw [← Ny104.out] at ho8 | (simp only [Int.reduceToNat] at ho8; rw [← Ny104.out] at ho8)); have HO106 := Aside0.mk (Kd.N_lower (Kd.N_mono (ok' := fun k_ => (w.heap.size ≤ k_) ∧ some k_ ≠ (v102 : Value).ownBlock) ho8 (fun k_ hk_ => ⟨(Nat.le_trans (below_size (zB HB.out)) hk_), (Kd.fresh' (Kd.N_lt (zN HO103.out)) k_ hk_)⟩)) (below_size (zB HB.out))); replace HO103 := Aside0.mk (Kd.N_elder' (zN HO103.out) (Kd.N_base ho8) hb); replace HB := yS HB hb; clear hb ho8; obtain ⟨Ao9, co9, rfl⟩ := Kd.N_slice HO106.out))
 go_loopg [20] k (fun kq v20 w' => ∃ (x6_1 : List (S113)) (x20_1 : Int), v20 = .int .i64 x20_1 ∧ Aside0 (mw_sums.l0 kq l1 t101 x6_1 (y104.length : Int) x20_1 = some r) ∧ Aside0 (kq ≤ k) ∧ Aside0 (Kd.N (Kd.slice 113 k113) 114 w' w.heap.size (fun k_ => (w.heap.size ≤ k_) ∧ some k_ ≠ ((.slice Ao9 y104.length co9) : Value).ownBlock) v102 t101) ∧ Aside0 (Kd.N k113 113 w' w.heap.size (fun k_ => (w.heap.size ≤ k_) ∧ some k_ ≠ (v102 : Value).ownBlock) (.slice Ao9 y104.length co9) x6_1) ∧ Aside0 (Below w.heap.size w w'))
 case atStart => exact ⟨(y104), (0), zF, H', ⟨Nat.le_refl _⟩, ⟨zN HO103.out⟩, ⟨zN HO106.out⟩, ⟨zB HB.out⟩⟩
 clear H'
 (try clear c4);(try clear c4b0);(try clear c4b1);(try clear c5);(try clear c5b0);(try clear c5b1)
 obtain ⟨x6_1, x20_1, rfl, HA, HK1, HO_5, HO_6, HB⟩ := hrel
 have hl6_1 := (Kd.N_reads' HO_6.out).1
 rw [hl6_1] at HO_6
 (try simp only [hl6_1])
 (try simp only [hl6_1] at HO_5)
 cases gk with | zero => exact absurd HA.out (by simp [mw_sums.l0]) | succ k1 => ?_
 have H := HA.out
 clear HA
 simp only [mw_sums.l0] at H
 replace H := zi H
 rcases H with ⟨c10, H⟩ | ⟨c10, H⟩
 · have c10b0 := decide_eq_true c10
   (try (have c10h0 := c10b0; simp only [hl6_1] at c10h0))
   clear c10
   have H' := Aside0.mk H
   clear H
   go_wp2
   go_loopg [25] k1 (fun kq v25 w' => ∃ (x6_2 : List (S113)) (x25_2 : Int), v25 = .int .i64 x25_2 ∧ Aside0 (mw_sums.l1 kq l1 t101 x6_2 x20_1 (y104.length : Int) x20_1 l1 (l1.length : Int) x25_2 = some r) ∧ Aside0 (kq ≤ k1) ∧ Aside0 (Kd.N (Kd.slice 113 k113) 114 w' w.heap.size (fun k_ => (w.heap.size ≤ k_) ∧ some k_ ≠ ((.slice Ao9 x6_1.length co9) : Value).ownBlock) v102 t101) ∧ Aside0 (Kd.N k113 113 w' w.heap.size (fun k_ => (w.heap.size ≤ k_) ∧ some k_ ≠ (v102 : Value).ownBlock) (.slice Ao9 x6_1.length co9) x6_2) ∧ Aside0 (Below w.heap.size w w'))
   case atStart => exact ⟨(x6_1), (0), zF, H', ⟨Nat.le_refl _⟩, ⟨by (try simp only [hl6_1]); (with_reducible repeat (first | apply Kd.N_alloc | apply Kd.N_drewN | apply Kd.N_drew)); exact HO_5.out⟩, ⟨by (try simp only [hl6_1]); (with_reducible repeat (first | apply Kd.N_alloc | apply Kd.N_drewN | apply Kd.N_drew)); exact HO_6.out⟩, ⟨zB HB.out⟩⟩
   clear H'
   (try clear c4);(try clear c4b0);(try clear c4b1);(try clear c5);(try clear c5b0);(try clear c5b1);(try clear c10);(try clear c10b0)
   obtain ⟨x6_2, x25_2, rfl, HA, HK2, HO_5, HO_6, HB⟩ := hrel
   have hl6_2 := (Kd.N_reads' HO_6.out).1
   rw [hl6_2] at HO_6
   (try simp only [hl6_2])
   (try simp only [hl6_2] at HO_5)
   cases gk with | zero => exact absurd HA.out (by simp [mw_sums.l1]) | succ k2 => ?_
   have H := HA.out
   clear HA
   simp only [mw_sums.l1] at H
   replace H := zi H
   rcases H with ⟨c11, H⟩ | ⟨c11, H⟩
   · have c11b0 := decide_eq_true c11
     (try (have c11h0 := c11b0; simp only [hl6_1, hl6_2] at c11h0))
     clear c11
     replace H := zgd H
     obtain ⟨c12b0, H⟩ := H
     replace H := zg H
     obtain ⟨c13, H⟩ := H
     have c13b0 := decide_eq_true c13
     (try (have c13h0 := c13b0; simp only [hl6_1, hl6_2] at c13h0))
     clear c13
     replace H := zi H
     rcases H with ⟨c14, H⟩ | ⟨c14, H⟩
     · have c14b0 : decide (0 < (((rd_T113 l1 x25_2).f1).length : Int)) = true := decide_eq_true c14
       (try (have c14h0 := c14b0; simp only [hl6_1, hl6_2] at c14h0))
       have c14b1 : decide (0 < ((rd_T113 l1 x25_2).f1).length) = true := decide_eq_true (by omega)
       (try (have c14h1 := c14b1; simp only [hl6_1, hl6_2] at c14h1))
       clear c14
       replace H := zgd H
       obtain ⟨c15b0, H⟩ := H
       replace H := zg H
       obtain ⟨c16, H⟩ := H
       have c16b0 := decide_eq_true c16
       (try (have c16h0 := c16b0; simp only [hl6_1, hl6_2] at c16h0))
       clear c16
       replace H := zg H
       obtain ⟨c17, H⟩ := H
       have c17b0 := decide_eq_true c17
       (try (have c17h0 := c17b0; simp only [hl6_1, hl6_2] at c17h0))
       clear c17
       replace H := zg H
       obtain ⟨c18, H⟩ := H
       have c18b0 := decide_eq_true c18
       (try (have c18h0 := c18b0; simp only [hl6_1, hl6_2] at c18h0))
       clear c18
       replace H := zb H
       obtain ⟨⟨t112, t113⟩, A19, H⟩ := H
       dsimp only at H
       replace H := zb H
       obtain ⟨⟨t116, t117⟩, A20, H⟩ := H
       dsimp only at H
       obtain ⟨y120, hy120⟩ : ∃ y_ : List (S113), y_ = (x6_2.set (x20_1 : Int).toNat (⟨t116, t117⟩ : S113)) := ⟨_, rfl⟩
       replace H : (mw_sums.l1 k2 l1 t101 y120 x20_1 (y104.length : Int) x20_1 l1 (l1.length : Int) (wrap64 (x25_2 + 1))) = some r := zY hy120 H
       have Ny120 := Aside0.mk hy120
       clear hy120
       have H' := Aside0.mk H
       clear H
       have p107 : 0 ≤ (x25_2 : Int) := zd
       have q107 : x25_2 < (l1.length : Int) := zd
       obtain ⟨ad107, A107_1, c107_1, e107, hx107_0, hx107_1, hl107_1, hi107_1⟩ := at_T113 HR1.out x25_2 p107 q107
       cases e107
       replace hx107_0 := (HB.out.cell (World.block_lt_of_cell? w _ hx107_0)).trans hx107_0
       replace hx107_1 := (HB.out.cell (World.block_lt_of_cell? w _ hx107_1)).trans hx107_1
       have HR107_1 := Aside0.mk hi107_1
       have HC107_1 := Aside0.mk hl107_1
       clear hi107_1 hl107_1
       replace p107 := eq_true p107
       replace q107 := eq_true q107
       try go_wp2_with (first | ((with_reducible refine gate_dst (N := 9) rfl ?_); refine box_event ?hg (N := 9) ?hd (cs := #[.bool false, .slice none 0 0]) (t := 113) ?hr ?_; (case hd => rfl); (case hg => rfl); (case hr => first | (go_simp; done) | (go_simp; rfl)); intro gb108 hg w22 hbox hb; replace HO_5 := Aside0.mk (Kd.N_below (Kd.N_elderB (zN HO_5.out) gb108 (Nat.le_of_eq hg.symm)) hb); replace HO_6 := Aside0.mk (Kd.N_below (Kd.N_elderB (zN HO_6.out) gb108 (Nat.le_of_eq hg.symm)) hb); have BK108 := Aside0.mk (hbox); have GW108 := yg hg HB; have GE108 := yg hg HB; replace HB := yS HB hb; clear hb hbox hg; obtain ⟨hcz23_0, hcz23_1, hfz23_0, hfz23_1⟩ := zz2 BK108))
       have n0_ : Aside0 (Kd.N (Kd.slice 113 k113) 114 ((w22.setCell ⟨gb108, 0, none⟩ (.bool ((rd_T113 l1 x25_2).f0))).setCell ⟨gb108, 1, none⟩ (.slice A107_1 ((rd_T113 l1 x25_2).f1).length c107_1)) w.heap.size (fun k_ => (w.heap.size ≤ k_) ∧ some k_ ≠ (.slice Ao9 x6_2.length co9 : Value).ownBlock ∧ k_ ≠ gb108) v102 t101) := ⟨by (with_reducible repeat (first | apply Kd.N_alloc | apply Kd.N_drewN | apply Kd.N_drew)); exact Kd.N_mono (Kd.N_far (p := ⟨gb108, 1, none⟩) (Kd.N_far (p := ⟨gb108, 0, none⟩) (Kd.N_mono HO_5.out (fun k_ hk => (⟨hk, hk.2⟩ : _ ∧ k_ ≠ gb108))) (fun _ hk => hk.2) (.bool ((rd_T113 l1 x25_2).f0))) (fun _ hk => hk.2) (.slice A107_1 ((rd_T113 l1 x25_2).f1).length c107_1)) (fun _ hk => ⟨hk.1.1.1, ⟨hk.1.1.2, hk.1.2⟩⟩)⟩
       have n1_ : Aside0 (Kd.N k113 113 ((w22.setCell ⟨gb108, 0, none⟩ (.bool ((rd_T113 l1 x25_2).f0))).setCell ⟨gb108, 1, none⟩ (.slice A107_1 ((rd_T113 l1 x25_2).f1).length c107_1)) w.heap.size (fun k_ => (w.heap.size ≤ k_) ∧ some k_ ≠ (v102 : Value).ownBlock ∧ k_ ≠ gb108) (.slice Ao9 x6_2.length co9) x6_2) := ⟨by (with_reducible repeat (first | apply Kd.N_alloc | apply Kd.N_drewN | apply Kd.N_drew)); exact Kd.N_mono (Kd.N_far (p := ⟨gb108, 1, none⟩) (Kd.N_far (p := ⟨gb108, 0, none⟩) (Kd.N_mono HO_6.out (fun k_ hk => (⟨hk, hk.2⟩ : _ ∧ k_ ≠ gb108))) (fun _ hk => hk.2) (.bool ((rd_T113 l1 x25_2).f0))) (fun _ hk => hk.2) (.slice A107_1 ((rd_T113 l1 x25_2).f1).length c107_1)) (fun _ hk => ⟨hk.1.1.1, ⟨hk.1.1.2, hk.1.2⟩⟩)⟩
       have n2_ : Aside0 (((w22.setCell ⟨gb108, 0, none⟩ (.bool ((rd_T113 l1 x25_2).f0))).setCell ⟨gb108, 1, none⟩ (.slice A107_1 ((rd_T113 l1 x25_2).f1).length c107_1)).heap[gb108]? = some (.cells #[.bool ((rd_T113 l1 x25_2).f0), .slice A107_1 ((rd_T113 l1 x25_2).f1).length c107_1] 113 (0, 0))) := ⟨zP2 BK108.out⟩
       have n3_ : Aside0 (Below w.heap.size w ((w22.setCell ⟨gb108, 0, none⟩ (.bool ((rd_T113 l1 x25_2).f0))).setCell ⟨gb108, 1, none⟩ (.slice A107_1 ((rd_T113 l1 x25_2).f1).length c107_1))) := ⟨zB1 HB.out GE108.out⟩
       (try clear HO_5)
       (try clear HO_6)
       (try clear BK108)
       (try clear HB)
       generalize ((w22.setCell ⟨gb108, 0, none⟩ (.bool ((rd_T113 l1 x25_2).f0))).setCell ⟨gb108, 1, none⟩ (.slice A107_1 ((rd_T113 l1 x25_2).f1).length c107_1)) = w24 at n0_ n1_ n2_ n3_ ⊢
       have HO_5 := n0_
       have HO_6 := n1_
       have BK108 := n2_
       have HB := n3_
       clear n0_ n1_ n2_ n3_
       replace HO_5 := Aside0.mk (Kd.N_drew HO_5.out)
       replace HO_6 := Aside0.mk (Kd.N_drew HO_6.out)
       replace BK108 := Aside0.mk (blk_drew BK108.out)
       replace HB := Aside0.mk (below_drew1 HB.out)
       have p109 : 0 ≤ (x20_1 : Int) := zd
       have q109 : x20_1 < (x6_2.length : Int) := zd
       obtain ⟨ad109, A109_1, c109_1, e109, hx109_0, hx109_1, hl109_1, hi109_1⟩ := at_T113 (Kd.N_reads' HO_6.out).2.2 x20_1 p109 q109
       cases e109
       obtain ⟨ce109, hce109, hMe109, hcc109⟩ := Kd.N_get HO_6.out z113 x20_1 p109 (by first | exact q109 | exact zd | (have e_ := (Kd.N_reads' HO_6.out).1; omega))
       obtain ⟨ua109_1, uc109_1, rfl, ul109_1, ge109_1⟩ := k113_openF hMe109
       have hv109_1 := hcc109 1 _ rfl
       rw [add_field _ _ 1 (by omega)] at hv109_1
       replace hv109_1 := Option.some.inj (hv109_1.symm.trans hx109_1)
       injection hv109_1 with hva_ hvn_ hvc_
       rw [hva_] at ge109_1
       rw [hvc_] at ul109_1
       have HL109_1 := Aside0.mk (show Kd.V (Kd.int .u32) 97 _ w.heap.size _ _ ((rd_T113 x6_2 x20_1).f1) from Kd.V_mk ul109_1 ge109_1)
       clear hva_ hvn_ hvc_ ge109_1 ul109_1
       clear hcc109 hce109
       have HR109_1 := Aside0.mk hi109_1
       have HC109_1 := Aside0.mk hl109_1
       clear hi109_1 hl109_1
       replace p109 := eq_true p109
       replace q109 := eq_true q109
       obtain ⟨Ao26, co26, eo26⟩ := Kd.N_slice HO_5.out
       (first | subst eo26 | (injection eo26 with f1_ f2_ f3_; have f4_ := f1_.symm; have f5_ := f3_.symm; clear f1_ f2_ f3_; subst f4_; subst f5_))
       have p110 : 0 ≤ (x25_2 : Int) := zd
       have q110 : x25_2 < (t101.length : Int) := zd
       obtain ⟨ad110, A110_0, c110_0, e110, hx110_0, hl110_0, hi110_0⟩ := at_L6 (Kd.N_reads' HO_5.out).2.2 x25_2 p110 q110
       cases e110
       obtain ⟨ce110, hce110, hMe110, hcc110⟩ := Kd.N_get HO_5.out [] x25_2 p110 (by first | exact q110 | exact zd | (have e_ := (Kd.N_reads' HO_5.out).1; omega))
       obtain ⟨ua110_0, uc110_0, rfl, ul110_0, ge110_0⟩ := Kd.FK_slice_open hMe110
       have hv110_0 := hcc110 0 _ rfl
       rw [Nat.add_zero, show ((Kd.slice 113 k113)).sz = 1 from rfl, Nat.mul_one] at hv110_0
       replace hv110_0 := Option.some.inj (hv110_0.symm.trans hx110_0)
       injection hv110_0 with hva_ hvn_ hvc_
       rw [hva_] at ge110_0
       rw [hvc_] at ul110_0
       have HL110_0 := Aside0.mk (show Kd.V k113 113 _ w.heap.size _ _ (rd_L6 t101 x25_2) from Kd.V_mk ul110_0 ge110_0)
       clear hva_ hvn_ hvc_ ge110_0 ul110_0
       clear hcc110 hce110
       have HR110_0 := Aside0.mk hi110_0
       have HC110_0 := Aside0.mk hl110_0
       clear hi110_0 hl110_0
       replace p110 := eq_true p110
       replace q110 := eq_true q110
       have p111 : 0 ≤ (x20_1 : Int) := zd
       have q111 : x20_1 < ((rd_L6 t101 x25_2).length : Int) := zd
       obtain ⟨ad111, A111_1, c111_1, e111, hx111_0, hx111_1, hl111_1, hi111_1⟩ := at_T113 (zCr HR110_0.out) x20_1 p111 q111
       cases e111
       obtain ⟨ce111, hce111, hMe111, hcc111⟩ := Kd.V_get HL110_0.out z113 x20_1 p111 (by first | exact q111 | exact zd | (have e_ := (Kd.V_reads' HL110_0.out).1; omega))
       obtain ⟨ua111_1, uc111_1, rfl, ul111_1, ge111_1⟩ := k113_openF hMe111
       have hv111_1 := hcc111 1 _ rfl
       rw [add_field _ _ 1 (by omega)] at hv111_1
       replace hv111_1 := Option.some.inj (hv111_1.symm.trans hx111_1)
       injection hv111_1 with hva_ hvn_ hvc_
       rw [hva_] at ge111_1
       rw [hvc_] at ul111_1
       have HL111_1 := Aside0.mk (show Kd.V (Kd.int .u32) 97 _ w.heap.size _ _ ((rd_T113 (rd_L6 t101 x25_2) x20_1).f1) from Kd.V_mk ul111_1 ge111_1)
       clear hva_ hvn_ hvc_ ge111_1 ul111_1
       clear hcc111 hce111
       have HR111_1 := Aside0.mk hi111_1
       have HC111_1 := Aside0.mk hl111_1
       clear hi111_1 hl111_1
       replace p111 := eq_true p111
       replace q111 := eq_true q111
       refine start_ (n := 18) (S := fun w' => w'.cell? ⟨gb108, 0, none⟩ = some (.bool ((rd_T113 l1 x25_2).f0)) ∧ w'.cell? ⟨gb108, 1, none⟩ = some (.slice A107_1 ((rd_T113 l1 x25_2).f1).length c107_1) ∧ w'.cell? (ad109.add ((x20_1).toNat * 2)) = some (.bool ((rd_T113 x6_2 x20_1).f0)) ∧ w'.cell? ⟨(ad109.add ((x20_1).toNat * 2)).block, (ad109.add ((x20_1).toNat * 2)).off + 1, none⟩ = some (.slice A109_1 ((rd_T113 x6_2 x20_1).f1).length c109_1) ∧ w'.cell? (ad110.add (x25_2).toNat) = some (.slice (some ad111) (rd_L6 t101 x25_2).length c110_0) ∧ w'.cell? (ad111.add ((x20_1).toNat * 2)) = some (.bool ((rd_T113 (rd_L6 t101 x25_2) x20_1).f0)) ∧ w'.cell? ⟨(ad111.add ((x20_1).toNat * 2)).block, (ad111.add ((x20_1).toNat * 2)).off + 1, none⟩ = some (.slice A111_1 ((rd_T113 (rd_L6 t101 x25_2) x20_1).f1).length c111_1)) (ds := [17]) #[false, false, false, false, false, false, false, false, false, false, false, false, false, false, false, false, false, false] (by kernel_rfl) rfl rfl ⟨(blk_cell BK108.out 0).trans rfl, (blk_cell BK108.out 1).trans rfl, hx109_0, hx109_1, hx110_0, hx111_0, hx111_1⟩ (fun hHeld => ?_); refine with_tabW mw_sums.tab10 mw_sums.bits10 (fun HT_ HW_ => ?_)
       first | (generalize w24.drew = w25 at HO_5 HO_6 BK108 HB HL109_1 HL110_0 HL111_1 HR109_1 HR110_0 HR111_1 hx109_0 hx109_1 hx110_0 hx111_0 hx111_1 hHeld ⊢) | (generalize w24.drew = w25 at HO_5 HO_6 BK108 HB HL109_1 HL110_0 HL111_1 HR109_1 HR110_0 HR111_1 hx109_1 hx110_0 hx111_0 hx111_1 hHeld ⊢) | (generalize w24.drew = w25 at HO_5 HO_6 BK108 HB HL109_1 HL110_0 HL111_1 HR109_1 HR110_0 HR111_1 hx109_0 hx110_0 hx111_0 hx111_1 hHeld ⊢) | (generalize w24.drew = w25 at HO_5 HO_6 BK108 HB HL109_1 HL110_0 HL111_1 HR109_1 HR110_0 HR111_1 hx109_0 hx109_1 hx111_0 hx111_1 hHeld ⊢) | (generalize w24.drew = w25 at HO_5 HO_6 BK108 HB HL109_1 HL110_0 HL111_1 HR109_1 HR110_0 HR111_1 hx109_0 hx109_1 hx110_0 hx111_1 hHeld ⊢) | (generalize w24.drew = w25 at HO_5 HO_6 BK108 HB HL109_1 HL110_0 HL111_1 HR109_1 HR110_0 HR111_1 hx109_0 hx109_1 hx110_0 hx111_0 hHeld ⊢) | (generalize w24.drew = w25 at HO_5 HO_6 BK108 HB HL109_1 HL110_0 HL111_1 HR109_1 HR110_0 HR111_1 hx110_0 hx111_0 hx111_1 hHeld ⊢) | (generalize w24.drew = w25 at HO_5 HO_6 BK108 HB HL109_1 HL110_0 HL111_1 HR109_1 HR110_0 HR111_1 hx109_1 hx111_0 hx111_1 hHeld ⊢) | (generalize w24.drew = w25 at HO_5 HO_6 BK108 HB HL109_1 HL110_0 HL111_1 HR109_1 HR110_0 HR111_1 hx109_1 hx110_0 hx111_1 hHeld ⊢) | (generalize w24.drew = w25 at HO_5 HO_6 BK108 HB HL109_1 HL110_0 HL111_1 HR109_1 HR110_0 HR111_1 hx109_1 hx110_0 hx111_0 hHeld ⊢) | (generalize w24.drew = w25 at HO_5 HO_6 BK108 HB HL109_1 HL110_0 HL111_1 HR109_1 HR110_0 HR111_1 hx109_0 hx111_0 hx111_1 hHeld ⊢) | (generalize w24.drew = w25 at HO_5 HO_6 BK108 HB HL109_1 HL110_0 HL111_1 HR109_1 HR110_0 HR111_1 hx109_0 hx110_0 hx111_1 hHeld ⊢) | (generalize w24.drew = w25 at HO_5 HO_6 BK108 HB HL109_1 HL110_0 HL111_1 HR109_1 HR110_0 HR111_1 hx109_0 hx110_0 hx111_0 hHeld ⊢) | (generalize w24.drew = w25 at HO_5 HO_6 BK108 HB HL109_1 HL110_0 HL111_1 HR109_1 HR110_0 HR111_1 hx109_0 hx109_1 hx111_1 hHeld ⊢) | (generalize w24.drew = w25 at HO_5 HO_6 BK108 HB HL109_1 HL110_0 HL111_1 HR109_1 HR110_0 HR111_1 hx109_0 hx109_1 hx111_0 hHeld ⊢) | (generalize w24.drew = w25 at HO_5 HO_6 BK108 HB HL109_1 HL110_0 HL111_1 HR109_1 HR110_0 HR111_1 hx109_0 hx109_1 hx110_0 hHeld ⊢) | (generalize w24.drew = w25 at HO_5 HO_6 BK108 HB HL109_1 HL110_0 HL111_1 HR109_1 HR110_0 HR111_1 hx111_0 hx111_1 hHeld ⊢) | (generalize w24.drew = w25 at HO_5 HO_6 BK108 HB HL109_1 HL110_0 HL111_1 HR109_1 HR110_0 HR111_1 hx110_0 hx111_1 hHeld ⊢) | (generalize w24.drew = w25 at HO_5 HO_6 BK108 HB HL109_1 HL110_0 HL111_1 HR109_1 HR110_0 HR111_1 hx110_0 hx111_0 hHeld ⊢) | (generalize w24.drew = w25 at HO_5 HO_6 BK108 HB HL109_1 HL110_0 HL111_1 HR109_1 HR110_0 HR111_1 hx109_1 hx111_1 hHeld ⊢) | (generalize w24.drew = w25 at HO_5 HO_6 BK108 HB HL109_1 HL110_0 HL111_1 HR109_1 HR110_0 HR111_1 hx109_1 hx111_0 hHeld ⊢) | (generalize w24.drew = w25 at HO_5 HO_6 BK108 HB HL109_1 HL110_0 HL111_1 HR109_1 HR110_0 HR111_1 hx109_1 hx110_0 hHeld ⊢) | (generalize w24.drew = w25 at HO_5 HO_6 BK108 HB HL109_1 HL110_0 HL111_1 HR109_1 HR110_0 HR111_1 hx109_0 hx111_1 hHeld ⊢) | (generalize w24.drew = w25 at HO_5 HO_6 BK108 HB HL109_1 HL110_0 HL111_1 HR109_1 HR110_0 HR111_1 hx109_0 hx111_0 hHeld ⊢) | (generalize w24.drew = w25 at HO_5 HO_6 BK108 HB HL109_1 HL110_0 HL111_1 HR109_1 HR110_0 HR111_1 hx109_0 hx110_0 hHeld ⊢) | (generalize w24.drew = w25 at HO_5 HO_6 BK108 HB HL109_1 HL110_0 HL111_1 HR109_1 HR110_0 HR111_1 hx109_0 hx109_1 hHeld ⊢) | (generalize w24.drew = w25 at HO_5 HO_6 BK108 HB HL109_1 HL110_0 HL111_1 HR109_1 HR110_0 HR111_1 hx111_1 hHeld ⊢) | (generalize w24.drew = w25 at HO_5 HO_6 BK108 HB HL109_1 HL110_0 HL111_1 HR109_1 HR110_0 HR111_1 hx111_0 hHeld ⊢) | (generalize w24.drew = w25 at HO_5 HO_6 BK108 HB HL109_1 HL110_0 HL111_1 HR109_1 HR110_0 HR111_1 hx110_0 hHeld ⊢) | (generalize w24.drew = w25 at HO_5 HO_6 BK108 HB HL109_1 HL110_0 HL111_1 HR109_1 HR110_0 HR111_1 hx109_1 hHeld ⊢) | (generalize w24.drew = w25 at HO_5 HO_6 BK108 HB HL109_1 HL110_0 HL111_1 HR109_1 HR110_0 HR111_1 hx109_0 hHeld ⊢) | (generalize w24.drew = w25 at HO_5 HO_6 BK108 HB HL109_1 HL110_0 HL111_1 HR109_1 HR110_0 HR111_1 hHeld ⊢)
       refine zp (i := 0) (N := some 34) HT_ ?_
       refine zp (i := 1) (N := some 35) HT_ ?_
       refine zp (i := 2) (N := some 36) HT_ ?_
       refine zp (i := 3) (N := some 37) HT_ ?_
       refine zp (i := 4) (N := some 38) HT_ ?_
       refine zp (i := 7) (N := some 41) HT_ ?_
       refine zp (i := 8) (N := some 42) HT_ ?_
       refine zp (i := 9) (N := some 43) HT_ ?_
       refine zp (i := 11) (N := some 45) HT_ ?_
       refine take_ (i := 5) (N := some 39) (v := ?_) (a' := ?_) #[true, true, true, true, true, true, false, true, true, true, false, true, false, false, false, false, false, false] rfl rfl (take_ofW HT_.out HW_.out (by kernel_rfl)) (fun _ _ _ h => h) (Or.inl ⟨by rfl, ?_⟩) hHeld ?_ ?_
       rotate_left
       · rintro w' ⟨s0, s1, s2, s3, s4, s5, s6⟩
         go_simp
         with_reducible rfl
       rotate_left
       · simp only [Act.put, List.setIfInBounds_toArray, List.set_cons_zero, List.set_cons_succ, i64_w, i32_w]
         rfl
       refine take_ (i := 6) (N := some 40) (v := ?_) (a' := ?_) #[true, true, true, true, true, true, true, true, true, true, false, true, false, false, false, false, false, false] rfl rfl (take_ofW HT_.out HW_.out (by kernel_rfl)) (fun _ _ _ h => h) (Or.inl ⟨by rfl, ?_⟩) hHeld ?_ ?_
       rotate_left
       · rintro w' ⟨s0, s1, s2, s3, s4, s5, s6⟩
         go_simp
         with_reducible rfl
       rotate_left
       · simp only [Act.put, List.setIfInBounds_toArray, List.set_cons_zero, List.set_cons_succ, i64_w, i32_w]
         rfl
       refine take_ (i := 10) (N := some 44) (v := ?_) (a' := ?_) #[true, true, true, true, true, true, true, true, true, true, true, true, false, false, false, false, false, false] rfl rfl (take_ofW HT_.out HW_.out (by kernel_rfl)) (fun _ _ _ h => h) (Or.inl ⟨by rfl, ?_⟩) hHeld ?_ ?_
       rotate_left
       · rintro w' ⟨s0, s1, s2, s3, s4, s5, s6⟩
         go_simp
         with_reducible rfl
       rotate_left
       · simp only [Act.put, List.setIfInBounds_toArray, List.set_cons_zero, List.set_cons_succ, i64_w, i32_w]
         rfl
       refine zp (i := 12) (N := some 46) HT_ ?_
       refine take_ (i := 13) (N := some 47) (v := ?_) (a' := ?_) #[true, true, true, true, true, true, true, true, true, true, true, true, true, true, false, false, false, false] rfl rfl (take_ofW HT_.out HW_.out (by kernel_rfl)) (fun _ _ _ h => h) (Or.inl ⟨by rfl, ?_⟩) hHeld ?_ ?_
       rotate_left
       · rintro w' ⟨s0, s1, s2, s3, s4, s5, s6⟩
         go_simp
         with_reducible rfl
       rotate_left
       · simp only [Act.put, List.setIfInBounds_toArray, List.set_cons_zero, List.set_cons_succ, i64_w, i32_w]
         rfl
       refine one_ (i := 14) (N := some 48) #[true, true, true, true, true, true, true, true, true, true, true, true, true, true, true, false, false, false] rfl rfl (one_of HT_.out (by kernel_rfl)) (by decide) (fun K hK => ?_)
       refine goes_ Try.func126 (by kernel_rfl) rfl #[.agg #[.bool ((rd_T113 l1 x25_2).f0), .slice A107_1 ((rd_T113 l1 x25_2).f1).length c107_1], .agg #[.bool ((rd_T113 (rd_L6 t101 x25_2) x20_1).f0), .slice A111_1 ((rd_T113 (rd_L6 t101 x25_2) x20_1).f1).length c111_1]] (by rfl) rfl rfl (by (try simp only [List.map_toArray, List.map_cons, List.map_nil]); first | done | rfl | (simp only [List.length_drop, List.length_take]; rfl)) ?_
       with_reducible refine (mw_times.calls k2 ((rd_T113 l1 x25_2).f0) (fun k_ => k_ < w.heap.size) _ _ ((rd_T113 l1 x25_2).f1) ((rd_T113 (rd_L6 t101 x25_2) x20_1).f0) (fun k_ => (((w.heap.size ≤ k_) ∧ (some k_ ≠ (.slice (some ad109) x6_2.length co9 : Value).ownBlock ∧ k_ ≠ gb108)) ∧ some k_ ≠ (.slice (some ad110) t101.length co26 : Value).ownBlock)) _ _ ((rd_T113 (rd_L6 t101 x25_2) x20_1).f1) t112 t113 _ ?side1 ?side2 A19.out).mono ?_
       (case side1 => exact Kd.V_mk HC107_1.out (Kd.F_below (Kd.C_F (Kd.heap_int .u32) HR107_1.out) (zB1 HB.out GE108.out)))
       (case side2 => exact HL111_1.out)
       rintro e w27 ⟨v114, rfl, ho0, hb⟩
       have HS2_ := (hb.cell (World.block_lt_of_cell? _ _ (hHeld.2.2.1))).trans (hHeld.2.2.1)
       have HS3_ := (hb.cell (World.block_lt_of_cell? _ _ (hHeld.2.2.2.1))).trans (hHeld.2.2.2.1)
       have HS4_ := (hb.cell (World.block_lt_of_cell? _ _ (hHeld.2.2.2.2.1))).trans (hHeld.2.2.2.2.1)
       have HS5_ := (hb.cell (World.block_lt_of_cell? _ _ (hHeld.2.2.2.2.2.1))).trans (hHeld.2.2.2.2.2.1)
       have HS6_ := (hb.cell (World.block_lt_of_cell? _ _ (hHeld.2.2.2.2.2.2))).trans (hHeld.2.2.2.2.2.2)
       refine ⟨_, rfl, ?_⟩
       replace HO_5 := yNe HO_5 ho0 hb
       replace HO_6 := yNe HO_6 ho0 hb
       replace HL109_1 := yVe HL109_1 ho0 hb
       replace HL110_0 := yVe HL110_0 ho0 hb
       replace HL111_1 := yVe HL111_1 ho0 hb
       replace ho0 := Kd.R_newM (M := fun k_ => (w.heap.size ≤ k_)) (yt ho0) (below_size (zB1 HB.out GE108.out)) (fun k_ h_ => h_)
       have HO115 := yRl1 ho0 HB GE108
       replace BK108 := yK BK108 hb
       (try replace HR109_1 := yCb HR109_1 hb)
       (try replace HR110_0 := yCb HR110_0 hb)
       (try replace HR111_1 := yCb HR111_1 hb)
       replace HB := yS1 HB GE108 hb
       (try clear hb)
       (try clear ho0)
       obtain ⟨Ao28, co28, eo28⟩ := Kd.R_slice HO115.out
       (first | subst eo28 | (injection eo28 with f1_ f2_ f3_; have f4_ := f1_.symm; have f5_ := f3_.symm; clear f1_ f2_ f3_; subst f4_; subst f5_))
       refine hK.out _ _ ⟨(blk_cell BK108.out 0).trans rfl, (blk_cell BK108.out 1).trans rfl, HS2_, HS3_, HS4_, HS5_, HS6_⟩ (fun hHeld => ?_)
       clear hK K
       refine norm_ (a' := ?_) ?_ ?_
       rotate_left
       · show Act.put _ (some 48) _ = _
         simp only [Act.put, List.setIfInBounds_toArray, List.set_cons_zero, List.set_cons_succ, i64_w, i32_w]
         rfl
       refine one_ (i := 15) (N := some 49) #[true, true, true, true, true, true, true, true, true, true, true, true, true, true, true, true, false, false] rfl rfl (one_of HT_.out (by kernel_rfl)) (by decide) (fun K hK => ?_)
       refine goes_ Try.func128 (by kernel_rfl) rfl #[.agg #[.bool ((rd_T113 x6_2 x20_1).f0), .slice A109_1 ((rd_T113 x6_2 x20_1).f1).length c109_1], .agg #[.bool t112, .slice Ao28 t113.length co28]] (by rfl) rfl rfl (by (try simp only [List.map_toArray, List.map_cons, List.map_nil]); first | done | rfl | (simp only [List.length_drop, List.length_take]; rfl)) ?_
       with_reducible refine (mw_plus.calls k2 ((rd_T113 x6_2 x20_1).f0) (fun k_ => ((((w.heap.size ≤ k_) ∧ (some k_ ≠ (.slice (some ad110) t101.length co26 : Value).ownBlock ∧ k_ ≠ gb108)) ∧ some k_ ≠ (.slice (some ad109) x6_2.length co9 : Value).ownBlock) ∧ some k_ ≠ (.slice Ao28 t113.length co28 : Value).ownBlock)) _ _ ((rd_T113 x6_2 x20_1).f1) t112 (fun k_ => some k_ = (.slice Ao28 t113.length co28 : Value).ownBlock) _ _ t113 t116 t117 _ ?side1 ?side2 A20.out).mono ?_
       (case side1 => exact HL109_1.out)
       (case side2 => exact Kd.R_V (Kd.R_tight rfl (Kd.R_types (Kd.R_apart' (Kd.R_apart' (HO115.out) (Kd.N_typed HO_5.out) (by decide)) (Kd.N_typed HO_6.out) (by decide)) BK108.out (by decide))))
       rintro e w29 ⟨v118, rfl, ho0, hb⟩
       have HS2_ := (hb.cell (World.block_lt_of_cell? _ _ (hHeld.2.2.1))).trans (hHeld.2.2.1)
       have HS3_ := (hb.cell (World.block_lt_of_cell? _ _ (hHeld.2.2.2.1))).trans (hHeld.2.2.2.1)
       have HS4_ := (hb.cell (World.block_lt_of_cell? _ _ (hHeld.2.2.2.2.1))).trans (hHeld.2.2.2.2.1)
       have HS5_ := (hb.cell (World.block_lt_of_cell? _ _ (hHeld.2.2.2.2.2.1))).trans (hHeld.2.2.2.2.2.1)
       have HS6_ := (hb.cell (World.block_lt_of_cell? _ _ (hHeld.2.2.2.2.2.2))).trans (hHeld.2.2.2.2.2.2)
       refine ⟨_, rfl, ?_⟩
       replace HL109_1 := yVb HL109_1 hb
       replace HL110_0 := yVb HL110_0 hb
       replace HL111_1 := yVb HL111_1 hb
       have HO119 := Aside0.mk (Kd.V_lower (Kd.V_mono (ok' := fun k_ => (w.heap.size ≤ k_) ∧ some k_ ≠ (.slice (some ad110) t101.length co26 : Value).ownBlock ∧ some k_ ≠ (.slice (some ad109) x6_2.length co9 : Value).ownBlock ∧ k_ ≠ gb108) ho0 (fun k_ hk_ => ⟨Or.elim hk_ (fun hs_ => Or.elim hs_ (fun hs_ => hs_.1.1.1) (fun hs_ => ((Kd.R_types (Kd.R_apart' (Kd.R_apart' (HO115.out) (Kd.N_typed HO_5.out) (by decide)) (Kd.N_typed HO_6.out) (by decide)) BK108.out (by decide)).1 k_ hs_.symm).1.1.1.1)) (fun hn_ => (Nat.le_trans (below_size (zB1 HB.out GE108.out)) hn_)), Or.elim hk_ (fun hs_ => Or.elim hs_ (fun hs_ => hs_.1.1.2.1) (fun hs_ => ((Kd.R_types (Kd.R_apart' (Kd.R_apart' (HO115.out) (Kd.N_typed HO_5.out) (by decide)) (Kd.N_typed HO_6.out) (by decide)) BK108.out (by decide)).1 k_ hs_.symm).1.1.2)) (fun hn_ => (Kd.fresh' (Kd.N_lt (zN HO_5.out)) k_ hn_)), Or.elim hk_ (fun hs_ => Or.elim hs_ (fun hs_ => hs_.1.2) (fun hs_ => ((Kd.R_types (Kd.R_apart' (Kd.R_apart' (HO115.out) (Kd.N_typed HO_5.out) (by decide)) (Kd.N_typed HO_6.out) (by decide)) BK108.out (by decide)).1 k_ hs_.symm).1.2)) (fun hn_ => (Kd.fresh' (Kd.N_lt (zN HO_6.out)) k_ hn_)), Or.elim hk_ (fun hs_ => Or.elim hs_ (fun hs_ => hs_.1.1.2.2) (fun hs_ => ((Kd.R_types (Kd.R_apart' (Kd.R_apart' (HO115.out) (Kd.N_typed HO_5.out) (by decide)) (Kd.N_typed HO_6.out) (by decide)) BK108.out (by decide)).1 k_ hs_.symm).2)) (fun hn_ => (Kd.freshB (g := gb108) (o := .cells #[.bool ((rd_T113 l1 x25_2).f0), .slice A107_1 ((rd_T113 l1 x25_2).f1).length c107_1] 113 (0, 0)) (by (with_reducible repeat (first | refine blk_drewN ?_ _ | refine blk_drew ?_ | refine blk_alloc ?_ _)); exact BK108.out) k_ hn_))⟩)) (below_size (zB1 HB.out GE108.out)))
       replace HO_5 := yNb HO_5 hb
       replace HO_6 := yNb HO_6 hb
       replace HO115 := yRb HO115 hb
       replace BK108 := yK BK108 hb
       (try replace HR109_1 := yCb HR109_1 hb)
       (try replace HR110_0 := yCb HR110_0 hb)
       (try replace HR111_1 := yCb HR111_1 hb)
       replace HB := yS1 HB GE108 hb
       (try clear hb)
       (try clear ho0)
       have p21 : 0 ≤ (x20_1 : Int) := zd
       have q21 : (x20_1 : Int) < ((x6_2.length : Int) : Int) := zd
       obtain ⟨go21, co21, eo21, gb21, gl21, cl21, HG21⟩ := Kd.N_form HO_6.out (by omega)
       (first | cases eo21 | (injection eo21 with ea_ en_ ec_; (first | subst ea_ | (injection ea_ with ea_; subst ea_)); subst ec_; clear en_))
       have GB21 := Aside0.mk gb21
       have GG21 := Aside0.mk HG21
       clear gb21 gl21 HG21
       (first | simp only [add_plain] at hx109_0 | skip)
       (first | simp only [add_plain] at hx109_1 | skip)
       obtain ⟨ce21, hcl21, hM21, hcc21, hfr21⟩ := Kd.N_elem HO_6.out z113 (x20_1 : Int) p21 q21
       obtain ⟨ua21_1, uc21_1, rfl, ul21_1, ge21_1⟩ := k113_openF hM21
       have hx21_0 : World.cell? _ ⟨go21, (x20_1 : Int).toNat * 2, none⟩ = some (.bool ((rd_T113 x6_2 x20_1).f0)) := hcc21 0 _ rfl
       have hx21_1 : World.cell? _ ⟨go21, (x20_1 : Int).toNat * 2 + 1, none⟩ = some (.slice ua21_1 ((rd_T113 x6_2 x20_1).f1).length uc21_1) := hcc21 1 _ rfl
       have hf21_0 : World.frozen? _ ⟨go21, (x20_1 : Int).toNat * 2, none⟩ = false := hfr21 0
       have hf21_1 : World.frozen? _ ⟨go21, (x20_1 : Int).toNat * 2 + 1, none⟩ = false := hfr21 1
       clear hcl21 hcc21 hfr21 hM21
       replace p21 := eq_true p21
       replace q21 := eq_true q21
       obtain ⟨Ao31, co31, eo31⟩ := Kd.V_slice HO119.out
       (first | subst eo31 | (injection eo31 with f1_ f2_ f3_; have f4_ := f1_.symm; have f5_ := f3_.symm; clear f1_ f2_ f3_; subst f4_; subst f5_))
       have HX30 := Aside0.mk (show Kd.N k113 113 _ w.heap.size (fun k_ => (w.heap.size ≤ k_) ∧ some k_ ≠ (.slice (some ad110) t101.length co26 : Value).ownBlock ∧ some k_ ≠ (.slice Ao28 t113.length co28 : Value).ownBlock ∧ k_ ≠ gb108) (.slice (some ⟨go21, 0, none⟩) x6_2.length co9) x6_2 from (Kd.N_mono (HO_6.out) (fun k_ hk => ⟨hk.1.1, ⟨hk.1.2.1, ⟨hk.2, hk.1.2.2⟩⟩⟩)))
       replace HX30 := Aside0.mk (show Kd.N k113 113 _ w.heap.size (fun k_ => (w.heap.size ≤ k_) ∧ some k_ ≠ (.slice (some ad110) t101.length co26 : Value).ownBlock ∧ k_ ≠ gb108) (.slice (some ⟨go21, 0, none⟩) x6_2.length co9) x6_2 from Kd.N_mono HX30.out (fun k_ hk => ⟨hk.1, ⟨hk.2.1, hk.2.2.2⟩⟩))
       obtain ⟨ce30, hcl30, hM30, hcc30, hfr30⟩ := Kd.N_elem HX30.out z113 (x20_1 : Int) zd (by have h_ : (x20_1 : Int) < ((x6_2.length : Int) : Int) := zd; first | exact h_ | (have e_ := (Kd.N_reads' HO_6.out).1; omega) | simpa using h_)
       obtain ⟨ua30_1, uc30_1, rfl, ul30_1, ge30_1⟩ := k113_openF hM30
       have HP30 := (Kd.N_seg HX30.out (x20_1 : Int) zd (by have h_ : (x20_1 : Int) < ((x6_2.length : Int) : Int) := zd; first | exact h_ | (have e_ := (Kd.N_reads' HO_6.out).1; omega) | simpa using h_) (seg := [.bool t116, .slice Ao31 t117.length co31]) (j := 0) hcl30 hcc30 (show 2 ≤ 2 from by decide) (x' := (⟨t116, t117⟩ : S113)) (k113_mkF _ _ (⟨t116, t117⟩ : S113) (Kd.V_reads' (Kd.V_mono (ok' := (fun k_ => ((fun k_ => (w.heap.size ≤ k_) ∧ some k_ ≠ (.slice (some ad110) t101.length co26 : Value).ownBlock ∧ k_ ≠ gb108)) k_ ∧ k_ ≠ go21)) (HO119.out) (fun k_ hk => by exact ⟨⟨hk.1, ⟨hk.2.1, hk.2.2.2⟩⟩, fun e_ => (hk.2.2.1) (by rw [e_]; rfl)⟩))).2.1 (Kd.V_F (Kd.V_mono (ok' := (fun k_ => ((fun k_ => (w.heap.size ≤ k_) ∧ some k_ ≠ (.slice (some ad110) t101.length co26 : Value).ownBlock ∧ k_ ≠ gb108)) k_ ∧ k_ ≠ go21)) (HO119.out) (fun k_ hk => by exact ⟨⟨hk.1, ⟨hk.2.1, hk.2.2.2⟩⟩, fun e_ => (hk.2.2.1) (by rw [e_]; rfl)⟩)))) (fun _ hk => hk)).1
       rw [← Ny120.out] at HP30
       have HQ30 := Aside0.mk HP30
       clear hcl30 hcc30 hfr30 hM30 HP30
       refine hK.out _ _ ⟨(blk_cell BK108.out 0).trans rfl, (blk_cell BK108.out 1).trans rfl, HS2_, HS3_, HS4_, HS5_, HS6_⟩ (fun hHeld => ?_)
       clear hK K
       refine norm_ (a' := ?_) ?_ ?_
       rotate_left
       · show Act.put _ (some 49) _ = _
         simp only [Act.put, List.setIfInBounds_toArray, List.set_cons_zero, List.set_cons_succ, i64_w, i32_w]
         rfl
       refine zp (i := 16) (N := some 50) HT_ ?_
       refine last_ (i := 17) (N := none) #[true, true, true, true, true, true, true, true, true, true, true, true, true, true, true, true, true, true] rfl rfl (one_of HT_.out (by kernel_rfl)) (by decide) (fun K hK => ?_)
       refine skip_ (w1 := ?_) (by rfl) rfl ?_ ?_
       rotate_left
       · go_simp
         rfl
       refine hK.out _ _ ?_
       clear hK K
       refine done_ (done_of HT_.out (by kernel_rfl)) ?_
       try go_wp2
       (try simp only [← hl6_2])
       go_roundg k2
       case measure => have := HK1.out; have := HK2.out; omega
       case rel => exact ⟨(y120), (wrap64 (x25_2 + 1)), zF, H', ⟨zo2 HK1 HK2⟩, ⟨by (try simp only [hl6_1]); (try simp only [hl6_2]); (with_reducible repeat (first | apply Kd.N_alloc | apply Kd.N_drewN | apply Kd.N_drew)); exact Kd.N_mono (Kd.N_far (p := ⟨go21, (x20_1 : Int).toNat * 2 + 1, none⟩) (Kd.N_far (p := ⟨go21, (x20_1 : Int).toNat * 2, none⟩) (Kd.N_mono HO_5.out (fun k_ hk => (⟨hk, fun e_ => hk.1.2.1 (by rw [e_]; rfl)⟩ : _ ∧ k_ ≠ go21))) (fun _ hk => hk.2) (.bool t116)) (fun _ hk => hk.2) (.slice Ao31 t117.length co31)) (fun _ hk => ⟨hk.1.1.1, hk.1.1.2.1⟩)⟩, ⟨by (try simp only [hl6_1]); (try simp only [hl6_2]); (with_reducible repeat (first | apply Kd.N_alloc | apply Kd.N_drewN | apply Kd.N_drew)); exact Kd.N_mono HQ30.out (fun _ hk => ⟨hk.1, hk.2.1⟩)⟩, ⟨zB3 HB.out GB21.out GB21.out GE108.out⟩⟩
     have c14b0 : decide (0 < (((rd_T113 l1 x25_2).f1).length : Int)) = false := decide_eq_false c14
     (try (have c14h0 := c14b0; simp only [hl6_1, hl6_2] at c14h0))
     have c14b1 : decide (0 < ((rd_T113 l1 x25_2).f1).length) = false := decide_eq_false (by omega)
     (try (have c14h1 := c14b1; simp only [hl6_1, hl6_2] at c14h1))
     clear c14
     have H' := Aside0.mk H
     clear H
     have p107 : 0 ≤ (x25_2 : Int) := zd
     have q107 : x25_2 < (l1.length : Int) := zd
     obtain ⟨ad107, A107_1, c107_1, e107, hx107_0, hx107_1, hl107_1, hi107_1⟩ := at_T113 HR1.out x25_2 p107 q107
     cases e107
     replace hx107_0 := (HB.out.cell (World.block_lt_of_cell? w _ hx107_0)).trans hx107_0
     replace hx107_1 := (HB.out.cell (World.block_lt_of_cell? w _ hx107_1)).trans hx107_1
     have HR107_1 := Aside0.mk hi107_1
     have HC107_1 := Aside0.mk hl107_1
     clear hi107_1 hl107_1
     replace p107 := eq_true p107
     replace q107 := eq_true q107
     go_wp2_with (first | ((with_reducible refine gate_dst (N := 9) rfl ?_); refine box_event ?hg (N := 9) ?hd (cs := #[.bool false, .slice none 0 0]) (t := 113) ?hr ?_; (case hd => rfl); (case hg => rfl); (case hr => first | (go_simp; done) | (go_simp; rfl)); intro gb108 hg w32 hbox hb; replace HO_5 := Aside0.mk (Kd.N_below (Kd.N_elderB (zN HO_5.out) gb108 (Nat.le_of_eq hg.symm)) hb); replace HO_6 := Aside0.mk (Kd.N_below (Kd.N_elderB (zN HO_6.out) gb108 (Nat.le_of_eq hg.symm)) hb); have BK108 := Aside0.mk (hbox); have GW108 := yg hg HB; have GE108 := yg hg HB; replace HB := yS HB hb; clear hb hbox hg; obtain ⟨hcz33_0, hcz33_1, hfz33_0, hfz33_1⟩ := zz2 BK108))
     (try simp only [← hl6_2])
     go_roundg k2
     case measure => have := HK1.out; have := HK2.out; omega
     case rel => exact ⟨(x6_2), (wrap64 (x25_2 + 1)), zF, H', ⟨zo2 HK1 HK2⟩, ⟨by (try simp only [hl6_1]); (try simp only [hl6_2]); (with_reducible repeat (first | apply Kd.N_alloc | apply Kd.N_drewN | apply Kd.N_drew)); exact Kd.N_mono (Kd.N_far (p := ⟨gb108, 1, none⟩) (Kd.N_far (p := ⟨gb108, 0, none⟩) (Kd.N_mono HO_5.out (fun k_ hk => (⟨hk, hk.2⟩ : _ ∧ k_ ≠ gb108))) (fun _ hk => hk.2) (.bool ((rd_T113 l1 x25_2).f0))) (fun _ hk => hk.2) (.slice A107_1 ((rd_T113 l1 x25_2).f1).length c107_1)) (fun _ hk => ⟨hk.1.1.1, hk.1.1.2⟩)⟩, ⟨by (try simp only [hl6_1]); (try simp only [hl6_2]); (with_reducible repeat (first | apply Kd.N_alloc | apply Kd.N_drewN | apply Kd.N_drew)); exact Kd.N_mono (Kd.N_far (p := ⟨gb108, 1, none⟩) (Kd.N_far (p := ⟨gb108, 0, none⟩) (Kd.N_mono HO_6.out (fun k_ hk => (⟨hk, hk.2⟩ : _ ∧ k_ ≠ gb108))) (fun _ hk => hk.2) (.bool ((rd_T113 l1 x25_2).f0))) (fun _ hk => hk.2) (.slice A107_1 ((rd_T113 l1 x25_2).f1).length c107_1)) (fun _ hk => ⟨hk.1.1.1, hk.1.1.2⟩)⟩, ⟨zB1 HB.out GE108.out⟩⟩
   have c11b0 := decide_eq_false c11
   (try (have c11h0 := c11b0; simp only [hl6_1, hl6_2] at c11h0))
   clear c11
   have H' := Aside0.mk H
   clear H
   go_wp2
   (try simp only [← hl6_1, ← hl6_2])
   go_roundg k2
   case measure => have := HK1.out; have := HK2.out; omega
   case rel => exact ⟨(x6_2), (wrap64 (x20_1 + 1)), zF, H', ⟨zo2 HK1 HK2⟩, ⟨by (try simp only [hl6_1]); (try simp only [hl6_2]); (with_reducible repeat (first | apply Kd.N_alloc | apply Kd.N_drewN | apply Kd.N_drew)); exact HO_5.out⟩, ⟨by (try simp only [hl6_1]); (try simp only [hl6_2]); (with_reducible repeat (first | apply Kd.N_alloc | apply Kd.N_drewN | apply Kd.N_drew)); exact HO_6.out⟩, ⟨zB HB.out⟩⟩
 have c10b0 := decide_eq_false c10
 (try (have c10h0 := c10b0; simp only [hl6_1] at c10h0))
 clear c10
 obtain rfl := Option.some.inj H
 go_wp2
 go_ret
 exact ⟨_, zE, by (with_reducible repeat (first | apply Kd.N_alloc | apply Kd.N_drewN | apply Kd.N_drew)); exact Kd.N_mono HO_6.out (fun _ hk => hk.1), zB HB.out⟩
end Go.Proofs.Ytifkbghnmhineaa.PAll
section
set_option linter.unusedVariables false
set_option linter.unusedSimpArgs false
namespace Go.Proofs.Ytifkbghnmhineaa.PAll
open Go Go.RowKit Go.Proofs.YtifkbghnmhineaaW.PrintWords Go.Proofs.YtifkbghnmhineaaW.PrintLast Go.Proofs.YtifkbghnmhineaaW.PrintMore
def Wn (g cap : Nat) (pre post : List Int) (w : World) (base : Nat) (ok : Nat → Prop) (v : Value) (xs : List Int) : Prop :=
  (∃ c, v = .slice (some ⟨g, pre.length, none⟩) xs.length c ∧ xs.length ≤ c) ∧ (Kd.int .u32).R 97 w base ok (.slice (some ⟨g, 0, none⟩) (pre ++ (xs ++ post)).length cap) (pre ++ (xs ++ post))
section
variable {g cap : Nat} {pre post : List Int} {w w1 : World} {base : Nat} {ok ok' : Nat → Prop} {v : Value} {xs : List Int}
theorem Wn.alloc (h : Wn g cap pre post w base ok v xs) (o : Obj) : Wn g cap pre post (w.alloc o) base ok v xs := ⟨h.1, Kd.R_alloc h.2 o⟩
theorem Wn.drewN (h : Wn g cap pre post w base ok v xs) (m : Nat) : Wn g cap pre post (w.drewN m) base ok v xs := ⟨h.1, Kd.R_drewN h.2 m⟩
theorem Wn.drew (h : Wn g cap pre post w base ok v xs) : Wn g cap pre post w.drew base ok v xs := ⟨h.1, Kd.R_drew h.2⟩
theorem Wn.at_ {m : Nat} (hq : w.drewN m = w1) (h : Wn g cap pre post w base ok v xs) : Wn g cap pre post w1 base ok v xs := by subst hq; exact h.drewN m
theorem Wn.mono (h : Wn g cap pre post w base ok v xs) (hok : ∀ k, ok k → ok' k) : Wn g cap pre post w base ok' v xs := ⟨h.1, Kd.R_mono h.2 hok⟩
theorem Wn.own (h : Wn g cap pre post w base ok v xs) : ∀ k, v.ownBlock = some k → ok k := by
  obtain ⟨⟨c, rfl, _⟩, hr⟩ := h
  exact fun k hk => hr.1 k hk
theorem Wn.slice (h : Wn g cap pre post w base ok v xs) : ∃ A c, v = .slice A xs.length c := by
  obtain ⟨⟨c, e, _⟩, _⟩ := h
  exact ⟨_, c, e⟩
theorem Wn.reads' {A : Option Addr} {n c : Nat} (h : Wn g cap pre post w base ok (.slice A n c) xs) : n = xs.length ∧ n ≤ c ∧ (Kd.int .u32).C w A xs.length xs := by
  obtain ⟨⟨c', e, hc⟩, hr⟩ := h
  injection e with e1 e2 e3
  subst e1 e2 e3
  refine ⟨rfl, hc, ?_⟩
  have hC := (Kd.R_reads' hr).2.2
  have hl : (pre ++ (xs ++ post)).length = pre.length + (xs.length + post.length) := by simp
  have := Kd.C_mid (lo := pre.length) (hi := pre.length + xs.length) (c := (pre ++ (xs ++ post)).length + 1) hC (by omega) (by omega) (by omega)
  rw [if_neg (by omega)] at this
  have hx : ((pre ++ (xs ++ post)).take (pre.length + xs.length)).drop pre.length = xs := by
    rw [List.take_append, List.take_of_length_le (by omega), Nat.add_sub_cancel_left, List.take_append, List.take_of_length_le (Nat.le_refl _), Nat.sub_self, List.take_zero, List.append_nil, List.drop_left]
  rw [hx] at this
  have ha : ((some (⟨g, 0, none⟩ : Addr)).map (·.add (pre.length * (Kd.int .u32).sz))) = some ⟨g, pre.length, none⟩ := by
    show some ((⟨g, 0, none⟩ : Addr).add (pre.length * 1)) = _
    simp [Addr.add]
    intro e; simp [e]
  rw [ha] at this
  exact this
theorem Wn.form (h : Wn g cap pre post w base ok v xs) (hp : 0 < xs.length) : ∃ c, v = .slice (some ⟨g, pre.length, none⟩) xs.length c ∧ base ≤ g ∧ g < w.heap.size ∧ ∃ cells, w.heap[g]? = some (.cells cells 97 (0, 0)) := by
  obtain ⟨⟨c, e, _⟩, hr⟩ := h
  obtain ⟨g', cap', e', hb, hl, hc⟩ := Kd.R_form hr (by simp; omega)
  injection e' with e1
  injection e1 with e1
  injection e1 with e1
  subst e1
  exact ⟨c, e, hb, hl, hc⟩
theorem rd_mid (pre xs post : List Int) (i : Int) (h0 : 0 ≤ i) (h1 : i < xs.length) : rd (pre ++ (xs ++ post)) ((pre.length : Int) + i) = rd xs i := by
  unfold rd
  rw [show ((pre.length : Int) + i).toNat = pre.length + i.toNat by omega]
  rw [List.getD_eq_getElem?_getD, List.getD_eq_getElem?_getD, List.getElem?_append_right (by omega), Nat.add_sub_cancel_left, List.getElem?_append_left (by omega)]
theorem Wn.celln {A : Option Addr} {n c : Nat} (h : Wn g cap pre post w base ok (.slice A n c) xs) (i : Int) (h0 : 0 ≤ i) (hi : i < n) : w.cell? ⟨g, pre.length + i.toNat, none⟩ = some (.int .u32 (rd xs i)) ∧ w.frozen? ⟨g, pre.length + i.toNat, none⟩ = false := by
  have hn := h.reads'.1
  have := Kd.R_celln 0 h.2 ((pre.length : Int) + i) (by omega) (by simp; omega)
  rw [show ((pre.length : Int) + i).toNat = pre.length + i.toNat by omega] at this
  rw [show rdOf (0 : Int) (pre ++ (xs ++ post)) ((pre.length : Int) + i) = rd xs i from rd_mid pre xs post i h0 (by omega)] at this
  exact this
theorem Wn.putg {A : Option Addr} {n c : Nat} (h : Wn g cap pre post w base ok (.slice A n c) xs) (i : Int) (h0 : 0 ≤ i) (hi : i < n) (x : Int) : Wn g cap pre post (w.setCell ⟨g, pre.length + i.toNat, none⟩ (.int .u32 x)) base ok (.slice A n c) (xs.set i.toNat x) ∧ w.grownBy (w.setCell ⟨g, pre.length + i.toNat, none⟩ (.int .u32 x)) (some g) := by
  have hn := h.reads'.1
  have := Kd.R_putg h.2 ((pre.length : Int) + i) x
  rw [show ((pre.length : Int) + i).toNat = pre.length + i.toNat by omega] at this
  have e : (pre ++ (xs ++ post)).set (pre.length + i.toNat) x = pre ++ (xs.set i.toNat x ++ post) := by
    rw [List.set_append_right _ _ (by omega), Nat.add_sub_cancel_left, List.set_append_left _ _ (by omega)]
  rw [e] at this
  refine ⟨⟨?_, ?_⟩, this.2⟩
  · obtain ⟨⟨c', e, hc⟩, _⟩ := h
    exact ⟨c', by rw [List.length_set]; exact e, by rw [List.length_set]; exact hc⟩
  · have hl : (pre ++ (xs.set i.toNat x ++ post)).length = (pre ++ (xs ++ post)).length := by simp
    rw [hl]
    exact this.1
end
theorem add_at (g o n : Nat) : (⟨g, o, none⟩ : Addr).add n = ⟨g, o + n, none⟩ := by
  unfold Addr.add
  split
  · rename_i h; rw [h]; rfl
  · rfl
theorem Wn.make {w : World} {base g lo hi n co c : Nat} {ok : Nat → Prop} {Ao A : Option Addr} {x y : List Int} (hR : (Kd.int .u32).R 97 w base ok (.slice Ao n co) x) (hA : Ao = some ⟨g, 0, none⟩) (hA2 : A = if co = lo then Ao else Ao.map (·.add (lo * 1))) (hc : y.length ≤ c) (hy : y = (x.take hi).drop lo) (h1 : lo ≤ hi) (h2 : hi ≤ x.length) (hp : 0 < y.length) :
    Wn g co (x.take lo) (x.drop hi) w base ok (.slice A y.length c) y := by
  obtain ⟨hn, hco, _⟩ := Kd.R_reads' hR
  have hl : y.length = hi - lo := by rw [hy, List.length_drop, List.length_take]; omega
  have e : x.take lo ++ (y ++ x.drop hi) = x := by
    rw [hy]
    have h3 : (x.take hi).take lo = x.take lo := by rw [List.take_take, Nat.min_eq_left h1]
    rw [← List.append_assoc, ← h3, List.take_append_drop, List.take_append_drop]
  refine ⟨⟨c, ?_, hc⟩, ?_⟩
  · rw [hA2, if_neg (by omega), hA]
    congr 1
    rw [List.length_take, Nat.min_eq_left (by omega)]
    simp [Addr.add]
    intro e; simp [e]
  · rw [e, ← hn, ← hA]; exact hR
theorem Wn.back {g co n base : Nat} {pre post r : List Int} {w : World} {ok : Nat → Prop} {v : Value} {Ao : Option Addr} (h : Wn g co pre post w base ok v r) (hA : Ao = some ⟨g, 0, none⟩) (hn : n = (pre ++ (r ++ post)).length) : (Kd.int .u32).R 97 w base ok (.slice Ao n co) (pre ++ (r ++ post)) := by
  subst hA hn; exact h.2
theorem zW {P Q : Prop} (h : P) (f : P → Q := by intro h; (with_reducible repeat (first | apply Wn.alloc | apply Wn.drewN | apply Wn.drew)); exact h) : Q := f h
end Go.Proofs.Ytifkbghnmhineaa.PAll
end
namespace Go.Proofs.Ytifkbghnmhineaa.PAll
open Go.RowKit Go.Proofs.YtifkbghnmhineaaW.PrintWords Go.Proofs.YtifkbghnmhineaaW.PrintLast Go.Proofs.YtifkbghnmhineaaW.PrintMore
attribute [local go_sem] max2_int min2_int max_two min_two max_three min_three max_four min_four
set_option linter.unusedVariables false
set_option linter.unusedSimpArgs false
set_option maxHeartbeats 8000000 in
set_option maxRecDepth 100000 in
theorem bits_LeadingZeros32.calls (a0 : Int) (r : Int) (w : World) (h : bits_LeadingZeros32.f a0 = some r) :
    Calls Try.prog 138 #[.int .u32 a0] w fun e w' => e = .returned (.int .i64 r) ∧ Drawn0 w w' := by
 have H : ((bits_Len32.f a0).bind fun t101 => (some (wrap64 (32 - t101)))) = some r := h
 clear h
 replace H := zb H
 obtain ⟨t101, A2, H⟩ := H
 obtain rfl := Option.some.inj H
 go_enter Try.func138, Try.ntmps138
 go_wp2_with (first | ((with_reducible refine gC 121 ?_); refine zG (some 4) Try.func121 #[.int .u32 a0] ?_; (with_reducible refine (bits_Len32.calls a0 t101 _ A2.out).mono ?_); rintro e w' ⟨rfl, ⟨nd, rfl⟩⟩; refine ⟨_, rfl, ?_⟩))
 go_ret
 exact ⟨zF, by repeat (first | exact Drawn0.refl _ | apply Drawn0.step)⟩
set_option maxHeartbeats 8000000 in
set_option maxRecDepth 100000 in
theorem nat_shift.calls (k : Nat) (A0 : Option Addr) (c0 : Nat) (l0 : List Int) (a1 : Int) (r : List Int) (w : World) (hr0 : Kd.C (Kd.int .u32) w A0 l0.length l0) (hc0 : l0.length ≤ c0) (h : nat_shift.f k l0 a1 = some r) :
    Calls Try.prog 139 #[.slice A0 l0.length c0, .int .i64 a1] w fun e w' => ∃ v0_ : Value, e = .returned (v0_) ∧ Kd.R (Kd.int .u32) 97 w' w.heap.size (fun _ => True) v0_ r ∧ Below w.heap.size w w' := by
 have HR0 := Aside0.mk hr0
 have HC0 := Aside0.mk hc0
 clear hr0 hc0
 have HB := Aside0.mk (Below.refl w.heap.size w)
 have H : (if 0 ≤ (wrap64 ((l0.length : Int) + 1)) then (if (wrap64 ((l0.length : Int) + 1) : Int).toNat ≤ 70368744177664 then (nat_shift.l0 k l0 a1 (List.replicate (wrap64 ((l0.length : Int) + 1) : Int).toNat 0) 0 l0 (l0.length : Int) 0) else (none)) else (none)) = some r := h
 clear h
 obtain ⟨ji3, hji3⟩ : ∃ j_ : Int, (wrap64 ((l0.length : Int) + 1)) = j_ := ⟨_, rfl⟩
 replace H : (if 0 ≤ (ji3) then (if (ji3 : Int).toNat ≤ 70368744177664 then (nat_shift.l0 k l0 a1 (List.replicate (ji3 : Int).toNat 0) 0 l0 (l0.length : Int) 0) else (none)) else (none)) = some r := by first | (rw [hji3] at H; exact H) | (simp only [hji3] at H ⊢; exact H)
 have hji3w : (IntKind.i64.wrap ((l0.length : Int) + 1)) = ji3 := (i64_w _).trans hji3
 replace H := zg H
 obtain ⟨c4, H⟩ := H
 have c4b0 := eq_true c4
 have c4b1 := decide_eq_true c4
 clear c4
 replace H := zg H
 obtain ⟨c5, H⟩ := H
 have c5b0 := eq_true c5
 have c5b1 := decide_eq_true c5
 clear c5
 obtain ⟨y101, hy101⟩ : ∃ y_ : List Int, y_ = (List.replicate (ji3 : Int).toNat 0) := ⟨_, rfl⟩
 replace H : (nat_shift.l0 k l0 a1 y101 0 l0 (l0.length : Int) 0) = some r := zY hy101 H
 have Ny101 := Aside0.mk hy101
 clear hy101
 have H' := Aside0.mk H
 clear H
 go_enter Try.func139, Try.ntmps139
 go_wp2_with (first | ((with_reducible refine gate_dst (N := 13) rfl ?_); refine Kd.R_make (Kd.int .u32) _ 97 rfl (N := 13) rfl 29 _ _ rfl ji3 rfl rfl Try.underlying29 (.int .u32 0) 4 info97 rfl (by decide) (by omega) 0 (ok := fun _ => True) (okp := fun _ => True) rfl (fun _ hk => hk) trivial zd (Nat.le_trans (Nat.mul_le_mul_right _ (zd : ji3.toNat ≤ 70368744177664)) (by omega)) (Below.refl _ _) (Nat.le_refl _) ?_; intro v102 w6 ho7 hb hg_ hnew_; clear hg_ hnew_; (first | rw [← Ny101.out] at ho7 | (simp only [Int.reduceToNat] at ho7; rw [← Ny101.out] at ho7)); have HO103 := yRl ho7 HB; replace HB := yS HB hb; clear hb ho7))
 go_loopg [6, 16] k (fun kq v6 v16 w' => ∃ (x5_1 : List Int) (x6_1 : Int) (x16_1 : Int), v6 = .int .u64 x6_1 ∧ v16 = .int .i64 x16_1 ∧ Aside0 (nat_shift.l0 kq l0 a1 x5_1 x6_1 l0 (l0.length : Int) x16_1 = some r) ∧ Aside0 (kq ≤ k) ∧ Aside0 (Kd.R (Kd.int .u32) 97 w' w.heap.size (fun _ => True) v102 x5_1) ∧ Aside0 (Below w.heap.size w w'))
 case atStart => exact ⟨(y101), (0), (0), zF, zF, H', ⟨Nat.le_refl _⟩, ⟨zR HO103.out⟩, ⟨zB HB.out⟩⟩
 clear H'
 (try clear c4);(try clear c4b0);(try clear c4b1);(try clear c5);(try clear c5b0);(try clear c5b1)
 obtain ⟨x5_1, x6_1, x16_1, rfl, rfl, HA, HK1, HO_5, HB⟩ := hrel
 cases gk with | zero => exact absurd HA.out (by simp [nat_shift.l0]) | succ k1 => ?_
 have H := HA.out
 clear HA
 simp only [nat_shift.l0] at H
 replace H := zid H
 rcases H with ⟨c8b0, H⟩ | ⟨c8b0, H⟩
 · replace H := zgd H
   obtain ⟨c9b0, H⟩ := H
   replace H := zgd H
   obtain ⟨c10b0, H⟩ := H
   replace H := zg H
   obtain ⟨c11, H⟩ := H
   have c11b0 := eq_true c11
   have c11b1 := decide_eq_true c11
   clear c11
   obtain ⟨ji12, hji12⟩ : ∃ j_ : Int, (shl .u64 (IntKind.u64.wrap (rd l0 x16_1)) a1) = j_ := ⟨_, rfl⟩
   replace H : (if x16_1 < (x5_1.length : Int) then (nat_shift.l0 k1 l0 a1 (x5_1.set (x16_1 : Int).toNat ((Go.bits .or .u64 (ji12) x6_1) % 4294967296)) ((Go.bits .or .u64 (ji12) x6_1) / 4294967296) l0 (l0.length : Int) (wrap64 (x16_1 + 1))) else (none)) = some r := by first | (rw [hji12] at H; exact H) | (simp only [hji12] at H ⊢; exact H)
   have hji12_ : (IntKind.u64.wrap ((IntKind.u64.wrap (rd l0 x16_1)) * 2 ^ min a1.toNat 64)) = ji12 := hji12
   have hji12z : a1 ≤ 64 → (IntKind.u64.wrap ((IntKind.u64.wrap (rd l0 x16_1)) * 2 ^ a1.toNat)) = ji12 := shl_small hji12
   replace H := zgd H
   obtain ⟨c13b0, H⟩ := H
   obtain ⟨y105, hy105⟩ : ∃ y_ : List Int, y_ = (x5_1.set (x16_1 : Int).toNat ((Go.bits .or .u64 (ji12) x6_1) % 4294967296)) := ⟨_, rfl⟩
   replace H : (nat_shift.l0 k1 l0 a1 y105 ((Go.bits .or .u64 (ji12) x6_1) / 4294967296) l0 (l0.length : Int) (wrap64 (x16_1 + 1))) = some r := zY hy105 H
   have Ny105 := Aside0.mk hy105
   clear hy105
   have H' := Aside0.mk H
   clear H
   have p104 : 0 ≤ (x16_1 : Int) := zd
   have q104 : x16_1 < (l0.length : Int) := zd
   obtain ⟨ad104, e104, hx104_0⟩ := Kd.at_int HR0.out x16_1 p104 q104
   cases e104
   replace hx104_0 := (HB.out.cell (World.block_lt_of_cell? w _ hx104_0)).trans hx104_0
   replace p104 := eq_true p104
   replace q104 := eq_true q104
   have p14 : 0 ≤ (x16_1 : Int) := zd
   have q14 : (x16_1 : Int) < ((x5_1.length : Int) : Int) := zd
   obtain ⟨go14, co14, eo14, gb14, gl14, cl14, HG14⟩ := Kd.R_form HO_5.out (by omega)
   (first | cases eo14 | (injection eo14 with ea_ en_ ec_; (first | subst ea_ | (injection ea_ with ea_; subst ea_)); subst ec_; clear en_))
   have GB14 := Aside0.mk gb14
   have GG14 := Aside0.mk HG14
   clear gb14 gl14 HG14
   obtain ⟨hx14_0, hf14_0⟩ := Kd.R_celln 0 HO_5.out (x16_1 : Int) p14 q14
   replace p14 := eq_true p14
   replace q14 := eq_true q14
   have HP15 := Kd.R_putg HO_5.out (x16_1 : Int) ((Go.bits .or .u64 (ji12) x6_1) % 4294967296)
   go_wp2_with (first | ((with_reducible refine gate_store (t := 97) (p := 31) rfl ?_); refine store_event (t := 97) (p := 31) (v := ?vo_w16) (w1 := (wr.setCell ⟨go14, (x16_1 : Int).toNat, none⟩ (.int .u32 ((Go.bits .or .u64 (ji12) x6_1) % 4294967296)))) ?hg ?ho ?hn ?hr ?_; (case ho => rfl); (case hg => rfl); (case hn => rfl); (case hr => first | (go_simp; done) | (go_simp; rfl)); intro w16 hw; have hg : wr.grownBy w16 (some go14) := (by rw [hw]; exact HP15.2); have hp_ : Kd.R (Kd.int .u32) 97 w16 w.heap.size (fun _ => True) (.slice (some ⟨go14, 0, none⟩) x5_1.length co14) y105 := (by rw [hw, Ny105.out]; exact HP15.1); clear HP15; replace HO_5 := Aside0.mk (hp_); replace HB := Aside0.mk ((by rw [hw]; exact below_set (HB.out) GB14.out : Below w.heap.size w w16)); clear hg hw hp_))
   go_roundg k1
   case measure => have := HK1.out; omega
   case rel => exact ⟨(y105), ((Go.bits .or .u64 (ji12) x6_1) / 4294967296), (wrap64 (x16_1 + 1)), (by first | rfl | (simp; done) | (simp only [← hji12] <;> (first | rfl | simp)) | (simp [*]; done)), zF, H', ⟨zo1 HK1⟩, ⟨zR HO_5.out⟩, ⟨zB HB.out⟩⟩
 replace H := zg H
 obtain ⟨c17, H⟩ := H
 have c17b0 := decide_eq_true c17
 have c17b1 : decide (0 ≤ l0.length) = true := decide_eq_true (by omega)
 clear c17
 replace H := zg H
 obtain ⟨c18, H⟩ := H
 have c18b0 := decide_eq_true c18
 have c18b1 : decide (l0.length < x5_1.length) = true := decide_eq_true (Int.ofNat_lt.mp c18)
 clear c18
 obtain ⟨y106, hy106⟩ : ∃ y_ : List Int, y_ = (x5_1.set ((l0.length : Int) : Int).toNat ((x6_1) % 4294967296)) := ⟨_, rfl⟩
 replace H : (some y106) = some r := zY hy106 H
 have Ny106 := Aside0.mk hy106
 clear hy106
 obtain rfl := Option.some.inj H
 have p19 : 0 ≤ ((l0.length : Int) : Int) := zd
 have q19 : ((l0.length : Int) : Int) < ((x5_1.length : Int) : Int) := zd
 obtain ⟨go19, co19, eo19, gb19, gl19, cl19, HG19⟩ := Kd.R_form HO_5.out (by omega)
 (first | cases eo19 | (injection eo19 with ea_ en_ ec_; (first | subst ea_ | (injection ea_ with ea_; subst ea_)); subst ec_; clear en_))
 have GB19 := Aside0.mk gb19
 have GG19 := Aside0.mk HG19
 clear gb19 gl19 HG19
 obtain ⟨hx19_0, hf19_0⟩ := Kd.R_celln 0 HO_5.out ((l0.length : Int) : Int) p19 q19
 replace p19 := eq_true p19
 replace q19 := eq_true q19
 obtain ⟨hy20_, hz20_⟩ := Kd.R_celln 0 HO_5.out ((l0.length : Int) : Int) zd zd
 (try simp only [Go.IntWalk.toNatUp] at hy20_ hz20_)
 have HP20 := Kd.R_putg HO_5.out ((l0.length : Int) : Int) ((x6_1) % 4294967296)
 go_wp2_with (first | ((with_reducible refine gate_store (t := 97) (p := 40) rfl ?_); refine store_event (t := 97) (p := 40) (v := ?vo_w21) (w1 := (wr.setCell ⟨go19, ((l0.length : Int) : Int).toNat, none⟩ (.int .u32 ((x6_1) % 4294967296)))) ?hg ?ho ?hn ?hr ?_; (case ho => rfl); (case hg => rfl); (case hn => rfl); (case hr => first | (go_simp; done) | (go_simp; rfl)); intro w21 hw; have hg : wr.grownBy w21 (some go19) := (by rw [hw]; exact HP20.2); have hp_ : Kd.R (Kd.int .u32) 97 w21 w.heap.size (fun _ => True) (.slice (some ⟨go19, 0, none⟩) x5_1.length co19) y106 := (by rw [hw, Ny106.out]; exact HP20.1); clear HP20; replace HO_5 := Aside0.mk (hp_); replace HB := Aside0.mk ((by rw [hw]; exact below_set (HB.out) GB19.out : Below w.heap.size w w21)); clear hg hw hp_))
 go_ret
 exact ⟨_, by first | rfl | (simp [errW_none, errW_some] <;> rfl) | (simp only [← hji3]; first | rfl | (simp [errW_none, errW_some] <;> rfl)) | (simp [*, errW_none, errW_some] <;> rfl), zR HO_5.out, zB HB.out⟩
theorem nat_step.pos {k : Nat} {a b : List Int} {r : Int × List Int} (h : nat_step.f k a b = some r) : 0 < a.length := by
  unfold nat_step.f at h
  by_cases h1 : 0 ≤ (b.length : Int)
  · rw [if_pos h1] at h
    by_cases h2 : (b.length : Int) < (a.length : Int)
    · omega
    · rw [if_neg h2] at h; cases h
  · rw [if_neg h1] at h; cases h
set_option maxHeartbeats 8000000 in
set_option maxRecDepth 100000 in
theorem nat_step.calls (k : Nat) (gW capW : Nat) (preW postW : List Int) (P0_ : Nat → Prop) (u9000_ : Value) (l0 : List Int) (A1 : Option Addr) (c1 : Nat) (l1 : List Int) (r1 : Int) (r2 : List Int) (w0 w : World) (hB : Below w0.heap.size w0 w) (ho0 : Wn gW capW preW postW w w0.heap.size P0_ u9000_ l0) (hr1 : ∀ W_, Kept w W_ (fun k_ => P0_ k_) → Kd.C (Kd.int .u32) W_ A1 l1.length l1) (hc1 : l1.length ≤ c1) (h : nat_step.f k l0 l1 = some (r1, r2)) :
    Calls Try.prog 140 #[u9000_, .slice A1 l1.length c1] w fun e w' => e = .returned (.int .u32 r1) ∧ Wn gW capW preW postW w' w0.heap.size (fun k_ => (P0_ k_ ∨ w.heap.size ≤ k_)) u9000_ r2 ∧ Below w0.heap.size w0 w' ∧ Kept w w' (fun k_ => P0_ k_) := by
 have HO0 := Aside0.mk (show Wn gW capW preW postW w w0.heap.size (fun k_ => (P0_ k_ ∨ w.heap.size ≤ k_)) u9000_ l0 from Wn.mono ho0 (fun k_ hk => (.inl hk)))
 have HR1 := Aside0.mk hr1
 have HC1 := Aside0.mk hc1
 clear hr1 hc1
 have HK := Aside0.mk (Kept.refl w (fun k_ => P0_ k_))
 have HW0 := Aside0.mk hB.size
 have HB := Aside0.mk hB
 clear hB
 have H : (if 0 ≤ (l1.length : Int) then (if (l1.length : Int) < (l0.length : Int) then (if 0 ≤ (wrap64 ((l1.length : Int) - 1)) then (if (wrap64 ((l1.length : Int) - 1)) < (l0.length : Int) then (if (wrap64 ((l1.length : Int) - 1)) < (l1.length : Int) then (if (IntKind.u64.wrap (rd l1 (wrap64 ((l1.length : Int) - 1)))) = 0 then (none) else (nat_step.l0 k l0 l1 (l1.length : Int) (IntKind.u64.wrap (Int.tdiv (Go.bits .or .u64 (IntKind.u64.wrap ((IntKind.u64.wrap (rd l0 (l1.length : Int))) * 4294967296)) (IntKind.u64.wrap (rd l0 (wrap64 ((l1.length : Int) - 1))))) (IntKind.u64.wrap (rd l1 (wrap64 ((l1.length : Int) - 1)))))) (Int.tmod (Go.bits .or .u64 (IntKind.u64.wrap ((IntKind.u64.wrap (rd l0 (l1.length : Int))) * 4294967296)) (IntKind.u64.wrap (rd l0 (wrap64 ((l1.length : Int) - 1))))) (IntKind.u64.wrap (rd l1 (wrap64 ((l1.length : Int) - 1))))))) else (none)) else (none)) else (none)) else (none)) else (none)) = some (r1, r2) := h
 clear h
 replace H := zg H
 obtain ⟨c3, H⟩ := H
 have c3b0 := decide_eq_true c3
 have c3b1 : decide (0 ≤ l1.length) = true := decide_eq_true (by omega)
 clear c3
 replace H := zg H
 obtain ⟨c4, H⟩ := H
 have c4b0 := decide_eq_true c4
 have c4b1 : decide (l1.length < l0.length) = true := decide_eq_true (Int.ofNat_lt.mp c4)
 clear c4
 obtain ⟨ji5, hji5⟩ : ∃ j_ : Int, (wrap64 ((l1.length : Int) - 1)) = j_ := ⟨_, rfl⟩
 replace H : (if 0 ≤ (ji5) then (if (ji5) < (l0.length : Int) then (if (ji5) < (l1.length : Int) then (if (IntKind.u64.wrap (rd l1 (ji5))) = 0 then (none) else (nat_step.l0 k l0 l1 (l1.length : Int) (IntKind.u64.wrap (Int.tdiv (Go.bits .or .u64 (IntKind.u64.wrap ((IntKind.u64.wrap (rd l0 (l1.length : Int))) * 4294967296)) (IntKind.u64.wrap (rd l0 (ji5)))) (IntKind.u64.wrap (rd l1 (ji5))))) (Int.tmod (Go.bits .or .u64 (IntKind.u64.wrap ((IntKind.u64.wrap (rd l0 (l1.length : Int))) * 4294967296)) (IntKind.u64.wrap (rd l0 (ji5)))) (IntKind.u64.wrap (rd l1 (ji5)))))) else (none)) else (none)) else (none)) = some (r1, r2) := by first | (rw [hji5] at H; exact H) | (simp only [hji5] at H ⊢; exact H)
 have hji5w : (IntKind.i64.wrap ((l1.length : Int) - 1)) = ji5 := (i64_w _).trans hji5
 replace H := zgd H
 obtain ⟨c6b0, H⟩ := H
 replace H := zgd H
 obtain ⟨c7b0, H⟩ := H
 replace H := zgd H
 obtain ⟨c8b0, H⟩ := H
 replace H := zh H
 obtain ⟨c9, H⟩ := H
 have c9b0 := beq_eq_false_iff_ne.mpr c9
 have c9b1 := bne_iff_ne.mpr c9
 have HC10 := Aside0.mk H
 clear H
 obtain ⟨Ao11, co11, rfl⟩ := Wn.slice HO0.out
 have p101 : 0 ≤ ((l1.length : Int) : Int) := zd
 have q101 : (l1.length : Int) < (l0.length : Int) := zd
 obtain ⟨ad101, e101, hx101_0⟩ := Kd.at_int (Wn.reads' HO0.out).2.2 (l1.length : Int) p101 q101
 cases e101
 (try simp only [Go.IntWalk.toNatUp] at hx101_0)
 replace p101 := eq_true p101
 replace q101 := eq_true q101
 have p102 : 0 ≤ ((ji5) : Int) := zd
 have q102 : (ji5) < (l0.length : Int) := zd
 obtain ⟨ad102, e102, hx102_0⟩ := Kd.at_int (Wn.reads' HO0.out).2.2 (ji5) p102 q102
 obtain rfl : ad101 = ad102 := (by injection e102)
 replace p102 := eq_true p102
 replace q102 := eq_true q102
 have p103 : 0 ≤ ((ji5) : Int) := zd
 have q103 : (ji5) < (l1.length : Int) := zd
 obtain ⟨ad103, e103, hx103_0⟩ := Kd.at_int (Kd.C_kept_now HR1.out HK.out) (ji5) p103 q103
 cases e103
 replace p103 := eq_true p103
 replace q103 := eq_true q103
 have p104 : 0 ≤ ((ji5) : Int) := zd
 have q104 : (ji5) < (l1.length : Int) := zd
 obtain ⟨ad104, e104, hx104_0⟩ := Kd.at_int (Kd.C_kept_now HR1.out HK.out) (ji5) p104 q104
 obtain rfl : ad103 = ad104 := (by injection e104)
 replace p104 := eq_true p104
 replace q104 := eq_true q104
 go_enter Try.func140, Try.ntmps140
 go_upto_block 0 with (fail)
 repeat (go_quiet (fail); go_upto_block 0 with (fail))
 go_cut [7] (fun v7 wc => ∃ (kq : Nat) (x7_9 : Int), v7 = .int .u64 x7_9 ∧ Aside0 (nat_step.j1 kq l0 l1 (l1.length : Int) x7_9 = some (r1, r2)) ∧ Aside0 (kq ≤ k) ∧ Aside0 (Wn gW capW preW postW wc w0.heap.size (fun k_ => (P0_ k_ ∨ w.heap.size ≤ k_)) (.slice (some ad101) l0.length co11) l0) ∧ Aside0 (Kept w wc (fun k_ => P0_ k_)) ∧ Aside0 (Below w0.heap.size w0 wc))
 case first =>
  have H := HC10.out
  clear HC10
  have H' := Aside0.mk H
  clear H
  go_wp2
  repeat (go_quiet (fail); try go_wp2)
  go_loopg [7, 8] k (fun kq v7 v8 w' => ∃ (x7_1 : Int) (x8_1 : Int), v7 = .int .u64 x7_1 ∧ v8 = .int .u64 x8_1 ∧ Aside0 (nat_step.l0 kq l0 l1 (l1.length : Int) x7_1 x8_1 = some (r1, r2)) ∧ Aside0 (kq ≤ k) ∧ Aside0 (Wn gW capW preW postW w' w0.heap.size (fun k_ => (P0_ k_ ∨ w.heap.size ≤ k_)) (.slice (some ad101) l0.length co11) l0) ∧ Aside0 (Kept w w' (fun k_ => P0_ k_)) ∧ Aside0 (Below w0.heap.size w0 w'))
  case atStart => exact ⟨(IntKind.u64.wrap (Int.tdiv (Go.bits .or .u64 (IntKind.u64.wrap ((IntKind.u64.wrap (rd l0 (l1.length : Int))) * 4294967296)) (IntKind.u64.wrap (rd l0 (ji5)))) (IntKind.u64.wrap (rd l1 (ji5))))), (Int.tmod (Go.bits .or .u64 (IntKind.u64.wrap ((IntKind.u64.wrap (rd l0 (l1.length : Int))) * 4294967296)) (IntKind.u64.wrap (rd l0 (ji5)))) (IntKind.u64.wrap (rd l1 (ji5)))), (by first | rfl | (simp; done) | (simp only [← hji5] <;> (first | rfl | simp)) | (simp [*]; done)), (by first | rfl | (simp; done) | (simp only [← hji5] <;> (first | rfl | simp)) | (simp [*]; done)), H', ⟨Nat.le_refl _⟩, ⟨zW HO0.out⟩, ⟨by repeat (first | (with_reducible first | exact HK.out | apply Kept.alloc | apply Kept.drewN | apply Kept.drew) | exact HK.out)⟩, ⟨zB HB.out⟩⟩
  clear H'
  (try clear c3);(try clear c3b0);(try clear c3b1);(try clear c4);(try clear c4b0);(try clear c4b1);(try clear c6b0);(try clear c7b0);(try clear c8b0);(try clear c9);(try clear c9b0);(try clear c9b1);(try clear hx101_0);(try clear hx102_0);(try clear hx103_0);(try clear hx104_0);(try clear p101);(try clear p102);(try clear p103);(try clear p104);(try clear q101);(try clear q102);(try clear q103);(try clear q104)
  obtain ⟨x7_1, x8_1, rfl, rfl, HA, HK1, HO_0, HK, HB⟩ := hrel
  cases gk with | zero => exact absurd HA.out (by simp [nat_step.l0]) | succ k1 => ?_
  have H := HA.out
  clear HA
  simp only [nat_step.l0] at H
  replace H := zid H
  rcases H with ⟨c12b0, H⟩ | ⟨c12b0, H⟩
  · (first | rw [c12b0] | (simp only [i64_w, i32_w]; rw [c12b0]) | rw [c12b1] | skip)
    replace H := zi H
    rcases H with ⟨c13, H⟩ | ⟨c13, H⟩
    · have c13b0 : decide (4294967296 ≤ x7_1) = true := decide_eq_true c13
      clear c13
      (try clear hji5w)
      obtain ⟨ji14, hji14⟩ : ∃ j_ : Int, (wrap64 ((l1.length : Int) - 1)) = j_ := ⟨_, rfl⟩
      replace H : (if 0 ≤ (ji14) then (if (ji14) < (l1.length : Int) then (nat_step.l0 k1 l0 l1 (l1.length : Int) (IntKind.u64.wrap (x7_1 - 1)) (IntKind.u64.wrap (x8_1 + (IntKind.u64.wrap (rd l1 (ji14)))))) else (none)) else (none)) = some (r1, r2) := by first | (rw [hji14] at H; exact H) | (simp only [hji14] at H ⊢; exact H)
      have hji14w : (IntKind.i64.wrap ((l1.length : Int) - 1)) = ji14 := (i64_w _).trans hji14
      replace H := zgd H
      obtain ⟨c15b0, H⟩ := H
      replace H := zgd H
      obtain ⟨c16b0, H⟩ := H
      have H' := Aside0.mk H
      clear H
      have p105 : 0 ≤ ((ji14) : Int) := zd
      have q105 : (ji14) < (l1.length : Int) := zd
      obtain ⟨ad105, e105, hx105_0⟩ := Kd.at_int (Kd.C_kept_now HR1.out HK.out) (ji14) p105 q105
      obtain rfl : ad103 = ad105 := (by injection e105)
      replace p105 := eq_true p105
      replace q105 := eq_true q105
      go_wp2
      repeat (go_quiet (fail); try go_wp2)
      (try simp only [add_at] at *)
      (try simp only [add_plain] at *)
      go_roundg k1
      case measure => have := HK1.out; omega
      case rel => exact ⟨(IntKind.u64.wrap (x7_1 - 1)), (IntKind.u64.wrap (x8_1 + (IntKind.u64.wrap (rd l1 (ji14))))), zF, (by first | rfl | (simp; done) | (simp only [← hji14] <;> (first | rfl | simp)) | (simp [*]; done)), H', ⟨zo1 HK1⟩, ⟨zW HO_0.out⟩, ⟨by repeat (first | (with_reducible first | exact HK.out | apply Kept.alloc | apply Kept.drewN | apply Kept.drew) | exact HK.out)⟩, ⟨zB HB.out⟩⟩
    have c13b0 : decide (4294967296 ≤ x7_1) = false := decide_eq_false c13
    clear c13
    obtain ⟨ji17, hji17⟩ : ∃ j_ : Int, (wrap64 ((l1.length : Int) - 2)) = j_ := ⟨_, rfl⟩
    replace H : (if 0 ≤ (ji17) then (if (ji17) < (l1.length : Int) then (if (ji17) < (l0.length : Int) then (if (IntKind.u64.wrap (x7_1 * (IntKind.u64.wrap (rd l1 (ji17))))) > (Go.bits .or .u64 (IntKind.u64.wrap (x8_1 * 4294967296)) (IntKind.u64.wrap (rd l0 (ji17)))) then (if 0 ≤ (wrap64 ((l1.length : Int) - 1)) then (if (wrap64 ((l1.length : Int) - 1)) < (l1.length : Int) then (nat_step.l0 k1 l0 l1 (l1.length : Int) (IntKind.u64.wrap (x7_1 - 1)) (IntKind.u64.wrap (x8_1 + (IntKind.u64.wrap (rd l1 (wrap64 ((l1.length : Int) - 1))))))) else (none)) else (none)) else (nat_step.j1 k1 l0 l1 (l1.length : Int) x7_1)) else (none)) else (none)) else (none)) = some (r1, r2) := by first | (rw [hji17] at H; exact H) | (simp only [hji17] at H ⊢; exact H)
    have hji17w : (IntKind.i64.wrap ((l1.length : Int) - 2)) = ji17 := (i64_w _).trans hji17
    replace H := zgd H
    obtain ⟨c18b0, H⟩ := H
    replace H := zgd H
    obtain ⟨c19b0, H⟩ := H
    replace H := zgd H
    obtain ⟨c20b0, H⟩ := H
    replace H := zi H
    rcases H with ⟨c21, H⟩ | ⟨c21, H⟩
    · have c21b0 : decide ((Go.bits .or .u64 (IntKind.u64.wrap (x8_1 * 4294967296)) (IntKind.u64.wrap (rd l0 (ji17)))) < (IntKind.u64.wrap (x7_1 * (IntKind.u64.wrap (rd l1 (ji17)))))) = true := decide_eq_true c21
      clear c21
      (try clear hji5w)
      obtain ⟨ji22, hji22⟩ : ∃ j_ : Int, (wrap64 ((l1.length : Int) - 1)) = j_ := ⟨_, rfl⟩
      replace H : (if 0 ≤ (ji22) then (if (ji22) < (l1.length : Int) then (nat_step.l0 k1 l0 l1 (l1.length : Int) (IntKind.u64.wrap (x7_1 - 1)) (IntKind.u64.wrap (x8_1 + (IntKind.u64.wrap (rd l1 (ji22)))))) else (none)) else (none)) = some (r1, r2) := by first | (rw [hji22] at H; exact H) | (simp only [hji22] at H ⊢; exact H)
      have hji22w : (IntKind.i64.wrap ((l1.length : Int) - 1)) = ji22 := (i64_w _).trans hji22
      replace H := zgd H
      obtain ⟨c23b0, H⟩ := H
      replace H := zgd H
      obtain ⟨c24b0, H⟩ := H
      have H' := Aside0.mk H
      clear H
      have p106 : 0 ≤ ((ji17) : Int) := zd
      have q106 : (ji17) < (l1.length : Int) := zd
      obtain ⟨ad106, e106, hx106_0⟩ := Kd.at_int (Kd.C_kept_now HR1.out HK.out) (ji17) p106 q106
      obtain rfl : ad103 = ad106 := (by injection e106)
      replace p106 := eq_true p106
      replace q106 := eq_true q106
      have p107 : 0 ≤ ((ji17) : Int) := zd
      have q107 : (ji17) < (l0.length : Int) := zd
      obtain ⟨ad107, e107, hx107_0⟩ := Kd.at_int (Wn.reads' HO_0.out).2.2 (ji17) p107 q107
      obtain rfl : ad101 = ad107 := (by injection e107)
      replace p107 := eq_true p107
      replace q107 := eq_true q107
      have p108 : 0 ≤ ((ji22) : Int) := zd
      have q108 : (ji22) < (l1.length : Int) := zd
      obtain ⟨ad108, e108, hx108_0⟩ := Kd.at_int (Kd.C_kept_now HR1.out HK.out) (ji22) p108 q108
      obtain rfl : ad103 = ad108 := (by injection e108)
      replace p108 := eq_true p108
      replace q108 := eq_true q108
      go_wp2
      repeat (go_quiet (fail); try go_wp2)
      (try simp only [add_at] at *)
      (try simp only [add_plain] at *)
      go_roundg k1
      case measure => have := HK1.out; omega
      case rel => exact ⟨(IntKind.u64.wrap (x7_1 - 1)), (IntKind.u64.wrap (x8_1 + (IntKind.u64.wrap (rd l1 (ji22))))), zF, (by first | rfl | (simp; done) | (simp only [← hji22] <;> (first | rfl | simp)) | (simp [*]; done)), H', ⟨zo1 HK1⟩, ⟨zW HO_0.out⟩, ⟨by repeat (first | (with_reducible first | exact HK.out | apply Kept.alloc | apply Kept.drewN | apply Kept.drew) | exact HK.out)⟩, ⟨zB HB.out⟩⟩
    have c21b0 : decide ((Go.bits .or .u64 (IntKind.u64.wrap (x8_1 * 4294967296)) (IntKind.u64.wrap (rd l0 (ji17)))) < (IntKind.u64.wrap (x7_1 * (IntKind.u64.wrap (rd l1 (ji17)))))) = false := decide_eq_false c21
    clear c21
    have H' := Aside0.mk H
    clear H
    have p106 : 0 ≤ ((ji17) : Int) := zd
    have q106 : (ji17) < (l1.length : Int) := zd
    obtain ⟨ad106, e106, hx106_0⟩ := Kd.at_int (Kd.C_kept_now HR1.out HK.out) (ji17) p106 q106
    obtain rfl : ad103 = ad106 := (by injection e106)
    replace p106 := eq_true p106
    replace q106 := eq_true q106
    have p107 : 0 ≤ ((ji17) : Int) := zd
    have q107 : (ji17) < (l0.length : Int) := zd
    obtain ⟨ad107, e107, hx107_0⟩ := Kd.at_int (Wn.reads' HO_0.out).2.2 (ji17) p107 q107
    obtain rfl : ad101 = ad107 := (by injection e107)
    replace p107 := eq_true p107
    replace q107 := eq_true q107
    go_wp2
    repeat (go_quiet (fail); try go_wp2)
    go_meet
    case rel => exact ⟨_, (x7_1), zF, H', ⟨by have := HK1.out; first | omega | exact Nat.le_refl _⟩, ⟨zW HO_0.out⟩, ⟨by repeat (first | (with_reducible first | exact HK.out | apply Kept.alloc | apply Kept.drewN | apply Kept.drew) | exact HK.out)⟩, ⟨zB HB.out⟩⟩
  (first | rw [c12b0] | (simp only [i64_w, i32_w]; rw [c12b0]) | rw [c12b1] | skip)
  have H' := Aside0.mk H
  clear H
  go_wp2
  repeat (go_quiet (fail); try go_wp2)
  go_meet
  case rel => exact ⟨_, (x7_1), zF, H', ⟨by have := HK1.out; first | omega | exact Nat.le_refl _⟩, ⟨zW HO_0.out⟩, ⟨by repeat (first | (with_reducible first | exact HK.out | apply Kept.alloc | apply Kept.drewN | apply Kept.drew) | exact HK.out)⟩, ⟨zB HB.out⟩⟩
 clear HC10
 (try clear c3);(try clear c3b0);(try clear c3b1);(try clear c4);(try clear c4b0);(try clear c4b1);(try clear c6b0);(try clear c7b0);(try clear c8b0);(try clear c9);(try clear c9b0);(try clear c9b1);(try clear c12b0);(try clear c13);(try clear c13b0);(try clear c15b0);(try clear c16b0);(try clear c18b0);(try clear c19b0);(try clear c20b0);(try clear c21);(try clear c21b0);(try clear c23b0);(try clear c24b0);(try clear hx101_0);(try clear hx102_0);(try clear hx103_0);(try clear hx104_0);(try clear hx105_0);(try clear hx106_0);(try clear hx107_0);(try clear hx108_0);(try clear p101);(try clear p102);(try clear p103);(try clear p104);(try clear p105);(try clear p106);(try clear p107);(try clear p108);(try clear q101);(try clear q102);(try clear q103);(try clear q104);(try clear q105);(try clear q106);(try clear q107);(try clear q108)
 obtain ⟨kq, x7_9, rfl, HA, HJ9, HO_0, HK, HB⟩ := hcut
 cases kq with | zero => exact absurd HA.out (by simp [nat_step.j1]) | succ kj9 => ?_
 have H := HA.out
 clear HA
 simp only [nat_step.j1] at H
 have H' := Aside0.mk H
 clear H
 go_wp2
 repeat (go_quiet (fail); try go_wp2)
 go_loopg [9, 10, 86] kj9 (fun kq v9 v10 v86 w' => ∃ (x0_2 : List Int) (x9_2 : Int) (x10_2 : Int) (x86_2 : Int), v9 = .int .u64 x9_2 ∧ v10 = .int .u64 x10_2 ∧ v86 = .int .i64 x86_2 ∧ Aside0 (nat_step.l1 kq x0_2 l1 (l1.length : Int) x7_9 x9_2 x10_2 (l1.length : Int) x86_2 = some (r1, r2)) ∧ Aside0 (kq ≤ kj9) ∧ Aside0 (Wn gW capW preW postW w' w0.heap.size (fun k_ => (P0_ k_ ∨ w.heap.size ≤ k_)) (.slice (some ad101) l0.length co11) x0_2) ∧ Aside0 (Kept w w' (fun k_ => P0_ k_)) ∧ Aside0 (Below w0.heap.size w0 w'))
 case atStart => exact ⟨(l0), (0), (0), (0), zF, zF, zF, H', ⟨Nat.le_refl _⟩, ⟨zW HO_0.out⟩, ⟨by repeat (first | (with_reducible first | exact HK.out | apply Kept.alloc | apply Kept.drewN | apply Kept.drew) | exact HK.out)⟩, ⟨zB HB.out⟩⟩
 clear H'
 (try clear c3);(try clear c3b0);(try clear c3b1);(try clear c4);(try clear c4b0);(try clear c4b1);(try clear c6b0);(try clear c7b0);(try clear c8b0);(try clear c9);(try clear c9b0);(try clear c9b1);(try clear c12b0);(try clear c13);(try clear c13b0);(try clear c15b0);(try clear c16b0);(try clear c18b0);(try clear c19b0);(try clear c20b0);(try clear c21);(try clear c21b0);(try clear c23b0);(try clear c24b0);(try clear hx101_0);(try clear hx102_0);(try clear hx103_0);(try clear hx104_0);(try clear hx105_0);(try clear hx106_0);(try clear hx107_0);(try clear hx108_0);(try clear p101);(try clear p102);(try clear p103);(try clear p104);(try clear p105);(try clear p106);(try clear p107);(try clear p108);(try clear q101);(try clear q102);(try clear q103);(try clear q104);(try clear q105);(try clear q106);(try clear q107);(try clear q108)
 obtain ⟨x0_2, x9_2, x10_2, x86_2, rfl, rfl, rfl, HA, HK2, HO_0, HK, HB⟩ := hrel
 have hl0_2 := (Wn.reads' HO_0.out).1
 rw [hl0_2] at HO_0
 (try simp only [hl0_2])
 cases gk with | zero => exact absurd HA.out (by simp [nat_step.l1]) | succ k2 => ?_
 have H := HA.out
 clear HA
 simp only [nat_step.l1] at H
 replace H := zi H
 rcases H with ⟨c25, H⟩ | ⟨c25, H⟩
 · have c25b0 := decide_eq_true c25
   (try (have c25h0 := c25b0; simp only [hl0_2] at c25h0))
   clear c25
   replace H := zgd H
   obtain ⟨c26b0, H⟩ := H
   replace H := zg H
   obtain ⟨c27, H⟩ := H
   have c27b0 := decide_eq_true c27
   (try (have c27h0 := c27b0; simp only [hl0_2] at c27h0))
   clear c27
   replace H := zg H
   obtain ⟨c28, H⟩ := H
   have c28b0 := decide_eq_true c28
   (try (have c28h0 := c28b0; simp only [hl0_2] at c28h0))
   clear c28
   obtain ⟨y111, hy111⟩ : ∃ y_ : List Int, y_ = (x0_2.set (x86_2 : Int).toNat ((IntKind.u64.wrap ((IntKind.u64.wrap ((IntKind.u64.wrap (rd x0_2 x86_2)) - ((IntKind.u64.wrap ((IntKind.u64.wrap (x7_9 * (IntKind.u64.wrap (rd l1 x86_2)))) + x10_2)) % 4294967296))) - x9_2)) % 4294967296)) := ⟨_, rfl⟩
   replace H : (nat_step.l1 k2 y111 l1 (l1.length : Int) x7_9 ((IntKind.u64.wrap ((IntKind.u64.wrap ((IntKind.u64.wrap (rd x0_2 x86_2)) - ((IntKind.u64.wrap ((IntKind.u64.wrap (x7_9 * (IntKind.u64.wrap (rd l1 x86_2)))) + x10_2)) % 4294967296))) - x9_2)) / 9223372036854775808) ((IntKind.u64.wrap ((IntKind.u64.wrap (x7_9 * (IntKind.u64.wrap (rd l1 x86_2)))) + x10_2)) / 4294967296) (l1.length : Int) (wrap64 (x86_2 + 1))) = some (r1, r2) := zY hy111 H
   have Ny111 := Aside0.mk hy111
   clear hy111
   have H' := Aside0.mk H
   clear H
   have p109 : 0 ≤ (x86_2 : Int) := zd
   have q109 : x86_2 < (l1.length : Int) := zd
   obtain ⟨ad109, e109, hx109_0⟩ := Kd.at_int (Kd.C_kept_now HR1.out HK.out) x86_2 p109 q109
   obtain rfl : ad103 = ad109 := (by injection e109)
   replace p109 := eq_true p109
   replace q109 := eq_true q109
   have p110 : 0 ≤ (x86_2 : Int) := zd
   have q110 : x86_2 < (x0_2.length : Int) := zd
   obtain ⟨ad110, e110, hx110_0⟩ := Kd.at_int (Wn.reads' HO_0.out).2.2 x86_2 p110 q110
   obtain rfl : ad101 = ad110 := (by injection e110)
   replace p110 := eq_true p110
   replace q110 := eq_true q110
   have p29 : 0 ≤ (x86_2 : Int) := zd
   have q29 : (x86_2 : Int) < ((x0_2.length : Int) : Int) := zd
   obtain ⟨co29, eo29, gb29, gl29, cl29, HG29⟩ := Wn.form HO_0.out (by omega)
   (first | cases eo29 | (injection eo29 with ea_ en_ ec_; (first | subst ea_ | (injection ea_ with ea_; subst ea_)); subst ec_; clear en_))
   have GB29 := Aside0.mk gb29
   have GG29 := Aside0.mk HG29
   clear gb29 gl29 HG29
   have HMgo29 := Aside0.mk (show (P0_ gW ∨ w.heap.size ≤ gW) from (Wn.own HO_0.out _ rfl))
   (first | simp only [add_at] at hx101_0 | skip)
   (first | simp only [add_at] at hx102_0 | skip)
   (first | simp only [add_at] at hx107_0 | skip)
   (first | simp only [add_at] at hx110_0 | skip)
   obtain ⟨hx29_0, hf29_0⟩ := Wn.celln HO_0.out (x86_2 : Int) p29 q29
   replace p29 := eq_true p29
   replace q29 := eq_true q29
   obtain ⟨hy30_, hz30_⟩ := Wn.celln HO_0.out (x86_2 : Int) zd zd
   have HP30 := Wn.putg HO_0.out (x86_2 : Int) zd zd ((IntKind.u64.wrap ((IntKind.u64.wrap ((IntKind.u64.wrap (rd x0_2 x86_2)) - ((IntKind.u64.wrap ((IntKind.u64.wrap (x7_9 * (IntKind.u64.wrap (rd l1 x86_2)))) + x10_2)) % 4294967296))) - x9_2)) % 4294967296)
   go_wp2_with (first | ((with_reducible refine gate_store (t := 97) (p := 115) rfl ?_); (try (rw [drewN_self wr]; generalize hq_ : World.drewN wr _ = wr; have n0_ := Aside0.mk (Wn.at_ hq_ HO_0.out); have n1_ := Aside0.mk (kept_at hq_ HK.out); have n2_ := Aside0.mk (below_at hq_ HB.out); clear hq_ HO_0 HK HB; have HO_0 := n0_; have HK := n1_; have HB := n2_; clear n0_ n1_ n2_; (try (obtain ⟨hy30_, hz30_⟩ := Wn.celln HO_0.out (x86_2 : Int) zd zd)); (try (have HP30 := Wn.putg HO_0.out (x86_2 : Int) zd zd ((IntKind.u64.wrap ((IntKind.u64.wrap ((IntKind.u64.wrap (rd x0_2 x86_2)) - ((IntKind.u64.wrap ((IntKind.u64.wrap (x7_9 * (IntKind.u64.wrap (rd l1 x86_2)))) + x10_2)) % 4294967296))) - x9_2)) % 4294967296))))); refine store_event (t := 97) (p := 115) (v := ?vo_w31) (w1 := (wr.setCell ⟨gW, preW.length + (x86_2 : Int).toNat, none⟩ (.int .u32 ((IntKind.u64.wrap ((IntKind.u64.wrap ((IntKind.u64.wrap (rd x0_2 x86_2)) - ((IntKind.u64.wrap ((IntKind.u64.wrap (x7_9 * (IntKind.u64.wrap (rd l1 x86_2)))) + x10_2)) % 4294967296))) - x9_2)) % 4294967296)))) ?hg ?ho ?hn ?hr ?_; (case ho => rfl); (case hg => rfl); (case hn => rfl); (case hr => first | (go_simp; done) | (go_simp; rfl)); intro w31 hw; have hg : wr.grownBy w31 (some gW) := (by rw [hw]; exact HP30.2); have hp_ : Wn gW capW preW postW w31 w0.heap.size (fun k_ => (P0_ k_ ∨ w.heap.size ≤ k_)) (.slice (some ⟨gW, preW.length, none⟩) x0_2.length co11) y111 := (by rw [hw, Ny111.out]; exact HP30.1); clear HP30; replace HB := Aside0.mk ((by rw [hw]; exact below_set (HB.out) GB29.out : Below w0.heap.size w0 w31)); replace HK := Aside0.mk (Kept.of_grown (S := (fun k_ => P0_ k_)) hg (by repeat (first | (with_reducible first | exact HK.out | apply Kept.alloc | apply Kept.drewN | apply Kept.drew) | exact HK.out)) (fun k_ e_ => (Wn.own HO_0.out k_ e_))); replace HO_0 := Aside0.mk (hp_); clear hg hw hp_))
   repeat (go_quiet (first | ((with_reducible refine gate_store (t := 97) (p := 115) rfl ?_); (try (rw [drewN_self wr]; generalize hq_ : World.drewN wr _ = wr; have n0_ := Aside0.mk (Wn.at_ hq_ HO_0.out); have n1_ := Aside0.mk (kept_at hq_ HK.out); have n2_ := Aside0.mk (below_at hq_ HB.out); clear hq_ HO_0 HK HB; have HO_0 := n0_; have HK := n1_; have HB := n2_; clear n0_ n1_ n2_; (try (obtain ⟨hy30_, hz30_⟩ := Wn.celln HO_0.out (x86_2 : Int) zd zd)); (try (have HP30 := Wn.putg HO_0.out (x86_2 : Int) zd zd ((IntKind.u64.wrap ((IntKind.u64.wrap ((IntKind.u64.wrap (rd x0_2 x86_2)) - ((IntKind.u64.wrap ((IntKind.u64.wrap (x7_9 * (IntKind.u64.wrap (rd l1 x86_2)))) + x10_2)) % 4294967296))) - x9_2)) % 4294967296))))); refine store_event (t := 97) (p := 115) (v := ?vo_w31) (w1 := (wr.setCell ⟨gW, preW.length + (x86_2 : Int).toNat, none⟩ (.int .u32 ((IntKind.u64.wrap ((IntKind.u64.wrap ((IntKind.u64.wrap (rd x0_2 x86_2)) - ((IntKind.u64.wrap ((IntKind.u64.wrap (x7_9 * (IntKind.u64.wrap (rd l1 x86_2)))) + x10_2)) % 4294967296))) - x9_2)) % 4294967296)))) ?hg ?ho ?hn ?hr ?_; (case ho => rfl); (case hg => rfl); (case hn => rfl); (case hr => first | (go_simp; done) | (go_simp; rfl)); intro w31 hw; have hg : wr.grownBy w31 (some gW) := (by rw [hw]; exact HP30.2); have hp_ : Wn gW capW preW postW w31 w0.heap.size (fun k_ => (P0_ k_ ∨ w.heap.size ≤ k_)) (.slice (some ⟨gW, preW.length, none⟩) x0_2.length co11) y111 := (by rw [hw, Ny111.out]; exact HP30.1); clear HP30; replace HB := Aside0.mk ((by rw [hw]; exact below_set (HB.out) GB29.out : Below w0.heap.size w0 w31)); replace HK := Aside0.mk (Kept.of_grown (S := (fun k_ => P0_ k_)) hg (by repeat (first | (with_reducible first | exact HK.out | apply Kept.alloc | apply Kept.drewN | apply Kept.drew) | exact HK.out)) (fun k_ e_ => (Wn.own HO_0.out k_ e_))); replace HO_0 := Aside0.mk (hp_); clear hg hw hp_)); try go_wp2_with (first | ((with_reducible refine gate_store (t := 97) (p := 115) rfl ?_); (try (rw [drewN_self wr]; generalize hq_ : World.drewN wr _ = wr; have n0_ := Aside0.mk (Wn.at_ hq_ HO_0.out); have n1_ := Aside0.mk (kept_at hq_ HK.out); have n2_ := Aside0.mk (below_at hq_ HB.out); clear hq_ HO_0 HK HB; have HO_0 := n0_; have HK := n1_; have HB := n2_; clear n0_ n1_ n2_; (try (obtain ⟨hy30_, hz30_⟩ := Wn.celln HO_0.out (x86_2 : Int) zd zd)); (try (have HP30 := Wn.putg HO_0.out (x86_2 : Int) zd zd ((IntKind.u64.wrap ((IntKind.u64.wrap ((IntKind.u64.wrap (rd x0_2 x86_2)) - ((IntKind.u64.wrap ((IntKind.u64.wrap (x7_9 * (IntKind.u64.wrap (rd l1 x86_2)))) + x10_2)) % 4294967296))) - x9_2)) % 4294967296))))); refine store_event (t := 97) (p := 115) (v := ?vo_w31) (w1 := (wr.setCell ⟨gW, preW.length + (x86_2 : Int).toNat, none⟩ (.int .u32 ((IntKind.u64.wrap ((IntKind.u64.wrap ((IntKind.u64.wrap (rd x0_2 x86_2)) - ((IntKind.u64.wrap ((IntKind.u64.wrap (x7_9 * (IntKind.u64.wrap (rd l1 x86_2)))) + x10_2)) % 4294967296))) - x9_2)) % 4294967296)))) ?hg ?ho ?hn ?hr ?_; (case ho => rfl); (case hg => rfl); (case hn => rfl); (case hr => first | (go_simp; done) | (go_simp; rfl)); intro w31 hw; have hg : wr.grownBy w31 (some gW) := (by rw [hw]; exact HP30.2); have hp_ : Wn gW capW preW postW w31 w0.heap.size (fun k_ => (P0_ k_ ∨ w.heap.size ≤ k_)) (.slice (some ⟨gW, preW.length, none⟩) x0_2.length co11) y111 := (by rw [hw, Ny111.out]; exact HP30.1); clear HP30; have n0_ := Aside0.mk (hp_); have n1_ := Aside0.mk ((by rw [hw]; exact below_set (HB.out) GB29.out : Below w0.heap.size w0 w31)); have n2_ := Aside0.mk (Kept.of_grown (S := (fun k_ => P0_ k_)) hg (by repeat (first | (with_reducible first | exact HK.out | apply Kept.alloc | apply Kept.drewN | apply Kept.drew) | exact HK.out)) (fun k_ e_ => (Wn.own HO_0.out k_ e_))); clear HO_0; clear HB; clear HK; have HO_0 := n0_; have HB := n1_; have HK := n2_; clear n0_ n1_ n2_; clear hg hw hp_)))
   (try simp only [← hl0_2])
   (try simp only [add_at] at *)
   (try simp only [add_plain] at *)
   go_roundg k2
   case measure => have := HJ9.out; have := HK2.out; omega
   case rel => exact ⟨(y111), ((IntKind.u64.wrap ((IntKind.u64.wrap ((IntKind.u64.wrap (rd x0_2 x86_2)) - ((IntKind.u64.wrap ((IntKind.u64.wrap (x7_9 * (IntKind.u64.wrap (rd l1 x86_2)))) + x10_2)) % 4294967296))) - x9_2)) / 9223372036854775808), ((IntKind.u64.wrap ((IntKind.u64.wrap (x7_9 * (IntKind.u64.wrap (rd l1 x86_2)))) + x10_2)) / 4294967296), (wrap64 (x86_2 + 1)), zF, zF, zF, H', ⟨zo2 HJ9 HK2⟩, ⟨by (try simp only [hl0_2]); (with_reducible repeat (first | apply Wn.alloc | apply Wn.drewN | apply Wn.drew)); exact HO_0.out⟩, ⟨by repeat (first | (with_reducible first | exact HK.out | apply Kept.alloc | apply Kept.drewN | apply Kept.drew) | exact HK.out)⟩, ⟨zB HB.out⟩⟩
 have c25b0 := decide_eq_false c25
 (try (have c25h0 := c25b0; simp only [hl0_2] at c25h0))
 clear c25
 replace H := zg H
 obtain ⟨c32, H⟩ := H
 have c32b0 := decide_eq_true c32
 (try (have c32h0 := c32b0; simp only [hl0_2] at c32h0))
 have c32b1 : decide (0 ≤ l1.length) = true := decide_eq_true (by omega)
 (try (have c32h1 := c32b1; simp only [hl0_2] at c32h1))
 clear c32
 replace H := zg H
 obtain ⟨c33, H⟩ := H
 have c33b0 := decide_eq_true c33
 (try (have c33h0 := c33b0; simp only [hl0_2] at c33h0))
 have c33b1 : decide (l1.length < x0_2.length) = true := decide_eq_true (Int.ofNat_lt.mp c33)
 (try (have c33h1 := c33b1; simp only [hl0_2] at c33h1))
 clear c33
 obtain ⟨y113, hy113⟩ : ∃ y_ : List Int, y_ = (x0_2.set ((l1.length : Int) : Int).toNat ((IntKind.u64.wrap ((IntKind.u64.wrap ((IntKind.u64.wrap (rd x0_2 (l1.length : Int))) - x10_2)) - x9_2)) % 4294967296)) := ⟨_, rfl⟩
 replace H : (if ((IntKind.u64.wrap ((IntKind.u64.wrap ((IntKind.u64.wrap (rd x0_2 (l1.length : Int))) - x10_2)) - x9_2)) / 9223372036854775808) = 0 then (some ((x7_9) % 4294967296, y113)) else (nat_step.l2 k2 y113 l1 (l1.length : Int) x7_9 0 (l1.length : Int) 0)) = some (r1, r2) := zY hy113 H
 have Ny113 := Aside0.mk hy113
 clear hy113
 replace H := zi H
 rcases H with ⟨c35, H⟩ | ⟨c35, H⟩
 · have c35b0 := beq_iff_eq.mpr c35
   (try (have c35h0 := c35b0; simp only [hl0_2] at c35h0))
   have c35b1 := bne_eq_false_iff_eq.mpr c35
   (try (have c35h1 := c35b1; simp only [hl0_2] at c35h1))
   clear c35
   simp only [Option.some.injEq, Prod.mk.injEq] at H
   obtain ⟨rfl, rfl⟩ := H
   have p112 : 0 ≤ ((l1.length : Int) : Int) := zd
   have q112 : (l1.length : Int) < (x0_2.length : Int) := zd
   obtain ⟨ad112, e112, hx112_0⟩ := Kd.at_int (Wn.reads' HO_0.out).2.2 (l1.length : Int) p112 q112
   obtain rfl : ad101 = ad112 := (by injection e112)
   (try simp only [Go.IntWalk.toNatUp] at hx112_0)
   (try simp only [hl0_2] at p112)
   (try simp only [hl0_2] at q112)
   (try simp only [hl0_2] at hx112_0)
   replace p112 := eq_true p112
   replace q112 := eq_true q112
   have p34 : 0 ≤ ((l1.length : Int) : Int) := zd
   have q34 : ((l1.length : Int) : Int) < ((x0_2.length : Int) : Int) := zd
   obtain ⟨co34, eo34, gb34, gl34, cl34, HG34⟩ := Wn.form HO_0.out (by omega)
   (first | cases eo34 | (injection eo34 with ea_ en_ ec_; (first | subst ea_ | (injection ea_ with ea_; subst ea_)); subst ec_; clear en_))
   have GB34 := Aside0.mk gb34
   have GG34 := Aside0.mk HG34
   clear gb34 gl34 HG34
   have HMgo34 := Aside0.mk (show (P0_ gW ∨ w.heap.size ≤ gW) from (Wn.own HO_0.out _ rfl))
   (first | simp only [add_at] at hx112_0 | skip)
   obtain ⟨hx34_0, hf34_0⟩ := Wn.celln HO_0.out ((l1.length : Int) : Int) p34 q34
   replace p34 := eq_true p34
   replace q34 := eq_true q34
   obtain ⟨hy36_, hz36_⟩ := Wn.celln HO_0.out ((l1.length : Int) : Int) zd zd
   (try simp only [Go.IntWalk.toNatUp] at hy36_ hz36_)
   have HP36 := Wn.putg HO_0.out ((l1.length : Int) : Int) zd zd ((IntKind.u64.wrap ((IntKind.u64.wrap ((IntKind.u64.wrap (rd x0_2 (l1.length : Int))) - x10_2)) - x9_2)) % 4294967296)
   go_wp2_with (first | ((with_reducible refine gate_store (t := 97) (p := 132) rfl ?_); (try (rw [drewN_self wr]; generalize hq_ : World.drewN wr _ = wr; have n0_ := Aside0.mk (Wn.at_ hq_ HO_0.out); have n1_ := Aside0.mk (kept_at hq_ HK.out); have n2_ := Aside0.mk (below_at hq_ HB.out); clear hq_ HO_0 HK HB; have HO_0 := n0_; have HK := n1_; have HB := n2_; clear n0_ n1_ n2_; (try (obtain ⟨hy36_, hz36_⟩ := Wn.celln HO_0.out ((l1.length : Int) : Int) zd zd)); (try (try simp only [Go.IntWalk.toNatUp] at hy36_ hz36_)); (try (have HP36 := Wn.putg HO_0.out ((l1.length : Int) : Int) zd zd ((IntKind.u64.wrap ((IntKind.u64.wrap ((IntKind.u64.wrap (rd x0_2 (l1.length : Int))) - x10_2)) - x9_2)) % 4294967296))))); refine store_event (t := 97) (p := 132) (v := ?vo_w37) (w1 := (wr.setCell ⟨gW, preW.length + ((l1.length : Int) : Int).toNat, none⟩ (.int .u32 ((IntKind.u64.wrap ((IntKind.u64.wrap ((IntKind.u64.wrap (rd x0_2 (l1.length : Int))) - x10_2)) - x9_2)) % 4294967296)))) ?hg ?ho ?hn ?hr ?_; (case ho => rfl); (case hg => rfl); (case hn => rfl); (case hr => first | (go_simp; done) | (go_simp; rfl)); intro w37 hw; have hg : wr.grownBy w37 (some gW) := (by rw [hw]; exact HP36.2); have hp_ : Wn gW capW preW postW w37 w0.heap.size (fun k_ => (P0_ k_ ∨ w.heap.size ≤ k_)) (.slice (some ⟨gW, preW.length, none⟩) x0_2.length co11) y113 := (by rw [hw, Ny113.out]; exact HP36.1); clear HP36; replace HB := Aside0.mk ((by rw [hw]; exact below_set (HB.out) GB34.out : Below w0.heap.size w0 w37)); replace HK := Aside0.mk (Kept.of_grown (S := (fun k_ => P0_ k_)) hg (by repeat (first | (with_reducible first | exact HK.out | apply Kept.alloc | apply Kept.drewN | apply Kept.drew) | exact HK.out)) (fun k_ e_ => (Wn.own HO_0.out k_ e_))); replace HO_0 := Aside0.mk (hp_); clear hg hw hp_))
   repeat (go_quiet (first | ((with_reducible refine gate_store (t := 97) (p := 132) rfl ?_); (try (rw [drewN_self wr]; generalize hq_ : World.drewN wr _ = wr; have n0_ := Aside0.mk (Wn.at_ hq_ HO_0.out); have n1_ := Aside0.mk (kept_at hq_ HK.out); have n2_ := Aside0.mk (below_at hq_ HB.out); clear hq_ HO_0 HK HB; have HO_0 := n0_; have HK := n1_; have HB := n2_; clear n0_ n1_ n2_; (try (obtain ⟨hy36_, hz36_⟩ := Wn.celln HO_0.out ((l1.length : Int) : Int) zd zd)); (try (try simp only [Go.IntWalk.toNatUp] at hy36_ hz36_)); (try (have HP36 := Wn.putg HO_0.out ((l1.length : Int) : Int) zd zd ((IntKind.u64.wrap ((IntKind.u64.wrap ((IntKind.u64.wrap (rd x0_2 (l1.length : Int))) - x10_2)) - x9_2)) % 4294967296))))); refine store_event (t := 97) (p := 132) (v := ?vo_w37) (w1 := (wr.setCell ⟨gW, preW.length + ((l1.length : Int) : Int).toNat, none⟩ (.int .u32 ((IntKind.u64.wrap ((IntKind.u64.wrap ((IntKind.u64.wrap (rd x0_2 (l1.length : Int))) - x10_2)) - x9_2)) % 4294967296)))) ?hg ?ho ?hn ?hr ?_; (case ho => rfl); (case hg => rfl); (case hn => rfl); (case hr => first | (go_simp; done) | (go_simp; rfl)); intro w37 hw; have hg : wr.grownBy w37 (some gW) := (by rw [hw]; exact HP36.2); have hp_ : Wn gW capW preW postW w37 w0.heap.size (fun k_ => (P0_ k_ ∨ w.heap.size ≤ k_)) (.slice (some ⟨gW, preW.length, none⟩) x0_2.length co11) y113 := (by rw [hw, Ny113.out]; exact HP36.1); clear HP36; replace HB := Aside0.mk ((by rw [hw]; exact below_set (HB.out) GB34.out : Below w0.heap.size w0 w37)); replace HK := Aside0.mk (Kept.of_grown (S := (fun k_ => P0_ k_)) hg (by repeat (first | (with_reducible first | exact HK.out | apply Kept.alloc | apply Kept.drewN | apply Kept.drew) | exact HK.out)) (fun k_ e_ => (Wn.own HO_0.out k_ e_))); replace HO_0 := Aside0.mk (hp_); clear hg hw hp_)); try go_wp2_with (first | ((with_reducible refine gate_store (t := 97) (p := 132) rfl ?_); (try (rw [drewN_self wr]; generalize hq_ : World.drewN wr _ = wr; have n0_ := Aside0.mk (Wn.at_ hq_ HO_0.out); have n1_ := Aside0.mk (kept_at hq_ HK.out); have n2_ := Aside0.mk (below_at hq_ HB.out); clear hq_ HO_0 HK HB; have HO_0 := n0_; have HK := n1_; have HB := n2_; clear n0_ n1_ n2_; (try (obtain ⟨hy36_, hz36_⟩ := Wn.celln HO_0.out ((l1.length : Int) : Int) zd zd)); (try (try simp only [Go.IntWalk.toNatUp] at hy36_ hz36_)); (try (have HP36 := Wn.putg HO_0.out ((l1.length : Int) : Int) zd zd ((IntKind.u64.wrap ((IntKind.u64.wrap ((IntKind.u64.wrap (rd x0_2 (l1.length : Int))) - x10_2)) - x9_2)) % 4294967296))))); refine store_event (t := 97) (p := 132) (v := ?vo_w37) (w1 := (wr.setCell ⟨gW, preW.length + ((l1.length : Int) : Int).toNat, none⟩ (.int .u32 ((IntKind.u64.wrap ((IntKind.u64.wrap ((IntKind.u64.wrap (rd x0_2 (l1.length : Int))) - x10_2)) - x9_2)) % 4294967296)))) ?hg ?ho ?hn ?hr ?_; (case ho => rfl); (case hg => rfl); (case hn => rfl); (case hr => first | (go_simp; done) | (go_simp; rfl)); intro w37 hw; have hg : wr.grownBy w37 (some gW) := (by rw [hw]; exact HP36.2); have hp_ : Wn gW capW preW postW w37 w0.heap.size (fun k_ => (P0_ k_ ∨ w.heap.size ≤ k_)) (.slice (some ⟨gW, preW.length, none⟩) x0_2.length co11) y113 := (by rw [hw, Ny113.out]; exact HP36.1); clear HP36; have n0_ := Aside0.mk (hp_); have n1_ := Aside0.mk ((by rw [hw]; exact below_set (HB.out) GB34.out : Below w0.heap.size w0 w37)); have n2_ := Aside0.mk (Kept.of_grown (S := (fun k_ => P0_ k_)) hg (by repeat (first | (with_reducible first | exact HK.out | apply Kept.alloc | apply Kept.drewN | apply Kept.drew) | exact HK.out)) (fun k_ e_ => (Wn.own HO_0.out k_ e_))); clear HO_0; clear HB; clear HK; have HO_0 := n0_; have HB := n1_; have HK := n2_; clear n0_ n1_ n2_; clear hg hw hp_)))
   go_ret
   exact ⟨by first | rfl | (simp [errW_none, errW_some] <;> rfl) | (simp only [← hji5]; first | rfl | (simp [errW_none, errW_some] <;> rfl)) | (simp [*, errW_none, errW_some] <;> rfl), (by first | exact (zW HO_0.out) | (simp only [hl0_2]; exact (zW HO_0.out))), zB HB.out, by repeat (first | (with_reducible first | exact HK.out | apply Kept.alloc | apply Kept.drewN | apply Kept.drew) | exact HK.out)⟩
 have c35b0 := beq_eq_false_iff_ne.mpr c35
 (try (have c35h0 := c35b0; simp only [hl0_2] at c35h0))
 have c35b1 := bne_iff_ne.mpr c35
 (try (have c35h1 := c35b1; simp only [hl0_2] at c35h1))
 have H' := Aside0.mk H
 clear H
 have p112 : 0 ≤ ((l1.length : Int) : Int) := zd
 have q112 : (l1.length : Int) < (x0_2.length : Int) := zd
 obtain ⟨ad112, e112, hx112_0⟩ := Kd.at_int (Wn.reads' HO_0.out).2.2 (l1.length : Int) p112 q112
 obtain rfl : ad101 = ad112 := (by injection e112)
 (try simp only [Go.IntWalk.toNatUp] at hx112_0)
 (try simp only [hl0_2] at p112)
 (try simp only [hl0_2] at q112)
 (try simp only [hl0_2] at hx112_0)
 replace p112 := eq_true p112
 replace q112 := eq_true q112
 have p34 : 0 ≤ ((l1.length : Int) : Int) := zd
 have q34 : ((l1.length : Int) : Int) < ((x0_2.length : Int) : Int) := zd
 obtain ⟨co34, eo34, gb34, gl34, cl34, HG34⟩ := Wn.form HO_0.out (by omega)
 (first | cases eo34 | (injection eo34 with ea_ en_ ec_; (first | subst ea_ | (injection ea_ with ea_; subst ea_)); subst ec_; clear en_))
 have GB34 := Aside0.mk gb34
 have GG34 := Aside0.mk HG34
 clear gb34 gl34 HG34
 have HMgo34 := Aside0.mk (show (P0_ gW ∨ w.heap.size ≤ gW) from (Wn.own HO_0.out _ rfl))
 (first | simp only [add_at] at hx112_0 | skip)
 obtain ⟨hx34_0, hf34_0⟩ := Wn.celln HO_0.out ((l1.length : Int) : Int) p34 q34
 replace p34 := eq_true p34
 replace q34 := eq_true q34
 obtain ⟨hy38_, hz38_⟩ := Wn.celln HO_0.out ((l1.length : Int) : Int) zd zd
 (try simp only [Go.IntWalk.toNatUp] at hy38_ hz38_)
 have HP38 := Wn.putg HO_0.out ((l1.length : Int) : Int) zd zd ((IntKind.u64.wrap ((IntKind.u64.wrap ((IntKind.u64.wrap (rd x0_2 (l1.length : Int))) - x10_2)) - x9_2)) % 4294967296)
 go_wp2_with (first | ((with_reducible refine gate_store (t := 97) (p := 132) rfl ?_); (try (rw [drewN_self wr]; generalize hq_ : World.drewN wr _ = wr; have n0_ := Aside0.mk (Wn.at_ hq_ HO_0.out); have n1_ := Aside0.mk (kept_at hq_ HK.out); have n2_ := Aside0.mk (below_at hq_ HB.out); clear hq_ HO_0 HK HB; have HO_0 := n0_; have HK := n1_; have HB := n2_; clear n0_ n1_ n2_; (try (obtain ⟨hy38_, hz38_⟩ := Wn.celln HO_0.out ((l1.length : Int) : Int) zd zd)); (try (try simp only [Go.IntWalk.toNatUp] at hy38_ hz38_)); (try (have HP38 := Wn.putg HO_0.out ((l1.length : Int) : Int) zd zd ((IntKind.u64.wrap ((IntKind.u64.wrap ((IntKind.u64.wrap (rd x0_2 (l1.length : Int))) - x10_2)) - x9_2)) % 4294967296))))); refine store_event (t := 97) (p := 132) (v := ?vo_w39) (w1 := (wr.setCell ⟨gW, preW.length + ((l1.length : Int) : Int).toNat, none⟩ (.int .u32 ((IntKind.u64.wrap ((IntKind.u64.wrap ((IntKind.u64.wrap (rd x0_2 (l1.length : Int))) - x10_2)) - x9_2)) % 4294967296)))) ?hg ?ho ?hn ?hr ?_; (case ho => rfl); (case hg => rfl); (case hn => rfl); (case hr => first | (go_simp; done) | (go_simp; rfl)); intro w39 hw; have hg : wr.grownBy w39 (some gW) := (by rw [hw]; exact HP38.2); have hp_ : Wn gW capW preW postW w39 w0.heap.size (fun k_ => (P0_ k_ ∨ w.heap.size ≤ k_)) (.slice (some ⟨gW, preW.length, none⟩) x0_2.length co11) y113 := (by rw [hw, Ny113.out]; exact HP38.1); clear HP38; replace HB := Aside0.mk ((by rw [hw]; exact below_set (HB.out) GB34.out : Below w0.heap.size w0 w39)); replace HK := Aside0.mk (Kept.of_grown (S := (fun k_ => P0_ k_)) hg (by repeat (first | (with_reducible first | exact HK.out | apply Kept.alloc | apply Kept.drewN | apply Kept.drew) | exact HK.out)) (fun k_ e_ => (Wn.own HO_0.out k_ e_))); replace HO_0 := Aside0.mk (hp_); clear hg hw hp_))
 repeat (go_quiet (first | ((with_reducible refine gate_store (t := 97) (p := 132) rfl ?_); (try (rw [drewN_self wr]; generalize hq_ : World.drewN wr _ = wr; have n0_ := Aside0.mk (Wn.at_ hq_ HO_0.out); have n1_ := Aside0.mk (kept_at hq_ HK.out); have n2_ := Aside0.mk (below_at hq_ HB.out); clear hq_ HO_0 HK HB; have HO_0 := n0_; have HK := n1_; have HB := n2_; clear n0_ n1_ n2_; (try (obtain ⟨hy38_, hz38_⟩ := Wn.celln HO_0.out ((l1.length : Int) : Int) zd zd)); (try (try simp only [Go.IntWalk.toNatUp] at hy38_ hz38_)); (try (have HP38 := Wn.putg HO_0.out ((l1.length : Int) : Int) zd zd ((IntKind.u64.wrap ((IntKind.u64.wrap ((IntKind.u64.wrap (rd x0_2 (l1.length : Int))) - x10_2)) - x9_2)) % 4294967296))))); refine store_event (t := 97) (p := 132) (v := ?vo_w39) (w1 := (wr.setCell ⟨gW, preW.length + ((l1.length : Int) : Int).toNat, none⟩ (.int .u32 ((IntKind.u64.wrap ((IntKind.u64.wrap ((IntKind.u64.wrap (rd x0_2 (l1.length : Int))) - x10_2)) - x9_2)) % 4294967296)))) ?hg ?ho ?hn ?hr ?_; (case ho => rfl); (case hg => rfl); (case hn => rfl); (case hr => first | (go_simp; done) | (go_simp; rfl)); intro w39 hw; have hg : wr.grownBy w39 (some gW) := (by rw [hw]; exact HP38.2); have hp_ : Wn gW capW preW postW w39 w0.heap.size (fun k_ => (P0_ k_ ∨ w.heap.size ≤ k_)) (.slice (some ⟨gW, preW.length, none⟩) x0_2.length co11) y113 := (by rw [hw, Ny113.out]; exact HP38.1); clear HP38; replace HB := Aside0.mk ((by rw [hw]; exact below_set (HB.out) GB34.out : Below w0.heap.size w0 w39)); replace HK := Aside0.mk (Kept.of_grown (S := (fun k_ => P0_ k_)) hg (by repeat (first | (with_reducible first | exact HK.out | apply Kept.alloc | apply Kept.drewN | apply Kept.drew) | exact HK.out)) (fun k_ e_ => (Wn.own HO_0.out k_ e_))); replace HO_0 := Aside0.mk (hp_); clear hg hw hp_)); try go_wp2_with (first | ((with_reducible refine gate_store (t := 97) (p := 132) rfl ?_); (try (rw [drewN_self wr]; generalize hq_ : World.drewN wr _ = wr; have n0_ := Aside0.mk (Wn.at_ hq_ HO_0.out); have n1_ := Aside0.mk (kept_at hq_ HK.out); have n2_ := Aside0.mk (below_at hq_ HB.out); clear hq_ HO_0 HK HB; have HO_0 := n0_; have HK := n1_; have HB := n2_; clear n0_ n1_ n2_; (try (obtain ⟨hy38_, hz38_⟩ := Wn.celln HO_0.out ((l1.length : Int) : Int) zd zd)); (try (try simp only [Go.IntWalk.toNatUp] at hy38_ hz38_)); (try (have HP38 := Wn.putg HO_0.out ((l1.length : Int) : Int) zd zd ((IntKind.u64.wrap ((IntKind.u64.wrap ((IntKind.u64.wrap (rd x0_2 (l1.length : Int))) - x10_2)) - x9_2)) % 4294967296))))); refine store_event (t := 97) (p := 132) (v := ?vo_w39) (w1 := (wr.setCell ⟨gW, preW.length + ((l1.length : Int) : Int).toNat, none⟩ (.int .u32 ((IntKind.u64.wrap ((IntKind.u64.wrap ((IntKind.u64.wrap (rd x0_2 (l1.length : Int))) - x10_2)) - x9_2)) % 4294967296)))) ?hg ?ho ?hn ?hr ?_; (case ho => rfl); (case hg => rfl); (case hn => rfl); (case hr => first | (go_simp; done) | (go_simp; rfl)); intro w39 hw; have hg : wr.grownBy w39 (some gW) := (by rw [hw]; exact HP38.2); have hp_ : Wn gW capW preW postW w39 w0.heap.size (fun k_ => (P0_ k_ ∨ w.heap.size ≤ k_)) (.slice (some ⟨gW, preW.length, none⟩) x0_2.length co11) y113 := (by rw [hw, Ny113.out]; exact HP38.1); clear HP38; have n0_ := Aside0.mk (hp_); have n1_ := Aside0.mk ((by rw [hw]; exact below_set (HB.out) GB34.out : Below w0.heap.size w0 w39)); have n2_ := Aside0.mk (Kept.of_grown (S := (fun k_ => P0_ k_)) hg (by repeat (first | (with_reducible first | exact HK.out | apply Kept.alloc | apply Kept.drewN | apply Kept.drew) | exact HK.out)) (fun k_ e_ => (Wn.own HO_0.out k_ e_))); clear HO_0; clear HB; clear HK; have HO_0 := n0_; have HB := n1_; have HK := n2_; clear n0_ n1_ n2_; clear hg hw hp_)))
 go_loopg [10, 140] k2 (fun kq v10 v140 w' => ∃ (x0_3 : List Int) (x10_3 : Int) (x140_3 : Int), v10 = .int .u64 x10_3 ∧ v140 = .int .i64 x140_3 ∧ Aside0 (nat_step.l2 kq x0_3 l1 (l1.length : Int) x7_9 x10_3 (l1.length : Int) x140_3 = some (r1, r2)) ∧ Aside0 (kq ≤ k2) ∧ Aside0 (Wn gW capW preW postW w' w0.heap.size (fun k_ => (P0_ k_ ∨ w.heap.size ≤ k_)) (.slice (some ⟨gW, preW.length, none⟩) x0_2.length co11) x0_3) ∧ Aside0 (Kept w w' (fun k_ => P0_ k_)) ∧ Aside0 (Below w0.heap.size w0 w'))
 case atStart => exact ⟨(y113), (0), (0), zF, zF, H', ⟨Nat.le_refl _⟩, ⟨by (try simp only [hl0_2]); (with_reducible repeat (first | apply Wn.alloc | apply Wn.drewN | apply Wn.drew)); exact HO_0.out⟩, ⟨by repeat (first | (with_reducible first | exact HK.out | apply Kept.alloc | apply Kept.drewN | apply Kept.drew) | exact HK.out)⟩, ⟨zB HB.out⟩⟩
 clear H'
 (try clear c3);(try clear c3b0);(try clear c3b1);(try clear c4);(try clear c4b0);(try clear c4b1);(try clear c6b0);(try clear c7b0);(try clear c8b0);(try clear c9);(try clear c9b0);(try clear c9b1);(try clear c12b0);(try clear c13);(try clear c13b0);(try clear c15b0);(try clear c16b0);(try clear c18b0);(try clear c19b0);(try clear c20b0);(try clear c21);(try clear c21b0);(try clear c23b0);(try clear c24b0);(try clear c25);(try clear c25b0);(try clear c26b0);(try clear c27);(try clear c27b0);(try clear c28);(try clear c28b0);(try clear p29);(try clear q29);(try clear c32);(try clear c32b0);(try clear c32b1);(try clear c33);(try clear c33b0);(try clear c33b1);(try clear p34);(try clear q34);(try clear c35);(try clear c35b0);(try clear c35b1);(try clear hx101_0);(try clear hx102_0);(try clear hx103_0);(try clear hx104_0);(try clear hx105_0);(try clear hx106_0);(try clear hx107_0);(try clear hx108_0);(try clear hx109_0);(try clear hx110_0);(try clear hx112_0);(try clear hx29_0);(try clear hx34_0);(try clear p101);(try clear p102);(try clear p103);(try clear p104);(try clear p105);(try clear p106);(try clear p107);(try clear p108);(try clear p109);(try clear p110);(try clear p112);(try clear q101);(try clear q102);(try clear q103);(try clear q104);(try clear q105);(try clear q106);(try clear q107);(try clear q108);(try clear q109);(try clear q110);(try clear q112)
 obtain ⟨x0_3, x10_3, x140_3, rfl, rfl, HA, HK3, HO_0, HK, HB⟩ := hrel
 have hl0_3 := (Wn.reads' HO_0.out).1
 rw [hl0_3] at HO_0
 (try simp only [hl0_3])
 cases gk with | zero => exact absurd HA.out (by simp [nat_step.l2]) | succ k3 => ?_
 have H := HA.out
 clear HA
 simp only [nat_step.l2] at H
 replace H := zi H
 rcases H with ⟨c40, H⟩ | ⟨c40, H⟩
 · have c40b0 := decide_eq_true c40
   (try (have c40h0 := c40b0; simp only [hl0_2, hl0_3] at c40h0))
   clear c40
   replace H := zgd H
   obtain ⟨c41b0, H⟩ := H
   replace H := zg H
   obtain ⟨c42, H⟩ := H
   have c42b0 := decide_eq_true c42
   (try (have c42h0 := c42b0; simp only [hl0_2, hl0_3] at c42h0))
   clear c42
   replace H := zg H
   obtain ⟨c43, H⟩ := H
   have c43b0 := decide_eq_true c43
   (try (have c43h0 := c43b0; simp only [hl0_2, hl0_3] at c43h0))
   clear c43
   obtain ⟨y116, hy116⟩ : ∃ y_ : List Int, y_ = (x0_3.set (x140_3 : Int).toNat ((IntKind.u64.wrap ((IntKind.u64.wrap ((IntKind.u64.wrap (rd x0_3 x140_3)) + (IntKind.u64.wrap (rd l1 x140_3)))) + x10_3)) % 4294967296)) := ⟨_, rfl⟩
   replace H : (nat_step.l2 k3 y116 l1 (l1.length : Int) x7_9 ((IntKind.u64.wrap ((IntKind.u64.wrap ((IntKind.u64.wrap (rd x0_3 x140_3)) + (IntKind.u64.wrap (rd l1 x140_3)))) + x10_3)) / 4294967296) (l1.length : Int) (wrap64 (x140_3 + 1))) = some (r1, r2) := zY hy116 H
   have Ny116 := Aside0.mk hy116
   clear hy116
   have H' := Aside0.mk H
   clear H
   have p114 : 0 ≤ (x140_3 : Int) := zd
   have q114 : x140_3 < (x0_3.length : Int) := zd
   obtain ⟨ad114, e114, hx114_0⟩ := Kd.at_int (Wn.reads' HO_0.out).2.2 x140_3 p114 q114
   obtain rfl : (⟨gW, preW.length, none⟩ : Addr) = ad114 := (by injection e114)
   (first | simp only [add_at] at hx114_0 | simp only [add_at] at hx114_0 | simp only [Addr.add, Nat.zero_add] at hx114_0 | skip)
   replace p114 := eq_true p114
   replace q114 := eq_true q114
   have p115 : 0 ≤ (x140_3 : Int) := zd
   have q115 : x140_3 < (l1.length : Int) := zd
   obtain ⟨ad115, e115, hx115_0⟩ := Kd.at_int (Kd.C_kept_now HR1.out HK.out) x140_3 p115 q115
   obtain rfl : ad103 = ad115 := (by injection e115)
   replace p115 := eq_true p115
   replace q115 := eq_true q115
   have p44 : 0 ≤ (x140_3 : Int) := zd
   have q44 : (x140_3 : Int) < ((x0_3.length : Int) : Int) := zd
   obtain ⟨hx44_0, hf44_0⟩ := Wn.celln HO_0.out (x140_3 : Int) p44 q44
   replace p44 := eq_true p44
   replace q44 := eq_true q44
   obtain ⟨hy45_, hz45_⟩ := Wn.celln HO_0.out (x140_3 : Int) zd zd
   have HP45 := Wn.putg HO_0.out (x140_3 : Int) zd zd ((IntKind.u64.wrap ((IntKind.u64.wrap ((IntKind.u64.wrap (rd x0_3 x140_3)) + (IntKind.u64.wrap (rd l1 x140_3)))) + x10_3)) % 4294967296)
   go_wp2_with (first | ((with_reducible refine gate_store (t := 97) (p := 160) rfl ?_); (try (rw [drewN_self wr]; generalize hq_ : World.drewN wr _ = wr; have n0_ := Aside0.mk (Wn.at_ hq_ HO_0.out); have n1_ := Aside0.mk (kept_at hq_ HK.out); have n2_ := Aside0.mk (below_at hq_ HB.out); clear hq_ HO_0 HK HB; have HO_0 := n0_; have HK := n1_; have HB := n2_; clear n0_ n1_ n2_; (try (obtain ⟨hy45_, hz45_⟩ := Wn.celln HO_0.out (x140_3 : Int) zd zd)); (try (have HP45 := Wn.putg HO_0.out (x140_3 : Int) zd zd ((IntKind.u64.wrap ((IntKind.u64.wrap ((IntKind.u64.wrap (rd x0_3 x140_3)) + (IntKind.u64.wrap (rd l1 x140_3)))) + x10_3)) % 4294967296))))); refine store_event (t := 97) (p := 160) (v := ?vo_w46) (w1 := (wr.setCell ⟨gW, preW.length + (x140_3 : Int).toNat, none⟩ (.int .u32 ((IntKind.u64.wrap ((IntKind.u64.wrap ((IntKind.u64.wrap (rd x0_3 x140_3)) + (IntKind.u64.wrap (rd l1 x140_3)))) + x10_3)) % 4294967296)))) ?hg ?ho ?hn ?hr ?_; (case ho => rfl); (case hg => rfl); (case hn => rfl); (case hr => first | (go_simp; done) | (go_simp; rfl)); intro w46 hw; have hg : wr.grownBy w46 (some gW) := (by rw [hw]; exact HP45.2); have hp_ : Wn gW capW preW postW w46 w0.heap.size (fun k_ => (P0_ k_ ∨ w.heap.size ≤ k_)) (.slice (some ⟨gW, preW.length, none⟩) x0_3.length co11) y116 := (by rw [hw, Ny116.out]; exact HP45.1); clear HP45; replace HB := Aside0.mk ((by rw [hw]; exact below_set (HB.out) GB34.out : Below w0.heap.size w0 w46)); replace HK := Aside0.mk (Kept.of_grown (S := (fun k_ => P0_ k_)) hg (by repeat (first | (with_reducible first | exact HK.out | apply Kept.alloc | apply Kept.drewN | apply Kept.drew) | exact HK.out)) (fun k_ e_ => (Wn.own HO_0.out k_ e_))); replace HO_0 := Aside0.mk (hp_); clear hg hw hp_))
   repeat (go_quiet (first | ((with_reducible refine gate_store (t := 97) (p := 160) rfl ?_); (try (rw [drewN_self wr]; generalize hq_ : World.drewN wr _ = wr; have n0_ := Aside0.mk (Wn.at_ hq_ HO_0.out); have n1_ := Aside0.mk (kept_at hq_ HK.out); have n2_ := Aside0.mk (below_at hq_ HB.out); clear hq_ HO_0 HK HB; have HO_0 := n0_; have HK := n1_; have HB := n2_; clear n0_ n1_ n2_; (try (obtain ⟨hy45_, hz45_⟩ := Wn.celln HO_0.out (x140_3 : Int) zd zd)); (try (have HP45 := Wn.putg HO_0.out (x140_3 : Int) zd zd ((IntKind.u64.wrap ((IntKind.u64.wrap ((IntKind.u64.wrap (rd x0_3 x140_3)) + (IntKind.u64.wrap (rd l1 x140_3)))) + x10_3)) % 4294967296))))); refine store_event (t := 97) (p := 160) (v := ?vo_w46) (w1 := (wr.setCell ⟨gW, preW.length + (x140_3 : Int).toNat, none⟩ (.int .u32 ((IntKind.u64.wrap ((IntKind.u64.wrap ((IntKind.u64.wrap (rd x0_3 x140_3)) + (IntKind.u64.wrap (rd l1 x140_3)))) + x10_3)) % 4294967296)))) ?hg ?ho ?hn ?hr ?_; (case ho => rfl); (case hg => rfl); (case hn => rfl); (case hr => first | (go_simp; done) | (go_simp; rfl)); intro w46 hw; have hg : wr.grownBy w46 (some gW) := (by rw [hw]; exact HP45.2); have hp_ : Wn gW capW preW postW w46 w0.heap.size (fun k_ => (P0_ k_ ∨ w.heap.size ≤ k_)) (.slice (some ⟨gW, preW.length, none⟩) x0_3.length co11) y116 := (by rw [hw, Ny116.out]; exact HP45.1); clear HP45; replace HB := Aside0.mk ((by rw [hw]; exact below_set (HB.out) GB34.out : Below w0.heap.size w0 w46)); replace HK := Aside0.mk (Kept.of_grown (S := (fun k_ => P0_ k_)) hg (by repeat (first | (with_reducible first | exact HK.out | apply Kept.alloc | apply Kept.drewN | apply Kept.drew) | exact HK.out)) (fun k_ e_ => (Wn.own HO_0.out k_ e_))); replace HO_0 := Aside0.mk (hp_); clear hg hw hp_)); try go_wp2_with (first | ((with_reducible refine gate_store (t := 97) (p := 160) rfl ?_); (try (rw [drewN_self wr]; generalize hq_ : World.drewN wr _ = wr; have n0_ := Aside0.mk (Wn.at_ hq_ HO_0.out); have n1_ := Aside0.mk (kept_at hq_ HK.out); have n2_ := Aside0.mk (below_at hq_ HB.out); clear hq_ HO_0 HK HB; have HO_0 := n0_; have HK := n1_; have HB := n2_; clear n0_ n1_ n2_; (try (obtain ⟨hy45_, hz45_⟩ := Wn.celln HO_0.out (x140_3 : Int) zd zd)); (try (have HP45 := Wn.putg HO_0.out (x140_3 : Int) zd zd ((IntKind.u64.wrap ((IntKind.u64.wrap ((IntKind.u64.wrap (rd x0_3 x140_3)) + (IntKind.u64.wrap (rd l1 x140_3)))) + x10_3)) % 4294967296))))); refine store_event (t := 97) (p := 160) (v := ?vo_w46) (w1 := (wr.setCell ⟨gW, preW.length + (x140_3 : Int).toNat, none⟩ (.int .u32 ((IntKind.u64.wrap ((IntKind.u64.wrap ((IntKind.u64.wrap (rd x0_3 x140_3)) + (IntKind.u64.wrap (rd l1 x140_3)))) + x10_3)) % 4294967296)))) ?hg ?ho ?hn ?hr ?_; (case ho => rfl); (case hg => rfl); (case hn => rfl); (case hr => first | (go_simp; done) | (go_simp; rfl)); intro w46 hw; have hg : wr.grownBy w46 (some gW) := (by rw [hw]; exact HP45.2); have hp_ : Wn gW capW preW postW w46 w0.heap.size (fun k_ => (P0_ k_ ∨ w.heap.size ≤ k_)) (.slice (some ⟨gW, preW.length, none⟩) x0_3.length co11) y116 := (by rw [hw, Ny116.out]; exact HP45.1); clear HP45; have n0_ := Aside0.mk (hp_); have n1_ := Aside0.mk ((by rw [hw]; exact below_set (HB.out) GB34.out : Below w0.heap.size w0 w46)); have n2_ := Aside0.mk (Kept.of_grown (S := (fun k_ => P0_ k_)) hg (by repeat (first | (with_reducible first | exact HK.out | apply Kept.alloc | apply Kept.drewN | apply Kept.drew) | exact HK.out)) (fun k_ e_ => (Wn.own HO_0.out k_ e_))); clear HO_0; clear HB; clear HK; have HO_0 := n0_; have HB := n1_; have HK := n2_; clear n0_ n1_ n2_; clear hg hw hp_)))
   (try simp only [← hl0_3])
   (try simp only [add_at] at *)
   (try simp only [add_plain] at *)
   go_roundg k3
   case measure => have := HJ9.out; have := HK2.out; have := HK3.out; omega
   case rel => exact ⟨(y116), ((IntKind.u64.wrap ((IntKind.u64.wrap ((IntKind.u64.wrap (rd x0_3 x140_3)) + (IntKind.u64.wrap (rd l1 x140_3)))) + x10_3)) / 4294967296), (wrap64 (x140_3 + 1)), zF, zF, H', ⟨by have := HJ9.out; have := HK2.out; have := HK3.out; omega⟩, ⟨by (try simp only [hl0_2]); (try simp only [hl0_3]); (with_reducible repeat (first | apply Wn.alloc | apply Wn.drewN | apply Wn.drew)); exact HO_0.out⟩, ⟨by repeat (first | (with_reducible first | exact HK.out | apply Kept.alloc | apply Kept.drewN | apply Kept.drew) | exact HK.out)⟩, ⟨zB HB.out⟩⟩
 have c40b0 := decide_eq_false c40
 (try (have c40h0 := c40b0; simp only [hl0_2, hl0_3] at c40h0))
 clear c40
 replace H := zg H
 obtain ⟨c47, H⟩ := H
 have c47b0 := decide_eq_true c47
 (try (have c47h0 := c47b0; simp only [hl0_2, hl0_3] at c47h0))
 have c47b1 : decide (0 ≤ l1.length) = true := decide_eq_true (by omega)
 (try (have c47h1 := c47b1; simp only [hl0_2, hl0_3] at c47h1))
 clear c47
 replace H := zg H
 obtain ⟨c48, H⟩ := H
 have c48b0 := decide_eq_true c48
 (try (have c48h0 := c48b0; simp only [hl0_2, hl0_3] at c48h0))
 have c48b1 : decide (l1.length < x0_3.length) = true := decide_eq_true (Int.ofNat_lt.mp c48)
 (try (have c48h1 := c48b1; simp only [hl0_2, hl0_3] at c48h1))
 clear c48
 obtain ⟨y118, hy118⟩ : ∃ y_ : List Int, y_ = (x0_3.set ((l1.length : Int) : Int).toNat (((rd x0_3 (l1.length : Int)) + ((x10_3) % 4294967296)) % 4294967296)) := ⟨_, rfl⟩
 replace H : (some ((IntKind.u64.wrap (x7_9 - 1)) % 4294967296, y118)) = some (r1, r2) := zY hy118 H
 have Ny118 := Aside0.mk hy118
 clear hy118
 simp only [Option.some.injEq, Prod.mk.injEq] at H
 obtain ⟨rfl, rfl⟩ := H
 have p117 : 0 ≤ ((l1.length : Int) : Int) := zd
 have q117 : (l1.length : Int) < (x0_3.length : Int) := zd
 obtain ⟨ad117, e117, hx117_0⟩ := Kd.at_int (Wn.reads' HO_0.out).2.2 (l1.length : Int) p117 q117
 obtain rfl : (⟨gW, preW.length, none⟩ : Addr) = ad117 := (by injection e117)
 (first | simp only [add_at] at hx117_0 | simp only [add_at] at hx117_0 | simp only [Addr.add, Nat.zero_add] at hx117_0 | skip)
 (try simp only [Go.IntWalk.toNatUp] at hx117_0)
 (try simp only [hl0_2, hl0_3] at p117)
 (try simp only [hl0_2, hl0_3] at q117)
 (try simp only [hl0_2, hl0_3] at hx117_0)
 replace p117 := eq_true p117
 replace q117 := eq_true q117
 have p49 : 0 ≤ ((l1.length : Int) : Int) := zd
 have q49 : ((l1.length : Int) : Int) < ((x0_3.length : Int) : Int) := zd
 obtain ⟨hx49_0, hf49_0⟩ := Wn.celln HO_0.out ((l1.length : Int) : Int) p49 q49
 replace p49 := eq_true p49
 replace q49 := eq_true q49
 obtain ⟨hy50_, hz50_⟩ := Wn.celln HO_0.out ((l1.length : Int) : Int) zd zd
 (try simp only [Go.IntWalk.toNatUp] at hy50_ hz50_)
 have HP50 := Wn.putg HO_0.out ((l1.length : Int) : Int) zd zd (((rd x0_3 (l1.length : Int)) + ((x10_3) % 4294967296)) % 4294967296)
 go_wp2_with (first | ((with_reducible refine gate_store (t := 97) (p := 171) rfl ?_); (try (rw [drewN_self wr]; generalize hq_ : World.drewN wr _ = wr; have n0_ := Aside0.mk (Wn.at_ hq_ HO_0.out); have n1_ := Aside0.mk (kept_at hq_ HK.out); have n2_ := Aside0.mk (below_at hq_ HB.out); clear hq_ HO_0 HK HB; have HO_0 := n0_; have HK := n1_; have HB := n2_; clear n0_ n1_ n2_; (try (obtain ⟨hy50_, hz50_⟩ := Wn.celln HO_0.out ((l1.length : Int) : Int) zd zd)); (try (try simp only [Go.IntWalk.toNatUp] at hy50_ hz50_)); (try (have HP50 := Wn.putg HO_0.out ((l1.length : Int) : Int) zd zd (((rd x0_3 (l1.length : Int)) + ((x10_3) % 4294967296)) % 4294967296))))); refine store_event (t := 97) (p := 171) (v := ?vo_w51) (w1 := (wr.setCell ⟨gW, preW.length + ((l1.length : Int) : Int).toNat, none⟩ (.int .u32 (((rd x0_3 (l1.length : Int)) + ((x10_3) % 4294967296)) % 4294967296)))) ?hg ?ho ?hn ?hr ?_; (case ho => rfl); (case hg => rfl); (case hn => rfl); (case hr => first | (go_simp; done) | (go_simp; rfl)); intro w51 hw; have hg : wr.grownBy w51 (some gW) := (by rw [hw]; exact HP50.2); have hp_ : Wn gW capW preW postW w51 w0.heap.size (fun k_ => (P0_ k_ ∨ w.heap.size ≤ k_)) (.slice (some ⟨gW, preW.length, none⟩) x0_3.length co11) y118 := (by rw [hw, Ny118.out]; exact HP50.1); clear HP50; replace HB := Aside0.mk ((by rw [hw]; exact below_set (HB.out) GB34.out : Below w0.heap.size w0 w51)); replace HK := Aside0.mk (Kept.of_grown (S := (fun k_ => P0_ k_)) hg (by repeat (first | (with_reducible first | exact HK.out | apply Kept.alloc | apply Kept.drewN | apply Kept.drew) | exact HK.out)) (fun k_ e_ => (Wn.own HO_0.out k_ e_))); replace HO_0 := Aside0.mk (hp_); clear hg hw hp_))
 repeat (go_quiet (first | ((with_reducible refine gate_store (t := 97) (p := 171) rfl ?_); (try (rw [drewN_self wr]; generalize hq_ : World.drewN wr _ = wr; have n0_ := Aside0.mk (Wn.at_ hq_ HO_0.out); have n1_ := Aside0.mk (kept_at hq_ HK.out); have n2_ := Aside0.mk (below_at hq_ HB.out); clear hq_ HO_0 HK HB; have HO_0 := n0_; have HK := n1_; have HB := n2_; clear n0_ n1_ n2_; (try (obtain ⟨hy50_, hz50_⟩ := Wn.celln HO_0.out ((l1.length : Int) : Int) zd zd)); (try (try simp only [Go.IntWalk.toNatUp] at hy50_ hz50_)); (try (have HP50 := Wn.putg HO_0.out ((l1.length : Int) : Int) zd zd (((rd x0_3 (l1.length : Int)) + ((x10_3) % 4294967296)) % 4294967296))))); refine store_event (t := 97) (p := 171) (v := ?vo_w51) (w1 := (wr.setCell ⟨gW, preW.length + ((l1.length : Int) : Int).toNat, none⟩ (.int .u32 (((rd x0_3 (l1.length : Int)) + ((x10_3) % 4294967296)) % 4294967296)))) ?hg ?ho ?hn ?hr ?_; (case ho => rfl); (case hg => rfl); (case hn => rfl); (case hr => first | (go_simp; done) | (go_simp; rfl)); intro w51 hw; have hg : wr.grownBy w51 (some gW) := (by rw [hw]; exact HP50.2); have hp_ : Wn gW capW preW postW w51 w0.heap.size (fun k_ => (P0_ k_ ∨ w.heap.size ≤ k_)) (.slice (some ⟨gW, preW.length, none⟩) x0_3.length co11) y118 := (by rw [hw, Ny118.out]; exact HP50.1); clear HP50; replace HB := Aside0.mk ((by rw [hw]; exact below_set (HB.out) GB34.out : Below w0.heap.size w0 w51)); replace HK := Aside0.mk (Kept.of_grown (S := (fun k_ => P0_ k_)) hg (by repeat (first | (with_reducible first | exact HK.out | apply Kept.alloc | apply Kept.drewN | apply Kept.drew) | exact HK.out)) (fun k_ e_ => (Wn.own HO_0.out k_ e_))); replace HO_0 := Aside0.mk (hp_); clear hg hw hp_)); try go_wp2_with (first | ((with_reducible refine gate_store (t := 97) (p := 171) rfl ?_); (try (rw [drewN_self wr]; generalize hq_ : World.drewN wr _ = wr; have n0_ := Aside0.mk (Wn.at_ hq_ HO_0.out); have n1_ := Aside0.mk (kept_at hq_ HK.out); have n2_ := Aside0.mk (below_at hq_ HB.out); clear hq_ HO_0 HK HB; have HO_0 := n0_; have HK := n1_; have HB := n2_; clear n0_ n1_ n2_; (try (obtain ⟨hy50_, hz50_⟩ := Wn.celln HO_0.out ((l1.length : Int) : Int) zd zd)); (try (try simp only [Go.IntWalk.toNatUp] at hy50_ hz50_)); (try (have HP50 := Wn.putg HO_0.out ((l1.length : Int) : Int) zd zd (((rd x0_3 (l1.length : Int)) + ((x10_3) % 4294967296)) % 4294967296))))); refine store_event (t := 97) (p := 171) (v := ?vo_w51) (w1 := (wr.setCell ⟨gW, preW.length + ((l1.length : Int) : Int).toNat, none⟩ (.int .u32 (((rd x0_3 (l1.length : Int)) + ((x10_3) % 4294967296)) % 4294967296)))) ?hg ?ho ?hn ?hr ?_; (case ho => rfl); (case hg => rfl); (case hn => rfl); (case hr => first | (go_simp; done) | (go_simp; rfl)); intro w51 hw; have hg : wr.grownBy w51 (some gW) := (by rw [hw]; exact HP50.2); have hp_ : Wn gW capW preW postW w51 w0.heap.size (fun k_ => (P0_ k_ ∨ w.heap.size ≤ k_)) (.slice (some ⟨gW, preW.length, none⟩) x0_3.length co11) y118 := (by rw [hw, Ny118.out]; exact HP50.1); clear HP50; have n0_ := Aside0.mk (hp_); have n1_ := Aside0.mk ((by rw [hw]; exact below_set (HB.out) GB34.out : Below w0.heap.size w0 w51)); have n2_ := Aside0.mk (Kept.of_grown (S := (fun k_ => P0_ k_)) hg (by repeat (first | (with_reducible first | exact HK.out | apply Kept.alloc | apply Kept.drewN | apply Kept.drew) | exact HK.out)) (fun k_ e_ => (Wn.own HO_0.out k_ e_))); clear HO_0; clear HB; clear HK; have HO_0 := n0_; have HB := n1_; have HK := n2_; clear n0_ n1_ n2_; clear hg hw hp_)))
 go_ret
 exact ⟨by first | rfl | (simp [errW_none, errW_some] <;> rfl) | (simp only [← hji5]; first | rfl | (simp [errW_none, errW_some] <;> rfl)) | (simp [*, errW_none, errW_some] <;> rfl), (by first | exact (zW HO_0.out) | (simp only [hl0_2, hl0_3]; exact (zW HO_0.out))), zB HB.out, by repeat (first | (with_reducible first | exact HK.out | apply Kept.alloc | apply Kept.drewN | apply Kept.drew) | exact HK.out)⟩
def nat_long.T14 : Bool × List (List Nat × List Nat) := (true, [([], []), ([], []), ([], []), ([], []), ([2, 3], [2, 3]), ([4], [4]), ([5], [5]), ([], []), ([], []), ([8], [8]), ([7, 9], [7, 9]), ([10], [10]), ([11], [11]), ([12], [12]), ([6, 13], [6, 13]), ([], []), ([14, 15], [14, 15]), ([16], [16]), ([0, 1, 0, 1, 2, 3, 4, 5, 6, 7, 8, 9, 10, 11, 12, 13, 14, 15, 16, 17], [0, 1]), ([18, 17, 0, 1, 2, 3, 4, 5, 6, 7, 8, 9, 10, 11, 12, 13, 14, 15, 16, 17], [17, 18])])
def nat_long.B14 : List Nat := [0, 0, 0, 0, 12, 28, 60, 0, 0, 256, 896, 1920, 3968, 8064, 16380, 0, 65532, 131068, 262143, 524287]
theorem nat_long.tab14 : rtab .any (opsOf Try.f129 14) = nat_long.T14 := by kernel_rfl
theorem nat_long.bits14 : waitsOk nat_long.T14.2 nat_long.B14 = true := by kernel_rfl
set_option maxHeartbeats 8000000 in
set_option maxRecDepth 100000 in
theorem nat_long.calls (k : Nat) (A0 : Option Addr) (c0 : Nat) (l0 : List Int) (A1 : Option Addr) (c1 : Nat) (l1 : List Int) (r1 : List Int) (r2 : List Int) (w : World) (hr0 : Kd.C (Kd.int .u32) w A0 l0.length l0) (hc0 : l0.length ≤ c0) (hr1 : Kd.C (Kd.int .u32) w A1 l1.length l1) (hc1 : l1.length ≤ c1) (h : nat_long.f k l0 l1 = some (r1, r2)) :
    Calls Try.prog 129 #[.slice A0 l0.length c0, .slice A1 l1.length c1] w fun e w' => ∃ v0_ v1_ : Value, e = .returned (.tuple #[v0_, v1_]) ∧ Kd.R (Kd.int .u32) 97 w' w.heap.size (fun k_ => some k_ ≠ (v1_ : Value).ownBlock) v0_ r1 ∧ Kd.R (Kd.int .u32) 97 w' w.heap.size (fun k_ => some k_ ≠ (v0_ : Value).ownBlock) v1_ r2 ∧ Below w.heap.size w w' := by
 have HR0 := Aside0.mk hr0
 have HC0 := Aside0.mk hc0
 clear hr0 hc0
 have HR1 := Aside0.mk hr1
 have HC1 := Aside0.mk hc1
 clear hr1 hc1
 have HB := Aside0.mk (Below.refl w.heap.size w)
 have H : (if 0 ≤ (wrap64 ((l1.length : Int) - 1)) then (if (wrap64 ((l1.length : Int) - 1)) < (l1.length : Int) then ((bits_LeadingZeros32.f (rd l1 (wrap64 ((l1.length : Int) - 1)))).bind fun t102 => ((nat_shift.f k l1 t102).bind fun t103 => ((nat_short.f k t103).bind fun t106 => ((nat_shift.f k l0 t102).bind fun t109 => (if 0 ≤ (wrap64 ((t109.length : Int) - (t106.length : Int))) then (if (wrap64 ((t109.length : Int) - (t106.length : Int)) : Int).toNat ≤ 70368744177664 then (nat_long.l0 k (List.replicate (wrap64 ((t109.length : Int) - (t106.length : Int)) : Int).toNat 0) t102 t106 t109 (t106.length : Int) (wrap64 ((wrap64 ((t109.length : Int) - (t106.length : Int))) - 1))) else (none)) else (none)))))) else (none)) else (none)) = some (r1, r2) := h
 clear h
 obtain ⟨ji3, hji3⟩ : ∃ j_ : Int, (wrap64 ((l1.length : Int) - 1)) = j_ := ⟨_, rfl⟩
 replace H : (if 0 ≤ (ji3) then (if (ji3) < (l1.length : Int) then ((bits_LeadingZeros32.f (rd l1 (ji3))).bind fun t102 => ((nat_shift.f k l1 t102).bind fun t103 => ((nat_short.f k t103).bind fun t106 => ((nat_shift.f k l0 t102).bind fun t109 => (if 0 ≤ (wrap64 ((t109.length : Int) - (t106.length : Int))) then (if (wrap64 ((t109.length : Int) - (t106.length : Int)) : Int).toNat ≤ 70368744177664 then (nat_long.l0 k (List.replicate (wrap64 ((t109.length : Int) - (t106.length : Int)) : Int).toNat 0) t102 t106 t109 (t106.length : Int) (wrap64 ((wrap64 ((t109.length : Int) - (t106.length : Int))) - 1))) else (none)) else (none)))))) else (none)) else (none)) = some (r1, r2) := by first | (rw [hji3] at H; exact H) | (simp only [hji3] at H ⊢; exact H)
 have hji3w : (IntKind.i64.wrap ((l1.length : Int) - 1)) = ji3 := (i64_w _).trans hji3
 replace H := zgd H
 obtain ⟨c4b0, H⟩ := H
 replace H := zgd H
 obtain ⟨c5b0, H⟩ := H
 replace H := zb H
 obtain ⟨t102, A6, H⟩ := H
 replace H := zb H
 obtain ⟨t103, A7, H⟩ := H
 replace H := zb H
 obtain ⟨t106, A8, H⟩ := H
 replace H := zb H
 obtain ⟨t109, A9, H⟩ := H
 obtain ⟨ji10, hji10⟩ : ∃ j_ : Int, (wrap64 ((t109.length : Int) - (t106.length : Int))) = j_ := ⟨_, rfl⟩
 replace H : (if 0 ≤ (ji10) then (if (ji10 : Int).toNat ≤ 70368744177664 then (nat_long.l0 k (List.replicate (ji10 : Int).toNat 0) t102 t106 t109 (t106.length : Int) (wrap64 ((ji10) - 1))) else (none)) else (none)) = some (r1, r2) := by first | (rw [hji10] at H; exact H) | (simp only [hji10] at H ⊢; exact H)
 (try rw [hji10] at A6)
 (try rw [hji10] at A7)
 (try rw [hji10] at A8)
 (try rw [hji10] at A9)
 have hji10w : (IntKind.i64.wrap ((t109.length : Int) - (t106.length : Int))) = ji10 := (i64_w _).trans hji10
 replace H := zg H
 obtain ⟨c11, H⟩ := H
 have c11b0 := eq_true c11
 have c11b1 := decide_eq_true c11
 clear c11
 replace H := zg H
 obtain ⟨c12, H⟩ := H
 have c12b0 := eq_true c12
 have c12b1 := decide_eq_true c12
 clear c12
 obtain ⟨y112, hy112⟩ : ∃ y_ : List Int, y_ = (List.replicate (ji10 : Int).toNat 0) := ⟨_, rfl⟩
 replace H : (nat_long.l0 k y112 t102 t106 t109 (t106.length : Int) (wrap64 ((ji10) - 1))) = some (r1, r2) := zY hy112 H
 have Ny112 := Aside0.mk hy112
 clear hy112
 have H' := Aside0.mk H
 clear H
 have p101 : 0 ≤ ((ji3) : Int) := zd
 have q101 : (ji3) < (l1.length : Int) := zd
 obtain ⟨ad101, e101, hx101_0⟩ := Kd.at_int HR1.out (ji3) p101 q101
 cases e101
 replace p101 := eq_true p101
 replace q101 := eq_true q101
 go_enter Try.func129, Try.ntmps129
 go_wp2_with (first | ((with_reducible refine gC 138 ?_); refine goesL_ (some 18) rfl rfl Try.func138 (by kernel_rfl) rfl #[.int .u32 (rd l1 (ji3))] rfl (by (try simp only [List.map_toArray, List.map_cons, List.map_nil]); first | done | (simp only [hji3]; rfl) | rfl | (simp only [List.length_drop, List.length_take]; rfl)) ?_; (with_reducible refine (bits_LeadingZeros32.calls (rd l1 (ji3)) t102 _ A6.out).mono ?_); rintro e w' ⟨rfl, ⟨nd, rfl⟩⟩; refine ⟨_, rfl, ?_⟩) | ((with_reducible refine gC 139 ?_); refine zG (some 21) Try.func139 #[.slice (some ad101) l1.length c1, .int .i64 t102] ?_; (with_reducible refine (nat_shift.calls k _ _ l1 t102 t103 _ ?side1 ?side2 A7.out).mono ?_); (case side1 => exact zC HR1.out); (case side2 => exact HC1.out); rintro e w13 ⟨v104, rfl, ho0, hb⟩; refine ⟨_, rfl, ?_⟩; have HO105 := yRl ho0 HB; replace HB := yS HB hb; (try clear hb ho0); obtain ⟨Ao14, co14, rfl⟩ := Kd.R_slice HO105.out) | ((with_reducible refine gC 118 ?_); refine zG (some 22) Try.func118 #[.slice Ao14 t103.length co14] ?_; (with_reducible refine (nat_short.calls k (fun k_ => some k_ = (.slice Ao14 t103.length co14 : Value).ownBlock) _ _ t103 t106 _ ?side1 A8.out).mono ?_); (case side1 => exact Kd.R_V (Kd.R_tight rfl (HO105.out))); rintro e w15 ⟨v107, rfl, ho0, hb⟩; refine ⟨_, rfl, ?_⟩; replace HO105 := yRb HO105 hb; have HO108 := yVm ho0 HB; replace HB := yS HB hb; (try clear hb ho0)) | ((with_reducible refine gC 139 ?_); refine zG (some 25) Try.func139 #[.slice A0 l0.length c0, .int .i64 t102] ?_; (with_reducible refine (nat_shift.calls k _ _ l0 t102 t109 _ ?side1 ?side2 A9.out).mono ?_); (case side1 => exact zC (Kd.C_below HR0.out HB.out)); (case side2 => exact HC0.out); rintro e w16 ⟨v110, rfl, ho0, hb⟩; refine ⟨_, rfl, ?_⟩; replace HO108 := yVe HO108 ho0 hb; replace ho0 := yn ho0 HO105; have HO111 := yRl ho0 HB; replace HO105 := yRe HO105 ho0 hb; replace HB := yS HB hb; (try clear hb ho0); obtain ⟨Ao17, co17, rfl⟩ := Kd.V_slice HO108.out; obtain ⟨Ao18, co18, rfl⟩ := Kd.R_slice HO111.out) | ((with_reducible refine gate_dst (N := 32) rfl ?_); refine Kd.R_make (Kd.int .u32) _ 97 rfl (N := 32) rfl 29 _ _ rfl ji10 rfl rfl Try.underlying29 (.int .u32 0) 4 info97 rfl (by decide) (by omega) 0 (ok := fun _ => True) (okp := fun _ => True) rfl (fun _ hk => hk) trivial zd (Nat.le_trans (Nat.mul_le_mul_right _ (zd : ji10.toNat ≤ 70368744177664)) (by omega)) (Below.refl _ _) (Nat.le_refl _) ?_; intro v113 w19 ho20 hb hg_ hnew_; clear hg_ hnew_; (first | rw [← Ny112.out] at ho20 | (simp only [Int.reduceToNat] at ho20; rw [← Ny112.out] at ho20)); replace HO108 := yVe HO108 ho20 hb; replace ho20 := yn ho20 HO105; replace ho20 := yn ho20 HO111; have HO114 := yRl ho20 HB; replace HO105 := yRe HO105 ho20 hb; replace HO111 := yRe HO111 ho20 hb; replace HB := yS HB hb; clear hb ho20))
 go_loopg [10] k (fun kq v10 w' => ∃ (x4_1 : List Int) (x7_1 : List Int) (x8_1 : List Int) (x10_1 : Int), v10 = .int .i64 x10_1 ∧ Aside0 (nat_long.l0 kq x4_1 t102 x7_1 x8_1 (t106.length : Int) x10_1 = some (r1, r2)) ∧ Aside0 (kq ≤ k) ∧ Aside0 (Kd.R (Kd.int .u32) 97 w' w.heap.size (fun k_ => some k_ ≠ ((.slice Ao18 t109.length co18) : Value).ownBlock) v113 x4_1) ∧ Aside0 (Kd.V (Kd.int .u32) 97 w' w.heap.size (fun k_ => some k_ ≠ (v113 : Value).ownBlock ∧ some k_ ≠ ((.slice Ao18 t109.length co18) : Value).ownBlock) (.slice Ao17 t106.length co17) x7_1) ∧ Aside0 (Kd.R (Kd.int .u32) 97 w' w.heap.size (fun k_ => some k_ ≠ (v113 : Value).ownBlock) (.slice Ao18 t109.length co18) x8_1) ∧ Aside0 (Below w.heap.size w w'))
 case atStart => exact ⟨(y112), (t106), (t109), (wrap64 ((ji10) - 1)), (by first | rfl | (simp; done) | (simp only [← hji10] <;> (first | rfl | simp)) | (simp [*]; done)), H', ⟨Nat.le_refl _⟩, ⟨by (with_reducible repeat (first | apply Kd.R_alloc | apply Kd.R_drewN | apply Kd.R_drew)); exact Kd.R_mono HO114.out (fun _ hk => hk.2)⟩, ⟨by (with_reducible repeat (first | apply Kd.V_alloc | apply Kd.V_drewN | apply Kd.V_drew)); exact Kd.V_mono HO108.out (fun _ hk => ⟨hk.2, hk.1.2⟩)⟩, ⟨by (with_reducible repeat (first | apply Kd.R_alloc | apply Kd.R_drewN | apply Kd.R_drew)); exact Kd.R_mono HO111.out (fun _ hk => hk.2)⟩, ⟨zB HB.out⟩⟩
 clear H'
 (try clear c4b0);(try clear c5b0);(try clear c11);(try clear c11b0);(try clear c11b1);(try clear c12);(try clear c12b0);(try clear c12b1);(try clear hx101_0);(try clear p101);(try clear q101)
 obtain ⟨x4_1, x7_1, x8_1, x10_1, rfl, HA, HK1, HO_4, HO_7, HO_8, HB⟩ := hrel
 have hl7_1 := (Kd.V_reads' HO_7.out).1
 rw [hl7_1] at HO_7
 (try simp only [hl7_1])
 (try simp only [hl7_1] at HO_4)
 (try simp only [hl7_1] at HO_8)
 have hl8_1 := (Kd.R_reads' HO_8.out).1
 rw [hl8_1] at HO_8
 (try simp only [hl8_1])
 (try simp only [hl8_1] at HO_4)
 (try simp only [hl8_1] at HO_7)
 cases gk with | zero => exact absurd HA.out (by simp [nat_long.l0]) | succ k1 => ?_
 have H := HA.out
 clear HA
 simp only [nat_long.l0] at H
 replace H := zi H
 rcases H with ⟨c21, H⟩ | ⟨c21, H⟩
 · have c21b0 : decide (0 ≤ x10_1) = true := decide_eq_true c21
   clear c21
   replace H := zg H
   obtain ⟨c22, H⟩ := H
   have c22b0 := eq_true c22
   have c22b1 := decide_eq_true c22
   clear c22
   replace H := zg H
   obtain ⟨c23, H⟩ := H
   have c23b0 := eq_true c23
   have c23b1 := decide_eq_true c23
   replace H := zg H
   obtain ⟨c24, H⟩ := H
   have c24b0 := eq_true c24
   have c24b1 := decide_eq_true c24
   obtain ⟨y115, hy115⟩ : ∃ y_ : List Int, y_ = ((x8_1.take ((wrap64 ((wrap64 (x10_1 + (t106.length : Int))) + 1)) : Int).toNat).drop (x10_1 : Int).toNat) := ⟨_, rfl⟩
   replace H : ((nat_step.f k1 y115 x7_1).bind fun bt119 => (if x10_1 < (x4_1.length : Int) then (nat_long.l0 k1 (x4_1.set (x10_1 : Int).toNat bt119.1) t102 x7_1 (x8_1.take (x10_1 : Int).toNat ++ (bt119.2 ++ x8_1.drop ((wrap64 ((wrap64 (x10_1 + (t106.length : Int))) + 1)) : Int).toNat)) (t106.length : Int) (wrap64 (x10_1 - 1))) else (none))) = some (r1, r2) := zY hy115 H
   have Ny115 := Aside0.mk hy115
   clear hy115
   replace H := zb H
   obtain ⟨⟨t119, t120⟩, A25, H⟩ := H
   dsimp only at H
   replace H := zg H
   obtain ⟨c26, H⟩ := H
   have c26b0 := decide_eq_true c26
   (try (have c26h0 := c26b0; simp only [hl7_1, hl8_1] at c26h0))
   clear c26
   obtain ⟨y121, hy121⟩ : ∃ y_ : List Int, y_ = (x4_1.set (x10_1 : Int).toNat t119) := ⟨_, rfl⟩
   replace H : (nat_long.l0 k1 y121 t102 x7_1 (x8_1.take (x10_1 : Int).toNat ++ (t120 ++ x8_1.drop ((wrap64 ((wrap64 (x10_1 + (t106.length : Int))) + 1)) : Int).toNat)) (t106.length : Int) (wrap64 (x10_1 - 1))) = some (r1, r2) := zY hy121 H
   obtain ⟨y8, hy8⟩ : ∃ y_ : List Int, y_ = (x8_1.take (x10_1 : Int).toNat ++ (t120 ++ x8_1.drop ((wrap64 ((wrap64 (x10_1 + (t106.length : Int))) + 1)) : Int).toNat)) := ⟨_, rfl⟩
   rw [← hy8] at H
   have Ny8 := Aside0.mk hy8
   clear hy8
   have Ny121 := Aside0.mk hy121
   clear hy121
   have H' := Aside0.mk H
   clear H
   have q28 : ((wrap64 ((wrap64 (x10_1 + (t106.length : Int))) + 1)) : Int) ≤ ((x8_1.length : Int) : Int) := zd
   obtain ⟨i028, hi028, _, hsz28, _⟩ := info_parts info97
   have hroom28 : x8_1.length ≤ co18 := (Kd.R_reads' HO_8.out).2.1
   have hC28 : Kd.C (Kd.int .u32) _ Ao18 x8_1.length x8_1 := (Kd.R_reads' HO_8.out).2.2
   have ql28 : (x10_1 : Int) ≤ ((wrap64 ((wrap64 (x10_1 + (t106.length : Int))) + 1)) : Int) := zd
   have q028 : (0 : Int) ≤ (x10_1 : Int) := zd
   have hcut28 := cut_mid (P := Try.prog) 29 97 .i64 .i64 Try.underlying29 hi028 1 hsz28 Ao18 x8_1.length co18 x10_1 (wrap64 ((wrap64 (x10_1 + (t106.length : Int))) + 1)) q028 ql28 q28 hroom28
   have hr28 := Kd.C_mid (lo := (x10_1 : Int).toNat) (hi := ((wrap64 ((wrap64 (x10_1 + (t106.length : Int))) + 1)) : Int).toNat) (c := co18) hC28 (by omega) (by omega) hroom28
   obtain ⟨A28, hA28⟩ : ∃ A1, A1 = (if co18 = (x10_1 : Int).toNat then Ao18 else (Ao18 : Option Addr).map (·.add ((x10_1 : Int).toNat * 1))) := ⟨_, rfl⟩
   obtain ⟨c28, hc28⟩ : ∃ c1, c1 = co18 - (x10_1 : Int).toNat := ⟨_, rfl⟩
   have hy28 : y115.length = ((wrap64 ((wrap64 (x10_1 + (t106.length : Int))) + 1)) : Int).toNat - (x10_1 : Int).toNat := (by rw [Ny115.out, List.length_drop, List.length_take] <;> omega)
   rw [show ((x8_1).take ((wrap64 ((wrap64 (x10_1 + (t106.length : Int))) + 1)) : Int).toNat).drop (x10_1 : Int).toNat = y115 from Ny115.out.symm] at hr28
   replace hr28 : Kd.C (Kd.int .u32) _ A28 y115.length y115 := (by rw [hA28]; exact hr28)
   rw [← hy28, ← hA28, ← hc28] at hcut28
   have HR118 := Aside0.mk hr28
   have HC118 := Aside0.mk (show y115.length ≤ c28 from by rw [hy28, hc28]; exact Nat.sub_le_sub_right (Nat.le_trans (by omega) hroom28) _)
   clear hr28 hC28 hroom28 hi028 hsz28 hc28
   have KY28 := Aside0.mk hy28
   have KA28 := Aside0.mk hA28
   clear hy28 hA28
   have KL28 := Aside0.mk (show ((wrap64 ((wrap64 (x10_1 + (t106.length : Int))) + 1)) : Int).toNat ≤ x8_1.length from by omega)
   have KM28 := Aside0.mk (show (x10_1 : Int).toNat ≤ ((wrap64 ((wrap64 (x10_1 + (t106.length : Int))) + 1)) : Int).toNat from by omega)
   replace q28 := eq_true q28
   (try simp only [hl7_1] at hcut28)
   have HP8 := Aside0.mk (nat_step.pos A25.out)
   obtain ⟨g8, cap8, e8, _, _, _, _⟩ := Kd.R_form HO_8.out (by have h1_ := HP8.out; have h2_ := KY28.out; have h3_ := KL28.out; omega)
   have HA18 : Aside0 (Ao18 = some ⟨g8, 0, none⟩) := ⟨by injection e8⟩
   clear e8
   go_wp2_with (first | ((with_reducible refine gC 140 ?_); refine zG (some 52) Try.func140 #[.slice A28 y115.length c28, .slice Ao17 x7_1.length co17] ?_; (with_reducible refine (nat_step.calls k1 g8 co18 (x8_1.take (x10_1 : Int).toNat) (x8_1.drop ((wrap64 ((wrap64 (x10_1 + (t106.length : Int))) + 1)) : Int).toNat) (fun k_ => some k_ = (.slice Ao18 x8_1.length co18 : Value).ownBlock) (.slice A28 y115.length c28) y115 _ _ x7_1 t119 t120 w _ ?side1 ?side2 ?side3 ?side4 A25.out).mono ?_); (case side1 => repeat (first | (with_reducible first | exact HB.out | apply below_alloc | apply pw_below_drewN | apply below_drew1) | exact HB.out)); (case side2 => exact Wn.make (Kd.R_tight rfl HO_8.out) HA18.out KA28.out HC118.out Ny115.out KM28.out KL28.out HP8.out); (case side3 => exact Kd.C_kept_ownV (HO_7.out) (fun k_ hk_ hs_ => (hk_.2) hs_)); (case side4 => exact (Kd.V_reads' HO_7.out).2.1); rintro e w29 ⟨rfl, hy0, hb, hkp⟩; refine ⟨_, rfl, ?_⟩; have n0_ := Aside0.mk (Kd.R_mono (ok' := fun k_ => some k_ ≠ (.slice Ao18 x8_1.length co18 : Value).ownBlock) (Kd.R_keptB (HO_4.out) hkp (fun k_ hk_ hs_ => (hk_) hs_)) (fun k_ hk_ => hk_.1)); have n1_ := Aside0.mk (Kd.V_mono (ok' := fun k_ => some k_ ≠ (v113 : Value).ownBlock ∧ some k_ ≠ (.slice Ao18 x8_1.length co18 : Value).ownBlock) (Kd.V_keptB (HO_7.out) hkp (fun k_ hk_ hs_ => (hk_.2) hs_)) (fun k_ hk_ => ⟨hk_.1.1, hk_.1.2⟩)); have n2_ : Aside0 (Kd.R (Kd.int .u32) 97 w29 w.heap.size _ (.slice Ao18 x8_1.length co18) y8) := Aside0.mk (by rw [Ny8.out]; exact Kd.R_reok rfl (Wn.back hy0 HA18.out (by have h1_ := (Wn.reads' hy0).1; have h2_ := KY28.out; have h3_ := KL28.out; have h4_ := KM28.out; rw [List.length_append, List.length_append, List.length_take, List.length_drop]; omega)) (fun k_ e_ => HO_8.out.1 k_ e_)); have n3_ := Aside0.mk (hb); clear HO_4; clear HO_7; clear HO_8; clear HB; have HO_4 := n0_; have HO_7 := n1_; have HO_8 := n2_; have HB := n3_; clear n0_ n1_ n2_ n3_; (try clear hb); (try clear hkp); (try clear hy0); have p27 : 0 ≤ (x10_1 : Int) := zd; have q27 : (x10_1 : Int) < ((x4_1.length : Int) : Int) := zd; obtain ⟨go27, co27, eo27, gb27, gl27, cl27, HG27⟩ := Kd.R_form HO_4.out (by omega); (first | cases eo27 | (injection eo27 with ea_ en_ ec_; (first | subst ea_ | (injection ea_ with ea_; subst ea_)); subst ec_; clear en_)); have GB27 := Aside0.mk gb27; have GG27 := Aside0.mk HG27; clear gb27 gl27 HG27; obtain ⟨hx27_0, hf27_0⟩ := Kd.R_celln 0 HO_4.out (x10_1 : Int) p27 q27; replace p27 := eq_true p27; replace q27 := eq_true q27; obtain ⟨hy30_, hz30_⟩ := Kd.R_celln 0 HO_4.out (x10_1 : Int) zd zd; have HP30 := Kd.R_putg HO_4.out (x10_1 : Int) t119) | ((with_reducible refine gate_store (t := 97) (p := 53) rfl ?_); refine store_event (t := 97) (p := 53) (v := ?vo_w31) (w1 := (w29.setCell ⟨go27, (x10_1 : Int).toNat, none⟩ (.int .u32 t119))) ?hg ?ho ?hn ?hr ?_; (case ho => rfl); (case hg => rfl); (case hn => rfl); (case hr => first | (go_simp; done) | (go_simp; rfl)); intro w31 hw; have hg : w29.grownBy w31 (some go27) := (by rw [hw]; exact HP30.2); have hp_ : Kd.R (Kd.int .u32) 97 w31 w.heap.size (fun k_ => some k_ ≠ (.slice Ao18 x8_1.length co18 : Value).ownBlock) (.slice (some ⟨go27, 0, none⟩) x4_1.length co27) y121 := (by rw [hw, Ny121.out]; exact HP30.1); clear HP30; replace HO_4 := Aside0.mk (hp_); replace HO_7 := Aside0.mk (Kd.V_afterv (v := (.slice (some ⟨go27, 0, none⟩) x4_1.length co27)) (v1 := (.slice (some ⟨go27, 0, none⟩) x4_1.length co27)) (ok := (fun k_ => some k_ ≠ (.slice Ao18 x8_1.length co18 : Value).ownBlock)) (by (with_reducible repeat (first | apply Kd.V_alloc | apply Kd.V_drewN | apply Kd.V_drew)); exact Kd.V_mono HO_7.out (fun _ hk => ⟨hk.2, hk.1⟩)) hg (.inl rfl)); replace HO_8 := Aside0.mk (Kd.R_after (v := (.slice (some ⟨go27, 0, none⟩) x4_1.length co27)) (v1 := (.slice (some ⟨go27, 0, none⟩) x4_1.length co27)) (ok := (fun _ => True)) (by (with_reducible repeat (first | apply Kd.R_alloc | apply Kd.R_drewN | apply Kd.R_drew)); exact Kd.R_mono HO_8.out (fun _ hk => ⟨trivial, hk⟩)) hg (.inl rfl)); replace HB := Aside0.mk ((by rw [hw]; exact below_set (HB.out) GB27.out : Below w.heap.size w w31)); clear hg hw hp_))
   (try simp only [← hl7_1, ← hl8_1])
   go_roundg k1
   case measure => have := HK1.out; omega
   case rel => exact ⟨(y121), (x7_1), (y8), (wrap64 (x10_1 - 1)), zF, H', ⟨zo1 HK1⟩, ⟨by (try simp only [hl7_1]); (try simp only [hl8_1]); (with_reducible repeat (first | apply Kd.R_alloc | apply Kd.R_drewN | apply Kd.R_drew)); exact HO_4.out⟩, ⟨by (try simp only [hl7_1]); (try simp only [hl8_1]); (with_reducible repeat (first | apply Kd.V_alloc | apply Kd.V_drewN | apply Kd.V_drew)); exact Kd.V_mono HO_7.out (fun _ hk => ⟨hk.2, hk.1⟩)⟩, ⟨by (try simp only [hl7_1]); (try simp only [hl8_1]); (with_reducible repeat (first | apply Kd.R_alloc | apply Kd.R_drewN | apply Kd.R_drew)); exact Kd.R_mono HO_8.out (fun _ hk => hk.2)⟩, ⟨zB HB.out⟩⟩
 have c21b0 : decide (0 ≤ x10_1) = false := decide_eq_false c21
 clear c21
 replace H := zg H
 obtain ⟨c32, H⟩ := H
 have c32b0 := eq_true c32
 have c32b1 := decide_eq_true c32
 clear c32
 replace H := zg H
 obtain ⟨c33, H⟩ := H
 have c33b0 := eq_true c33
 have c33b1 := decide_eq_true c33
 clear c33
 obtain ⟨y122, hy122⟩ : ∃ y_ : List Int, y_ = (List.replicate ((t106.length : Int) : Int).toNat 0) := ⟨_, rfl⟩
 replace H : (nat_long.l1 k1 x4_1 y122 t102 x8_1 (y122.length : Int) 0) = some (r1, r2) := zY hy122 H
 have Ny122 := Aside0.mk hy122
 clear hy122
 have H' := Aside0.mk H
 clear H
 (try simp only [← hl7_1])
 go_wp2_with (first | ((with_reducible refine gate_dst (N := 55) rfl ?_); refine Kd.R_make (Kd.int .u32) _ 97 rfl (N := 55) rfl 29 _ _ rfl (t106.length : Int) rfl rfl Try.underlying29 (.int .u32 0) 4 info97 rfl (by decide) (by omega) 0 (ok := fun _ => True) (okp := fun _ => True) rfl (fun _ hk => hk) trivial zd (Nat.le_trans (Nat.mul_le_mul_right _ (zd : (t106.length : Int).toNat ≤ 70368744177664)) (by omega)) (Below.refl _ _) (Nat.le_refl _) ?_; intro v123 w34 ho35 hb hg_ hnew_; clear hg_ hnew_; (first | rw [← Ny122.out] at ho35 | (simp only [Int.reduceToNat] at ho35; rw [← Ny122.out] at ho35)); replace HO_7 := yVe HO_7 ho35 hb; replace ho35 := yn ho35 HO_4; replace ho35 := yn ho35 HO_8; have HO124 := yRl ho35 HB; replace HO_4 := yRe HO_4 ho35 hb; replace HO_8 := yRe HO_8 ho35 hb; replace HB := yS HB hb; clear hb ho35; obtain ⟨Ao36, co36, rfl⟩ := Kd.R_slice HO124.out))
 go_loopg [58] k1 (fun kq v58 w' => ∃ (x5_2 : List Int) (x58_2 : Int), v58 = .int .i64 x58_2 ∧ Aside0 (nat_long.l1 kq x4_1 x5_2 t102 x8_1 (y122.length : Int) x58_2 = some (r1, r2)) ∧ Aside0 (kq ≤ k1) ∧ Aside0 (Kd.R (Kd.int .u32) 97 w' w.heap.size (fun k_ => some k_ ≠ ((.slice Ao36 y122.length co36) : Value).ownBlock ∧ some k_ ≠ ((.slice Ao18 x8_1.length co18) : Value).ownBlock) v113 x4_1) ∧ Aside0 (Kd.R (Kd.int .u32) 97 w' w.heap.size (fun k_ => some k_ ≠ (v113 : Value).ownBlock ∧ some k_ ≠ ((.slice Ao18 x8_1.length co18) : Value).ownBlock) (.slice Ao36 y122.length co36) x5_2) ∧ Aside0 (Kd.R (Kd.int .u32) 97 w' w.heap.size (fun k_ => some k_ ≠ (v113 : Value).ownBlock ∧ some k_ ≠ ((.slice Ao36 y122.length co36) : Value).ownBlock) (.slice Ao18 x8_1.length co18) x8_1) ∧ Aside0 (Below w.heap.size w w'))
 case atStart => exact ⟨(y122), (0), zF, H', ⟨Nat.le_refl _⟩, ⟨by (try simp only [hl7_1]); (try simp only [hl8_1]); (with_reducible repeat (first | apply Kd.R_alloc | apply Kd.R_drewN | apply Kd.R_drew)); exact Kd.R_mono HO_4.out (fun _ hk => ⟨hk.2, hk.1⟩)⟩, ⟨by (try simp only [hl7_1]); (try simp only [hl8_1]); (with_reducible repeat (first | apply Kd.R_alloc | apply Kd.R_drewN | apply Kd.R_drew)); exact Kd.R_mono HO124.out (fun _ hk => ⟨hk.1.2, hk.2⟩)⟩, ⟨by (try simp only [hl7_1]); (try simp only [hl8_1]); (with_reducible repeat (first | apply Kd.R_alloc | apply Kd.R_drewN | apply Kd.R_drew)); exact HO_8.out⟩, ⟨zB HB.out⟩⟩
 clear H'
 (try clear c4b0);(try clear c5b0);(try clear c11);(try clear c11b0);(try clear c11b1);(try clear c12);(try clear c12b0);(try clear c12b1);(try clear c21);(try clear c21b0);(try clear c22);(try clear c22b0);(try clear c22b1);(try clear c23);(try clear c23b0);(try clear c23b1);(try clear c24);(try clear c24b0);(try clear c24b1);(try clear c26);(try clear c26b0);(try clear p27);(try clear q27);(try clear q28);(try clear c32);(try clear c32b0);(try clear c32b1);(try clear c33);(try clear c33b0);(try clear c33b1);(try clear hx101_0);(try clear hx27_0);(try clear p101);(try clear q028);(try clear q101)
 obtain ⟨x5_2, x58_2, rfl, HA, HK2, HO_4, HO_5, HO_8, HB⟩ := hrel
 have hl5_2 := (Kd.R_reads' HO_5.out).1
 rw [hl5_2] at HO_5
 (try simp only [hl5_2])
 (try simp only [hl5_2] at HO_4)
 (try simp only [hl5_2] at HO_8)
 cases gk with | zero => exact absurd HA.out (by simp [nat_long.l1]) | succ k2 => ?_
 have H := HA.out
 clear HA
 simp only [nat_long.l1] at H
 replace H := zi H
 rcases H with ⟨c37, H⟩ | ⟨c37, H⟩
 · have c37b0 := decide_eq_true c37
   (try (have c37h0 := c37b0; simp only [hl7_1, hl8_1, hl5_2] at c37h0))
   clear c37
   replace H := zgd H
   obtain ⟨c38b0, H⟩ := H
   replace H := zg H
   obtain ⟨c39, H⟩ := H
   have c39b0 := decide_eq_true c39
   (try (have c39h0 := c39b0; simp only [hl7_1, hl8_1, hl5_2] at c39h0))
   clear c39
   obtain ⟨ji40, hji40⟩ : ∃ j_ : Int, (wrap64 (x58_2 + 1)) = j_ := ⟨_, rfl⟩
   replace H : (if 0 ≤ (ji40) then (if (ji40) < (x8_1.length : Int) then (if 0 ≤ t102 then (if x58_2 < (x5_2.length : Int) then (nat_long.l1 k2 x4_1 (x5_2.set (x58_2 : Int).toNat ((shr .u64 (Go.bits .or .u64 (IntKind.u64.wrap (rd x8_1 x58_2)) (IntKind.u64.wrap ((IntKind.u64.wrap (rd x8_1 (ji40))) * 4294967296))) t102) % 4294967296)) t102 x8_1 (y122.length : Int) ji40) else (none)) else (none)) else (none)) else (none)) = some (r1, r2) := by first | (rw [hji40] at H; exact H) | (simp only [hji40] at H ⊢; exact H)
   have hji40w : (IntKind.i64.wrap (x58_2 + 1)) = ji40 := (i64_w _).trans hji40
   replace H := zgd H
   obtain ⟨c41b0, H⟩ := H
   replace H := zg H
   obtain ⟨c42, H⟩ := H
   have c42b0 := decide_eq_true c42
   (try (have c42h0 := c42b0; simp only [hl7_1, hl8_1, hl5_2] at c42h0))
   clear c42
   replace H := zg H
   obtain ⟨c43, H⟩ := H
   have c43b0 := eq_true c43
   have c43b1 := decide_eq_true c43
   clear c43
   obtain ⟨ji44, hji44⟩ : ∃ j_ : Int, (shr .u64 (Go.bits .or .u64 (IntKind.u64.wrap (rd x8_1 x58_2)) (IntKind.u64.wrap ((IntKind.u64.wrap (rd x8_1 (ji40))) * 4294967296))) t102) = j_ := ⟨_, rfl⟩
   replace H : (if x58_2 < (x5_2.length : Int) then (nat_long.l1 k2 x4_1 (x5_2.set (x58_2 : Int).toNat ((ji44) % 4294967296)) t102 x8_1 (y122.length : Int) ji40) else (none)) = some (r1, r2) := by first | (rw [hji44] at H; exact H) | (simp only [hji44] at H ⊢; exact H)
   have hji44_ : ((Go.bits .or .u64 (IntKind.u64.wrap (rd x8_1 x58_2)) (IntKind.u64.wrap ((IntKind.u64.wrap (rd x8_1 (ji40))) * 4294967296))) / 2 ^ min t102.toNat 64) = ji44 := hji44
   have hji44z : t102 ≤ 64 → ((Go.bits .or .u64 (IntKind.u64.wrap (rd x8_1 x58_2)) (IntKind.u64.wrap ((IntKind.u64.wrap (rd x8_1 (ji40))) * 4294967296))) / 2 ^ t102.toNat) = ji44 := shr_small hji44
   replace H := zg H
   obtain ⟨c45, H⟩ := H
   have c45b0 := decide_eq_true c45
   (try (have c45h0 := c45b0; simp only [hl7_1, hl8_1, hl5_2] at c45h0))
   clear c45
   obtain ⟨y127, hy127⟩ : ∃ y_ : List Int, y_ = (x5_2.set (x58_2 : Int).toNat ((ji44) % 4294967296)) := ⟨_, rfl⟩
   replace H : (nat_long.l1 k2 x4_1 y127 t102 x8_1 (y122.length : Int) ji40) = some (r1, r2) := zY hy127 H
   have Ny127 := Aside0.mk hy127
   clear hy127
   have H' := Aside0.mk H
   clear H
   try go_wp2
   replace HO_4 := Aside0.mk (Kd.R_drew HO_4.out)
   replace HO_5 := Aside0.mk (Kd.R_drew HO_5.out)
   replace HO_8 := Aside0.mk (Kd.R_drew HO_8.out)
   replace HB := Aside0.mk (below_drew1 HB.out)
   have p125 : 0 ≤ (x58_2 : Int) := zd
   have q125 : x58_2 < (x8_1.length : Int) := zd
   obtain ⟨ad125, e125, hx125_0⟩ := Kd.at_int (Kd.R_reads' HO_8.out).2.2 x58_2 p125 q125
   cases e125
   replace p125 := eq_true p125
   replace q125 := eq_true q125
   have p126 : 0 ≤ ((ji40) : Int) := zd
   have q126 : (ji40) < (x8_1.length : Int) := zd
   obtain ⟨ad126, e126, hx126_0⟩ := Kd.at_int (Kd.R_reads' HO_8.out).2.2 (ji40) p126 q126
   obtain rfl : ad125 = ad126 := (by injection e126)
   replace p126 := eq_true p126
   replace q126 := eq_true q126
   have p46 : 0 ≤ (x58_2 : Int) := zd
   have q46 : (x58_2 : Int) < ((x5_2.length : Int) : Int) := zd
   obtain ⟨go46, co46, eo46, gb46, gl46, cl46, HG46⟩ := Kd.R_form HO_5.out (by omega)
   (first | cases eo46 | (injection eo46 with ea_ en_ ec_; (first | subst ea_ | (injection ea_ with ea_; subst ea_)); subst ec_; clear en_))
   have GB46 := Aside0.mk gb46
   have GG46 := Aside0.mk HG46
   clear gb46 gl46 HG46
   obtain ⟨hx46_0, hf46_0⟩ := Kd.R_celln 0 HO_5.out (x58_2 : Int) p46 q46
   replace p46 := eq_true p46
   replace q46 := eq_true q46
   have HP48 := Kd.R_putn HO_5.out (x58_2 : Int) ((ji44) % 4294967296)
   rw [← Ny127.out] at HP48
   have HQ48 := Aside0.mk HP48
   clear HP48
   refine start_ (n := 20) (S := fun w' => w'.cell? (ad125.add (x58_2).toNat) = some (.int .u32 (rd x8_1 x58_2)) ∧ w'.cell? (ad125.add ((ji40)).toNat) = some (.int .u32 (rd x8_1 (ji40)))) (ds := [19]) #[false, false, false, false, false, false, false, false, false, false, false, false, false, false, false, false, false, false, false, false] (by kernel_rfl) rfl rfl ⟨hx125_0, hx126_0⟩ (fun hHeld => ?_); refine with_tabW nat_long.tab14 nat_long.bits14 (fun HT_ HW_ => ?_)
   first | (generalize wr.drew = w47 at HO_4 HO_5 HO_8 HB GG46 HQ48 hf46_0 hx125_0 hx126_0 hx46_0 hHeld ⊢) | (generalize wr.drew = w47 at HO_4 HO_5 HO_8 HB GG46 HQ48 hf46_0 hx126_0 hx46_0 hHeld ⊢) | (generalize wr.drew = w47 at HO_4 HO_5 HO_8 HB GG46 HQ48 hf46_0 hx125_0 hx46_0 hHeld ⊢) | (generalize wr.drew = w47 at HO_4 HO_5 HO_8 HB GG46 HQ48 hf46_0 hx125_0 hx126_0 hHeld ⊢) | (generalize wr.drew = w47 at HO_4 HO_5 HO_8 HB GG46 HQ48 hf46_0 hx46_0 hHeld ⊢) | (generalize wr.drew = w47 at HO_4 HO_5 HO_8 HB GG46 HQ48 hf46_0 hx126_0 hHeld ⊢) | (generalize wr.drew = w47 at HO_4 HO_5 HO_8 HB GG46 HQ48 hf46_0 hx125_0 hHeld ⊢) | (generalize wr.drew = w47 at HO_4 HO_5 HO_8 HB GG46 HQ48 hf46_0 hHeld ⊢)
   refine zp (i := 0) (N := some 61) HT_ ?_
   refine zp (i := 1) (N := some 62) HT_ ?_
   refine zp (i := 2) (N := some 63) HT_ ?_
   refine zp (i := 3) (N := some 64) HT_ ?_
   refine zp (i := 4) (N := some 65) HT_ ?_
   refine zp (i := 7) (N := some 68) HT_ ?_
   refine zp (i := 8) (N := some 69) HT_ ?_
   refine zp (i := 9) (N := some 70) HT_ ?_
   refine zp (i := 10) (N := some 71) HT_ ?_
   refine zp (i := 15) (N := some 76) HT_ ?_
   refine take_ (i := 5) (N := some 66) (v := ?_) (a' := ?_) #[true, true, true, true, true, true, false, true, true, true, true, false, false, false, false, true, false, false, false, false] rfl rfl (take_ofW HT_.out HW_.out (by kernel_rfl)) (fun _ _ _ h => h) (Or.inl ⟨by rfl, ?_⟩) hHeld ?_ ?_
   rotate_left
   · rintro w' ⟨s0, s1⟩
     go_simp
     with_reducible rfl
   rotate_left
   · simp only [Act.put, List.setIfInBounds_toArray, List.set_cons_zero, List.set_cons_succ, i64_w, i32_w]
     rfl
   refine zp (i := 6) (N := some 67) HT_ ?_
   refine take_ (i := 11) (N := some 72) (v := ?_) (a' := ?_) #[true, true, true, true, true, true, true, true, true, true, true, true, false, false, false, true, false, false, false, false] rfl rfl (take_ofW HT_.out HW_.out (by kernel_rfl)) (fun _ _ _ h => h) (Or.inl ⟨by rfl, ?_⟩) hHeld ?_ ?_
   rotate_left
   · rintro w' ⟨s0, s1⟩
     go_simp
     with_reducible rfl
   rotate_left
   · simp only [Act.put, List.setIfInBounds_toArray, List.set_cons_zero, List.set_cons_succ, i64_w, i32_w]
     rfl
   refine zp (i := 12) (N := some 73) HT_ ?_
   refine zp (i := 13) (N := some 74) HT_ ?_
   refine zp (i := 14) (N := some 75) HT_ ?_
   refine zp (i := 16) (N := some 77) HT_ ?_
   refine zp (i := 17) (N := some 78) HT_ ?_
   refine zp (i := 18) (N := some 79) HT_ ?_
   refine last_ (i := 19) (N := none) #[true, true, true, true, true, true, true, true, true, true, true, true, true, true, true, true, true, true, true, true] rfl rfl (one_of HT_.out (by kernel_rfl)) (by decide) (fun K hK => ?_)
   refine skip_ (w1 := ?_) (by rfl) rfl ?_ ?_
   rotate_left
   · go_simp
     rfl
   refine hK.out _ _ ?_
   clear hK K
   refine done_ (done_of HT_.out (by kernel_rfl)) ?_
   try go_wp2
   (try simp only [← hl5_2])
   go_roundg k2
   case measure => have := HK1.out; have := HK2.out; omega
   case rel => exact ⟨(y127), (ji40), (by first | rfl | (simp; done) | (simp only [← hji40] <;> (first | rfl | simp)) | (simp [*]; done)), H', ⟨zo2 HK1 HK2⟩, ⟨by (try simp only [hl7_1]); (try simp only [hl8_1]); (try simp only [hl5_2]); (with_reducible repeat (first | apply Kd.R_alloc | apply Kd.R_drewN | apply Kd.R_drew)); exact Kd.R_mono (Kd.R_far (p := ⟨go46, (x58_2 : Int).toNat, none⟩) (Kd.R_mono HO_4.out (fun k_ hk => (⟨hk, fun e_ => hk.1 (by rw [e_]; rfl)⟩ : _ ∧ k_ ≠ go46))) (fun _ hk => hk.2) (.int .u32 ((ji44) % 4294967296))) (fun _ hk => ⟨hk.1.1, hk.1.2⟩)⟩, ⟨by (try simp only [hl7_1]); (try simp only [hl8_1]); (try simp only [hl5_2]); (with_reducible repeat (first | apply Kd.R_alloc | apply Kd.R_drewN | apply Kd.R_drew)); exact HQ48.out⟩, ⟨by (try simp only [hl7_1]); (try simp only [hl8_1]); (try simp only [hl5_2]); (with_reducible repeat (first | apply Kd.R_alloc | apply Kd.R_drewN | apply Kd.R_drew)); exact Kd.R_mono (Kd.R_far (p := ⟨go46, (x58_2 : Int).toNat, none⟩) (Kd.R_mono HO_8.out (fun k_ hk => (⟨hk, fun e_ => hk.2 (by rw [e_]; rfl)⟩ : _ ∧ k_ ≠ go46))) (fun _ hk => hk.2) (.int .u32 ((ji44) % 4294967296))) (fun _ hk => ⟨hk.1.1, hk.1.2⟩)⟩, ⟨zB1 HB.out GB46.out⟩⟩
 have c37b0 := decide_eq_false c37
 (try (have c37h0 := c37b0; simp only [hl7_1, hl8_1, hl5_2] at c37h0))
 clear c37
 simp only [Option.some.injEq, Prod.mk.injEq] at H
 obtain ⟨rfl, rfl⟩ := H
 go_wp2
 go_ret2
 exact ⟨_, _, by first | rfl | (simp [errW_none, errW_some] <;> rfl) | (simp only [← hji3, ← hji10]; first | rfl | (simp [errW_none, errW_some] <;> rfl)) | (simp [*, errW_none, errW_some] <;> rfl), by (with_reducible repeat (first | apply Kd.R_alloc | apply Kd.R_drewN | apply Kd.R_drew)); exact Kd.R_mono HO_4.out (fun _ hk => hk.1), by (with_reducible repeat (first | apply Kd.R_alloc | apply Kd.R_drewN | apply Kd.R_drew)); exact Kd.R_mono HO_5.out (fun _ hk => hk.1), zB HB.out⟩
set_option maxHeartbeats 8000000 in
set_option maxRecDepth 100000 in
theorem nat_DivMod.calls (k : Nat) (P0_ : Nat → Prop) (A0 : Option Addr) (c0 : Nat) (l0 : List Int) (P1_ : Nat → Prop) (A1 : Option Addr) (c1 : Nat) (l1 : List Int) (r1 : List Int) (r2 : List Int) (r3 : Int) (w : World) (hs0 : Kd.V (Kd.int .u32) 97 w w.heap.size (fun k_ => P0_ k_) (.slice A0 l0.length c0) l0) (hs1 : Kd.V (Kd.int .u32) 97 w w.heap.size (fun k_ => P1_ k_) (.slice A1 l1.length c1) l1) (h : nat_DivMod.f k l0 l1 = some (r1, r2, r3)) :
    Calls Try.prog 105 #[.slice A0 l0.length c0, .slice A1 l1.length c1] w fun e w' => ∃ v0_ v1_ : Value, e = .returned (.tuple #[v0_, v1_, .int .i64 r3]) ∧ Kd.V (Kd.int .u32) 97 w' w.heap.size (fun k_ => ((P0_ k_ ∨ P1_ k_) ∨ w.heap.size ≤ k_) ∧ some k_ ≠ (v1_ : Value).ownBlock) v0_ r1 ∧ Kd.R (Kd.int .u32) 97 w' w.heap.size (fun k_ => (w.heap.size ≤ k_)) v1_ r2 ∧ Below w.heap.size w w' := by
 have HO0 := Aside0.mk (show Kd.V (Kd.int .u32) 97 w w.heap.size (fun k_ => ((P0_ k_ ∨ P1_ k_) ∨ w.heap.size ≤ k_)) (.slice A0 l0.length c0) l0 from Kd.V_mono hs0 (fun k_ hk => .inl (.inl hk)))
 have HO1 := Aside0.mk (show Kd.V (Kd.int .u32) 97 w w.heap.size (fun k_ => ((P0_ k_ ∨ P1_ k_) ∨ w.heap.size ≤ k_)) (.slice A1 l1.length c1) l1 from Kd.V_mono hs1 (fun k_ hk => .inl (.inr hk)))
 have HB := Aside0.mk (Below.refl w.heap.size w)
 have H : ((nat_short.f k l0).bind fun t101 => ((nat_short.f k l1).bind fun t104 => (if (t104.length : Int) = 0 then (some (([] : List Int), ([] : List Int), 7)) else ((nat_Cmp.f k t101 t104).bind fun t107 => (if t107 < 0 then ((nat_Trim.f k t101).bind fun t108 => (some (([] : List Int), t108, 0))) else (if (t104.length : Int) = 1 then (if 0 < (t104.length : Int) then ((nat_digit.f k t101 (rd t104 0)).bind fun bt112 => ((nat_Of.f k (IntKind.u64.wrap (bt112.2))).bind fun t116 => (some (bt112.1, t116, 0)))) else (none)) else ((nat_long.f k t101 t104).bind fun bt119 => ((nat_Trim.f k bt119.1).bind fun t125 => ((nat_Trim.f k bt119.2).bind fun t128 => (some (t125, t128, 0))))))))))) = some (r1, r2, r3) := h
 clear h
 replace H := zb H
 obtain ⟨t101, A3, H⟩ := H
 replace H := zb H
 obtain ⟨t104, A4, H⟩ := H
 replace H := zi H
 rcases H with ⟨c5, H⟩ | ⟨c5, H⟩
 · have c5b0 := beq_iff_eq.mpr c5
   have c5b1 := bne_eq_false_iff_eq.mpr c5
   clear c5
   simp only [Option.some.injEq, Prod.mk.injEq] at H
   obtain ⟨rfl, rfl, rfl⟩ := H
   go_enter Try.func105, Try.ntmps105
   go_wp2_with (first | ((with_reducible refine gC 118 ?_); refine zG (some 12) Try.func118 #[.slice A0 l0.length c0] ?_; (with_reducible refine (nat_short.calls k (fun k_ => ((P0_ k_ ∨ P1_ k_) ∨ w.heap.size ≤ k_)) _ _ l0 t101 _ ?side1 A3.out).mono ?_); (case side1 => exact HO0.out); rintro e w6 ⟨v102, rfl, ho0, hb⟩; refine ⟨_, rfl, ?_⟩; replace HO0 := yVb HO0 hb; replace HO1 := yVb HO1 hb; have HO103 := Aside0.mk (Kd.V_lower (Kd.V_mono (ok' := fun k_ => ((P0_ k_ ∨ P1_ k_) ∨ w.heap.size ≤ k_)) ho0 (fun k_ hk_ => Or.elim hk_ (fun hs_ => hs_) (fun hn_ => (.inr (Nat.le_trans (below_size (zB HB.out)) hn_))))) (below_size (zB HB.out))); replace HB := yS HB hb; (try clear hb ho0)) | ((with_reducible refine gC 118 ?_); refine zG (some 14) Try.func118 #[.slice A1 l1.length c1] ?_; (with_reducible refine (nat_short.calls k (fun k_ => ((P0_ k_ ∨ P1_ k_) ∨ w.heap.size ≤ k_)) _ _ l1 t104 _ ?side1 A4.out).mono ?_); (case side1 => exact HO1.out); rintro e w7 ⟨v105, rfl, ho0, hb⟩; refine ⟨_, rfl, ?_⟩; replace HO0 := yVb HO0 hb; replace HO1 := yVb HO1 hb; replace HO103 := yVb HO103 hb; have HO106 := Aside0.mk (Kd.V_lower (Kd.V_mono (ok' := fun k_ => ((P0_ k_ ∨ P1_ k_) ∨ w.heap.size ≤ k_)) ho0 (fun k_ hk_ => Or.elim hk_ (fun hs_ => hs_) (fun hn_ => (.inr (Nat.le_trans (below_size (zB HB.out)) hn_))))) (below_size (zB HB.out))); replace HB := yS HB hb; (try clear hb ho0); obtain ⟨Ao8, co8, rfl⟩ := Kd.V_slice HO106.out))
   go_ret3
   exact ⟨_, _, zE, by exact Kd.V_nil _ _ _ _ _, z0, zB HB.out⟩
 have c5b0 := beq_eq_false_iff_ne.mpr c5
 have c5b1 := bne_iff_ne.mpr c5
 have c5b2 : ¬ (t104 = []) := fun h_ => c5 (by rw [h_]; rfl)
 replace H := zb H
 obtain ⟨t107, A9, H⟩ := H
 replace H := zid H
 rcases H with ⟨c10b0, H⟩ | ⟨c10b0, H⟩
 · replace H := zb H
   obtain ⟨t108, A11, H⟩ := H
   simp only [Option.some.injEq, Prod.mk.injEq] at H
   obtain ⟨rfl, rfl, rfl⟩ := H
   go_enter Try.func105, Try.ntmps105
   go_wp2_with (first | ((with_reducible refine gC 118 ?_); refine zG (some 12) Try.func118 #[.slice A0 l0.length c0] ?_; (with_reducible refine (nat_short.calls k (fun k_ => ((P0_ k_ ∨ P1_ k_) ∨ w.heap.size ≤ k_)) _ _ l0 t101 _ ?side1 A3.out).mono ?_); (case side1 => exact HO0.out); rintro e w12 ⟨v102, rfl, ho0, hb⟩; refine ⟨_, rfl, ?_⟩; replace HO0 := yVb HO0 hb; replace HO1 := yVb HO1 hb; have HO103 := Aside0.mk (Kd.V_lower (Kd.V_mono (ok' := fun k_ => ((P0_ k_ ∨ P1_ k_) ∨ w.heap.size ≤ k_)) ho0 (fun k_ hk_ => Or.elim hk_ (fun hs_ => hs_) (fun hn_ => (.inr (Nat.le_trans (below_size (zB HB.out)) hn_))))) (below_size (zB HB.out))); replace HB := yS HB hb; (try clear hb ho0)) | ((with_reducible refine gC 118 ?_); refine zG (some 14) Try.func118 #[.slice A1 l1.length c1] ?_; (with_reducible refine (nat_short.calls k (fun k_ => ((P0_ k_ ∨ P1_ k_) ∨ w.heap.size ≤ k_)) _ _ l1 t104 _ ?side1 A4.out).mono ?_); (case side1 => exact HO1.out); rintro e w13 ⟨v105, rfl, ho0, hb⟩; refine ⟨_, rfl, ?_⟩; replace HO0 := yVb HO0 hb; replace HO1 := yVb HO1 hb; replace HO103 := yVb HO103 hb; have HO106 := Aside0.mk (Kd.V_lower (Kd.V_mono (ok' := fun k_ => ((P0_ k_ ∨ P1_ k_) ∨ w.heap.size ≤ k_)) ho0 (fun k_ hk_ => Or.elim hk_ (fun hs_ => hs_) (fun hn_ => (.inr (Nat.le_trans (below_size (zB HB.out)) hn_))))) (below_size (zB HB.out))); replace HB := yS HB hb; (try clear hb ho0); obtain ⟨Ao14, co14, rfl⟩ := Kd.V_slice HO106.out; obtain ⟨Ao15, co15, rfl⟩ := Kd.V_slice HO103.out) | ((with_reducible refine gC 79 ?_); refine zG (some 22) Try.func79 #[.slice Ao15 t101.length co15, .slice Ao14 t104.length co14] ?_; (with_reducible refine (nat_Cmp.calls k _ _ t101 _ _ t104 t107 _ ?side1 ?side2 ?side3 ?side4 A9.out).mono ?_); (case side1 => exact zC (Kd.V_reads' HO103.out).2.2); (case side2 => exact (Kd.V_reads' HO103.out).2.1); (case side3 => exact zC (Kd.V_reads' HO106.out).2.2); (case side4 => exact (Kd.V_reads' HO106.out).2.1); rintro e w16 ⟨rfl, hb⟩; refine ⟨_, rfl, ?_⟩; replace HO0 := yVb HO0 hb; replace HO1 := yVb HO1 hb; replace HO103 := yVb HO103 hb; replace HO106 := yVb HO106 hb; replace HB := yS HB hb; (try clear hb); (try clear hb2); (try clear hk); (try clear hi)) | ((with_reducible refine gC 103 ?_); refine zG (some 25) Try.func103 #[.slice Ao15 t101.length co15] ?_; (with_reducible refine (nat_Trim.calls k _ _ t101 t108 _ ?side1 ?side2 A11.out).mono ?_); (case side1 => exact zC (Kd.V_reads' HO103.out).2.2); (case side2 => exact (Kd.V_reads' HO103.out).2.1); rintro e w17 ⟨v109, rfl, ho0, hb⟩; refine ⟨_, rfl, ?_⟩; replace HO0 := yVe HO0 ho0 hb; replace HO1 := yVe HO1 ho0 hb; replace HO103 := yVe HO103 ho0 hb; replace HO106 := yVe HO106 ho0 hb; replace ho0 := Kd.R_newM (M := fun k_ => (w.heap.size ≤ k_)) ho0 (below_size (zB HB.out)) (fun k_ h_ => h_); have HO110 := yRl ho0 HB; replace HB := yS HB hb; (try clear hb ho0)))
   go_ret3
   exact ⟨_, _, zE, by exact Kd.V_nil _ _ _ _ _, by (with_reducible repeat (first | apply Kd.R_alloc | apply Kd.R_drewN | apply Kd.R_drew)); exact Kd.R_mono HO110.out (fun _ hk => hk.1), zB HB.out⟩
 replace H := zi H
 rcases H with ⟨c18, H⟩ | ⟨c18, H⟩
 · have c18b0 := beq_iff_eq.mpr c18
   have c18b1 := bne_eq_false_iff_eq.mpr c18
   clear c18
   replace H := zg H
   obtain ⟨c19, H⟩ := H
   have c19b0 := decide_eq_true c19
   have c19b1 : decide (0 < t104.length) = true := decide_eq_true (by omega)
   clear c19
   replace H := zb H
   obtain ⟨⟨t112, t115⟩, A20, H⟩ := H
   dsimp only at H
   replace H := zb H
   obtain ⟨t116, A21, H⟩ := H
   simp only [Option.some.injEq, Prod.mk.injEq] at H
   obtain ⟨rfl, rfl, rfl⟩ := H
   go_enter Try.func105, Try.ntmps105
   go_wp2_with (first | ((with_reducible refine gC 118 ?_); refine zG (some 12) Try.func118 #[.slice A0 l0.length c0] ?_; (with_reducible refine (nat_short.calls k (fun k_ => ((P0_ k_ ∨ P1_ k_) ∨ w.heap.size ≤ k_)) _ _ l0 t101 _ ?side1 A3.out).mono ?_); (case side1 => exact HO0.out); rintro e w22 ⟨v102, rfl, ho0, hb⟩; refine ⟨_, rfl, ?_⟩; replace HO0 := yVb HO0 hb; replace HO1 := yVb HO1 hb; have HO103 := Aside0.mk (Kd.V_lower (Kd.V_mono (ok' := fun k_ => ((P0_ k_ ∨ P1_ k_) ∨ w.heap.size ≤ k_)) ho0 (fun k_ hk_ => Or.elim hk_ (fun hs_ => hs_) (fun hn_ => (.inr (Nat.le_trans (below_size (zB HB.out)) hn_))))) (below_size (zB HB.out))); replace HB := yS HB hb; (try clear hb ho0)) | ((with_reducible refine gC 118 ?_); refine zG (some 14) Try.func118 #[.slice A1 l1.length c1] ?_; (with_reducible refine (nat_short.calls k (fun k_ => ((P0_ k_ ∨ P1_ k_) ∨ w.heap.size ≤ k_)) _ _ l1 t104 _ ?side1 A4.out).mono ?_); (case side1 => exact HO1.out); rintro e w23 ⟨v105, rfl, ho0, hb⟩; refine ⟨_, rfl, ?_⟩; replace HO0 := yVb HO0 hb; replace HO1 := yVb HO1 hb; replace HO103 := yVb HO103 hb; have HO106 := Aside0.mk (Kd.V_lower (Kd.V_mono (ok' := fun k_ => ((P0_ k_ ∨ P1_ k_) ∨ w.heap.size ≤ k_)) ho0 (fun k_ hk_ => Or.elim hk_ (fun hs_ => hs_) (fun hn_ => (.inr (Nat.le_trans (below_size (zB HB.out)) hn_))))) (below_size (zB HB.out))); replace HB := yS HB hb; (try clear hb ho0); obtain ⟨Ao24, co24, rfl⟩ := Kd.V_slice HO106.out; obtain ⟨Ao25, co25, rfl⟩ := Kd.V_slice HO103.out) | ((with_reducible refine gC 79 ?_); refine zG (some 22) Try.func79 #[.slice Ao25 t101.length co25, .slice Ao24 t104.length co24] ?_; (with_reducible refine (nat_Cmp.calls k _ _ t101 _ _ t104 t107 _ ?side1 ?side2 ?side3 ?side4 A9.out).mono ?_); (case side1 => exact zC (Kd.V_reads' HO103.out).2.2); (case side2 => exact (Kd.V_reads' HO103.out).2.1); (case side3 => exact zC (Kd.V_reads' HO106.out).2.2); (case side4 => exact (Kd.V_reads' HO106.out).2.1); rintro e w26 ⟨rfl, hb⟩; refine ⟨_, rfl, ?_⟩; replace HO0 := yVb HO0 hb; replace HO1 := yVb HO1 hb; replace HO103 := yVb HO103 hb; replace HO106 := yVb HO106 hb; replace HB := yS HB hb; (try clear hb); (try clear hb2); (try clear hk); (try clear hi); have p111 : 0 ≤ (0 : Int) := (by omega); have q111 : 0 < (t104.length : Int) := zd; obtain ⟨ad111, e111, hx111_0⟩ := Kd.at_int (Kd.V_reads' HO106.out).2.2 0 p111 q111; cases e111; have qi111 : (0 < t104.length) = True := eq_true (by omega); (try rw [show ((0 : Int)).toNat = 0 from rfl] at hx111_0); (try rw [Addr.add_zero'] at hx111_0); replace p111 := eq_true p111; replace q111 := eq_true q111) | ((with_reducible refine gC 115 ?_); refine zG (some 35) Try.func115 #[.slice Ao25 t101.length co25, .int .u32 (rd t104 0)] ?_; (with_reducible refine (nat_digit.calls k _ _ t101 (rd t104 0) t112 t115 _ ?side1 ?side2 A20.out).mono ?_); (case side1 => exact zC (Kd.V_reads' HO103.out).2.2); (case side2 => exact (Kd.V_reads' HO103.out).2.1); rintro e w27 ⟨v113, rfl, ho0, hb⟩; refine ⟨_, rfl, ?_⟩; replace HO0 := yVb HO0 hb; replace HO1 := yVb HO1 hb; replace HO103 := yVb HO103 hb; replace HO106 := yVb HO106 hb; have HO114 := Aside0.mk (Kd.V_lower (Kd.V_mono (ok' := fun k_ => ((P0_ k_ ∨ P1_ k_) ∨ w.heap.size ≤ k_)) ho0 (fun k_ hk_ => (.inr (Nat.le_trans (below_size (zB HB.out)) hk_)))) (below_size (zB HB.out))); replace HB := yS HB hb; (try clear hb ho0)) | ((with_reducible refine gC 80 ?_); refine zG (some 41) Try.func80 #[.int .u64 (IntKind.u64.wrap (t115))] ?_; (with_reducible refine (nat_Of.calls k (IntKind.u64.wrap (t115)) t116 _ A21.out).mono ?_); rintro e w28 ⟨v117, rfl, ho0, hb⟩; refine ⟨_, rfl, ?_⟩; replace HO0 := yVe HO0 ho0 hb; replace HO1 := yVe HO1 ho0 hb; replace HO103 := yVe HO103 ho0 hb; replace HO106 := yVe HO106 ho0 hb; replace HO114 := yVe HO114 ho0 hb; replace ho0 := Kd.R_newM (M := fun k_ => (w.heap.size ≤ k_)) ho0 (below_size (zB HB.out)) (fun k_ h_ => h_); have HO118 := yRl ho0 HB; replace HB := yS HB hb; (try clear hb ho0)))
   go_ret3
   exact ⟨_, _, zE, zV HO114.out, by (with_reducible repeat (first | apply Kd.R_alloc | apply Kd.R_drewN | apply Kd.R_drew)); exact Kd.R_mono HO118.out (fun _ hk => hk.1), zB HB.out⟩
 have c18b0 := beq_eq_false_iff_ne.mpr c18
 have c18b1 := bne_iff_ne.mpr c18
 replace H := zb H
 obtain ⟨⟨t119, t120⟩, A29, H⟩ := H
 dsimp only at H
 replace H := zb H
 obtain ⟨t125, A30, H⟩ := H
 replace H := zb H
 obtain ⟨t128, A31, H⟩ := H
 simp only [Option.some.injEq, Prod.mk.injEq] at H
 obtain ⟨rfl, rfl, rfl⟩ := H
 go_enter Try.func105, Try.ntmps105
 go_wp2_with (first | ((with_reducible refine gC 118 ?_); refine zG (some 12) Try.func118 #[.slice A0 l0.length c0] ?_; (with_reducible refine (nat_short.calls k (fun k_ => ((P0_ k_ ∨ P1_ k_) ∨ w.heap.size ≤ k_)) _ _ l0 t101 _ ?side1 A3.out).mono ?_); (case side1 => exact HO0.out); rintro e w32 ⟨v102, rfl, ho0, hb⟩; refine ⟨_, rfl, ?_⟩; replace HO0 := yVb HO0 hb; replace HO1 := yVb HO1 hb; have HO103 := Aside0.mk (Kd.V_lower (Kd.V_mono (ok' := fun k_ => ((P0_ k_ ∨ P1_ k_) ∨ w.heap.size ≤ k_)) ho0 (fun k_ hk_ => Or.elim hk_ (fun hs_ => hs_) (fun hn_ => (.inr (Nat.le_trans (below_size (zB HB.out)) hn_))))) (below_size (zB HB.out))); replace HB := yS HB hb; (try clear hb ho0)) | ((with_reducible refine gC 118 ?_); refine zG (some 14) Try.func118 #[.slice A1 l1.length c1] ?_; (with_reducible refine (nat_short.calls k (fun k_ => ((P0_ k_ ∨ P1_ k_) ∨ w.heap.size ≤ k_)) _ _ l1 t104 _ ?side1 A4.out).mono ?_); (case side1 => exact HO1.out); rintro e w33 ⟨v105, rfl, ho0, hb⟩; refine ⟨_, rfl, ?_⟩; replace HO0 := yVb HO0 hb; replace HO1 := yVb HO1 hb; replace HO103 := yVb HO103 hb; have HO106 := Aside0.mk (Kd.V_lower (Kd.V_mono (ok' := fun k_ => ((P0_ k_ ∨ P1_ k_) ∨ w.heap.size ≤ k_)) ho0 (fun k_ hk_ => Or.elim hk_ (fun hs_ => hs_) (fun hn_ => (.inr (Nat.le_trans (below_size (zB HB.out)) hn_))))) (below_size (zB HB.out))); replace HB := yS HB hb; (try clear hb ho0); obtain ⟨Ao34, co34, rfl⟩ := Kd.V_slice HO106.out; obtain ⟨Ao35, co35, rfl⟩ := Kd.V_slice HO103.out) | ((with_reducible refine gC 79 ?_); refine zG (some 22) Try.func79 #[.slice Ao35 t101.length co35, .slice Ao34 t104.length co34] ?_; (with_reducible refine (nat_Cmp.calls k _ _ t101 _ _ t104 t107 _ ?side1 ?side2 ?side3 ?side4 A9.out).mono ?_); (case side1 => exact zC (Kd.V_reads' HO103.out).2.2); (case side2 => exact (Kd.V_reads' HO103.out).2.1); (case side3 => exact zC (Kd.V_reads' HO106.out).2.2); (case side4 => exact (Kd.V_reads' HO106.out).2.1); rintro e w36 ⟨rfl, hb⟩; refine ⟨_, rfl, ?_⟩; replace HO0 := yVb HO0 hb; replace HO1 := yVb HO1 hb; replace HO103 := yVb HO103 hb; replace HO106 := yVb HO106 hb; replace HB := yS HB hb; (try clear hb); (try clear hb2); (try clear hk); (try clear hi)) | ((with_reducible refine gC 129 ?_); refine zG (some 45) Try.func129 #[.slice Ao35 t101.length co35, .slice Ao34 t104.length co34] ?_; (with_reducible refine (nat_long.calls k _ _ t101 _ _ t104 t119 t120 _ ?side1 ?side2 ?side3 ?side4 A29.out).mono ?_); (case side1 => exact zC (Kd.V_reads' HO103.out).2.2); (case side2 => exact (Kd.V_reads' HO103.out).2.1); (case side3 => exact zC (Kd.V_reads' HO106.out).2.2); (case side4 => exact (Kd.V_reads' HO106.out).2.1); rintro e w37 ⟨v121, v123, rfl, ho0, ho1, hb⟩; refine ⟨_, rfl, ?_⟩; replace HO0 := yVt HO0 hb ho0 ho1; replace HO1 := yVt HO1 hb ho0 ho1; replace HO103 := yVt HO103 hb ho0 ho1; replace HO106 := yVt HO106 hb ho0 ho1; replace ho0 := Kd.R_newM (M := fun k_ => (w.heap.size ≤ k_)) ho0 (below_size (zB HB.out)) (fun k_ h_ => h_); have HO122 := yRl ho0 HB; replace ho1 := Kd.R_newM (M := fun k_ => (w.heap.size ≤ k_)) ho1 (below_size (zB HB.out)) (fun k_ h_ => h_); have HO124 := yRl ho1 HB; replace HB := yS HB hb; (try clear hb ho0); (try clear ho1); obtain ⟨Ao38, co38, rfl⟩ := Kd.R_slice HO122.out) | ((with_reducible refine gC 103 ?_); refine zG (some 49) Try.func103 #[.slice Ao38 t119.length co38] ?_; (with_reducible refine (nat_Trim.calls k _ _ t119 t125 _ ?side1 ?side2 A30.out).mono ?_); (case side1 => exact zC (Kd.R_reads' HO122.out).2.2); (case side2 => exact (Kd.R_reads' HO122.out).2.1); rintro e w39 ⟨v126, rfl, ho0, hb⟩; refine ⟨_, rfl, ?_⟩; replace HO0 := yVe HO0 ho0 hb; replace HO1 := yVe HO1 ho0 hb; replace HO103 := yVe HO103 ho0 hb; replace HO106 := yVe HO106 ho0 hb; replace ho0 := Kd.R_newM (M := fun k_ => (w.heap.size ≤ k_)) ho0 (below_size (zB HB.out)) (fun k_ h_ => h_); replace ho0 := yn ho0 HO122; replace ho0 := yn ho0 HO124; have HO127 := yRl ho0 HB; replace HO122 := yRe HO122 ho0 hb; replace HO124 := yRe HO124 ho0 hb; replace HB := yS HB hb; (try clear hb ho0); obtain ⟨Ao40, co40, rfl⟩ := Kd.R_slice HO124.out) | ((with_reducible refine gC 103 ?_); refine zG (some 51) Try.func103 #[.slice Ao40 t120.length co40] ?_; (with_reducible refine (nat_Trim.calls k _ _ t120 t128 _ ?side1 ?side2 A31.out).mono ?_); (case side1 => exact zC (Kd.R_reads' HO124.out).2.2); (case side2 => exact (Kd.R_reads' HO124.out).2.1); rintro e w41 ⟨v129, rfl, ho0, hb⟩; refine ⟨_, rfl, ?_⟩; replace HO0 := yVe HO0 ho0 hb; replace HO1 := yVe HO1 ho0 hb; replace HO103 := yVe HO103 ho0 hb; replace HO106 := yVe HO106 ho0 hb; replace ho0 := Kd.R_newM (M := fun k_ => (w.heap.size ≤ k_)) ho0 (below_size (zB HB.out)) (fun k_ h_ => h_); replace ho0 := yn ho0 HO122; replace ho0 := yn ho0 HO124; replace ho0 := yn ho0 HO127; have HO130 := yRl ho0 HB; replace HO122 := yRe HO122 ho0 hb; replace HO124 := yRe HO124 ho0 hb; replace HO127 := yRe HO127 ho0 hb; replace HB := yS HB hb; (try clear hb ho0)))
 go_ret3
 exact ⟨_, _, zE, Kd.V_mono (ok := fun k_ => (w.heap.size ≤ k_) ∧ some k_ ≠ (v129 : Value).ownBlock) (Kd.R_V (by (with_reducible repeat (first | apply Kd.R_alloc | apply Kd.R_drewN | apply Kd.R_drew)); exact Kd.R_mono HO127.out (fun _ hk => ⟨hk.1.1.1.1, hk.2⟩))) (fun k_ hk => by first | exact ⟨(.inr (hk.1)), hk.2⟩ | exact (.inr (hk))), by (with_reducible repeat (first | apply Kd.R_alloc | apply Kd.R_drewN | apply Kd.R_drew)); exact Kd.R_mono HO130.out (fun _ hk => hk.1.1.1.1), zB HB.out⟩
set_option maxHeartbeats 8000000 in
set_option maxRecDepth 100000 in
theorem mw_Dual.calls (k : Nat) (a0 : Int) (A1 : Option Addr) (c1 : Nat) (l1 : List (List Int)) (r1 : List (List Int)) (r2 : Int) (w : World) (hr1 : Kd.C (Kd.slice 97 (Kd.int .u32)) w A1 l1.length l1) (hc1 : l1.length ≤ c1) (h : mw_Dual.f k a0 l1 = some (r1, r2)) :
    Calls Try.prog 57 #[.int .i64 a0, .slice A1 l1.length c1] w fun e w' => ∃ v0_ : Value, e = .returned (.tuple #[v0_, .int .i64 r2]) ∧ Kd.N (Kd.slice 97 (Kd.int .u32)) 29 w' w.heap.size (fun k_ => (w.heap.size ≤ k_)) v0_ r1 ∧ Below w.heap.size w w' := by
 have hu113 := Try.underlying113
 have HR1 := Aside0.mk hr1
 have HC1 := Aside0.mk hc1
 clear hr1 hc1
 have HB := Aside0.mk (Below.refl w.heap.size w)
 have H : ((mw_wrong.f a0 (l1.length : Int)).bind fun t101 => (if t101 = 0 then ((nat_Add.f k l1).bind fun t102 => (if (t102.length : Int) = 0 then (some (([] : List (List Int)), 7)) else (mw_Dual.l0 k a0 t102 ([] : List (S113)) l1 (l1.length : Int) 0))) else (some (([] : List (List Int)), t101)))) = some (r1, r2) := h
 clear h
 replace H := zb H
 obtain ⟨t101, A3, H⟩ := H
 replace H := zi H
 rcases H with ⟨c4, H⟩ | ⟨c4, H⟩
 · have c4b0 := beq_iff_eq.mpr c4
   have c4b1 := bne_eq_false_iff_eq.mpr c4
   clear c4
   replace H := zb H
   obtain ⟨t102, A5, H⟩ := H
   replace H := zi H
   rcases H with ⟨c6, H⟩ | ⟨c6, H⟩
   · have c6b0 := beq_iff_eq.mpr c6
     have c6b1 := bne_eq_false_iff_eq.mpr c6
     clear c6
     simp only [Option.some.injEq, Prod.mk.injEq] at H
     obtain ⟨rfl, rfl⟩ := H
     go_enter Try.func57, Try.ntmps57
     go_wp2_with (first | ((with_reducible refine gC 102 ?_); refine zG (some 20) Try.func102 #[.int .i64 a0, .int .i64 (l1.length : Int)] ?_; (with_reducible refine (mw_wrong.calls a0 (l1.length : Int) t101 _ A3.out).mono ?_); rintro e w' ⟨rfl, ⟨nd, rfl⟩⟩; refine ⟨_, rfl, ?_⟩) | ((with_reducible refine gC 73 ?_); refine zG (some 25) Try.func73 #[.slice A1 l1.length c1] ?_; (with_reducible refine (nat_Add.calls k _ _ l1 t102 _ ?side1 ?side2 A5.out).mono ?_); (case side1 => exact zC HR1.out); (case side2 => exact HC1.out); rintro e w7 ⟨v103, rfl, ho0, hb⟩; refine ⟨_, rfl, ?_⟩; replace ho0 := Kd.R_newM (M := fun k_ => (w.heap.size ≤ k_)) ho0 (below_size (zB HB.out)) (fun k_ h_ => h_); have HO104 := yRl ho0 HB; replace HB := yS HB hb; (try clear hb ho0); obtain ⟨Ao8, co8, rfl⟩ := Kd.R_slice HO104.out))
     go_ret2
     exact ⟨_, zE, by first | exact Kd.S_nil _ _ _ _ _ | exact Kd.N_nil _ _ _ _ _ | exact Kd.V_nil _ _ _ _ _ | exact Kd.Q_nil _ _ _ _ _ | exact Kd.R_nil _ _ _ _ _, zB HB.out⟩
   have c6b0 := beq_eq_false_iff_ne.mpr c6
   have c6b1 := bne_iff_ne.mpr c6
   have c6b2 : ¬ (t102 = []) := fun h_ => c6 (by rw [h_]; rfl)
   have H' := Aside0.mk H
   clear H
   go_enter Try.func57, Try.ntmps57
   go_wp2_with (first | ((with_reducible refine gC 102 ?_); refine zG (some 20) Try.func102 #[.int .i64 a0, .int .i64 (l1.length : Int)] ?_; (with_reducible refine (mw_wrong.calls a0 (l1.length : Int) t101 _ A3.out).mono ?_); rintro e w' ⟨rfl, ⟨nd, rfl⟩⟩; refine ⟨_, rfl, ?_⟩) | ((with_reducible refine gC 73 ?_); refine zG (some 25) Try.func73 #[.slice A1 l1.length c1] ?_; (with_reducible refine (nat_Add.calls k _ _ l1 t102 _ ?side1 ?side2 A5.out).mono ?_); (case side1 => exact zC HR1.out); (case side2 => exact HC1.out); rintro e w9 ⟨v103, rfl, ho0, hb⟩; refine ⟨_, rfl, ?_⟩; replace ho0 := Kd.R_newM (M := fun k_ => (w.heap.size ≤ k_)) ho0 (below_size (zB HB.out)) (fun k_ h_ => h_); have HO104 := yRl ho0 HB; replace HB := yS HB hb; (try clear hb ho0); obtain ⟨Ao10, co10, rfl⟩ := Kd.R_slice HO104.out))
   go_loopg [8, 31] k (fun kq v8 v31 w' => ∃ (x8_1 : List (S113)) (x31_1 : Int), v31 = .int .i64 x31_1 ∧ Aside0 (mw_Dual.l0 kq a0 t102 x8_1 l1 (l1.length : Int) x31_1 = some (r1, r2)) ∧ Aside0 (kq ≤ k) ∧ Aside0 (Kd.R (Kd.int .u32) 97 w' w.heap.size (fun k_ => (w.heap.size ≤ k_)) (.slice Ao10 t102.length co10) t102) ∧ Aside0 (Kd.N k113 113 w' w.heap.size (fun k_ => (w.heap.size ≤ k_) ∧ some k_ ≠ ((.slice Ao10 t102.length co10) : Value).ownBlock) v8 x8_1) ∧ Aside0 (Below w.heap.size w w'))
   case atStart => exact ⟨(([] : List (S113))), (0), zF, H', ⟨Nat.le_refl _⟩, ⟨by (with_reducible repeat (first | apply Kd.R_alloc | apply Kd.R_drewN | apply Kd.R_drew)); exact Kd.R_mono HO104.out (fun _ hk => hk.1)⟩, ⟨by first | exact Kd.S_nil _ _ _ _ _ | exact Kd.N_nil _ _ _ _ _ | exact Kd.V_nil _ _ _ _ _ | exact Kd.Q_nil _ _ _ _ _ | exact Kd.R_nil _ _ _ _ _⟩, ⟨zB HB.out⟩⟩
   clear H'
   (try clear c4);(try clear c4b0);(try clear c4b1);(try clear c6);(try clear c6b0);(try clear c6b1);(try clear c6b2)
   obtain ⟨x8_1, x31_1, rfl, HA, HK1, HO_7, HO_8, HB⟩ := hrel
   cases gk with | zero => exact absurd HA.out (by simp [mw_Dual.l0]) | succ k1 => ?_
   have H := HA.out
   clear HA
   simp only [mw_Dual.l0] at H
   replace H := zid H
   rcases H with ⟨c11b0, H⟩ | ⟨c11b0, H⟩
   · replace H := zgd H
     obtain ⟨c12b0, H⟩ := H
     replace H := zgd H
     obtain ⟨c13b0, H⟩ := H
     replace H := zb H
     obtain ⟨t106, A14, H⟩ := H
     replace H := zg H
     obtain ⟨c15, H⟩ := H
     have LMc15 := Aside0.mk c15
     clear c15
     obtain ⟨y109, hy109⟩ : ∃ y_ : List (S113), y_ = (x8_1 ++ [(⟨false, t106⟩ : S113)]) := ⟨_, rfl⟩
     replace H : (mw_Dual.l0 k1 a0 t102 y109 l1 (l1.length : Int) (wrap64 (x31_1 + 1))) = some (r1, r2) := zY hy109 H
     have Ny109 := Aside0.mk hy109
     clear hy109
     have H' := Aside0.mk H
     clear H
     have p105 : 0 ≤ (x31_1 : Int) := zd
     have q105 : x31_1 < (l1.length : Int) := zd
     obtain ⟨ad105, A105_0, c105_0, e105, hx105_0, hl105_0, hi105_0⟩ := at_L3 HR1.out x31_1 p105 q105
     cases e105
     replace hx105_0 := (HB.out.cell (World.block_lt_of_cell? w _ hx105_0)).trans hx105_0
     have HR105_0 := Aside0.mk hi105_0
     have HC105_0 := Aside0.mk hl105_0
     clear hi105_0 hl105_0
     replace p105 := eq_true p105
     replace q105 := eq_true q105
     go_wp2_with (first | ((with_reducible refine gC 103 ?_); refine zG (some 37) Try.func103 #[.slice A105_0 (rd_L3 l1 x31_1).length c105_0] ?_; (with_reducible refine (nat_Trim.calls k1 _ _ (rd_L3 l1 x31_1) t106 _ ?side1 ?side2 A14.out).mono ?_); (case side1 => exact zC (Kd.C_below HR105_0.out HB.out)); (case side2 => exact HC105_0.out); rintro e w16 ⟨v107, rfl, ho0, hb⟩; refine ⟨_, rfl, ?_⟩; replace HO_8 := yNe HO_8 ho0 hb; replace ho0 := Kd.R_newM (M := fun k_ => (w.heap.size ≤ k_)) ho0 (below_size (zB HB.out)) (fun k_ h_ => h_); replace ho0 := yn ho0 HO_7; have HO108 := yRl ho0 HB; replace HO_7 := yRe HO_7 ho0 hb; replace HB := yS HB hb; (try clear hb ho0); obtain ⟨Ao17, co17, rfl⟩ := Kd.R_slice HO108.out) | ((with_reducible refine gate_builtin (b := .append) (xs := #[.tmp 35, .tmp 39]) rfl ?_); (try (refine gate_guard (by rfl) ?_; dsimp only)); at_builtin; refine Kd.N_append k113 (w0 := w) w.heap.size rfl (.tmp 35) (.tmp 39) 114 113 (.agg #[(.bool false), (.slice none 0 0)]) 32 rfl Try.underlying114 info113 rfl (by decide) (by omega) u8 x8_1 (⟨false, t106⟩ : S113) [.bool false, .slice Ao17 t106.length co17] (fun k_ => (w.heap.size ≤ k_) ∧ some k_ ≠ (.slice Ao10 t102.length co10 : Value).ownBlock) (fun k_ => ((fun k_ => (w.heap.size ≤ k_) ∧ some k_ ≠ (.slice Ao10 t102.length co10 : Value).ownBlock)) k_ ∧ some k_ ≠ (u8 : Value).ownBlock) rfl rfl ?aP (fun _ hk => hk) ?aF ?aO ?aB ?aS ?aL ?_; (case aP => exact (k113_mkF _ _ (⟨false, t106⟩ : S113) (Kd.R_reads' (Kd.R_mono (ok' := (fun k_ => ((fun k_ => (w.heap.size ≤ k_) ∧ some k_ ≠ (.slice Ao10 t102.length co10 : Value).ownBlock)) k_ ∧ some k_ ≠ (u8 : Value).ownBlock)) (Kd.R_apart' (HO108.out) (Kd.N_typed HO_8.out) (by decide)) (fun k_ hk => by exact ⟨⟨hk.1.1.1, hk.1.2⟩, hk.2⟩))).2.1 (Kd.R_F (Kd.R_mono (ok' := (fun k_ => ((fun k_ => (w.heap.size ≤ k_) ∧ some k_ ≠ (.slice Ao10 t102.length co10 : Value).ownBlock)) k_ ∧ some k_ ≠ (u8 : Value).ownBlock)) (Kd.R_apart' (HO108.out) (Kd.N_typed HO_8.out) (by decide)) (fun k_ hk => by exact ⟨⟨hk.1.1.1, hk.1.2⟩, hk.2⟩))))); (case aB => exact (zB HB.out)); (case aF => exact (fun k_ hk => ⟨(Nat.le_trans (below_size (zB HB.out)) hk), Kd.fresh' (Kd.R_lt (zR HO_7.out)) k_ hk⟩)); (case aO => exact (by (with_reducible repeat (first | apply Kd.N_alloc | apply Kd.N_drewN | apply Kd.N_drew)); exact Kd.N_mono HO_8.out (fun _ hk => ⟨hk.1.1, hk.1.2⟩))); (case aS => exact (below_size (zB HB.out))); (case aL => have := LMc15.out; omega); intro v110 w18 ho hb hg hat; rw [← Ny109.out] at ho; replace HO_7 := Aside0.mk (Kd.R_over' (zR HO_7.out) (Kd.N_typed (zN HO_8.out)) (by decide) hg); replace HB := Aside0.mk (hb); have HO111 := Aside0.mk (ho); clear HO_8 HO108; clear ho hb hg hat))
     go_roundg k1
     case measure => have := HK1.out; omega
     case rel => exact ⟨(y109), (wrap64 (x31_1 + 1)), zF, H', ⟨zo1 HK1⟩, ⟨by (with_reducible repeat (first | apply Kd.R_alloc | apply Kd.R_drewN | apply Kd.R_drew)); exact Kd.R_mono HO_7.out (fun _ hk => hk.1)⟩, ⟨zN HO111.out⟩, ⟨zB HB.out⟩⟩
   replace H := zb H
   obtain ⟨t112, A19, H⟩ := H
   have H' := Aside0.mk H
   clear H
   obtain ⟨Ao20, co20, rfl⟩ := Kd.N_slice HO_8.out
   go_wp2_with (first | ((with_reducible refine gC 104 ?_); refine zG (some 44) Try.func104 #[.int .i64 a0, .slice Ao20 x8_1.length co20] ?_; (with_reducible refine (mw_sums.calls k1 a0 _ _ x8_1 t112 _ ?side1 ?side2 A19.out).mono ?_); (case side1 => exact zC (Kd.N_reads' HO_8.out).2.2); (case side2 => exact (Kd.N_reads' HO_8.out).2.1); rintro e w21 ⟨v113, rfl, ho0, hb⟩; refine ⟨_, rfl, ?_⟩; have HO114 := Aside0.mk (Kd.N_lower (Kd.N_mono (ok' := fun k_ => (w.heap.size ≤ k_) ∧ some k_ ≠ (.slice Ao10 t102.length co10 : Value).ownBlock ∧ some k_ ≠ (.slice Ao20 x8_1.length co20 : Value).ownBlock) ho0 (fun k_ hk_ => ⟨(Nat.le_trans (below_size (zB HB.out)) hk_), (Kd.fresh' (Kd.R_lt (zR HO_7.out)) k_ hk_), (Kd.fresh' (Kd.N_lt (zN HO_8.out)) k_ hk_)⟩)) (below_size (zB HB.out))); replace HO_7 := yRb HO_7 hb; replace HO_8 := Aside0.mk (Kd.N_elder' (zN HO_8.out) (Kd.N_base ho0) hb); replace HB := yS HB hb; (try clear hb ho0); obtain ⟨Ao22, co22, rfl⟩ := Kd.N_slice HO114.out))
   go_loopg [11, 46] k1 (fun kq v11 v46 w' => ∃ (x11_2 : List (List Int)) (x46_2 : Int), v46 = .int .i64 x46_2 ∧ Aside0 (mw_Dual.l1 kq t102 x11_2 t112 (t112.length : Int) x46_2 = some (r1, r2)) ∧ Aside0 (kq ≤ k1) ∧ Aside0 (Kd.R (Kd.int .u32) 97 w' w.heap.size (fun k_ => (w.heap.size ≤ k_)) (.slice Ao10 t102.length co10) t102) ∧ Aside0 (Kd.N (Kd.slice 97 (Kd.int .u32)) 29 w' w.heap.size (fun k_ => (w.heap.size ≤ k_) ∧ some k_ ≠ ((.slice Ao22 t112.length co22) : Value).ownBlock) v11 x11_2) ∧ Aside0 (Kd.N k113 113 w' w.heap.size (fun k_ => (w.heap.size ≤ k_) ∧ some k_ ≠ ((.slice Ao10 t102.length co10) : Value).ownBlock ∧ some k_ ≠ (v11 : Value).ownBlock) (.slice Ao22 t112.length co22) t112) ∧ Aside0 (Below w.heap.size w w'))
   case atStart => exact ⟨(([] : List (List Int))), (0), zF, H', ⟨Nat.le_refl _⟩, ⟨zR HO_7.out⟩, ⟨by first | exact Kd.S_nil _ _ _ _ _ | exact Kd.N_nil _ _ _ _ _ | exact Kd.V_nil _ _ _ _ _ | exact Kd.Q_nil _ _ _ _ _ | exact Kd.R_nil _ _ _ _ _⟩, ⟨by (with_reducible repeat (first | apply Kd.N_alloc | apply Kd.N_drewN | apply Kd.N_drew)); exact Kd.N_mono HO114.out (fun _ hk => ⟨hk.1, ⟨hk.2.1, (by simp [Value.ownBlock])⟩⟩)⟩, ⟨zB HB.out⟩⟩
   clear H'
   (try clear c4);(try clear c4b0);(try clear c4b1);(try clear c6);(try clear c6b0);(try clear c6b1);(try clear c6b2);(try clear c11b0);(try clear c12b0);(try clear c13b0);(try clear c15);(try clear hx105_0);(try clear p105);(try clear q105)
   obtain ⟨x11_2, x46_2, rfl, HA, HK2, HO_7, HO_11, HO_44, HB⟩ := hrel
   cases gk with | zero => exact absurd HA.out (by simp [mw_Dual.l1]) | succ k2 => ?_
   have H := HA.out
   clear HA
   simp only [mw_Dual.l1] at H
   replace H := zid H
   rcases H with ⟨c23b0, H⟩ | ⟨c23b0, H⟩
   · replace H := zgd H
     obtain ⟨c24b0, H⟩ := H
     replace H := zgd H
     obtain ⟨c25b0, H⟩ := H
     replace H := zb H
     obtain ⟨⟨t117, t120, t123⟩, A26, H⟩ := H
     dsimp only at H
     replace H := zi H
     rcases H with ⟨c27, H⟩ | ⟨c27, H⟩
     · have c27b0 : decide (0 < (t120.length : Int)) = true := decide_eq_true c27
       have c27b1 : decide (0 < t120.length) = true := decide_eq_true (by omega)
       clear c27
       simp only [Option.some.injEq, Prod.mk.injEq] at H
       obtain ⟨rfl, rfl⟩ := H
       have p115 : 0 ≤ (x46_2 : Int) := zd
       have q115 : x46_2 < (t112.length : Int) := zd
       obtain ⟨ad115, A115_1, c115_1, e115, hx115_0, hx115_1, hl115_1, hi115_1⟩ := at_T113 (Kd.N_reads' HO_44.out).2.2 x46_2 p115 q115
       cases e115
       obtain ⟨ce115, hce115, hMe115, hcc115⟩ := Kd.N_get HO_44.out z113 x46_2 p115 (by first | exact q115 | exact zd | (have e_ := (Kd.N_reads' HO_44.out).1; omega))
       obtain ⟨ua115_1, uc115_1, rfl, ul115_1, ge115_1⟩ := k113_openF hMe115
       have hv115_1 := hcc115 1 _ rfl
       rw [add_field _ _ 1 (by omega)] at hv115_1
       replace hv115_1 := Option.some.inj (hv115_1.symm.trans hx115_1)
       injection hv115_1 with hva_ hvn_ hvc_
       rw [hva_] at ge115_1
       rw [hvc_] at ul115_1
       have HL115_1 := Aside0.mk (show Kd.V (Kd.int .u32) 97 _ w.heap.size _ _ ((rd_T113 t112 x46_2).f1) from Kd.V_mk ul115_1 ge115_1)
       clear hva_ hvn_ hvc_ ge115_1 ul115_1
       clear hcc115 hce115
       have HR115_1 := Aside0.mk hi115_1
       have HC115_1 := Aside0.mk hl115_1
       clear hi115_1 hl115_1
       replace p115 := eq_true p115
       replace q115 := eq_true q115
       go_wp2_with (first | ((with_reducible refine gate_dst (N := 13) rfl ?_); (try (refine gate_guard (by rfl) ?_; dsimp only)); refine box_event ?hg (N := 13) ?hd (cs := #[.bool false, .slice none 0 0]) (t := 113) ?hr ?_; (case hd => rfl); (case hg => rfl); (case hr => first | (go_simp; done) | (go_simp; rfl)); intro gb116 hg w28 hbox hb; replace HO_7 := yRb HO_7 hb; replace HO_11 := Aside0.mk (Kd.N_below (Kd.N_elderB (zN HO_11.out) gb116 (Nat.le_of_eq hg.symm)) hb); replace HO_44 := Aside0.mk (Kd.N_below (Kd.N_elderB (zN HO_44.out) gb116 (Nat.le_of_eq hg.symm)) hb); replace HL115_1 := yVB HL115_1 hg hb; (try replace HR115_1 := yCb HR115_1 hb); have BK116 := Aside0.mk (hbox); have GW116 := yg hg HB; have GE116 := yg hg HB; replace HB := yS HB hb; clear hb hbox hg; obtain ⟨hcz29_0, hcz29_1, hfz29_0, hfz29_1⟩ := zz2 BK116) | ((with_reducible refine gate_store (t := 113) (p := 13) rfl ?_); refine store_event (t := 113) (p := 13) (v := ?vo_w30) (w1 := ((w28.setCell ⟨gb116, 0, none⟩ (.bool ((rd_T113 t112 x46_2).f0))).setCell ⟨gb116, 1, none⟩ (.slice A115_1 ((rd_T113 t112 x46_2).f1).length c115_1))) ?hg ?ho ?hn ?hr ?_; (case ho => rfl); (case hg => rfl); (case hn => rfl); (case hr => first | (go_simp; done) | (go_simp; rfl)); intro w30 hw; have n0_ : Aside0 (Kd.R (Kd.int .u32) 97 w30 w.heap.size (fun k_ => (w.heap.size ≤ k_)) (.slice Ao10 t102.length co10) t102) := ⟨(by rw [hw]; exact (by (with_reducible repeat (first | apply Kd.R_alloc | apply Kd.R_drewN | apply Kd.R_drew)); exact Kd.R_mono (Kd.R_far (p := ⟨gb116, 1, none⟩) (Kd.R_far (p := ⟨gb116, 0, none⟩) (Kd.R_types HO_7.out BK116.out (by decide)) (fun _ hk => hk.2) (.bool ((rd_T113 t112 x46_2).f0))) (fun _ hk => hk.2) (.slice A115_1 ((rd_T113 t112 x46_2).f1).length c115_1)) (fun _ hk => hk.1)))⟩; have n1_ : Aside0 (Kd.N (Kd.slice 97 (Kd.int .u32)) 29 w30 w.heap.size (fun k_ => (w.heap.size ≤ k_) ∧ some k_ ≠ (.slice (some ad115) t112.length co22 : Value).ownBlock ∧ k_ ≠ gb116) u11 x11_2) := ⟨(by rw [hw]; exact (by (with_reducible repeat (first | apply Kd.N_alloc | apply Kd.N_drewN | apply Kd.N_drew)); exact Kd.N_mono (Kd.N_far (p := ⟨gb116, 1, none⟩) (Kd.N_far (p := ⟨gb116, 0, none⟩) (Kd.N_mono HO_11.out (fun k_ hk => (⟨hk, hk.2⟩ : _ ∧ k_ ≠ gb116))) (fun _ hk => hk.2) (.bool ((rd_T113 t112 x46_2).f0))) (fun _ hk => hk.2) (.slice A115_1 ((rd_T113 t112 x46_2).f1).length c115_1)) (fun _ hk => ⟨hk.1.1.1, ⟨hk.1.1.2, hk.1.2⟩⟩)))⟩; have n2_ : Aside0 (Kd.N k113 113 w30 w.heap.size (fun k_ => (w.heap.size ≤ k_) ∧ some k_ ≠ (.slice Ao10 t102.length co10 : Value).ownBlock ∧ some k_ ≠ (u11 : Value).ownBlock ∧ k_ ≠ gb116) (.slice (some ad115) t112.length co22) t112) := ⟨(by rw [hw]; exact (by (with_reducible repeat (first | apply Kd.N_alloc | apply Kd.N_drewN | apply Kd.N_drew)); exact Kd.N_mono (Kd.N_far (p := ⟨gb116, 1, none⟩) (Kd.N_far (p := ⟨gb116, 0, none⟩) (Kd.N_mono HO_44.out (fun k_ hk => (⟨hk, hk.2⟩ : _ ∧ k_ ≠ gb116))) (fun _ hk => hk.2) (.bool ((rd_T113 t112 x46_2).f0))) (fun _ hk => hk.2) (.slice A115_1 ((rd_T113 t112 x46_2).f1).length c115_1)) (fun _ hk => ⟨hk.1.1.1, ⟨hk.1.1.2.1, ⟨hk.1.1.2.2, hk.1.2⟩⟩⟩)))⟩; have n3_ : Aside0 (Kd.V (Kd.int .u32) 97 w30 w.heap.size (fun k_ => (w.heap.size ≤ k_) ∧ some k_ ≠ (.slice Ao10 t102.length co10 : Value).ownBlock ∧ some k_ ≠ (u11 : Value).ownBlock ∧ some k_ ≠ (.slice (some ad115) t112.length co22 : Value).ownBlock ∧ k_ ≠ gb116) (.slice A115_1 ((rd_T113 t112 x46_2).f1).length c115_1) ((rd_T113 t112 x46_2).f1)) := ⟨(by rw [hw]; exact (by (with_reducible repeat (first | apply Kd.V_alloc | apply Kd.V_drewN | apply Kd.V_drew)); exact Kd.V_mono (Kd.V_far (p := ⟨gb116, 1, none⟩) (Kd.V_far (p := ⟨gb116, 0, none⟩) (Kd.V_mono HL115_1.out (fun k_ hk => (⟨hk, hk.2⟩ : _ ∧ k_ ≠ gb116))) (fun _ hk => hk.2) (.bool ((rd_T113 t112 x46_2).f0))) (fun _ hk => hk.2) (.slice A115_1 ((rd_T113 t112 x46_2).f1).length c115_1)) (fun _ hk => ⟨hk.1.1.1.1, ⟨hk.1.1.1.2.1, ⟨hk.1.1.1.2.2, ⟨hk.1.1.2, hk.1.2⟩⟩⟩⟩)))⟩; have n4_ : Aside0 (w30.heap[gb116]? = some (.cells #[.bool ((rd_T113 t112 x46_2).f0), .slice A115_1 ((rd_T113 t112 x46_2).f1).length c115_1] 113 (0, 0))) := ⟨(by rw [hw]; exact (zP2 BK116.out))⟩; have n5_ : Aside0 (Below w.heap.size w w30) := ⟨(by rw [hw]; exact (zB1 HB.out GE116.out))⟩; clear hw; clear HO_7; clear HO_11; clear HO_44; clear HL115_1; clear BK116; clear HB; have HO_7 := n0_; have HO_11 := n1_; have HO_44 := n2_; have HL115_1 := n3_; have BK116 := n4_; have HB := n5_; clear n0_ n1_ n2_ n3_ n4_ n5_; obtain ⟨hcz31_0, hcz31_1, hfz31_0, hfz31_1⟩ := zz2 BK116) | ((with_reducible refine gC 105 ?_); refine zG (some 54) Try.func105 #[.slice A115_1 ((rd_T113 t112 x46_2).f1).length c115_1, .slice Ao10 t102.length co10] ?_; (with_reducible refine (nat_DivMod.calls k2 (fun k_ => ((w.heap.size ≤ k_) ∧ (some k_ ≠ (.slice Ao10 t102.length co10 : Value).ownBlock ∧ (some k_ ≠ (u11 : Value).ownBlock ∧ (some k_ ≠ (.slice (some ad115) t112.length co22 : Value).ownBlock ∧ k_ ≠ gb116))))) _ _ ((rd_T113 t112 x46_2).f1) (fun k_ => some k_ = (.slice Ao10 t102.length co10 : Value).ownBlock) _ _ t102 t117 t120 t123 _ ?side1 ?side2 A26.out).mono ?_); (case side1 => exact HL115_1.out); (case side2 => exact Kd.R_V (Kd.R_tight rfl (Kd.R_types (Kd.R_apart' (Kd.R_apart' (HO_7.out) (Kd.N_typed HO_11.out) (by decide)) (Kd.N_typed HO_44.out) (by decide)) BK116.out (by decide)))); rintro e w32 ⟨v118, v121, rfl, ho0, ho1, hb⟩; refine ⟨_, rfl, ?_⟩; replace HL115_1 := yVe HL115_1 ho1 hb; have HO119 := Aside0.mk (Kd.V_lower (Kd.V_mono (ok' := fun k_ => (w.heap.size ≤ k_) ∧ some k_ ≠ (v121 : Value).ownBlock ∧ some k_ ≠ (u11 : Value).ownBlock ∧ some k_ ≠ (.slice (some ad115) t112.length co22 : Value).ownBlock ∧ k_ ≠ gb116) ho0 (fun k_ hk_ => ⟨Or.elim hk_.1 (fun hs_ => Or.elim hs_ (fun hs_ => hs_.1) (fun hs_ => ((Kd.R_types (Kd.R_apart' (Kd.R_apart' (HO_7.out) (Kd.N_typed HO_11.out) (by decide)) (Kd.N_typed HO_44.out) (by decide)) BK116.out (by decide)).1 k_ hs_.symm).1.1.1)) (fun hn_ => (Nat.le_trans (below_size (zB1 HB.out GE116.out)) hn_)), hk_.2, Or.elim hk_.1 (fun hs_ => Or.elim hs_ (fun hs_ => hs_.2.2.1) (fun hs_ => ((Kd.R_types (Kd.R_apart' (Kd.R_apart' (HO_7.out) (Kd.N_typed HO_11.out) (by decide)) (Kd.N_typed HO_44.out) (by decide)) BK116.out (by decide)).1 k_ hs_.symm).1.1.2)) (fun hn_ => (Kd.fresh' (Kd.N_lt (zN HO_11.out)) k_ hn_)), Or.elim hk_.1 (fun hs_ => Or.elim hs_ (fun hs_ => hs_.2.2.2.1) (fun hs_ => ((Kd.R_types (Kd.R_apart' (Kd.R_apart' (HO_7.out) (Kd.N_typed HO_11.out) (by decide)) (Kd.N_typed HO_44.out) (by decide)) BK116.out (by decide)).1 k_ hs_.symm).1.2)) (fun hn_ => (Kd.fresh' (Kd.N_lt (zN HO_44.out)) k_ hn_)), Or.elim hk_.1 (fun hs_ => Or.elim hs_ (fun hs_ => hs_.2.2.2.2) (fun hs_ => ((Kd.R_types (Kd.R_apart' (Kd.R_apart' (HO_7.out) (Kd.N_typed HO_11.out) (by decide)) (Kd.N_typed HO_44.out) (by decide)) BK116.out (by decide)).1 k_ hs_.symm).2)) (fun hn_ => (Kd.freshB (g := gb116) (o := .cells #[.bool ((rd_T113 t112 x46_2).f0), .slice A115_1 ((rd_T113 t112 x46_2).f1).length c115_1] 113 (0, 0)) (by (with_reducible repeat (first | refine blk_drewN ?_ _ | refine blk_drew ?_ | refine blk_alloc ?_ _)); exact BK116.out) k_ hn_))⟩)) (below_size (zB1 HB.out GE116.out))); replace HO_11 := yNe HO_11 ho1 hb; replace HO_44 := yNe HO_44 ho1 hb; replace ho1 := Kd.R_newM (M := fun k_ => (w.heap.size ≤ k_)) (yt ho1) (below_size (zB1 HB.out GE116.out)) (fun k_ h_ => h_); replace ho1 := yn ho1 HO_7; have HO122 := yRl1 ho1 HB GE116; replace HO_7 := yRe HO_7 ho1 hb; (try replace HR115_1 := yCb HR115_1 hb); replace BK116 := yK BK116 hb; replace HB := yS1 HB GE116 hb; (try clear hb ho0); (try clear ho1); obtain ⟨Ao33, co33, rfl⟩ := Kd.R_slice HO122.out))
       go_ret2
       exact ⟨_, zE, by first | exact Kd.S_nil _ _ _ _ _ | exact Kd.N_nil _ _ _ _ _ | exact Kd.V_nil _ _ _ _ _ | exact Kd.Q_nil _ _ _ _ _ | exact Kd.R_nil _ _ _ _ _, zB1 HB.out GE116.out⟩
     have c27b0 : decide (0 < (t120.length : Int)) = false := decide_eq_false c27
     have c27b1 : decide (0 < t120.length) = false := decide_eq_false (by omega)
     clear c27
     obtain ⟨bq34, hbq34⟩ : ∃ b_ : Bool, b_ = ((rd_T113 t112 x46_2).f0) := ⟨_, rfl⟩
     replace H : (if bq34 = true then (if (((rd_T113 t112 x46_2).f1).length : Int) > 0 then (some (([] : List (List Int)), 5)) else (if x11_2.length < 5864062014805 then (mw_Dual.l1 k2 t102 (x11_2 ++ [t117]) t112 (t112.length : Int) (wrap64 (x46_2 + 1))) else (none))) else (if x11_2.length < 5864062014805 then (mw_Dual.l1 k2 t102 (x11_2 ++ [t117]) t112 (t112.length : Int) (wrap64 (x46_2 + 1))) else (none))) = some (r1, r2) := by rw [← hbq34] at H; exact H
     have Nbq34 := Aside0.mk hbq34
     clear hbq34
     by_cases c35 : bq34 = true
     · subst c35
       rw [if_pos rfl] at H
       replace H := zi H
       rcases H with ⟨c36, H⟩ | ⟨c36, H⟩
       · have c36b0 : decide (0 < (((rd_T113 t112 x46_2).f1).length : Int)) = true := decide_eq_true c36
         have c36b1 : decide (0 < ((rd_T113 t112 x46_2).f1).length) = true := decide_eq_true (by omega)
         clear c36
         simp only [Option.some.injEq, Prod.mk.injEq] at H
         obtain ⟨rfl, rfl⟩ := H
         have p115 : 0 ≤ (x46_2 : Int) := zd
         have q115 : x46_2 < (t112.length : Int) := zd
         obtain ⟨ad115, A115_1, c115_1, e115, hx115_0, hx115_1, hl115_1, hi115_1⟩ := at_T113 (Kd.N_reads' HO_44.out).2.2 x46_2 p115 q115
         (try rw [← Nbq34.out] at hx115_0)
         cases e115
         obtain ⟨ce115, hce115, hMe115, hcc115⟩ := Kd.N_get HO_44.out z113 x46_2 p115 (by first | exact q115 | exact zd | (have e_ := (Kd.N_reads' HO_44.out).1; omega))
         obtain ⟨ua115_1, uc115_1, rfl, ul115_1, ge115_1⟩ := k113_openF hMe115
         have hv115_1 := hcc115 1 _ rfl
         rw [add_field _ _ 1 (by omega)] at hv115_1
         replace hv115_1 := Option.some.inj (hv115_1.symm.trans hx115_1)
         injection hv115_1 with hva_ hvn_ hvc_
         rw [hva_] at ge115_1
         rw [hvc_] at ul115_1
         have HL115_1 := Aside0.mk (show Kd.V (Kd.int .u32) 97 _ w.heap.size _ _ ((rd_T113 t112 x46_2).f1) from Kd.V_mk ul115_1 ge115_1)
         clear hva_ hvn_ hvc_ ge115_1 ul115_1
         clear hcc115 hce115
         have HR115_1 := Aside0.mk hi115_1
         have HC115_1 := Aside0.mk hl115_1
         clear hi115_1 hl115_1
         replace p115 := eq_true p115
         replace q115 := eq_true q115
         go_wp2_with (first | ((with_reducible refine gate_dst (N := 13) rfl ?_); (try (refine gate_guard (by rfl) ?_; dsimp only)); refine box_event ?hg (N := 13) ?hd (cs := #[.bool false, .slice none 0 0]) (t := 113) ?hr ?_; (case hd => rfl); (case hg => rfl); (case hr => first | (go_simp; done) | (go_simp; rfl)); intro gb116 hg w37 hbox hb; replace HO_7 := yRb HO_7 hb; replace HO_11 := Aside0.mk (Kd.N_below (Kd.N_elderB (zN HO_11.out) gb116 (Nat.le_of_eq hg.symm)) hb); replace HO_44 := Aside0.mk (Kd.N_below (Kd.N_elderB (zN HO_44.out) gb116 (Nat.le_of_eq hg.symm)) hb); replace HL115_1 := yVB HL115_1 hg hb; (try replace HR115_1 := yCb HR115_1 hb); have BK116 := Aside0.mk (hbox); have GW116 := yg hg HB; have GE116 := yg hg HB; replace HB := yS HB hb; clear hb hbox hg; obtain ⟨hcz38_0, hcz38_1, hfz38_0, hfz38_1⟩ := zz2 BK116) | ((with_reducible refine gate_store (t := 113) (p := 13) rfl ?_); refine store_event (t := 113) (p := 13) (v := ?vo_w39) (w1 := ((w37.setCell ⟨gb116, 0, none⟩ (.bool true)).setCell ⟨gb116, 1, none⟩ (.slice A115_1 ((rd_T113 t112 x46_2).f1).length c115_1))) ?hg ?ho ?hn ?hr ?_; (case ho => rfl); (case hg => rfl); (case hn => rfl); (case hr => first | (go_simp; done) | (go_simp; rfl)); intro w39 hw; have n0_ : Aside0 (Kd.R (Kd.int .u32) 97 w39 w.heap.size (fun k_ => (w.heap.size ≤ k_)) (.slice Ao10 t102.length co10) t102) := ⟨(by rw [hw]; exact (by (with_reducible repeat (first | apply Kd.R_alloc | apply Kd.R_drewN | apply Kd.R_drew)); exact Kd.R_mono (Kd.R_far (p := ⟨gb116, 1, none⟩) (Kd.R_far (p := ⟨gb116, 0, none⟩) (Kd.R_types HO_7.out BK116.out (by decide)) (fun _ hk => hk.2) (.bool true)) (fun _ hk => hk.2) (.slice A115_1 ((rd_T113 t112 x46_2).f1).length c115_1)) (fun _ hk => hk.1)))⟩; have n1_ : Aside0 (Kd.N (Kd.slice 97 (Kd.int .u32)) 29 w39 w.heap.size (fun k_ => (w.heap.size ≤ k_) ∧ some k_ ≠ (.slice (some ad115) t112.length co22 : Value).ownBlock ∧ k_ ≠ gb116) u11 x11_2) := ⟨(by rw [hw]; exact (by (with_reducible repeat (first | apply Kd.N_alloc | apply Kd.N_drewN | apply Kd.N_drew)); exact Kd.N_mono (Kd.N_far (p := ⟨gb116, 1, none⟩) (Kd.N_far (p := ⟨gb116, 0, none⟩) (Kd.N_mono HO_11.out (fun k_ hk => (⟨hk, hk.2⟩ : _ ∧ k_ ≠ gb116))) (fun _ hk => hk.2) (.bool true)) (fun _ hk => hk.2) (.slice A115_1 ((rd_T113 t112 x46_2).f1).length c115_1)) (fun _ hk => ⟨hk.1.1.1, ⟨hk.1.1.2, hk.1.2⟩⟩)))⟩; have n2_ : Aside0 (Kd.N k113 113 w39 w.heap.size (fun k_ => (w.heap.size ≤ k_) ∧ some k_ ≠ (.slice Ao10 t102.length co10 : Value).ownBlock ∧ some k_ ≠ (u11 : Value).ownBlock ∧ k_ ≠ gb116) (.slice (some ad115) t112.length co22) t112) := ⟨(by rw [hw]; exact (by (with_reducible repeat (first | apply Kd.N_alloc | apply Kd.N_drewN | apply Kd.N_drew)); exact Kd.N_mono (Kd.N_far (p := ⟨gb116, 1, none⟩) (Kd.N_far (p := ⟨gb116, 0, none⟩) (Kd.N_mono HO_44.out (fun k_ hk => (⟨hk, hk.2⟩ : _ ∧ k_ ≠ gb116))) (fun _ hk => hk.2) (.bool true)) (fun _ hk => hk.2) (.slice A115_1 ((rd_T113 t112 x46_2).f1).length c115_1)) (fun _ hk => ⟨hk.1.1.1, ⟨hk.1.1.2.1, ⟨hk.1.1.2.2, hk.1.2⟩⟩⟩)))⟩; have n3_ : Aside0 (Kd.V (Kd.int .u32) 97 w39 w.heap.size (fun k_ => (w.heap.size ≤ k_) ∧ some k_ ≠ (.slice Ao10 t102.length co10 : Value).ownBlock ∧ some k_ ≠ (u11 : Value).ownBlock ∧ some k_ ≠ (.slice (some ad115) t112.length co22 : Value).ownBlock ∧ k_ ≠ gb116) (.slice A115_1 ((rd_T113 t112 x46_2).f1).length c115_1) ((rd_T113 t112 x46_2).f1)) := ⟨(by rw [hw]; exact (by (with_reducible repeat (first | apply Kd.V_alloc | apply Kd.V_drewN | apply Kd.V_drew)); exact Kd.V_mono (Kd.V_far (p := ⟨gb116, 1, none⟩) (Kd.V_far (p := ⟨gb116, 0, none⟩) (Kd.V_mono HL115_1.out (fun k_ hk => (⟨hk, hk.2⟩ : _ ∧ k_ ≠ gb116))) (fun _ hk => hk.2) (.bool true)) (fun _ hk => hk.2) (.slice A115_1 ((rd_T113 t112 x46_2).f1).length c115_1)) (fun _ hk => ⟨hk.1.1.1.1, ⟨hk.1.1.1.2.1, ⟨hk.1.1.1.2.2, ⟨hk.1.1.2, hk.1.2⟩⟩⟩⟩)))⟩; have n4_ : Aside0 (w39.heap[gb116]? = some (.cells #[.bool true, .slice A115_1 ((rd_T113 t112 x46_2).f1).length c115_1] 113 (0, 0))) := ⟨(by rw [hw]; exact (zP2 BK116.out))⟩; have n5_ : Aside0 (Below w.heap.size w w39) := ⟨(by rw [hw]; exact (zB1 HB.out GE116.out))⟩; clear hw; clear HO_7; clear HO_11; clear HO_44; clear HL115_1; clear BK116; clear HB; have HO_7 := n0_; have HO_11 := n1_; have HO_44 := n2_; have HL115_1 := n3_; have BK116 := n4_; have HB := n5_; clear n0_ n1_ n2_ n3_ n4_ n5_; obtain ⟨hcz40_0, hcz40_1, hfz40_0, hfz40_1⟩ := zz2 BK116) | ((with_reducible refine gC 105 ?_); refine zG (some 54) Try.func105 #[.slice A115_1 ((rd_T113 t112 x46_2).f1).length c115_1, .slice Ao10 t102.length co10] ?_; (with_reducible refine (nat_DivMod.calls k2 (fun k_ => ((w.heap.size ≤ k_) ∧ (some k_ ≠ (.slice Ao10 t102.length co10 : Value).ownBlock ∧ (some k_ ≠ (u11 : Value).ownBlock ∧ (some k_ ≠ (.slice (some ad115) t112.length co22 : Value).ownBlock ∧ k_ ≠ gb116))))) _ _ ((rd_T113 t112 x46_2).f1) (fun k_ => some k_ = (.slice Ao10 t102.length co10 : Value).ownBlock) _ _ t102 t117 t120 t123 _ ?side1 ?side2 A26.out).mono ?_); (case side1 => exact HL115_1.out); (case side2 => exact Kd.R_V (Kd.R_tight rfl (Kd.R_types (Kd.R_apart' (Kd.R_apart' (HO_7.out) (Kd.N_typed HO_11.out) (by decide)) (Kd.N_typed HO_44.out) (by decide)) BK116.out (by decide)))); rintro e w41 ⟨v118, v121, rfl, ho0, ho1, hb⟩; refine ⟨_, rfl, ?_⟩; replace HL115_1 := yVe HL115_1 ho1 hb; have HO119 := Aside0.mk (Kd.V_lower (Kd.V_mono (ok' := fun k_ => (w.heap.size ≤ k_) ∧ some k_ ≠ (v121 : Value).ownBlock ∧ some k_ ≠ (u11 : Value).ownBlock ∧ some k_ ≠ (.slice (some ad115) t112.length co22 : Value).ownBlock ∧ k_ ≠ gb116) ho0 (fun k_ hk_ => ⟨Or.elim hk_.1 (fun hs_ => Or.elim hs_ (fun hs_ => hs_.1) (fun hs_ => ((Kd.R_types (Kd.R_apart' (Kd.R_apart' (HO_7.out) (Kd.N_typed HO_11.out) (by decide)) (Kd.N_typed HO_44.out) (by decide)) BK116.out (by decide)).1 k_ hs_.symm).1.1.1)) (fun hn_ => (Nat.le_trans (below_size (zB1 HB.out GE116.out)) hn_)), hk_.2, Or.elim hk_.1 (fun hs_ => Or.elim hs_ (fun hs_ => hs_.2.2.1) (fun hs_ => ((Kd.R_types (Kd.R_apart' (Kd.R_apart' (HO_7.out) (Kd.N_typed HO_11.out) (by decide)) (Kd.N_typed HO_44.out) (by decide)) BK116.out (by decide)).1 k_ hs_.symm).1.1.2)) (fun hn_ => (Kd.fresh' (Kd.N_lt (zN HO_11.out)) k_ hn_)), Or.elim hk_.1 (fun hs_ => Or.elim hs_ (fun hs_ => hs_.2.2.2.1) (fun hs_ => ((Kd.R_types (Kd.R_apart' (Kd.R_apart' (HO_7.out) (Kd.N_typed HO_11.out) (by decide)) (Kd.N_typed HO_44.out) (by decide)) BK116.out (by decide)).1 k_ hs_.symm).1.2)) (fun hn_ => (Kd.fresh' (Kd.N_lt (zN HO_44.out)) k_ hn_)), Or.elim hk_.1 (fun hs_ => Or.elim hs_ (fun hs_ => hs_.2.2.2.2) (fun hs_ => ((Kd.R_types (Kd.R_apart' (Kd.R_apart' (HO_7.out) (Kd.N_typed HO_11.out) (by decide)) (Kd.N_typed HO_44.out) (by decide)) BK116.out (by decide)).1 k_ hs_.symm).2)) (fun hn_ => (Kd.freshB (g := gb116) (o := .cells #[.bool true, .slice A115_1 ((rd_T113 t112 x46_2).f1).length c115_1] 113 (0, 0)) (by (with_reducible repeat (first | refine blk_drewN ?_ _ | refine blk_drew ?_ | refine blk_alloc ?_ _)); exact BK116.out) k_ hn_))⟩)) (below_size (zB1 HB.out GE116.out))); replace HO_11 := yNe HO_11 ho1 hb; replace HO_44 := yNe HO_44 ho1 hb; replace ho1 := Kd.R_newM (M := fun k_ => (w.heap.size ≤ k_)) (yt ho1) (below_size (zB1 HB.out GE116.out)) (fun k_ h_ => h_); replace ho1 := yn ho1 HO_7; have HO122 := yRl1 ho1 HB GE116; replace HO_7 := yRe HO_7 ho1 hb; (try replace HR115_1 := yCb HR115_1 hb); replace BK116 := yK BK116 hb; replace HB := yS1 HB GE116 hb; (try clear hb ho0); (try clear ho1); obtain ⟨Ao42, co42, rfl⟩ := Kd.R_slice HO122.out; obtain ⟨hcz43_0, hcz43_1, hfz43_0, hfz43_1⟩ := zz2 BK116))
         go_ret2
         exact ⟨_, zE, by first | exact Kd.S_nil _ _ _ _ _ | exact Kd.N_nil _ _ _ _ _ | exact Kd.V_nil _ _ _ _ _ | exact Kd.Q_nil _ _ _ _ _ | exact Kd.R_nil _ _ _ _ _, zB1 HB.out GE116.out⟩
       have c36b0 : decide (0 < (((rd_T113 t112 x46_2).f1).length : Int)) = false := decide_eq_false c36
       have c36b1 : decide (0 < ((rd_T113 t112 x46_2).f1).length) = false := decide_eq_false (by omega)
       clear c36
       replace H := zg H
       obtain ⟨c44, H⟩ := H
       have LMc44 := Aside0.mk c44
       clear c44
       obtain ⟨y124, hy124⟩ : ∃ y_ : List (List Int), y_ = (x11_2 ++ [t117]) := ⟨_, rfl⟩
       replace H : (mw_Dual.l1 k2 t102 y124 t112 (t112.length : Int) (wrap64 (x46_2 + 1))) = some (r1, r2) := zY hy124 H
       have Ny124 := Aside0.mk hy124
       clear hy124
       have H' := Aside0.mk H
       clear H
       have p115 : 0 ≤ (x46_2 : Int) := zd
       have q115 : x46_2 < (t112.length : Int) := zd
       obtain ⟨ad115, A115_1, c115_1, e115, hx115_0, hx115_1, hl115_1, hi115_1⟩ := at_T113 (Kd.N_reads' HO_44.out).2.2 x46_2 p115 q115
       (try rw [← Nbq34.out] at hx115_0)
       cases e115
       obtain ⟨ce115, hce115, hMe115, hcc115⟩ := Kd.N_get HO_44.out z113 x46_2 p115 (by first | exact q115 | exact zd | (have e_ := (Kd.N_reads' HO_44.out).1; omega))
       obtain ⟨ua115_1, uc115_1, rfl, ul115_1, ge115_1⟩ := k113_openF hMe115
       have hv115_1 := hcc115 1 _ rfl
       rw [add_field _ _ 1 (by omega)] at hv115_1
       replace hv115_1 := Option.some.inj (hv115_1.symm.trans hx115_1)
       injection hv115_1 with hva_ hvn_ hvc_
       rw [hva_] at ge115_1
       rw [hvc_] at ul115_1
       have HL115_1 := Aside0.mk (show Kd.V (Kd.int .u32) 97 _ w.heap.size _ _ ((rd_T113 t112 x46_2).f1) from Kd.V_mk ul115_1 ge115_1)
       clear hva_ hvn_ hvc_ ge115_1 ul115_1
       clear hcc115 hce115
       have HR115_1 := Aside0.mk hi115_1
       have HC115_1 := Aside0.mk hl115_1
       clear hi115_1 hl115_1
       replace p115 := eq_true p115
       replace q115 := eq_true q115
       go_wp2_with (first | ((with_reducible refine gate_dst (N := 13) rfl ?_); (try (refine gate_guard (by rfl) ?_; dsimp only)); refine box_event ?hg (N := 13) ?hd (cs := #[.bool false, .slice none 0 0]) (t := 113) ?hr ?_; (case hd => rfl); (case hg => rfl); (case hr => first | (go_simp; done) | (go_simp; rfl)); intro gb116 hg w45 hbox hb; replace HO_7 := yRb HO_7 hb; replace HO_11 := Aside0.mk (Kd.N_below (Kd.N_elderB (zN HO_11.out) gb116 (Nat.le_of_eq hg.symm)) hb); replace HO_44 := Aside0.mk (Kd.N_below (Kd.N_elderB (zN HO_44.out) gb116 (Nat.le_of_eq hg.symm)) hb); replace HL115_1 := yVB HL115_1 hg hb; (try replace HR115_1 := yCb HR115_1 hb); have BK116 := Aside0.mk (hbox); have GW116 := yg hg HB; have GE116 := yg hg HB; replace HB := yS HB hb; clear hb hbox hg; obtain ⟨hcz46_0, hcz46_1, hfz46_0, hfz46_1⟩ := zz2 BK116) | ((with_reducible refine gate_store (t := 113) (p := 13) rfl ?_); refine store_event (t := 113) (p := 13) (v := ?vo_w47) (w1 := ((w45.setCell ⟨gb116, 0, none⟩ (.bool true)).setCell ⟨gb116, 1, none⟩ (.slice A115_1 ((rd_T113 t112 x46_2).f1).length c115_1))) ?hg ?ho ?hn ?hr ?_; (case ho => rfl); (case hg => rfl); (case hn => rfl); (case hr => first | (go_simp; done) | (go_simp; rfl)); intro w47 hw; have n0_ : Aside0 (Kd.R (Kd.int .u32) 97 w47 w.heap.size (fun k_ => (w.heap.size ≤ k_)) (.slice Ao10 t102.length co10) t102) := ⟨(by rw [hw]; exact (by (with_reducible repeat (first | apply Kd.R_alloc | apply Kd.R_drewN | apply Kd.R_drew)); exact Kd.R_mono (Kd.R_far (p := ⟨gb116, 1, none⟩) (Kd.R_far (p := ⟨gb116, 0, none⟩) (Kd.R_types HO_7.out BK116.out (by decide)) (fun _ hk => hk.2) (.bool true)) (fun _ hk => hk.2) (.slice A115_1 ((rd_T113 t112 x46_2).f1).length c115_1)) (fun _ hk => hk.1)))⟩; have n1_ : Aside0 (Kd.N (Kd.slice 97 (Kd.int .u32)) 29 w47 w.heap.size (fun k_ => (w.heap.size ≤ k_) ∧ some k_ ≠ (.slice (some ad115) t112.length co22 : Value).ownBlock ∧ k_ ≠ gb116) u11 x11_2) := ⟨(by rw [hw]; exact (by (with_reducible repeat (first | apply Kd.N_alloc | apply Kd.N_drewN | apply Kd.N_drew)); exact Kd.N_mono (Kd.N_far (p := ⟨gb116, 1, none⟩) (Kd.N_far (p := ⟨gb116, 0, none⟩) (Kd.N_mono HO_11.out (fun k_ hk => (⟨hk, hk.2⟩ : _ ∧ k_ ≠ gb116))) (fun _ hk => hk.2) (.bool true)) (fun _ hk => hk.2) (.slice A115_1 ((rd_T113 t112 x46_2).f1).length c115_1)) (fun _ hk => ⟨hk.1.1.1, ⟨hk.1.1.2, hk.1.2⟩⟩)))⟩; have n2_ : Aside0 (Kd.N k113 113 w47 w.heap.size (fun k_ => (w.heap.size ≤ k_) ∧ some k_ ≠ (.slice Ao10 t102.length co10 : Value).ownBlock ∧ some k_ ≠ (u11 : Value).ownBlock ∧ k_ ≠ gb116) (.slice (some ad115) t112.length co22) t112) := ⟨(by rw [hw]; exact (by (with_reducible repeat (first | apply Kd.N_alloc | apply Kd.N_drewN | apply Kd.N_drew)); exact Kd.N_mono (Kd.N_far (p := ⟨gb116, 1, none⟩) (Kd.N_far (p := ⟨gb116, 0, none⟩) (Kd.N_mono HO_44.out (fun k_ hk => (⟨hk, hk.2⟩ : _ ∧ k_ ≠ gb116))) (fun _ hk => hk.2) (.bool true)) (fun _ hk => hk.2) (.slice A115_1 ((rd_T113 t112 x46_2).f1).length c115_1)) (fun _ hk => ⟨hk.1.1.1, ⟨hk.1.1.2.1, ⟨hk.1.1.2.2, hk.1.2⟩⟩⟩)))⟩; have n3_ : Aside0 (Kd.V (Kd.int .u32) 97 w47 w.heap.size (fun k_ => (w.heap.size ≤ k_) ∧ some k_ ≠ (.slice Ao10 t102.length co10 : Value).ownBlock ∧ some k_ ≠ (u11 : Value).ownBlock ∧ some k_ ≠ (.slice (some ad115) t112.length co22 : Value).ownBlock ∧ k_ ≠ gb116) (.slice A115_1 ((rd_T113 t112 x46_2).f1).length c115_1) ((rd_T113 t112 x46_2).f1)) := ⟨(by rw [hw]; exact (by (with_reducible repeat (first | apply Kd.V_alloc | apply Kd.V_drewN | apply Kd.V_drew)); exact Kd.V_mono (Kd.V_far (p := ⟨gb116, 1, none⟩) (Kd.V_far (p := ⟨gb116, 0, none⟩) (Kd.V_mono HL115_1.out (fun k_ hk => (⟨hk, hk.2⟩ : _ ∧ k_ ≠ gb116))) (fun _ hk => hk.2) (.bool true)) (fun _ hk => hk.2) (.slice A115_1 ((rd_T113 t112 x46_2).f1).length c115_1)) (fun _ hk => ⟨hk.1.1.1.1, ⟨hk.1.1.1.2.1, ⟨hk.1.1.1.2.2, ⟨hk.1.1.2, hk.1.2⟩⟩⟩⟩)))⟩; have n4_ : Aside0 (w47.heap[gb116]? = some (.cells #[.bool true, .slice A115_1 ((rd_T113 t112 x46_2).f1).length c115_1] 113 (0, 0))) := ⟨(by rw [hw]; exact (zP2 BK116.out))⟩; have n5_ : Aside0 (Below w.heap.size w w47) := ⟨(by rw [hw]; exact (zB1 HB.out GE116.out))⟩; clear hw; clear HO_7; clear HO_11; clear HO_44; clear HL115_1; clear BK116; clear HB; have HO_7 := n0_; have HO_11 := n1_; have HO_44 := n2_; have HL115_1 := n3_; have BK116 := n4_; have HB := n5_; clear n0_ n1_ n2_ n3_ n4_ n5_; obtain ⟨hcz48_0, hcz48_1, hfz48_0, hfz48_1⟩ := zz2 BK116) | ((with_reducible refine gC 105 ?_); refine zG (some 54) Try.func105 #[.slice A115_1 ((rd_T113 t112 x46_2).f1).length c115_1, .slice Ao10 t102.length co10] ?_; (with_reducible refine (nat_DivMod.calls k2 (fun k_ => ((w.heap.size ≤ k_) ∧ (some k_ ≠ (.slice Ao10 t102.length co10 : Value).ownBlock ∧ (some k_ ≠ (u11 : Value).ownBlock ∧ (some k_ ≠ (.slice (some ad115) t112.length co22 : Value).ownBlock ∧ k_ ≠ gb116))))) _ _ ((rd_T113 t112 x46_2).f1) (fun k_ => some k_ = (.slice Ao10 t102.length co10 : Value).ownBlock) _ _ t102 t117 t120 t123 _ ?side1 ?side2 A26.out).mono ?_); (case side1 => exact HL115_1.out); (case side2 => exact Kd.R_V (Kd.R_tight rfl (Kd.R_types (Kd.R_apart' (Kd.R_apart' (HO_7.out) (Kd.N_typed HO_11.out) (by decide)) (Kd.N_typed HO_44.out) (by decide)) BK116.out (by decide)))); rintro e w49 ⟨v118, v121, rfl, ho0, ho1, hb⟩; refine ⟨_, rfl, ?_⟩; replace HL115_1 := yVe HL115_1 ho1 hb; have HO119 := Aside0.mk (Kd.V_lower (Kd.V_mono (ok' := fun k_ => (w.heap.size ≤ k_) ∧ some k_ ≠ (v121 : Value).ownBlock ∧ some k_ ≠ (u11 : Value).ownBlock ∧ some k_ ≠ (.slice (some ad115) t112.length co22 : Value).ownBlock ∧ k_ ≠ gb116) ho0 (fun k_ hk_ => ⟨Or.elim hk_.1 (fun hs_ => Or.elim hs_ (fun hs_ => hs_.1) (fun hs_ => ((Kd.R_types (Kd.R_apart' (Kd.R_apart' (HO_7.out) (Kd.N_typed HO_11.out) (by decide)) (Kd.N_typed HO_44.out) (by decide)) BK116.out (by decide)).1 k_ hs_.symm).1.1.1)) (fun hn_ => (Nat.le_trans (below_size (zB1 HB.out GE116.out)) hn_)), hk_.2, Or.elim hk_.1 (fun hs_ => Or.elim hs_ (fun hs_ => hs_.2.2.1) (fun hs_ => ((Kd.R_types (Kd.R_apart' (Kd.R_apart' (HO_7.out) (Kd.N_typed HO_11.out) (by decide)) (Kd.N_typed HO_44.out) (by decide)) BK116.out (by decide)).1 k_ hs_.symm).1.1.2)) (fun hn_ => (Kd.fresh' (Kd.N_lt (zN HO_11.out)) k_ hn_)), Or.elim hk_.1 (fun hs_ => Or.elim hs_ (fun hs_ => hs_.2.2.2.1) (fun hs_ => ((Kd.R_types (Kd.R_apart' (Kd.R_apart' (HO_7.out) (Kd.N_typed HO_11.out) (by decide)) (Kd.N_typed HO_44.out) (by decide)) BK116.out (by decide)).1 k_ hs_.symm).1.2)) (fun hn_ => (Kd.fresh' (Kd.N_lt (zN HO_44.out)) k_ hn_)), Or.elim hk_.1 (fun hs_ => Or.elim hs_ (fun hs_ => hs_.2.2.2.2) (fun hs_ => ((Kd.R_types (Kd.R_apart' (Kd.R_apart' (HO_7.out) (Kd.N_typed HO_11.out) (by decide)) (Kd.N_typed HO_44.out) (by decide)) BK116.out (by decide)).1 k_ hs_.symm).2)) (fun hn_ => (Kd.freshB (g := gb116) (o := .cells #[.bool true, .slice A115_1 ((rd_T113 t112 x46_2).f1).length c115_1] 113 (0, 0)) (by (with_reducible repeat (first | refine blk_drewN ?_ _ | refine blk_drew ?_ | refine blk_alloc ?_ _)); exact BK116.out) k_ hn_))⟩)) (below_size (zB1 HB.out GE116.out))); replace HO_11 := yNe HO_11 ho1 hb; replace HO_44 := yNe HO_44 ho1 hb; replace ho1 := Kd.R_newM (M := fun k_ => (w.heap.size ≤ k_)) (yt ho1) (below_size (zB1 HB.out GE116.out)) (fun k_ h_ => h_); replace ho1 := yn ho1 HO_7; have HO122 := yRl1 ho1 HB GE116; replace HO_7 := yRe HO_7 ho1 hb; (try replace HR115_1 := yCb HR115_1 hb); replace BK116 := yK BK116 hb; replace HB := yS1 HB GE116 hb; (try clear hb ho0); (try clear ho1); obtain ⟨Ao50, co50, rfl⟩ := Kd.R_slice HO122.out; obtain ⟨hcz51_0, hcz51_1, hfz51_0, hfz51_1⟩ := zz2 BK116; obtain ⟨Ao53, co53, rfl⟩ := Kd.V_slice HO119.out) | ((with_reducible refine gate_builtin (b := .append) (xs := #[.tmp 71, .tmp 73]) rfl ?_); (try (refine gate_guard (by rfl) ?_; dsimp only)); at_builtin; refine Kd.N_append (Kd.slice 97 (Kd.int .u32)) (w0 := w) w.heap.size rfl (.tmp 71) (.tmp 73) 33 29 (.slice none 0 0) 24 rfl Try.underlying33 info29 rfl (by decide) (by omega) u11 x11_2 t117 [.slice Ao53 t117.length co53] (fun k_ => (w.heap.size ≤ k_) ∧ some k_ ≠ (.slice (some ad115) t112.length co22 : Value).ownBlock ∧ some k_ ≠ (.slice Ao50 t120.length co50 : Value).ownBlock ∧ k_ ≠ gb116) (fun k_ => ((fun k_ => (w.heap.size ≤ k_) ∧ some k_ ≠ (.slice (some ad115) t112.length co22 : Value).ownBlock ∧ some k_ ≠ (.slice Ao50 t120.length co50 : Value).ownBlock ∧ k_ ≠ gb116)) k_ ∧ some k_ ≠ (u11 : Value).ownBlock) rfl rfl ?aP (fun _ hk => hk) ?aF ?aO ?aB ?aS ?aL ?_; (case aP => exact (Kd.FK_slice_mk (Kd.V_reads' (Kd.V_mono (ok' := (fun k_ => ((fun k_ => (w.heap.size ≤ k_) ∧ some k_ ≠ (.slice (some ad115) t112.length co22 : Value).ownBlock ∧ some k_ ≠ (.slice Ao50 t120.length co50 : Value).ownBlock ∧ k_ ≠ gb116)) k_ ∧ some k_ ≠ (u11 : Value).ownBlock)) (HO119.out) (fun k_ hk => by exact ⟨⟨hk.1, ⟨hk.2.2.2.1, ⟨hk.2.1, hk.2.2.2.2⟩⟩⟩, hk.2.2.1⟩))).2.1 (Kd.V_F (Kd.V_mono (ok' := (fun k_ => ((fun k_ => (w.heap.size ≤ k_) ∧ some k_ ≠ (.slice (some ad115) t112.length co22 : Value).ownBlock ∧ some k_ ≠ (.slice Ao50 t120.length co50 : Value).ownBlock ∧ k_ ≠ gb116)) k_ ∧ some k_ ≠ (u11 : Value).ownBlock)) (HO119.out) (fun k_ hk => by exact ⟨⟨hk.1, ⟨hk.2.2.2.1, ⟨hk.2.1, hk.2.2.2.2⟩⟩⟩, hk.2.2.1⟩))))); (case aB => exact (zB1 HB.out GE116.out)); (case aF => exact (fun k_ hk => ⟨(Nat.le_trans (below_size (zB1 HB.out GE116.out)) hk), Kd.fresh' (Kd.N_lt (zN HO_44.out)) k_ hk, Kd.fresh' (Kd.R_lt (zR HO122.out)) k_ hk, Kd.freshB (g := gb116) (o := .cells #[.bool true, .slice A115_1 ((rd_T113 t112 x46_2).f1).length c115_1] 113 (0, 0)) (by (with_reducible repeat (first | refine blk_drewN ?_ _ | refine blk_drew ?_ | refine blk_alloc ?_ _)); exact BK116.out) k_ hk⟩)); (case aO => exact (by (with_reducible repeat (first | apply Kd.N_alloc | apply Kd.N_drewN | apply Kd.N_drew)); exact Kd.N_mono HO_11.out (fun _ hk => ⟨hk.1.1, ⟨hk.1.2.1, ⟨hk.2, hk.1.2.2⟩⟩⟩))); (case aS => exact (below_size (zB1 HB.out GE116.out))); (case aL => have := LMc44.out; omega); intro v125 w52 ho hb hg hat; rw [← Ny124.out] at ho; replace HO_7 := Aside0.mk (Kd.R_over' (zR HO_7.out) (Kd.N_typed (zN HO_11.out)) (by decide) hg); replace HO_44 := Aside0.mk (Kd.N_afterv (ok := (fun k_ => (w.heap.size ≤ k_) ∧ some k_ ≠ (.slice Ao10 t102.length co10 : Value).ownBlock ∧ some k_ ≠ (.slice Ao50 t120.length co50 : Value).ownBlock ∧ k_ ≠ gb116)) (by (with_reducible repeat (first | apply Kd.N_alloc | apply Kd.N_drewN | apply Kd.N_drew)); exact Kd.N_mono HO_44.out (fun _ hk => ⟨⟨hk.1.1, ⟨hk.1.2.1, ⟨hk.2, hk.1.2.2.2⟩⟩⟩, hk.1.2.2.1⟩)) hg hat); replace HL115_1 := Aside0.mk (Kd.V_afterv (ok := (fun k_ => (w.heap.size ≤ k_) ∧ some k_ ≠ (.slice Ao10 t102.length co10 : Value).ownBlock ∧ some k_ ≠ (.slice (some ad115) t112.length co22 : Value).ownBlock ∧ some k_ ≠ (.slice Ao50 t120.length co50 : Value).ownBlock ∧ k_ ≠ gb116)) (by (with_reducible repeat (first | apply Kd.V_alloc | apply Kd.V_drewN | apply Kd.V_drew)); exact Kd.V_mono HL115_1.out (fun _ hk => ⟨⟨hk.1.1, ⟨hk.1.2.1, ⟨hk.1.2.2.2.1, ⟨hk.2, hk.1.2.2.2.2⟩⟩⟩⟩, hk.1.2.2.1⟩)) hg hat); replace BK116 := Aside0.mk (blk_grown (g := gb116) (o := .cells #[.bool true, .slice A115_1 ((rd_T113 t112 x46_2).f1).length c115_1] 113 (0, 0)) (by (with_reducible repeat (first | refine blk_drewN ?_ _ | refine blk_drew ?_ | refine blk_alloc ?_ _)); exact BK116.out) hg (Kd.N_ne HO_11.out BK116.out (by decide))); replace HO119 := Aside0.mk (Kd.V_afterv (ok := (fun k_ => (w.heap.size ≤ k_) ∧ some k_ ≠ (.slice (some ad115) t112.length co22 : Value).ownBlock ∧ some k_ ≠ (.slice Ao50 t120.length co50 : Value).ownBlock ∧ k_ ≠ gb116)) (by (with_reducible repeat (first | apply Kd.V_alloc | apply Kd.V_drewN | apply Kd.V_drew)); exact Kd.V_mono HO119.out (fun _ hk => ⟨⟨hk.1, ⟨hk.2.2.2.1, ⟨hk.2.1, hk.2.2.2.2⟩⟩⟩, hk.2.2.1⟩)) hg hat); replace HO122 := Aside0.mk (Kd.R_over' (zR HO122.out) (Kd.N_typed (zN HO_11.out)) (by decide) hg); replace HB := Aside0.mk (hb); have HO126 := Aside0.mk (ho); clear HO_11; clear ho hb hg hat))
       go_roundg k2
       case measure => have := HK1.out; have := HK2.out; omega
       case rel => exact ⟨(y124), (wrap64 (x46_2 + 1)), zF, H', ⟨zo2 HK1 HK2⟩, ⟨by (with_reducible repeat (first | apply Kd.R_alloc | apply Kd.R_drewN | apply Kd.R_drew)); exact Kd.R_mono HO_7.out (fun _ hk => hk.1)⟩, ⟨by (with_reducible repeat (first | apply Kd.N_alloc | apply Kd.N_drewN | apply Kd.N_drew)); exact Kd.N_mono HO126.out (fun _ hk => ⟨hk.1, hk.2.1⟩)⟩, ⟨by (with_reducible repeat (first | apply Kd.N_alloc | apply Kd.N_drewN | apply Kd.N_drew)); exact Kd.N_mono HO_44.out (fun _ hk => ⟨hk.1.1, ⟨hk.1.2.1, hk.2⟩⟩)⟩, ⟨zB1 HB.out GE116.out⟩⟩
     replace c35 := Bool.eq_false_iff.mpr c35
     subst c35
     rw [if_neg Bool.false_ne_true] at H
     replace H := zg H
     obtain ⟨c54, H⟩ := H
     have LMc54 := Aside0.mk c54
     clear c54
     obtain ⟨y127, hy127⟩ : ∃ y_ : List (List Int), y_ = (x11_2 ++ [t117]) := ⟨_, rfl⟩
     replace H : (mw_Dual.l1 k2 t102 y127 t112 (t112.length : Int) (wrap64 (x46_2 + 1))) = some (r1, r2) := zY hy127 H
     have Ny127 := Aside0.mk hy127
     clear hy127
     have H' := Aside0.mk H
     clear H
     have p115 : 0 ≤ (x46_2 : Int) := zd
     have q115 : x46_2 < (t112.length : Int) := zd
     obtain ⟨ad115, A115_1, c115_1, e115, hx115_0, hx115_1, hl115_1, hi115_1⟩ := at_T113 (Kd.N_reads' HO_44.out).2.2 x46_2 p115 q115
     (try rw [← Nbq34.out] at hx115_0)
     cases e115
     obtain ⟨ce115, hce115, hMe115, hcc115⟩ := Kd.N_get HO_44.out z113 x46_2 p115 (by first | exact q115 | exact zd | (have e_ := (Kd.N_reads' HO_44.out).1; omega))
     obtain ⟨ua115_1, uc115_1, rfl, ul115_1, ge115_1⟩ := k113_openF hMe115
     have hv115_1 := hcc115 1 _ rfl
     rw [add_field _ _ 1 (by omega)] at hv115_1
     replace hv115_1 := Option.some.inj (hv115_1.symm.trans hx115_1)
     injection hv115_1 with hva_ hvn_ hvc_
     rw [hva_] at ge115_1
     rw [hvc_] at ul115_1
     have HL115_1 := Aside0.mk (show Kd.V (Kd.int .u32) 97 _ w.heap.size _ _ ((rd_T113 t112 x46_2).f1) from Kd.V_mk ul115_1 ge115_1)
     clear hva_ hvn_ hvc_ ge115_1 ul115_1
     clear hcc115 hce115
     have HR115_1 := Aside0.mk hi115_1
     have HC115_1 := Aside0.mk hl115_1
     clear hi115_1 hl115_1
     replace p115 := eq_true p115
     replace q115 := eq_true q115
     go_wp2_with (first | ((with_reducible refine gate_dst (N := 13) rfl ?_); (try (refine gate_guard (by rfl) ?_; dsimp only)); refine box_event ?hg (N := 13) ?hd (cs := #[.bool false, .slice none 0 0]) (t := 113) ?hr ?_; (case hd => rfl); (case hg => rfl); (case hr => first | (go_simp; done) | (go_simp; rfl)); intro gb116 hg w55 hbox hb; replace HO_7 := yRb HO_7 hb; replace HO_11 := Aside0.mk (Kd.N_below (Kd.N_elderB (zN HO_11.out) gb116 (Nat.le_of_eq hg.symm)) hb); replace HO_44 := Aside0.mk (Kd.N_below (Kd.N_elderB (zN HO_44.out) gb116 (Nat.le_of_eq hg.symm)) hb); replace HL115_1 := yVB HL115_1 hg hb; (try replace HR115_1 := yCb HR115_1 hb); have BK116 := Aside0.mk (hbox); have GW116 := yg hg HB; have GE116 := yg hg HB; replace HB := yS HB hb; clear hb hbox hg; obtain ⟨hcz56_0, hcz56_1, hfz56_0, hfz56_1⟩ := zz2 BK116) | ((with_reducible refine gate_store (t := 113) (p := 13) rfl ?_); refine store_event (t := 113) (p := 13) (v := ?vo_w57) (w1 := ((w55.setCell ⟨gb116, 0, none⟩ (.bool false)).setCell ⟨gb116, 1, none⟩ (.slice A115_1 ((rd_T113 t112 x46_2).f1).length c115_1))) ?hg ?ho ?hn ?hr ?_; (case ho => rfl); (case hg => rfl); (case hn => rfl); (case hr => first | (go_simp; done) | (go_simp; rfl)); intro w57 hw; have n0_ : Aside0 (Kd.R (Kd.int .u32) 97 w57 w.heap.size (fun k_ => (w.heap.size ≤ k_)) (.slice Ao10 t102.length co10) t102) := ⟨(by rw [hw]; exact (by (with_reducible repeat (first | apply Kd.R_alloc | apply Kd.R_drewN | apply Kd.R_drew)); exact Kd.R_mono (Kd.R_far (p := ⟨gb116, 1, none⟩) (Kd.R_far (p := ⟨gb116, 0, none⟩) (Kd.R_types HO_7.out BK116.out (by decide)) (fun _ hk => hk.2) (.bool false)) (fun _ hk => hk.2) (.slice A115_1 ((rd_T113 t112 x46_2).f1).length c115_1)) (fun _ hk => hk.1)))⟩; have n1_ : Aside0 (Kd.N (Kd.slice 97 (Kd.int .u32)) 29 w57 w.heap.size (fun k_ => (w.heap.size ≤ k_) ∧ some k_ ≠ (.slice (some ad115) t112.length co22 : Value).ownBlock ∧ k_ ≠ gb116) u11 x11_2) := ⟨(by rw [hw]; exact (by (with_reducible repeat (first | apply Kd.N_alloc | apply Kd.N_drewN | apply Kd.N_drew)); exact Kd.N_mono (Kd.N_far (p := ⟨gb116, 1, none⟩) (Kd.N_far (p := ⟨gb116, 0, none⟩) (Kd.N_mono HO_11.out (fun k_ hk => (⟨hk, hk.2⟩ : _ ∧ k_ ≠ gb116))) (fun _ hk => hk.2) (.bool false)) (fun _ hk => hk.2) (.slice A115_1 ((rd_T113 t112 x46_2).f1).length c115_1)) (fun _ hk => ⟨hk.1.1.1, ⟨hk.1.1.2, hk.1.2⟩⟩)))⟩; have n2_ : Aside0 (Kd.N k113 113 w57 w.heap.size (fun k_ => (w.heap.size ≤ k_) ∧ some k_ ≠ (.slice Ao10 t102.length co10 : Value).ownBlock ∧ some k_ ≠ (u11 : Value).ownBlock ∧ k_ ≠ gb116) (.slice (some ad115) t112.length co22) t112) := ⟨(by rw [hw]; exact (by (with_reducible repeat (first | apply Kd.N_alloc | apply Kd.N_drewN | apply Kd.N_drew)); exact Kd.N_mono (Kd.N_far (p := ⟨gb116, 1, none⟩) (Kd.N_far (p := ⟨gb116, 0, none⟩) (Kd.N_mono HO_44.out (fun k_ hk => (⟨hk, hk.2⟩ : _ ∧ k_ ≠ gb116))) (fun _ hk => hk.2) (.bool false)) (fun _ hk => hk.2) (.slice A115_1 ((rd_T113 t112 x46_2).f1).length c115_1)) (fun _ hk => ⟨hk.1.1.1, ⟨hk.1.1.2.1, ⟨hk.1.1.2.2, hk.1.2⟩⟩⟩)))⟩; have n3_ : Aside0 (Kd.V (Kd.int .u32) 97 w57 w.heap.size (fun k_ => (w.heap.size ≤ k_) ∧ some k_ ≠ (.slice Ao10 t102.length co10 : Value).ownBlock ∧ some k_ ≠ (u11 : Value).ownBlock ∧ some k_ ≠ (.slice (some ad115) t112.length co22 : Value).ownBlock ∧ k_ ≠ gb116) (.slice A115_1 ((rd_T113 t112 x46_2).f1).length c115_1) ((rd_T113 t112 x46_2).f1)) := ⟨(by rw [hw]; exact (by (with_reducible repeat (first | apply Kd.V_alloc | apply Kd.V_drewN | apply Kd.V_drew)); exact Kd.V_mono (Kd.V_far (p := ⟨gb116, 1, none⟩) (Kd.V_far (p := ⟨gb116, 0, none⟩) (Kd.V_mono HL115_1.out (fun k_ hk => (⟨hk, hk.2⟩ : _ ∧ k_ ≠ gb116))) (fun _ hk => hk.2) (.bool false)) (fun _ hk => hk.2) (.slice A115_1 ((rd_T113 t112 x46_2).f1).length c115_1)) (fun _ hk => ⟨hk.1.1.1.1, ⟨hk.1.1.1.2.1, ⟨hk.1.1.1.2.2, ⟨hk.1.1.2, hk.1.2⟩⟩⟩⟩)))⟩; have n4_ : Aside0 (w57.heap[gb116]? = some (.cells #[.bool false, .slice A115_1 ((rd_T113 t112 x46_2).f1).length c115_1] 113 (0, 0))) := ⟨(by rw [hw]; exact (zP2 BK116.out))⟩; have n5_ : Aside0 (Below w.heap.size w w57) := ⟨(by rw [hw]; exact (zB1 HB.out GE116.out))⟩; clear hw; clear HO_7; clear HO_11; clear HO_44; clear HL115_1; clear BK116; clear HB; have HO_7 := n0_; have HO_11 := n1_; have HO_44 := n2_; have HL115_1 := n3_; have BK116 := n4_; have HB := n5_; clear n0_ n1_ n2_ n3_ n4_ n5_; obtain ⟨hcz58_0, hcz58_1, hfz58_0, hfz58_1⟩ := zz2 BK116) | ((with_reducible refine gC 105 ?_); refine zG (some 54) Try.func105 #[.slice A115_1 ((rd_T113 t112 x46_2).f1).length c115_1, .slice Ao10 t102.length co10] ?_; (with_reducible refine (nat_DivMod.calls k2 (fun k_ => ((w.heap.size ≤ k_) ∧ (some k_ ≠ (.slice Ao10 t102.length co10 : Value).ownBlock ∧ (some k_ ≠ (u11 : Value).ownBlock ∧ (some k_ ≠ (.slice (some ad115) t112.length co22 : Value).ownBlock ∧ k_ ≠ gb116))))) _ _ ((rd_T113 t112 x46_2).f1) (fun k_ => some k_ = (.slice Ao10 t102.length co10 : Value).ownBlock) _ _ t102 t117 t120 t123 _ ?side1 ?side2 A26.out).mono ?_); (case side1 => exact HL115_1.out); (case side2 => exact Kd.R_V (Kd.R_tight rfl (Kd.R_types (Kd.R_apart' (Kd.R_apart' (HO_7.out) (Kd.N_typed HO_11.out) (by decide)) (Kd.N_typed HO_44.out) (by decide)) BK116.out (by decide)))); rintro e w59 ⟨v118, v121, rfl, ho0, ho1, hb⟩; refine ⟨_, rfl, ?_⟩; replace HL115_1 := yVe HL115_1 ho1 hb; have HO119 := Aside0.mk (Kd.V_lower (Kd.V_mono (ok' := fun k_ => (w.heap.size ≤ k_) ∧ some k_ ≠ (v121 : Value).ownBlock ∧ some k_ ≠ (u11 : Value).ownBlock ∧ some k_ ≠ (.slice (some ad115) t112.length co22 : Value).ownBlock ∧ k_ ≠ gb116) ho0 (fun k_ hk_ => ⟨Or.elim hk_.1 (fun hs_ => Or.elim hs_ (fun hs_ => hs_.1) (fun hs_ => ((Kd.R_types (Kd.R_apart' (Kd.R_apart' (HO_7.out) (Kd.N_typed HO_11.out) (by decide)) (Kd.N_typed HO_44.out) (by decide)) BK116.out (by decide)).1 k_ hs_.symm).1.1.1)) (fun hn_ => (Nat.le_trans (below_size (zB1 HB.out GE116.out)) hn_)), hk_.2, Or.elim hk_.1 (fun hs_ => Or.elim hs_ (fun hs_ => hs_.2.2.1) (fun hs_ => ((Kd.R_types (Kd.R_apart' (Kd.R_apart' (HO_7.out) (Kd.N_typed HO_11.out) (by decide)) (Kd.N_typed HO_44.out) (by decide)) BK116.out (by decide)).1 k_ hs_.symm).1.1.2)) (fun hn_ => (Kd.fresh' (Kd.N_lt (zN HO_11.out)) k_ hn_)), Or.elim hk_.1 (fun hs_ => Or.elim hs_ (fun hs_ => hs_.2.2.2.1) (fun hs_ => ((Kd.R_types (Kd.R_apart' (Kd.R_apart' (HO_7.out) (Kd.N_typed HO_11.out) (by decide)) (Kd.N_typed HO_44.out) (by decide)) BK116.out (by decide)).1 k_ hs_.symm).1.2)) (fun hn_ => (Kd.fresh' (Kd.N_lt (zN HO_44.out)) k_ hn_)), Or.elim hk_.1 (fun hs_ => Or.elim hs_ (fun hs_ => hs_.2.2.2.2) (fun hs_ => ((Kd.R_types (Kd.R_apart' (Kd.R_apart' (HO_7.out) (Kd.N_typed HO_11.out) (by decide)) (Kd.N_typed HO_44.out) (by decide)) BK116.out (by decide)).1 k_ hs_.symm).2)) (fun hn_ => (Kd.freshB (g := gb116) (o := .cells #[.bool false, .slice A115_1 ((rd_T113 t112 x46_2).f1).length c115_1] 113 (0, 0)) (by (with_reducible repeat (first | refine blk_drewN ?_ _ | refine blk_drew ?_ | refine blk_alloc ?_ _)); exact BK116.out) k_ hn_))⟩)) (below_size (zB1 HB.out GE116.out))); replace HO_11 := yNe HO_11 ho1 hb; replace HO_44 := yNe HO_44 ho1 hb; replace ho1 := Kd.R_newM (M := fun k_ => (w.heap.size ≤ k_)) (yt ho1) (below_size (zB1 HB.out GE116.out)) (fun k_ h_ => h_); replace ho1 := yn ho1 HO_7; have HO122 := yRl1 ho1 HB GE116; replace HO_7 := yRe HO_7 ho1 hb; (try replace HR115_1 := yCb HR115_1 hb); replace BK116 := yK BK116 hb; replace HB := yS1 HB GE116 hb; (try clear hb ho0); (try clear ho1); obtain ⟨Ao60, co60, rfl⟩ := Kd.R_slice HO122.out; obtain ⟨hcz61_0, hcz61_1, hfz61_0, hfz61_1⟩ := zz2 BK116; obtain ⟨Ao63, co63, rfl⟩ := Kd.V_slice HO119.out) | ((with_reducible refine gate_builtin (b := .append) (xs := #[.tmp 71, .tmp 73]) rfl ?_); (try (refine gate_guard (by rfl) ?_; dsimp only)); at_builtin; refine Kd.N_append (Kd.slice 97 (Kd.int .u32)) (w0 := w) w.heap.size rfl (.tmp 71) (.tmp 73) 33 29 (.slice none 0 0) 24 rfl Try.underlying33 info29 rfl (by decide) (by omega) u11 x11_2 t117 [.slice Ao63 t117.length co63] (fun k_ => (w.heap.size ≤ k_) ∧ some k_ ≠ (.slice (some ad115) t112.length co22 : Value).ownBlock ∧ some k_ ≠ (.slice Ao60 t120.length co60 : Value).ownBlock ∧ k_ ≠ gb116) (fun k_ => ((fun k_ => (w.heap.size ≤ k_) ∧ some k_ ≠ (.slice (some ad115) t112.length co22 : Value).ownBlock ∧ some k_ ≠ (.slice Ao60 t120.length co60 : Value).ownBlock ∧ k_ ≠ gb116)) k_ ∧ some k_ ≠ (u11 : Value).ownBlock) rfl rfl ?aP (fun _ hk => hk) ?aF ?aO ?aB ?aS ?aL ?_; (case aP => exact (Kd.FK_slice_mk (Kd.V_reads' (Kd.V_mono (ok' := (fun k_ => ((fun k_ => (w.heap.size ≤ k_) ∧ some k_ ≠ (.slice (some ad115) t112.length co22 : Value).ownBlock ∧ some k_ ≠ (.slice Ao60 t120.length co60 : Value).ownBlock ∧ k_ ≠ gb116)) k_ ∧ some k_ ≠ (u11 : Value).ownBlock)) (HO119.out) (fun k_ hk => by exact ⟨⟨hk.1, ⟨hk.2.2.2.1, ⟨hk.2.1, hk.2.2.2.2⟩⟩⟩, hk.2.2.1⟩))).2.1 (Kd.V_F (Kd.V_mono (ok' := (fun k_ => ((fun k_ => (w.heap.size ≤ k_) ∧ some k_ ≠ (.slice (some ad115) t112.length co22 : Value).ownBlock ∧ some k_ ≠ (.slice Ao60 t120.length co60 : Value).ownBlock ∧ k_ ≠ gb116)) k_ ∧ some k_ ≠ (u11 : Value).ownBlock)) (HO119.out) (fun k_ hk => by exact ⟨⟨hk.1, ⟨hk.2.2.2.1, ⟨hk.2.1, hk.2.2.2.2⟩⟩⟩, hk.2.2.1⟩))))); (case aB => exact (zB1 HB.out GE116.out)); (case aF => exact (fun k_ hk => ⟨(Nat.le_trans (below_size (zB1 HB.out GE116.out)) hk), Kd.fresh' (Kd.N_lt (zN HO_44.out)) k_ hk, Kd.fresh' (Kd.R_lt (zR HO122.out)) k_ hk, Kd.freshB (g := gb116) (o := .cells #[.bool false, .slice A115_1 ((rd_T113 t112 x46_2).f1).length c115_1] 113 (0, 0)) (by (with_reducible repeat (first | refine blk_drewN ?_ _ | refine blk_drew ?_ | refine blk_alloc ?_ _)); exact BK116.out) k_ hk⟩)); (case aO => exact (by (with_reducible repeat (first | apply Kd.N_alloc | apply Kd.N_drewN | apply Kd.N_drew)); exact Kd.N_mono HO_11.out (fun _ hk => ⟨hk.1.1, ⟨hk.1.2.1, ⟨hk.2, hk.1.2.2⟩⟩⟩))); (case aS => exact (below_size (zB1 HB.out GE116.out))); (case aL => have := LMc54.out; omega); intro v128 w62 ho hb hg hat; rw [← Ny127.out] at ho; replace HO_7 := Aside0.mk (Kd.R_over' (zR HO_7.out) (Kd.N_typed (zN HO_11.out)) (by decide) hg); replace HO_44 := Aside0.mk (Kd.N_afterv (ok := (fun k_ => (w.heap.size ≤ k_) ∧ some k_ ≠ (.slice Ao10 t102.length co10 : Value).ownBlock ∧ some k_ ≠ (.slice Ao60 t120.length co60 : Value).ownBlock ∧ k_ ≠ gb116)) (by (with_reducible repeat (first | apply Kd.N_alloc | apply Kd.N_drewN | apply Kd.N_drew)); exact Kd.N_mono HO_44.out (fun _ hk => ⟨⟨hk.1.1, ⟨hk.1.2.1, ⟨hk.2, hk.1.2.2.2⟩⟩⟩, hk.1.2.2.1⟩)) hg hat); replace HL115_1 := Aside0.mk (Kd.V_afterv (ok := (fun k_ => (w.heap.size ≤ k_) ∧ some k_ ≠ (.slice Ao10 t102.length co10 : Value).ownBlock ∧ some k_ ≠ (.slice (some ad115) t112.length co22 : Value).ownBlock ∧ some k_ ≠ (.slice Ao60 t120.length co60 : Value).ownBlock ∧ k_ ≠ gb116)) (by (with_reducible repeat (first | apply Kd.V_alloc | apply Kd.V_drewN | apply Kd.V_drew)); exact Kd.V_mono HL115_1.out (fun _ hk => ⟨⟨hk.1.1, ⟨hk.1.2.1, ⟨hk.1.2.2.2.1, ⟨hk.2, hk.1.2.2.2.2⟩⟩⟩⟩, hk.1.2.2.1⟩)) hg hat); replace BK116 := Aside0.mk (blk_grown (g := gb116) (o := .cells #[.bool false, .slice A115_1 ((rd_T113 t112 x46_2).f1).length c115_1] 113 (0, 0)) (by (with_reducible repeat (first | refine blk_drewN ?_ _ | refine blk_drew ?_ | refine blk_alloc ?_ _)); exact BK116.out) hg (Kd.N_ne HO_11.out BK116.out (by decide))); replace HO119 := Aside0.mk (Kd.V_afterv (ok := (fun k_ => (w.heap.size ≤ k_) ∧ some k_ ≠ (.slice (some ad115) t112.length co22 : Value).ownBlock ∧ some k_ ≠ (.slice Ao60 t120.length co60 : Value).ownBlock ∧ k_ ≠ gb116)) (by (with_reducible repeat (first | apply Kd.V_alloc | apply Kd.V_drewN | apply Kd.V_drew)); exact Kd.V_mono HO119.out (fun _ hk => ⟨⟨hk.1, ⟨hk.2.2.2.1, ⟨hk.2.1, hk.2.2.2.2⟩⟩⟩, hk.2.2.1⟩)) hg hat); replace HO122 := Aside0.mk (Kd.R_over' (zR HO122.out) (Kd.N_typed (zN HO_11.out)) (by decide) hg); replace HB := Aside0.mk (hb); have HO129 := Aside0.mk (ho); clear HO_11; clear ho hb hg hat))
     go_roundg k2
     case measure => have := HK1.out; have := HK2.out; omega
     case rel => exact ⟨(y127), (wrap64 (x46_2 + 1)), zF, H', ⟨zo2 HK1 HK2⟩, ⟨by (with_reducible repeat (first | apply Kd.R_alloc | apply Kd.R_drewN | apply Kd.R_drew)); exact Kd.R_mono HO_7.out (fun _ hk => hk.1)⟩, ⟨by (with_reducible repeat (first | apply Kd.N_alloc | apply Kd.N_drewN | apply Kd.N_drew)); exact Kd.N_mono HO129.out (fun _ hk => ⟨hk.1, hk.2.1⟩)⟩, ⟨by (with_reducible repeat (first | apply Kd.N_alloc | apply Kd.N_drewN | apply Kd.N_drew)); exact Kd.N_mono HO_44.out (fun _ hk => ⟨hk.1.1, ⟨hk.1.2.1, hk.2⟩⟩)⟩, ⟨zB1 HB.out GE116.out⟩⟩
   simp only [Option.some.injEq, Prod.mk.injEq] at H
   obtain ⟨rfl, rfl⟩ := H
   go_wp2
   go_ret2
   exact ⟨_, zE, by (with_reducible repeat (first | apply Kd.N_alloc | apply Kd.N_drewN | apply Kd.N_drew)); exact Kd.N_mono HO_11.out (fun _ hk => hk.1), zB HB.out⟩
 have c4b0 := beq_eq_false_iff_ne.mpr c4
 have c4b1 := bne_iff_ne.mpr c4
 simp only [Option.some.injEq, Prod.mk.injEq] at H
 obtain ⟨rfl, rfl⟩ := H
 go_enter Try.func57, Try.ntmps57
 go_wp2_with (first | ((with_reducible refine gC 102 ?_); refine zG (some 20) Try.func102 #[.int .i64 a0, .int .i64 (l1.length : Int)] ?_; (with_reducible refine (mw_wrong.calls a0 (l1.length : Int) t101 _ A3.out).mono ?_); rintro e w' ⟨rfl, ⟨nd, rfl⟩⟩; refine ⟨_, rfl, ?_⟩))
 go_ret2
 exact ⟨_, zE, by first | exact Kd.S_nil _ _ _ _ _ | exact Kd.N_nil _ _ _ _ _ | exact Kd.V_nil _ _ _ _ _ | exact Kd.Q_nil _ _ _ _ _ | exact Kd.R_nil _ _ _ _ _, zB HB.out⟩
set_option maxHeartbeats 8000000 in
set_option maxRecDepth 100000 in
theorem mw_some.calls (k : Nat) (A0 : Option Addr) (c0 : Nat) (l0 : List (List Int)) (a1 : Int) (r : Int) (w : World) (hr0 : Kd.C (Kd.slice 97 (Kd.int .u32)) w A0 l0.length l0) (hc0 : l0.length ≤ c0) (h : mw_some.f k l0 a1 = some r) :
    Calls Try.prog 88 #[.slice A0 l0.length c0, .int .i64 a1] w fun e w' => e = .returned (.int .i64 r) ∧ Below w.heap.size w w' := by
 have HR0 := Aside0.mk hr0
 have HC0 := Aside0.mk hc0
 clear hr0 hc0
 have HB := Aside0.mk (Below.refl w.heap.size w)
 have H : (mw_some.l0 k l0 a1 0 1) = some r := h
 clear h
 have H' := Aside0.mk H
 clear H
 go_enter Try.func88, Try.ntmps88
 go_wp2
 go_loopg [5, 6] k (fun kq v5 v6 w' => ∃ (x5_1 : Int) (x6_1 : Int), v5 = .int .i64 x5_1 ∧ v6 = .int .i64 x6_1 ∧ Aside0 (mw_some.l0 kq l0 a1 x5_1 x6_1 = some r) ∧ Aside0 (kq ≤ k) ∧ Aside0 (Below w.heap.size w w'))
 case atStart => exact ⟨(0), (1), zF, zF, H', ⟨Nat.le_refl _⟩, ⟨zB HB.out⟩⟩
 clear H'
 obtain ⟨x5_1, x6_1, rfl, rfl, HA, HK1, HB⟩ := hrel
 cases gk with | zero => exact absurd HA.out (by simp [mw_some.l0]) | succ k1 => ?_
 have H := HA.out
 clear HA
 simp only [mw_some.l0] at H
 replace H := zid H
 rcases H with ⟨c3b0, H⟩ | ⟨c3b0, H⟩
 · replace H := zgd H
   obtain ⟨c4b0, H⟩ := H
   replace H := zgd H
   obtain ⟨c5b0, H⟩ := H
   replace H := zb H
   obtain ⟨t102, A6, H⟩ := H
   replace H := zi H
   rcases H with ⟨c7, H⟩ | ⟨c7, H⟩
   · have c7b0 : decide (0 < t102) = true := decide_eq_true c7
     clear c7
     have H' := Aside0.mk H
     clear H
     have p101 : 0 ≤ (x6_1 : Int) := zd
     have q101 : x6_1 < (l0.length : Int) := zd
     obtain ⟨ad101, A101_0, c101_0, e101, hx101_0, hl101_0, hi101_0⟩ := at_L3 HR0.out x6_1 p101 q101
     cases e101
     replace hx101_0 := (HB.out.cell (World.block_lt_of_cell? w _ hx101_0)).trans hx101_0
     have HR101_0 := Aside0.mk hi101_0
     have HC101_0 := Aside0.mk hl101_0
     clear hi101_0 hl101_0
     replace p101 := eq_true p101
     replace q101 := eq_true q101
     go_wp2_with (first | ((with_reducible refine gC 87 ?_); refine zG (some 16) Try.func87 #[.slice A101_0 (rd_L3 l0 x6_1).length c101_0] ?_; (with_reducible refine (nat_Bits.calls k1 _ _ (rd_L3 l0 x6_1) t102 _ ?side1 ?side2 A6.out).mono ?_); (case side1 => exact zC (Kd.C_below HR101_0.out HB.out)); (case side2 => exact HC101_0.out); rintro e w8 ⟨rfl, hb⟩; refine ⟨_, rfl, ?_⟩; replace HB := yS HB hb; (try clear hb); (try clear hb2); (try clear hk); (try clear hi)))
     go_roundg k1
     case measure => have := HK1.out; omega
     case rel => exact ⟨(wrap64 (x5_1 + 1)), (wrap64 (x6_1 + 1)), zF, zF, H', ⟨zo1 HK1⟩, ⟨zB HB.out⟩⟩
   have c7b0 : decide (0 < t102) = false := decide_eq_false c7
   clear c7
   have H' := Aside0.mk H
   clear H
   have p101 : 0 ≤ (x6_1 : Int) := zd
   have q101 : x6_1 < (l0.length : Int) := zd
   obtain ⟨ad101, A101_0, c101_0, e101, hx101_0, hl101_0, hi101_0⟩ := at_L3 HR0.out x6_1 p101 q101
   cases e101
   replace hx101_0 := (HB.out.cell (World.block_lt_of_cell? w _ hx101_0)).trans hx101_0
   have HR101_0 := Aside0.mk hi101_0
   have HC101_0 := Aside0.mk hl101_0
   clear hi101_0 hl101_0
   replace p101 := eq_true p101
   replace q101 := eq_true q101
   go_wp2_with (first | ((with_reducible refine gC 87 ?_); refine zG (some 16) Try.func87 #[.slice A101_0 (rd_L3 l0 x6_1).length c101_0] ?_; (with_reducible refine (nat_Bits.calls k1 _ _ (rd_L3 l0 x6_1) t102 _ ?side1 ?side2 A6.out).mono ?_); (case side1 => exact zC (Kd.C_below HR101_0.out HB.out)); (case side2 => exact HC101_0.out); rintro e w9 ⟨rfl, hb⟩; refine ⟨_, rfl, ?_⟩; replace HB := yS HB hb; (try clear hb); (try clear hb2); (try clear hk); (try clear hi)))
   go_roundg k1
   case measure => have := HK1.out; omega
   case rel => exact ⟨(x5_1), (wrap64 (x6_1 + 1)), zF, zF, H', ⟨zo1 HK1⟩, ⟨zB HB.out⟩⟩
 obtain rfl := Option.some.inj H
 go_wp2
 go_ret
 exact ⟨zE, zB HB.out⟩
set_option maxHeartbeats 8000000 in
set_option maxRecDepth 100000 in
theorem mw_Strength.calls (k : Nat) (a0 : Int) (A1 : Option Addr) (c1 : Nat) (l1 : List (List Int)) (r1 : Int) (r2 : Int) (w : World) (hr1 : Kd.C (Kd.slice 97 (Kd.int .u32)) w A1 l1.length l1) (hc1 : l1.length ≤ c1) (h : mw_Strength.f k a0 l1 = some (r1, r2)) :
    Calls Try.prog 38 #[.int .i64 a0, .slice A1 l1.length c1] w fun e w' => e = .returned (.tuple #[.int .i64 r1, .int .i64 r2]) ∧ Below w.heap.size w w' := by
 have HR1 := Aside0.mk hr1
 have HC1 := Aside0.mk hc1
 clear hr1 hc1
 have HB := Aside0.mk (Below.refl w.heap.size w)
 have H : ((mw_Dual.f k a0 l1).bind fun bt101 => (if bt101.2 = 0 then (mw_Strength.l0 k l1 bt101.1 (wrap64 ((l1.length : Int) - 1)) 1) else (some (0, bt101.2)))) = some (r1, r2) := h
 clear h
 replace H := zb H
 obtain ⟨⟨t101, t104⟩, A3, H⟩ := H
 dsimp only at H
 replace H := zi H
 rcases H with ⟨c4, H⟩ | ⟨c4, H⟩
 · have c4b0 := beq_iff_eq.mpr c4
   have c4b1 := bne_eq_false_iff_eq.mpr c4
   clear c4
   have HC5 := Aside0.mk H
   clear H
   go_enter Try.func38, Try.ntmps38
   go_upto_block 0 with (first | ((with_reducible refine gC 57 ?_); refine zG (some 14) Try.func57 #[.int .i64 a0, .slice A1 l1.length c1] ?_; (with_reducible refine (mw_Dual.calls k a0 _ _ l1 t101 t104 _ ?side1 ?side2 A3.out).mono ?_); (case side1 => exact zC HR1.out); (case side2 => exact HC1.out); rintro e w6 ⟨v102, rfl, ho0, hb⟩; refine ⟨_, rfl, ?_⟩; have HO103 := Aside0.mk (Kd.N_lower (Kd.N_mono (ok' := fun k_ => True) ho0 (fun k_ hk_ => trivial)) (below_size (zB HB.out))); replace HB := yS HB hb; (try clear hb ho0)))
   (try simp only [Act.put, List.setIfInBounds_toArray, List.set_cons_zero, List.set_cons_succ])
   go_cut [9] (fun v9 wc => ∃ (kq : Nat) (x9_4 : Int), v9 = .int .i64 x9_4 ∧ Aside0 (mw_Strength.j1 kq t101 (wrap64 ((l1.length : Int) - 1)) x9_4 = some (r1, r2)) ∧ Aside0 (kq ≤ k) ∧ Aside0 (Kd.N (Kd.slice 97 (Kd.int .u32)) 29 wc w.heap.size (fun _ => True) v102 t101) ∧ Aside0 (Below w.heap.size w wc))
   case first =>
    have H := HC5.out
    clear HC5
    have H' := Aside0.mk H
    clear H
    go_wp2
    go_loopg [9] k (fun kq v9 w' => ∃ (x9_1 : Int), v9 = .int .i64 x9_1 ∧ Aside0 (mw_Strength.l0 kq l1 t101 (wrap64 ((l1.length : Int) - 1)) x9_1 = some (r1, r2)) ∧ Aside0 (kq ≤ k) ∧ Aside0 (Kd.N (Kd.slice 97 (Kd.int .u32)) 29 w' w.heap.size (fun _ => True) v102 t101) ∧ Aside0 (Below w.heap.size w w'))
    case atStart => exact ⟨(1), zF, H', ⟨Nat.le_refl _⟩, ⟨zN HO103.out⟩, ⟨zB HB.out⟩⟩
    clear H'
    (try clear c4);(try clear c4b0);(try clear c4b1)
    obtain ⟨x9_1, rfl, HA, HK1, HO_6, HB⟩ := hrel
    cases gk with | zero => exact absurd HA.out (by simp [mw_Strength.l0]) | succ k1 => ?_
    have H := HA.out
    clear HA
    simp only [mw_Strength.l0] at H
    replace H := zid H
    rcases H with ⟨c7b0, H⟩ | ⟨c7b0, H⟩
    · (first | rw [c7b0] | (simp only [i64_w, i32_w]; rw [c7b0]) | rw [c7b1] | skip)
      replace H := zgd H
      obtain ⟨c8b0, H⟩ := H
      replace H := zgd H
      obtain ⟨c9b0, H⟩ := H
      replace H := zb H
      obtain ⟨t106, A10, H⟩ := H
      replace H := zi H
      rcases H with ⟨c11, H⟩ | ⟨c11, H⟩
      · have c11b0 := beq_iff_eq.mpr c11
        have c11b1 := bne_eq_false_iff_eq.mpr c11
        clear c11
        have H' := Aside0.mk H
        clear H
        have p105 : 0 ≤ (x9_1 : Int) := zd
        have q105 : x9_1 < (l1.length : Int) := zd
        obtain ⟨ad105, A105_0, c105_0, e105, hx105_0, hl105_0, hi105_0⟩ := at_L3 HR1.out x9_1 p105 q105
        cases e105
        replace hx105_0 := (HB.out.cell (World.block_lt_of_cell? w _ hx105_0)).trans hx105_0
        have HR105_0 := Aside0.mk hi105_0
        have HC105_0 := Aside0.mk hl105_0
        clear hi105_0 hl105_0
        replace p105 := eq_true p105
        replace q105 := eq_true q105
        go_wp2_with (first | (go_at_call 87; (with_reducible refine (nat_Bits.calls k1 _ _ (rd_L3 l1 x9_1) t106 _ ?side1 ?side2 A10.out).mono ?_); (case side1 => exact zC (Kd.C_below HR105_0.out HB.out)); (case side2 => exact HC105_0.out); rintro e w12 ⟨rfl, hb⟩; replace HO_6 := yNb HO_6 hb; replace HB := yS HB hb; (try clear hb); (try clear hb2); (try clear hk); (try clear hi)))
        go_roundg k1
        case measure => have := HK1.out; omega
        case rel => exact ⟨(wrap64 (x9_1 + 1)), zF, H', ⟨zo1 HK1⟩, ⟨zN HO_6.out⟩, ⟨zB HB.out⟩⟩
      have c11b0 := beq_eq_false_iff_ne.mpr c11
      have c11b1 := bne_iff_ne.mpr c11
      have H' := Aside0.mk H
      clear H
      have p105 : 0 ≤ (x9_1 : Int) := zd
      have q105 : x9_1 < (l1.length : Int) := zd
      obtain ⟨ad105, A105_0, c105_0, e105, hx105_0, hl105_0, hi105_0⟩ := at_L3 HR1.out x9_1 p105 q105
      cases e105
      replace hx105_0 := (HB.out.cell (World.block_lt_of_cell? w _ hx105_0)).trans hx105_0
      have HR105_0 := Aside0.mk hi105_0
      have HC105_0 := Aside0.mk hl105_0
      clear hi105_0 hl105_0
      replace p105 := eq_true p105
      replace q105 := eq_true q105
      go_wp2_with (first | (go_at_call 87; (with_reducible refine (nat_Bits.calls k1 _ _ (rd_L3 l1 x9_1) t106 _ ?side1 ?side2 A10.out).mono ?_); (case side1 => exact zC (Kd.C_below HR105_0.out HB.out)); (case side2 => exact HC105_0.out); rintro e w13 ⟨rfl, hb⟩; replace HO_6 := yNb HO_6 hb; replace HB := yS HB hb; (try clear hb); (try clear hb2); (try clear hk); (try clear hi)))
      go_meet
      case rel => exact ⟨_, (x9_1), zF, H', ⟨by have := HK1.out; first | omega | exact Nat.le_refl _⟩, ⟨zN HO_6.out⟩, ⟨zB HB.out⟩⟩
    (first | rw [c7b0] | (simp only [i64_w, i32_w]; rw [c7b0]) | rw [c7b1] | skip)
    have H' := Aside0.mk H
    clear H
    go_wp2
    go_meet
    case rel => exact ⟨_, (x9_1), zF, H', ⟨by have := HK1.out; first | omega | exact Nat.le_refl _⟩, ⟨zN HO_6.out⟩, ⟨zB HB.out⟩⟩
   clear HC5
   (try clear c4);(try clear c4b0);(try clear c4b1);(try clear c7b0);(try clear c8b0);(try clear c9b0);(try clear c11);(try clear c11b0);(try clear c11b1);(try clear hx105_0);(try clear p105);(try clear q105)
   obtain ⟨kq, x9_4, rfl, HA, HJ4, HO_6, HB⟩ := hcut
   cases kq with | zero => exact absurd HA.out (by simp [mw_Strength.j1]) | succ kj4 => ?_
   have H := HA.out
   clear HA
   simp only [mw_Strength.j1] at H
   replace H := zi H
   rcases H with ⟨c14, H⟩ | ⟨c14, H⟩
   · have c14b0 : decide ((wrap64 ((l1.length : Int) - 1)) < x9_4) = true := decide_eq_true c14
     clear c14
     simp only [Option.some.injEq, Prod.mk.injEq] at H
     obtain ⟨rfl, rfl⟩ := H
     go_wp2
     go_ret2
     exact ⟨zE, zB HB.out⟩
   have c14b0 : decide ((wrap64 ((l1.length : Int) - 1)) < x9_4) = false := decide_eq_false c14
   clear c14
   have H' := Aside0.mk H
   clear H
   go_wp2
   go_loopg [10] kj4 (fun kq v10 w' => ∃ (x10_2 : Int), v10 = .int .i64 x10_2 ∧ Aside0 (mw_Strength.l1 kq t101 (wrap64 ((l1.length : Int) - 1)) x9_4 x10_2 = some (r1, r2)) ∧ Aside0 (kq ≤ kj4) ∧ Aside0 (Kd.N (Kd.slice 97 (Kd.int .u32)) 29 w' w.heap.size (fun _ => True) v102 t101) ∧ Aside0 (Below w.heap.size w w'))
   case atStart => exact ⟨(wrap64 (x9_4 - 1)), zF, H', ⟨Nat.le_refl _⟩, ⟨zN HO_6.out⟩, ⟨zB HB.out⟩⟩
   clear H'
   (try clear c4);(try clear c4b0);(try clear c4b1);(try clear c7b0);(try clear c8b0);(try clear c9b0);(try clear c11);(try clear c11b0);(try clear c11b1);(try clear c14);(try clear c14b0);(try clear hx105_0);(try clear p105);(try clear q105)
   obtain ⟨x10_2, rfl, HA, HK2, HO_6, HB⟩ := hrel
   cases gk with | zero => exact absurd HA.out (by simp [mw_Strength.l1]) | succ k2 => ?_
   have H := HA.out
   clear HA
   simp only [mw_Strength.l1] at H
   replace H := zi H
   rcases H with ⟨c15, H⟩ | ⟨c15, H⟩
   · have c15b0 : decide (1 ≤ x10_2) = true := decide_eq_true c15
     clear c15
     replace H := zb H
     obtain ⟨t107, A16, H⟩ := H
     replace H := zid H
     rcases H with ⟨c17b0, H⟩ | ⟨c17b0, H⟩
     · simp only [Option.some.injEq, Prod.mk.injEq] at H
       obtain ⟨rfl, rfl⟩ := H
       obtain ⟨Ao18, co18, rfl⟩ := Kd.N_slice HO_6.out
       go_wp2_with (first | ((with_reducible refine gC 88 ?_); refine zG (some 49) Try.func88 #[.slice Ao18 t101.length co18, .int .i64 (wrap64 ((wrap64 ((l1.length : Int) - 1)) - x10_2))] ?_; (with_reducible refine (mw_some.calls k2 _ _ t101 (wrap64 ((wrap64 ((l1.length : Int) - 1)) - x10_2)) t107 _ ?side1 ?side2 A16.out).mono ?_); (case side1 => exact zC (Kd.N_reads' HO_6.out).2.2); (case side2 => exact (Kd.N_reads' HO_6.out).2.1); rintro e w19 ⟨rfl, hb⟩; refine ⟨_, rfl, ?_⟩; replace HO_6 := yNb HO_6 hb; replace HB := yS HB hb; (try clear hb); (try clear hb2); (try clear hk); (try clear hi)))
       go_ret2
       exact ⟨zE, zB HB.out⟩
     have H' := Aside0.mk H
     clear H
     obtain ⟨Ao20, co20, rfl⟩ := Kd.N_slice HO_6.out
     go_wp2_with (first | ((with_reducible refine gC 88 ?_); refine zG (some 49) Try.func88 #[.slice Ao20 t101.length co20, .int .i64 (wrap64 ((wrap64 ((l1.length : Int) - 1)) - x10_2))] ?_; (with_reducible refine (mw_some.calls k2 _ _ t101 (wrap64 ((wrap64 ((l1.length : Int) - 1)) - x10_2)) t107 _ ?side1 ?side2 A16.out).mono ?_); (case side1 => exact zC (Kd.N_reads' HO_6.out).2.2); (case side2 => exact (Kd.N_reads' HO_6.out).2.1); rintro e w21 ⟨rfl, hb⟩; refine ⟨_, rfl, ?_⟩; replace HO_6 := yNb HO_6 hb; replace HB := yS HB hb; (try clear hb); (try clear hb2); (try clear hk); (try clear hi)))
     go_roundg k2
     case measure => have := HJ4.out; have := HK2.out; omega
     case rel => exact ⟨(wrap64 (x10_2 - 1)), zF, H', ⟨zo2 HJ4 HK2⟩, ⟨zN HO_6.out⟩, ⟨zB HB.out⟩⟩
   have c15b0 : decide (1 ≤ x10_2) = false := decide_eq_false c15
   clear c15
   simp only [Option.some.injEq, Prod.mk.injEq] at H
   obtain ⟨rfl, rfl⟩ := H
   go_wp2
   go_ret2
   exact ⟨zE, zB HB.out⟩
 have c4b0 := beq_eq_false_iff_ne.mpr c4
 have c4b1 := bne_iff_ne.mpr c4
 simp only [Option.some.injEq, Prod.mk.injEq] at H
 obtain ⟨rfl, rfl⟩ := H
 go_enter Try.func38, Try.ntmps38
 go_wp2_with (first | ((with_reducible refine gC 57 ?_); refine zG (some 14) Try.func57 #[.int .i64 a0, .slice A1 l1.length c1] ?_; (with_reducible refine (mw_Dual.calls k a0 _ _ l1 t101 t104 _ ?side1 ?side2 A3.out).mono ?_); (case side1 => exact zC HR1.out); (case side2 => exact HC1.out); rintro e w22 ⟨v102, rfl, ho0, hb⟩; refine ⟨_, rfl, ?_⟩; have HO103 := Aside0.mk (Kd.N_lower (Kd.N_mono (ok' := fun k_ => True) ho0 (fun k_ hk_ => trivial)) (below_size (zB HB.out))); replace HB := yS HB hb; (try clear hb ho0)))
 go_ret2
 exact ⟨zE, zB HB.out⟩
set_option maxHeartbeats 8000000 in
set_option maxRecDepth 100000 in
theorem r1_Trim.calls (k : Nat) (A0 : Option Addr) (c0 : Nat) (l0 : List Int) (r : List Int) (w : World) (hr0 : Kd.C (Kd.int .u32) w A0 l0.length l0) (hc0 : l0.length ≤ c0) (h : r1_Trim.f k l0 = some r) :
    Calls Try.prog 75 #[.slice A0 l0.length c0] w fun e w' => ∃ v0_ : Value, e = .returned (v0_) ∧ Kd.R (Kd.int .u32) 97 w' w.heap.size (fun _ => True) v0_ r ∧ Below w.heap.size w w' := by
 have HR0 := Aside0.mk hr0
 have HC0 := Aside0.mk hc0
 clear hr0 hc0
 have HB := Aside0.mk (Below.refl w.heap.size w)
 have H : (r1_Trim.l0 k l0 (l0.length : Int)) = some r := h
 clear h
 have H' := Aside0.mk H
 clear H
 go_enter Try.func75, Try.ntmps75
 go_wp2
 go_loopg [3] k (fun kq v3 w' => ∃ (x3_1 : Int), v3 = .int .i64 x3_1 ∧ Aside0 (r1_Trim.l0 kq l0 x3_1 = some r) ∧ Aside0 (kq ≤ k) ∧ Aside0 (Below w.heap.size w w'))
 case atStart => exact ⟨((l0.length : Int)), zF, H', ⟨Nat.le_refl _⟩, ⟨zB HB.out⟩⟩
 clear H'
 obtain ⟨x3_1, rfl, HA, HK1, HB⟩ := hrel
 cases gk with | zero => exact absurd HA.out (by simp [r1_Trim.l0]) | succ k1 => ?_
 have H := HA.out
 clear HA
 simp only [r1_Trim.l0] at H
 replace H := zi H
 rcases H with ⟨c2, H⟩ | ⟨c2, H⟩
 · have c2b0 : decide (0 < x3_1) = true := decide_eq_true c2
   clear c2
   obtain ⟨ji3, hji3⟩ : ∃ j_ : Int, (wrap64 (x3_1 - 1)) = j_ := ⟨_, rfl⟩
   replace H : (if 0 ≤ (ji3) then (if (ji3) < (l0.length : Int) then (if (rd l0 (ji3)) = 0 then (r1_Trim.l0 k1 l0 ji3) else ((some (([] : List Int) : List Int)).bind fun y102 => (if 0 ≤ x3_1 then (if x3_1 ≤ (l0.length : Int) then (if y102.length + (l0.take (x3_1 : Int).toNat).length < 35184372088832 then (some (y102 ++ (l0.take (x3_1 : Int).toNat))) else (none)) else (none)) else (none)))) else (none)) else (none)) = some r := by first | (rw [hji3] at H; exact H) | (simp only [hji3] at H ⊢; exact H)
   have hji3w : (IntKind.i64.wrap (x3_1 - 1)) = ji3 := (i64_w _).trans hji3
   replace H := zgd H
   obtain ⟨c4b0, H⟩ := H
   replace H := zgd H
   obtain ⟨c5b0, H⟩ := H
   replace H := zi H
   rcases H with ⟨c6, H⟩ | ⟨c6, H⟩
   · have c6b0 := beq_iff_eq.mpr c6
     have c6b1 := bne_eq_false_iff_eq.mpr c6
     clear c6
     have H' := Aside0.mk H
     clear H
     have p101 : 0 ≤ ((ji3) : Int) := zd
     have q101 : (ji3) < (l0.length : Int) := zd
     obtain ⟨ad101, e101, hx101_0⟩ := Kd.at_int HR0.out (ji3) p101 q101
     cases e101
     replace hx101_0 := (HB.out.cell (World.block_lt_of_cell? w _ hx101_0)).trans hx101_0
     replace p101 := eq_true p101
     replace q101 := eq_true q101
     go_wp2
     go_roundg k1
     case measure => have := HK1.out; omega
     case rel => exact ⟨(ji3), (by first | rfl | (simp; done) | (simp only [← hji3] <;> (first | rfl | simp)) | (simp [*]; done)), H', ⟨zo1 HK1⟩, ⟨zB HB.out⟩⟩
   have c6b0 := beq_eq_false_iff_ne.mpr c6
   have c6b1 := bne_iff_ne.mpr c6
   obtain ⟨y102, hy102⟩ : ∃ y_ : List Int, y_ = (([] : List Int)) := ⟨_, rfl⟩
   replace H : (if 0 ≤ x3_1 then (if x3_1 ≤ (l0.length : Int) then (if y102.length + (l0.take (x3_1 : Int).toNat).length < 35184372088832 then (some (y102 ++ (l0.take (x3_1 : Int).toNat))) else (none)) else (none)) else (none)) = some r := zY hy102 H
   have Ny102 := Aside0.mk hy102
   clear hy102
   replace H := zg H
   obtain ⟨c7, H⟩ := H
   have c7b0 := eq_true c7
   have c7b1 := decide_eq_true c7
   clear c7
   replace H := zg H
   obtain ⟨c8, H⟩ := H
   have c8b0 := eq_true c8
   have c8b1 := decide_eq_true c8
   clear c8
   replace H := zg H
   obtain ⟨c9, H⟩ := H
   have LMc9 := Aside0.mk c9
   clear c9
   obtain ⟨y106, hy106⟩ : ∃ y_ : List Int, y_ = (y102 ++ (l0.take (x3_1 : Int).toNat)) := ⟨_, rfl⟩
   replace H : (some y106) = some r := zY hy106 H
   have Ny106 := Aside0.mk hy106
   clear hy106
   obtain rfl := Option.some.inj H
   have p101 : 0 ≤ ((ji3) : Int) := zd
   have q101 : (ji3) < (l0.length : Int) := zd
   obtain ⟨ad101, e101, hx101_0⟩ := Kd.at_int HR0.out (ji3) p101 q101
   cases e101
   replace hx101_0 := (HB.out.cell (World.block_lt_of_cell? w _ hx101_0)).trans hx101_0
   replace p101 := eq_true p101
   replace q101 := eq_true q101
   go_wp2_with (first | ((with_reducible refine gate_dst (N := 18) rfl ?_); refine Kd.R_lit (Kd.int .u32) _ 97 ?hg (N := 18) ?hd (xs := ([] : List Int)) (inner := []) (ok := fun _ => True) (okp := fun _ => True) ?hr ?hp (fun _ hk => hk) trivial (Below.refl _ _) (Nat.le_refl _) (by simp) ?_; (case hd => rfl); (case hg => rfl); (case hr => first | (go_simp; done) | (go_simp; rfl)); (case hp => exact (Reps.none _ _)); intro v103 w10 ho11 hb hg_ hnew_; clear hg_ hnew_; (first | rw [← Ny102.out] at ho11 | (simp only [Int.reduceToNat] at ho11; rw [← Ny102.out] at ho11)); have HO104 := yRl ho11 HB; replace HB := yS HB hb; clear hb ho11; obtain ⟨i012, hi012, _, hsz12, _⟩ := info_parts info97; obtain ⟨hcut12, hA12, hC12⟩ := print_take_of (P := Try.prog) (Value.int .u32) 0 29 97 .i64 Try.underlying29 hi012 hsz12 (some ad101) c0 l0 x3_1 zd zd HC0.out; have HR105 := Aside0.mk (Kd.C_of_reads (h1 := fun _ => rfl) (hA12 _ (Kd.reads_of_C HR0.out))); have HC105 := Aside0.mk hC12; clear hA12 hC12 hi012 hsz12) | ((with_reducible refine gate_builtin (b := .append) (xs := #[.tmp 18, .tmp 21]) rfl ?_); at_builtin; refine Kd.R_append_rows (Kd.int .u32) (w0 := w) w.heap.size rfl (.tmp 18) (.tmp 21) 29 97 (.int .u32 0) 4 rfl Try.underlying29 info97 rfl (by decide) (by omega) v103 y102 (l0.take (x3_1 : Int).toNat) _ _ _ (fun _ => True) (fun _ => False) rfl rfl ?aO ?aR (fun _ _ h => h) (fun _ h => h.elim) ?aF ?aB ?aS ?aL ?_; (case aR => first | (have hz_ : (l0.take (x3_1 : Int).toNat).length = x3_1.toNat := (by rw [List.length_take]; have h_ : (x3_1 : Int) ≤ (l0.length : Int) := zd; omega); refine Eq.mp (congrArg (fun n_ => Kd.C _ _ _ n_ _) hz_) ?_; repeat (first | exact (Kd.C_below HR105.out HB.out) | (with_reducible refine Kd.C_alloc ?_ _) | (with_reducible refine Kd.C_drewN ?_ _) | (with_reducible refine Kd.C_drew ?_))) | (rw [← show (l0.take (x3_1 : Int).toNat).length = x3_1.toNat from (by rw [List.length_take]; have h_ : (x3_1 : Int) ≤ (l0.length : Int) := zd; omega)]; repeat (first | exact (Kd.C_below HR105.out HB.out) | (with_reducible refine Kd.C_alloc ?_ _) | (with_reducible refine Kd.C_drewN ?_ _) | (with_reducible refine Kd.C_drew ?_))) | (repeat (first | exact (Kd.C_below HR105.out HB.out) | (with_reducible refine Kd.C_alloc ?_ _) | (with_reducible refine Kd.C_drewN ?_ _) | (with_reducible refine Kd.C_drew ?_)))); (case aB => exact (zB HB.out)); (case aF => exact (fun _ _ => trivial)); (case aO => exact (zR HO104.out)); (case aS => exact (below_size (zB HB.out))); (case aL => have := LMc9.out; have hlx_ := (show (l0.take (x3_1 : Int).toNat).length = x3_1.toNat from (by rw [List.length_take]; have h_ : (x3_1 : Int) ≤ (l0.length : Int) := zd; omega)); omega); intro v107 w13 ho hb hg hat; rw [← Ny106.out] at ho; replace HB := Aside0.mk (hb); have HO108 := Aside0.mk (ho); clear HO104; clear ho hb hg hat))
   go_ret
   exact ⟨_, by first | rfl | (simp [errW_none, errW_some] <;> rfl) | (simp only [← hji3]; first | rfl | (simp [errW_none, errW_some] <;> rfl)) | (simp [*, errW_none, errW_some] <;> rfl), zR HO108.out, zB HB.out⟩
 have c2b0 : decide (0 < x3_1) = false := decide_eq_false c2
 clear c2
 obtain ⟨y109, hy109⟩ : ∃ y_ : List Int, y_ = (([] : List Int)) := ⟨_, rfl⟩
 replace H : (if 0 ≤ x3_1 then (if x3_1 ≤ (l0.length : Int) then (if y109.length + (l0.take (x3_1 : Int).toNat).length < 35184372088832 then (some (y109 ++ (l0.take (x3_1 : Int).toNat))) else (none)) else (none)) else (none)) = some r := zY hy109 H
 have Ny109 := Aside0.mk hy109
 clear hy109
 replace H := zg H
 obtain ⟨c14, H⟩ := H
 have c14b0 := eq_true c14
 have c14b1 := decide_eq_true c14
 clear c14
 replace H := zg H
 obtain ⟨c15, H⟩ := H
 have c15b0 := eq_true c15
 have c15b1 := decide_eq_true c15
 clear c15
 replace H := zg H
 obtain ⟨c16, H⟩ := H
 have LMc16 := Aside0.mk c16
 clear c16
 obtain ⟨y113, hy113⟩ : ∃ y_ : List Int, y_ = (y109 ++ (l0.take (x3_1 : Int).toNat)) := ⟨_, rfl⟩
 replace H : (some y113) = some r := zY hy113 H
 have Ny113 := Aside0.mk hy113
 clear hy113
 obtain rfl := Option.some.inj H
 go_wp2_with (first | ((with_reducible refine gate_dst (N := 18) rfl ?_); refine Kd.R_lit (Kd.int .u32) _ 97 ?hg (N := 18) ?hd (xs := ([] : List Int)) (inner := []) (ok := fun _ => True) (okp := fun _ => True) ?hr ?hp (fun _ hk => hk) trivial (Below.refl _ _) (Nat.le_refl _) (by simp) ?_; (case hd => rfl); (case hg => rfl); (case hr => first | (go_simp; done) | (go_simp; rfl)); (case hp => exact (Reps.none _ _)); intro v110 w17 ho18 hb hg_ hnew_; clear hg_ hnew_; (first | rw [← Ny109.out] at ho18 | (simp only [Int.reduceToNat] at ho18; rw [← Ny109.out] at ho18)); have HO111 := yRl ho18 HB; replace HB := yS HB hb; clear hb ho18; obtain ⟨i019, hi019, _, hsz19, _⟩ := info_parts info97; obtain ⟨hcut19, hA19, hC19⟩ := print_take_of (P := Try.prog) (Value.int .u32) 0 29 97 .i64 Try.underlying29 hi019 hsz19 A0 c0 l0 x3_1 zd zd HC0.out; have HR112 := Aside0.mk (Kd.C_of_reads (h1 := fun _ => rfl) (hA19 _ (Kd.reads_of_C HR0.out))); have HC112 := Aside0.mk hC19; clear hA19 hC19 hi019 hsz19) | ((with_reducible refine gate_builtin (b := .append) (xs := #[.tmp 18, .tmp 21]) rfl ?_); at_builtin; refine Kd.R_append_rows (Kd.int .u32) (w0 := w) w.heap.size rfl (.tmp 18) (.tmp 21) 29 97 (.int .u32 0) 4 rfl Try.underlying29 info97 rfl (by decide) (by omega) v110 y109 (l0.take (x3_1 : Int).toNat) _ _ _ (fun _ => True) (fun _ => False) rfl rfl ?aO ?aR (fun _ _ h => h) (fun _ h => h.elim) ?aF ?aB ?aS ?aL ?_; (case aR => first | (have hz_ : (l0.take (x3_1 : Int).toNat).length = x3_1.toNat := (by rw [List.length_take]; have h_ : (x3_1 : Int) ≤ (l0.length : Int) := zd; omega); refine Eq.mp (congrArg (fun n_ => Kd.C _ _ _ n_ _) hz_) ?_; repeat (first | exact (Kd.C_below HR112.out HB.out) | (with_reducible refine Kd.C_alloc ?_ _) | (with_reducible refine Kd.C_drewN ?_ _) | (with_reducible refine Kd.C_drew ?_))) | (rw [← show (l0.take (x3_1 : Int).toNat).length = x3_1.toNat from (by rw [List.length_take]; have h_ : (x3_1 : Int) ≤ (l0.length : Int) := zd; omega)]; repeat (first | exact (Kd.C_below HR112.out HB.out) | (with_reducible refine Kd.C_alloc ?_ _) | (with_reducible refine Kd.C_drewN ?_ _) | (with_reducible refine Kd.C_drew ?_))) | (repeat (first | exact (Kd.C_below HR112.out HB.out) | (with_reducible refine Kd.C_alloc ?_ _) | (with_reducible refine Kd.C_drewN ?_ _) | (with_reducible refine Kd.C_drew ?_)))); (case aB => exact (zB HB.out)); (case aF => exact (fun _ _ => trivial)); (case aO => exact (zR HO111.out)); (case aS => exact (below_size (zB HB.out))); (case aL => have := LMc16.out; have hlx_ := (show (l0.take (x3_1 : Int).toNat).length = x3_1.toNat from (by rw [List.length_take]; have h_ : (x3_1 : Int) ≤ (l0.length : Int) := zd; omega)); omega); intro v114 w20 ho hb hg hat; rw [← Ny113.out] at ho; replace HB := Aside0.mk (hb); have HO115 := Aside0.mk (ho); clear HO111; clear ho hb hg hat))
 go_ret
 exact ⟨_, zE, zR HO115.out, zB HB.out⟩
set_option maxHeartbeats 8000000 in
set_option maxRecDepth 100000 in
theorem r1_Zero.calls (k : Nat) (A0 : Option Addr) (c0 : Nat) (l0 : List Int) (r : Bool) (w : World) (hr0 : Kd.C (Kd.int .u32) w A0 l0.length l0) (hc0 : l0.length ≤ c0) (h : r1_Zero.f k l0 = some r) :
    Calls Try.prog 27 #[.slice A0 l0.length c0] w fun e w' => e = .returned (.bool r) ∧ Below w.heap.size w w' := by
 have HR0 := Aside0.mk hr0
 have HC0 := Aside0.mk hc0
 clear hr0 hc0
 have HB := Aside0.mk (Below.refl w.heap.size w)
 have H : ((r1_Trim.f k l0).bind fun t101 => (some ((t101.length : Int) == 0))) = some r := h
 clear h
 replace H := zb H
 obtain ⟨t101, A2, H⟩ := H
 obtain rfl := Option.some.inj H
 go_enter Try.func27, Try.ntmps27
 go_wp2_with (first | ((with_reducible refine gC 75 ?_); refine zG (some 4) Try.func75 #[.slice A0 l0.length c0] ?_; (with_reducible refine (r1_Trim.calls k _ _ l0 t101 _ ?side1 ?side2 A2.out).mono ?_); (case side1 => exact zC HR0.out); (case side2 => exact HC0.out); rintro e w3 ⟨v102, rfl, ho0, hb⟩; refine ⟨_, rfl, ?_⟩; have HO103 := yRl ho0 HB; replace HB := yS HB hb; (try clear hb ho0); obtain ⟨Ao4, co4, rfl⟩ := Kd.R_slice HO103.out))
 go_ret
 exact ⟨zE, zB HB.out⟩
set_option maxHeartbeats 8000000 in
set_option maxRecDepth 100000 in
theorem r24_Shape.calls (a0 : Int) (r : Int) (w : World) (h : r24_Shape.f a0 = some r) :
    Calls Try.prog 35 #[.int .i64 a0] w fun e w' => e = .returned (.int .i64 r) ∧ Drawn0 w w' := by
 have H : (if a0 < 1 then (some 3) else (if a0 > 65 then (some 3) else (some 0))) = some r := h
 clear h
 replace H := zid H
 rcases H with ⟨c2b0, H⟩ | ⟨c2b0, H⟩
 · obtain rfl := Option.some.inj H
   go_enter Try.func35, Try.ntmps35
   go_wp2
   go_ret
   exact ⟨zF, by repeat (first | exact Drawn0.refl _ | apply Drawn0.step)⟩
 replace H := zi H
 rcases H with ⟨c3, H⟩ | ⟨c3, H⟩
 · have c3b0 : decide (65 < a0) = true := decide_eq_true c3
   clear c3
   obtain rfl := Option.some.inj H
   go_enter Try.func35, Try.ntmps35
   go_wp2
   go_ret
   exact ⟨zF, by repeat (first | exact Drawn0.refl _ | apply Drawn0.step)⟩
 have c3b0 : decide (65 < a0) = false := decide_eq_false c3
 clear c3
 obtain rfl := Option.some.inj H
 go_enter Try.func35, Try.ntmps35
 go_wp2
 go_ret
 exact ⟨zF, by repeat (first | exact Drawn0.refl _ | apply Drawn0.step)⟩
set_option maxHeartbeats 8000000 in
set_option maxRecDepth 100000 in
theorem r24_Order.calls (a0 : Int) (r : Int) (w : World) (h : r24_Order.f a0 = some r) :
    Calls Try.prog 43 #[.int .i64 a0] w fun e w' => e = .returned (.int .i64 r) ∧ Drawn0 w w' := by
 have H : (if a0 < 2 then (some 6) else (if a0 > 256 then (some 6) else (some 0))) = some r := h
 clear h
 replace H := zid H
 rcases H with ⟨c2b0, H⟩ | ⟨c2b0, H⟩
 · obtain rfl := Option.some.inj H
   go_enter Try.func43, Try.ntmps43
   go_wp2
   go_ret
   exact ⟨zF, by repeat (first | exact Drawn0.refl _ | apply Drawn0.step)⟩
 replace H := zi H
 rcases H with ⟨c3, H⟩ | ⟨c3, H⟩
 · have c3b0 : decide (256 < a0) = true := decide_eq_true c3
   clear c3
   obtain rfl := Option.some.inj H
   go_enter Try.func43, Try.ntmps43
   go_wp2
   go_ret
   exact ⟨zF, by repeat (first | exact Drawn0.refl _ | apply Drawn0.step)⟩
 have c3b0 : decide (256 < a0) = false := decide_eq_false c3
 clear c3
 obtain rfl := Option.some.inj H
 go_enter Try.func43, Try.ntmps43
 go_wp2
 go_ret
 exact ⟨zF, by repeat (first | exact Drawn0.refl _ | apply Drawn0.step)⟩
set_option maxHeartbeats 8000000 in
set_option maxRecDepth 100000 in
theorem r1_Bits.calls (k : Nat) (A0 : Option Addr) (c0 : Nat) (l0 : List Int) (r : Int) (w : World) (hr0 : Kd.C (Kd.int .u32) w A0 l0.length l0) (hc0 : l0.length ≤ c0) (h : r1_Bits.f k l0 = some r) :
    Calls Try.prog 76 #[.slice A0 l0.length c0] w fun e w' => e = .returned (.int .i64 r) ∧ Below w.heap.size w w' := by
 have HR0 := Aside0.mk hr0
 have HC0 := Aside0.mk hc0
 clear hr0 hc0
 have HB := Aside0.mk (Below.refl w.heap.size w)
 have H : ((r1_Trim.f k l0).bind fun t101 => (if (t101.length : Int) = 0 then (some 0) else (if 0 ≤ (wrap64 ((t101.length : Int) - 1)) then (if (wrap64 ((t101.length : Int) - 1)) < (t101.length : Int) then (r1_Bits.l0 k (wrap64 (32 * (wrap64 ((t101.length : Int) - 1)))) (rd t101 (wrap64 ((t101.length : Int) - 1)))) else (none)) else (none)))) = some r := h
 clear h
 replace H := zb H
 obtain ⟨t101, A2, H⟩ := H
 replace H := zi H
 rcases H with ⟨c3, H⟩ | ⟨c3, H⟩
 · have c3b0 := beq_iff_eq.mpr c3
   have c3b1 := bne_eq_false_iff_eq.mpr c3
   clear c3
   obtain rfl := Option.some.inj H
   go_enter Try.func76, Try.ntmps76
   go_wp2_with (first | ((with_reducible refine gC 75 ?_); refine zG (some 6) Try.func75 #[.slice A0 l0.length c0] ?_; (with_reducible refine (r1_Trim.calls k _ _ l0 t101 _ ?side1 ?side2 A2.out).mono ?_); (case side1 => exact zC HR0.out); (case side2 => exact HC0.out); rintro e w4 ⟨v102, rfl, ho0, hb⟩; refine ⟨_, rfl, ?_⟩; have HO103 := yRl ho0 HB; replace HB := yS HB hb; (try clear hb ho0); obtain ⟨Ao5, co5, rfl⟩ := Kd.R_slice HO103.out))
   go_ret
   exact ⟨zE, zB HB.out⟩
 have c3b0 := beq_eq_false_iff_ne.mpr c3
 have c3b1 := bne_iff_ne.mpr c3
 have c3b2 : ¬ (t101 = []) := fun h_ => c3 (by rw [h_]; rfl)
 obtain ⟨ji6, hji6⟩ : ∃ j_ : Int, (wrap64 ((t101.length : Int) - 1)) = j_ := ⟨_, rfl⟩
 replace H : (if 0 ≤ (ji6) then (if (ji6) < (t101.length : Int) then (r1_Bits.l0 k (wrap64 (32 * (ji6))) (rd t101 (ji6))) else (none)) else (none)) = some r := by first | (rw [hji6] at H; exact H) | (simp only [hji6] at H ⊢; exact H)
 (try rw [hji6] at A2)
 have hji6w : (IntKind.i64.wrap ((t101.length : Int) - 1)) = ji6 := (i64_w _).trans hji6
 replace H := zgd H
 obtain ⟨c7b0, H⟩ := H
 replace H := zgd H
 obtain ⟨c8b0, H⟩ := H
 have H' := Aside0.mk H
 clear H
 go_enter Try.func76, Try.ntmps76
 go_wp2_with (first | ((with_reducible refine gC 75 ?_); refine zG (some 6) Try.func75 #[.slice A0 l0.length c0] ?_; (with_reducible refine (r1_Trim.calls k _ _ l0 t101 _ ?side1 ?side2 A2.out).mono ?_); (case side1 => exact zC HR0.out); (case side2 => exact HC0.out); rintro e w9 ⟨v102, rfl, ho0, hb⟩; refine ⟨_, rfl, ?_⟩; have HO103 := yRl ho0 HB; replace HB := yS HB hb; (try clear hb ho0); obtain ⟨Ao10, co10, rfl⟩ := Kd.R_slice HO103.out; have p104 : 0 ≤ ((ji6) : Int) := zd; have q104 : (ji6) < (t101.length : Int) := zd; obtain ⟨ad104, e104, hx104_0⟩ := Kd.at_int (Kd.R_reads' HO103.out).2.2 (ji6) p104 q104; cases e104; replace p104 := eq_true p104; replace q104 := eq_true q104))
 go_loopg [3, 4] k (fun kq v3 v4 w' => ∃ (x3_1 : Int) (x4_1 : Int), v3 = .int .i64 x3_1 ∧ v4 = .int .u32 x4_1 ∧ Aside0 (r1_Bits.l0 kq x3_1 x4_1 = some r) ∧ Aside0 (kq ≤ k) ∧ Aside0 (Below w.heap.size w w'))
 case atStart => exact ⟨(wrap64 (32 * (ji6))), (rd t101 (ji6)), (by first | rfl | (simp; done) | (simp only [← hji6] <;> (first | rfl | simp)) | (simp [*]; done)), (by first | rfl | (simp; done) | (simp only [← hji6] <;> (first | rfl | simp)) | (simp [*]; done)), H', ⟨Nat.le_refl _⟩, ⟨zB HB.out⟩⟩
 clear H'
 (try clear c3);(try clear c3b0);(try clear c3b1);(try clear c3b2);(try clear c7b0);(try clear c8b0);(try clear hx104_0);(try clear p104);(try clear q104)
 obtain ⟨x3_1, x4_1, rfl, rfl, HA, HK1, HB⟩ := hrel
 cases gk with | zero => exact absurd HA.out (by simp [r1_Bits.l0]) | succ k1 => ?_
 have H := HA.out
 clear HA
 simp only [r1_Bits.l0] at H
 replace H := zi H
 rcases H with ⟨c11, H⟩ | ⟨c11, H⟩
 · have c11b0 : decide (0 < x4_1) = true := decide_eq_true c11
   clear c11
   have H' := Aside0.mk H
   clear H
   go_wp2
   go_roundg k1
   case measure => have := HK1.out; omega
   case rel => exact ⟨(wrap64 (x3_1 + 1)), ((Int.tdiv x4_1 2) % 4294967296), zF, zF, H', ⟨zo1 HK1⟩, ⟨zB HB.out⟩⟩
 have c11b0 : decide (0 < x4_1) = false := decide_eq_false c11
 clear c11
 obtain rfl := Option.some.inj H
 go_wp2
 go_ret
 exact ⟨by first | rfl | (simp [errW_none, errW_some] <;> rfl) | (simp only [← hji6]; first | rfl | (simp [errW_none, errW_some] <;> rfl)) | (simp [*, errW_none, errW_some] <;> rfl), zB HB.out⟩
set_option maxHeartbeats 8000000 in
set_option maxRecDepth 100000 in
theorem r1_limb.calls (A0 : Option Addr) (c0 : Nat) (l0 : List Int) (a1 : Int) (r : Int) (w : World) (hr0 : Kd.C (Kd.int .u32) w A0 l0.length l0) (hc0 : l0.length ≤ c0) (h : r1_limb.f l0 a1 = some r) :
    Calls Try.prog 119 #[.slice A0 l0.length c0, .int .i64 a1] w fun e w' => e = .returned (.int .u64 r) ∧ Drawn0 w w' := by
 have HR0 := Aside0.mk hr0
 have HC0 := Aside0.mk hc0
 clear hr0 hc0
 have H : (if a1 < (l0.length : Int) then (if 0 ≤ a1 then (some (IntKind.u64.wrap (rd l0 a1))) else (none)) else (some 0)) = some r := h
 clear h
 replace H := zid H
 rcases H with ⟨c3b0, H⟩ | ⟨c3b0, H⟩
 · replace H := zgd H
   obtain ⟨c4b0, H⟩ := H
   obtain rfl := Option.some.inj H
   have p101 : 0 ≤ (a1 : Int) := zd
   have q101 : a1 < (l0.length : Int) := zd
   obtain ⟨ad101, e101, hx101_0⟩ := Kd.at_int HR0.out a1 p101 q101
   cases e101
   replace p101 := eq_true p101
   replace q101 := eq_true q101
   go_enter Try.func119, Try.ntmps119
   go_wp2
   go_ret
   exact ⟨zF, by repeat (first | exact Drawn0.refl _ | apply Drawn0.step)⟩
 obtain rfl := Option.some.inj H
 go_enter Try.func119, Try.ntmps119
 go_wp2
 go_ret
 exact ⟨zF, by repeat (first | exact Drawn0.refl _ | apply Drawn0.step)⟩
end Go.Proofs.Ytifkbghnmhineaa.PAll
