/- What functions of the program do and come to, for the statement MacwilliamsGenerating, part 3. Conditions: as each theorem says. -/
import Derived.Test.YtifkbghnmhineaaQGenerating2

namespace Go.Proofs.Ytifkbghnmhineaa.PAll
open Go.RowKit Go.Proofs.YtifkbghnmhineaaW.PrintWords Go.Proofs.YtifkbghnmhineaaW.PrintLast Go.Proofs.YtifkbghnmhineaaW.PrintMore
attribute [local go_sem] max2_int min2_int max_two min_two max_three min_three max_four min_four
set_option linter.unusedVariables false
set_option linter.unusedSimpArgs false
set_option maxHeartbeats 8000000 in
set_option maxRecDepth 100000 in
theorem rational_canonical.calls (k : Nat) (a0 : Bool) (P1_ : Nat → Prop) (A1 : Option Addr) (c1 : Nat) (l1 : List Int) (P2_ : Nat → Prop) (A2 : Option Addr) (c2 : Nat) (l2 : List Int) (r1 : Bool) (r2 : List Int) (r3 : List Int) (w : World) (hs1 : Kd.V (Kd.int .u32) 97 w w.heap.size (fun k_ => P1_ k_) (.slice A1 l1.length c1) l1) (hs2 : Kd.V (Kd.int .u32) 97 w w.heap.size (fun k_ => P2_ k_) (.slice A2 l2.length c2) l2) (h : rational_canonical.f k a0 l1 l2 = some (r1, r2, r3)) :
    Calls Try.prog 131 #[.bool a0, .slice A1 l1.length c1, .slice A2 l2.length c2] w fun e w' => ∃ v1_ v2_ : Value, e = .returned (.agg #[.bool r1, v1_, v2_]) ∧ Kd.V (Kd.int .u32) 97 w' w.heap.size (fun k_ => ((P1_ k_ ∨ P2_ k_) ∨ w.heap.size ≤ k_)) v1_ r2 ∧ Kd.V (Kd.int .u32) 97 w' w.heap.size (fun k_ => ((P1_ k_ ∨ P2_ k_) ∨ w.heap.size ≤ k_)) v2_ r3 ∧ Below w.heap.size w w' := by
 have hu60 := Try.underlying60
 have HO1 := Aside0.mk (show Kd.V (Kd.int .u32) 97 w w.heap.size (fun k_ => ((P1_ k_ ∨ P2_ k_) ∨ w.heap.size ≤ k_)) (.slice A1 l1.length c1) l1 from Kd.V_mono hs1 (fun k_ hk => .inl (.inl hk)))
 have HO2 := Aside0.mk (show Kd.V (Kd.int .u32) 97 w w.heap.size (fun k_ => ((P1_ k_ ∨ P2_ k_) ∨ w.heap.size ≤ k_)) (.slice A2 l2.length c2) l2 from Kd.V_mono hs2 (fun k_ hk => .inl (.inr hk)))
 have HB := Aside0.mk (Below.refl w.heap.size w)
 have H : ((nat_Bits.f k l1).bind fun t102 => (if t102 = 0 then (rational_canonical.j0 k a0 l1 l2 true) else ((nat_Bits.f k l2).bind fun t103 => (rational_canonical.j0 k a0 l1 l2 (t103 == 0))))) = some (r1, r2, r3) := h
 clear h
 have HC4 := Aside0.mk H
 clear H
 go_enter Try.func131, Try.ntmps131
 go_upto_region 1 with (first | ((with_reducible refine gate_dst (N := 6) rfl ?_); refine box_event ?hg (N := 6) ?hd (cs := #[.bool false, .slice none 0 0, .slice none 0 0]) (t := 60) ?hr ?_; (case hd => rfl); (case hg => rfl); (case hr => first | (go_simp; done) | (go_simp; rfl)); intro gb101 hg w5 hbox hb; replace HO1 := yVB HO1 hg hb; replace HO2 := yVB HO2 hg hb; have BK101 := Aside0.mk (hbox); have GW101 := yg hg HB; have GE101 := yg hg HB; replace HB := yS HB hb; clear hb hbox hg))
 (try simp only [Act.put, List.setIfInBounds_toArray, List.set_cons_zero, List.set_cons_succ])
 go_cut [15] (fun v15 wc => ∃ (kq : Nat) (x15_3 : Bool), v15 = .bool x15_3 ∧ Aside0 (rational_canonical.j0 kq a0 l1 l2 x15_3 = some (r1, r2, r3)) ∧ Aside0 (kq ≤ k) ∧ Aside0 (Kd.V (Kd.int .u32) 97 wc w.heap.size (fun k_ => ((P1_ k_ ∨ P2_ k_) ∨ w.heap.size ≤ k_) ∧ k_ ≠ gb101) (.slice A1 l1.length c1) l1) ∧ Aside0 (Kd.V (Kd.int .u32) 97 wc w.heap.size (fun k_ => ((P1_ k_ ∨ P2_ k_) ∨ w.heap.size ≤ k_) ∧ k_ ≠ gb101) (.slice A2 l2.length c2) l2) ∧ Aside0 (wc.heap[gb101]? = some (.cells #[.bool false, (.slice none 0 0), (.slice none 0 0)] 60 (0, 0))) ∧ Aside0 (Below w.heap.size w wc))
 case first =>
  have H := HC4.out
  clear HC4
  replace H := zb H
  obtain ⟨t102, A6, H⟩ := H
  replace H := zi H
  rcases H with ⟨c7, H⟩ | ⟨c7, H⟩
  · have c7b0 := beq_iff_eq.mpr c7
    have c7b1 := bne_eq_false_iff_eq.mpr c7
    clear c7
    (first | rw [c7b0] | (simp only [i64_w, i32_w]; rw [c7b0]) | rw [c7b1] | skip)
    have H' := Aside0.mk H
    clear H
    go_wp2_with (first | ((with_reducible refine gate_callee (f := 87) rfl ?_); refine zG (some 9) Try.func87 #[.slice A1 l1.length c1] ?_; (with_reducible refine (nat_Bits.calls k _ _ l1 t102 _ ?side1 ?side2 A6.out).mono ?_); (case side1 => exact zC (Kd.V_reads' HO1.out).2.2); (case side2 => exact (Kd.V_reads' HO1.out).2.1); rintro e w8 ⟨rfl, hb⟩; refine ⟨_, rfl, ?_⟩; replace HO1 := yVb HO1 hb; replace HO2 := yVb HO2 hb; replace BK101 := yK BK101 hb; replace HB := yS1 HB GE101 hb; (try clear hb); (try clear hb2); (try clear hk); (try clear hi)))
    go_meet
    case rel => exact ⟨_, (true), zF, H', ⟨zO⟩, ⟨zV HO1.out⟩, ⟨zV HO2.out⟩, ⟨by (with_reducible repeat (first | refine blk_drewN ?_ _ | refine blk_drew ?_ | refine blk_alloc ?_ _)); exact BK101.out⟩, ⟨zB1 HB.out GE101.out⟩⟩
  have c7b0 := beq_eq_false_iff_ne.mpr c7
  have c7b1 := bne_iff_ne.mpr c7
  (first | rw [c7b0] | (simp only [i64_w, i32_w]; rw [c7b0]) | rw [c7b1] | skip)
  replace H := zb H
  obtain ⟨t103, A9, H⟩ := H
  have H' := Aside0.mk H
  clear H
  go_wp2_with (first | ((with_reducible refine gate_callee (f := 87) rfl ?_); refine zG (some 9) Try.func87 #[.slice A1 l1.length c1] ?_; (with_reducible refine (nat_Bits.calls k _ _ l1 t102 _ ?side1 ?side2 A6.out).mono ?_); (case side1 => exact zC (Kd.V_reads' HO1.out).2.2); (case side2 => exact (Kd.V_reads' HO1.out).2.1); rintro e w10 ⟨rfl, hb⟩; refine ⟨_, rfl, ?_⟩; replace HO1 := yVb HO1 hb; replace HO2 := yVb HO2 hb; replace BK101 := yK BK101 hb; replace HB := yS1 HB GE101 hb; (try clear hb); (try clear hb2); (try clear hk); (try clear hi)) | (go_at_call 87; (with_reducible refine (nat_Bits.calls k _ _ l2 t103 _ ?side1 ?side2 A9.out).mono ?_); (case side1 => exact zC (Kd.V_reads' HO2.out).2.2); (case side2 => exact (Kd.V_reads' HO2.out).2.1); rintro e w11 ⟨rfl, hb⟩; replace HO1 := yVb HO1 hb; replace HO2 := yVb HO2 hb; replace BK101 := yK BK101 hb; replace HB := yS1 HB GE101 hb; (try clear hb); (try clear hb2); (try clear hk); (try clear hi)))
  go_meet
  case rel => exact ⟨_, ((t103 == 0)), zF, H', ⟨zO⟩, ⟨zV HO1.out⟩, ⟨zV HO2.out⟩, ⟨by (with_reducible repeat (first | refine blk_drewN ?_ _ | refine blk_drew ?_ | refine blk_alloc ?_ _)); exact BK101.out⟩, ⟨zB1 HB.out GE101.out⟩⟩
 clear HC4
 (try clear c1);(try clear c2);(try clear p2);(try clear c7);(try clear c7b0);(try clear c7b1);(try clear c8)
 obtain ⟨kq, x15_3, rfl, HA, HJ3, HO_1, HO_2, BK101, HB⟩ := hcut
 cases kq with | zero => exact absurd HA.out (by simp [rational_canonical.j0]) | succ kj3 => ?_
 have H := HA.out
 clear HA
 simp only [rational_canonical.j0] at H
 by_cases c12 : x15_3 = true
 · subst c12
   rw [if_pos rfl] at H
   replace H := zb H
   obtain ⟨t104, A13, H⟩ := H
   simp only [Option.some.injEq, Prod.mk.injEq] at H
   obtain ⟨rfl, rfl, rfl⟩ := H
   go_wp2_with (first | ((with_reducible refine gate_callee (f := 141) rfl ?_); refine zG (some 16) Try.func141 #[] ?_; (with_reducible refine (rational_one.calls  t104 _ A13.out).mono ?_); rintro e w14 ⟨v105, rfl, ho0, hb⟩; refine ⟨_, rfl, ?_⟩; replace HO_1 := yVe HO_1 ho0 hb; replace HO_2 := yVe HO_2 ho0 hb; replace ho0 := Kd.R_newM (M := fun k_ => (w.heap.size ≤ k_)) ho0 (below_size (zB1 HB.out GE101.out)) (fun k_ h_ => h_); have HO106 := yRl1 ho0 HB GE101; replace BK101 := yK BK101 hb; replace HB := yS1 HB GE101 hb; (try clear hb ho0); obtain ⟨Ao15, co15, rfl⟩ := Kd.R_slice HO106.out; have hcz16_0 : w14.cell? ⟨gb101, 0, none⟩ = some (.bool false) := (blk_cell BK101.out 0).trans rfl; have hcz16_1 : w14.cell? ⟨gb101, 1, none⟩ = some (.slice none 0 0) := (blk_cell BK101.out 1).trans rfl; have hcz16_2 : w14.cell? ⟨gb101, 2, none⟩ = some (.slice none 0 0) := (blk_cell BK101.out 2).trans rfl; have hfz16_0 := blk_frozen BK101.out 0; have hfz16_1 := blk_frozen BK101.out 1; have hfz16_2 := blk_frozen BK101.out 2))
   refine bodyPost_ret (results_cell_row rfl _ _ gb101 60 #[.bool false, .slice none 0 0, .slice Ao15 t104.length co15] (0, 0) _ rfl (by (with_reducible repeat (first | refine blk_drewN ?_ _ | refine blk_drew ?_ | refine blk_alloc ?_ _)); refine blk_put (cs := #[.bool false, .slice none 0 0, .slice none 0 0]) ?_ 2 _ rfl; (with_reducible repeat (first | refine blk_drewN ?_ _ | refine blk_drew ?_ | refine blk_alloc ?_ _)); refine blk_put (cs := #[.bool false, .slice none 0 0, .slice none 0 0]) ?_ 1 _ rfl; (with_reducible repeat (first | refine blk_drewN ?_ _ | refine blk_drew ?_ | refine blk_alloc ?_ _)); refine blk_put (cs := #[.bool false, .slice none 0 0, .slice none 0 0]) ?_ 0 _ rfl; (with_reducible repeat (first | refine blk_drewN ?_ _ | refine blk_drew ?_ | refine blk_alloc ?_ _)); exact BK101.out) Try.underlying60 rfl (by kernel_rfl)) rfl ?_
   exact ⟨_, _, zE, by exact Kd.V_nil _ _ _ _ _, Kd.V_mono (Kd.R_V (by (with_reducible repeat (first | apply Kd.R_alloc | apply Kd.R_drewN | apply Kd.R_drew)); exact yf HO106.out BK101.out (fun _ hk => hk.1.1))) (fun k_ hk => by first | exact ⟨(.inr (hk.1)), hk.2⟩ | exact (.inr (hk))), zB1 HB.out GE101.out⟩
 replace c12 := Bool.eq_false_iff.mpr c12
 subst c12
 rw [if_neg Bool.false_ne_true] at H
 replace H := zb H
 obtain ⟨t107, A17, H⟩ := H
 replace H := zb H
 obtain ⟨⟨t110, t113, t116⟩, A18, H⟩ := H
 dsimp only at H
 replace H := zb H
 obtain ⟨⟨t117, t120, t123⟩, A19, H⟩ := H
 dsimp only at H
 simp only [Option.some.injEq, Prod.mk.injEq] at H
 obtain ⟨rfl, rfl, rfl⟩ := H
 go_wp2_with (first | ((with_reducible refine gate_callee (f := 108) rfl ?_); refine zG (some 20) Try.func108 #[.slice A1 l1.length c1, .slice A2 l2.length c2] ?_; (with_reducible refine (nat_Gcd.calls kj3 _ _ l1 _ _ l2 t107 _ ?side1 ?side2 ?side3 ?side4 A17.out).mono ?_); (case side1 => exact zC (Kd.V_reads' HO_1.out).2.2); (case side2 => exact (Kd.V_reads' HO_1.out).2.1); (case side3 => exact zC (Kd.V_reads' HO_2.out).2.2); (case side4 => exact (Kd.V_reads' HO_2.out).2.1); rintro e w20 ⟨v108, rfl, ho0, hb⟩; refine ⟨_, rfl, ?_⟩; replace HO_1 := yVe HO_1 ho0 hb; replace HO_2 := yVe HO_2 ho0 hb; replace ho0 := Kd.R_newM (M := fun k_ => (w.heap.size ≤ k_)) ho0 (below_size (zB1 HB.out GE101.out)) (fun k_ h_ => h_); have HO109 := yRl1 ho0 HB GE101; replace BK101 := yK BK101 hb; replace HB := yS1 HB GE101 hb; (try clear hb ho0); obtain ⟨Ao21, co21, rfl⟩ := Kd.R_slice HO109.out) | ((with_reducible refine gate_callee (f := 105) rfl ?_); refine zG (some 24) Try.func105 #[.slice A1 l1.length c1, .slice Ao21 t107.length co21] ?_; (with_reducible refine (nat_DivMod.calls kj3 (fun k_ => ((((P1_ k_ ∨ P2_ k_) ∨ w.heap.size ≤ k_) ∧ k_ ≠ gb101) ∧ some k_ ≠ (.slice Ao21 t107.length co21 : Value).ownBlock)) _ _ l1 (fun k_ => some k_ = (.slice Ao21 t107.length co21 : Value).ownBlock) _ _ t107 t110 t113 t116 _ ?side1 ?side2 A18.out).mono ?_); (case side1 => exact HO_1.out); (case side2 => exact Kd.R_V (Kd.R_tight rfl (Kd.R_types (HO109.out) BK101.out (by decide)))); rintro e w22 ⟨v111, v114, rfl, ho0, ho1, hb⟩; refine ⟨_, rfl, ?_⟩; replace HO_1 := yVe HO_1 ho1 hb; replace HO_2 := yVe HO_2 ho1 hb; have HO112 := Aside0.mk (Kd.V_lower (Kd.V_mono (ok' := fun k_ => ((P1_ k_ ∨ P2_ k_) ∨ w.heap.size ≤ k_) ∧ some k_ ≠ (v114 : Value).ownBlock ∧ k_ ≠ gb101) ho0 (fun k_ hk_ => ⟨Or.elim hk_.1 (fun hs_ => Or.elim hs_ (fun hs_ => hs_.1.1) (fun hs_ => (.inr (((Kd.R_types (HO109.out) BK101.out (by decide)).1 k_ hs_.symm).1.1)))) (fun hn_ => (.inr (Nat.le_trans (below_size (zB1 HB.out GE101.out)) hn_))), hk_.2, Or.elim hk_.1 (fun hs_ => Or.elim hs_ (fun hs_ => hs_.1.2) (fun hs_ => ((Kd.R_types (HO109.out) BK101.out (by decide)).1 k_ hs_.symm).2)) (fun hn_ => (Kd.freshB (g := gb101) (o := .cells #[.bool false, .slice none 0 0, .slice none 0 0] 60 (0, 0)) (by (with_reducible repeat (first | refine blk_drewN ?_ _ | refine blk_drew ?_ | refine blk_alloc ?_ _)); exact BK101.out) k_ hn_))⟩)) (below_size (zB1 HB.out GE101.out))); replace ho1 := Kd.R_newM (M := fun k_ => (w.heap.size ≤ k_)) (yt ho1) (below_size (zB1 HB.out GE101.out)) (fun k_ h_ => h_); replace ho1 := yn ho1 HO109; have HO115 := yRl1 ho1 HB GE101; replace HO109 := yRe HO109 ho1 hb; replace BK101 := yK BK101 hb; replace HB := yS1 HB GE101 hb; (try clear hb ho0); (try clear ho1)) | ((with_reducible refine gate_callee (f := 105) rfl ?_); refine zG (some 31) Try.func105 #[.slice A2 l2.length c2, .slice Ao21 t107.length co21] ?_; (with_reducible refine (nat_DivMod.calls kj3 (fun k_ => (((((P1_ k_ ∨ P2_ k_) ∨ w.heap.size ≤ k_) ∧ k_ ≠ gb101) ∧ some k_ ≠ (.slice Ao21 t107.length co21 : Value).ownBlock) ∧ some k_ ≠ (v114 : Value).ownBlock)) _ _ l2 (fun k_ => some k_ = (.slice Ao21 t107.length co21 : Value).ownBlock) _ _ t107 t117 t120 t123 _ ?side1 ?side2 A19.out).mono ?_); (case side1 => exact HO_2.out); (case side2 => exact Kd.R_V (Kd.R_tight rfl (Kd.R_types (HO109.out) BK101.out (by decide)))); rintro e w23 ⟨v118, v121, rfl, ho0, ho1, hb⟩; refine ⟨_, rfl, ?_⟩; replace HO_1 := yVe HO_1 ho1 hb; replace HO_2 := yVe HO_2 ho1 hb; replace HO112 := yVe HO112 ho1 hb; have HO119 := Aside0.mk (Kd.V_lower (Kd.V_mono (ok' := fun k_ => ((P1_ k_ ∨ P2_ k_) ∨ w.heap.size ≤ k_) ∧ some k_ ≠ (v121 : Value).ownBlock ∧ some k_ ≠ (v114 : Value).ownBlock ∧ k_ ≠ gb101) ho0 (fun k_ hk_ => ⟨Or.elim hk_.1 (fun hs_ => Or.elim hs_ (fun hs_ => hs_.1.1.1) (fun hs_ => (.inr (((Kd.R_types (HO109.out) BK101.out (by decide)).1 k_ hs_.symm).1.1.1)))) (fun hn_ => (.inr (Nat.le_trans (below_size (zB1 HB.out GE101.out)) hn_))), hk_.2, Or.elim hk_.1 (fun hs_ => Or.elim hs_ (fun hs_ => hs_.2) (fun hs_ => ((Kd.R_types (HO109.out) BK101.out (by decide)).1 k_ hs_.symm).1.2)) (fun hn_ => (Kd.fresh' (Kd.R_lt (zR HO115.out)) k_ hn_)), Or.elim hk_.1 (fun hs_ => Or.elim hs_ (fun hs_ => hs_.1.1.2) (fun hs_ => ((Kd.R_types (HO109.out) BK101.out (by decide)).1 k_ hs_.symm).2)) (fun hn_ => (Kd.freshB (g := gb101) (o := .cells #[.bool false, .slice none 0 0, .slice none 0 0] 60 (0, 0)) (by (with_reducible repeat (first | refine blk_drewN ?_ _ | refine blk_drew ?_ | refine blk_alloc ?_ _)); exact BK101.out) k_ hn_))⟩)) (below_size (zB1 HB.out GE101.out))); replace ho1 := Kd.R_newM (M := fun k_ => (w.heap.size ≤ k_)) (yt ho1) (below_size (zB1 HB.out GE101.out)) (fun k_ h_ => h_); replace ho1 := yn ho1 HO109; replace ho1 := yn ho1 HO115; have HO122 := yRl1 ho1 HB GE101; replace HO109 := yRe HO109 ho1 hb; replace HO115 := yRe HO115 ho1 hb; replace BK101 := yK BK101 hb; replace HB := yS1 HB GE101 hb; (try clear hb ho0); (try clear ho1); obtain ⟨Ao24, co24, rfl⟩ := Kd.V_slice HO119.out; obtain ⟨Ao25, co25, rfl⟩ := Kd.V_slice HO112.out; have hcz26_0 : w23.cell? ⟨gb101, 0, none⟩ = some (.bool false) := (blk_cell BK101.out 0).trans rfl; have hcz26_1 : w23.cell? ⟨gb101, 1, none⟩ = some (.slice none 0 0) := (blk_cell BK101.out 1).trans rfl; have hcz26_2 : w23.cell? ⟨gb101, 2, none⟩ = some (.slice none 0 0) := (blk_cell BK101.out 2).trans rfl; have hfz26_0 := blk_frozen BK101.out 0; have hfz26_1 := blk_frozen BK101.out 1; have hfz26_2 := blk_frozen BK101.out 2))
 refine bodyPost_ret (results_cell_row rfl _ _ gb101 60 #[.bool a0, .slice Ao25 t110.length co25, .slice Ao24 t117.length co24] (0, 0) _ rfl (by (with_reducible repeat (first | refine blk_drewN ?_ _ | refine blk_drew ?_ | refine blk_alloc ?_ _)); refine blk_put (cs := #[.bool a0, .slice Ao25 t110.length co25, .slice none 0 0]) ?_ 2 _ rfl; (with_reducible repeat (first | refine blk_drewN ?_ _ | refine blk_drew ?_ | refine blk_alloc ?_ _)); refine blk_put (cs := #[.bool a0, .slice none 0 0, .slice none 0 0]) ?_ 1 _ rfl; (with_reducible repeat (first | refine blk_drewN ?_ _ | refine blk_drew ?_ | refine blk_alloc ?_ _)); refine blk_put (cs := #[.bool false, .slice none 0 0, .slice none 0 0]) ?_ 0 _ rfl; (with_reducible repeat (first | refine blk_drewN ?_ _ | refine blk_drew ?_ | refine blk_alloc ?_ _)); exact BK101.out) Try.underlying60 rfl (by kernel_rfl)) rfl ?_
 exact ⟨_, _, zE, by (with_reducible repeat (first | apply Kd.V_alloc | apply Kd.V_drewN | apply Kd.V_drew)); exact Kd.V_mono (Kd.V_far (p := ⟨gb101, 2, none⟩) (Kd.V_far (p := ⟨gb101, 1, none⟩) (Kd.V_far (p := ⟨gb101, 0, none⟩) (Kd.V_mono HO112.out (fun k_ hk => (⟨hk, hk.1.2.2⟩ : _ ∧ k_ ≠ gb101))) (fun _ hk => hk.2) (.bool a0)) (fun _ hk => hk.2) (.slice Ao25 t110.length co25)) (fun _ hk => hk.2) (.slice Ao24 t117.length co24)) (fun _ hk => hk.1.1.1), by (with_reducible repeat (first | apply Kd.V_alloc | apply Kd.V_drewN | apply Kd.V_drew)); exact Kd.V_mono (Kd.V_far (p := ⟨gb101, 2, none⟩) (Kd.V_far (p := ⟨gb101, 1, none⟩) (Kd.V_far (p := ⟨gb101, 0, none⟩) (Kd.V_mono HO119.out (fun k_ hk => (⟨hk, hk.2.2.2⟩ : _ ∧ k_ ≠ gb101))) (fun _ hk => hk.2) (.bool a0)) (fun _ hk => hk.2) (.slice Ao25 t110.length co25)) (fun _ hk => hk.2) (.slice Ao24 t117.length co24)) (fun _ hk => hk.1.1), zB1 HB.out GE101.out⟩
set_option maxHeartbeats 8000000 in
set_option maxRecDepth 100000 in
theorem rational_Trim.calls (k : Nat) (a0_0 : Bool) (P0_1_ : Nat → Prop) (A0_1 : Option Addr) (c0_1 : Nat) (l0_1 : List Int) (P0_2_ : Nat → Prop) (A0_2 : Option Addr) (c0_2 : Nat) (l0_2 : List Int) (r1 : Bool) (r2 : List Int) (r3 : List Int) (w : World) (hs0_1 : Kd.V (Kd.int .u32) 97 w w.heap.size (fun k_ => P0_1_ k_) (.slice A0_1 l0_1.length c0_1) l0_1) (hs0_2 : Kd.V (Kd.int .u32) 97 w w.heap.size (fun k_ => P0_2_ k_) (.slice A0_2 l0_2.length c0_2) l0_2) (h : rational_Trim.f k a0_0 l0_1 l0_2 = some (r1, r2, r3)) :
    Calls Try.prog 107 #[.agg #[.bool a0_0, .slice A0_1 l0_1.length c0_1, .slice A0_2 l0_2.length c0_2]] w fun e w' => ∃ v1_ v2_ : Value, e = .returned (.agg #[.bool r1, v1_, v2_]) ∧ Kd.V (Kd.int .u32) 97 w' w.heap.size (fun k_ => ((P0_1_ k_ ∨ P0_2_ k_) ∨ w.heap.size ≤ k_)) v1_ r2 ∧ Kd.V (Kd.int .u32) 97 w' w.heap.size (fun k_ => ((P0_1_ k_ ∨ P0_2_ k_) ∨ w.heap.size ≤ k_)) v2_ r3 ∧ Below w.heap.size w w' := by
 have hu60 := Try.underlying60
 have HO0_1 := Aside0.mk (show Kd.V (Kd.int .u32) 97 w w.heap.size (fun k_ => ((P0_1_ k_ ∨ P0_2_ k_) ∨ w.heap.size ≤ k_)) (.slice A0_1 l0_1.length c0_1) l0_1 from Kd.V_mono hs0_1 (fun k_ hk => .inl (.inl hk)))
 have HO0_2 := Aside0.mk (show Kd.V (Kd.int .u32) 97 w w.heap.size (fun k_ => ((P0_1_ k_ ∨ P0_2_ k_) ∨ w.heap.size ≤ k_)) (.slice A0_2 l0_2.length c0_2) l0_2 from Kd.V_mono hs0_2 (fun k_ hk => .inl (.inr hk)))
 have HB := Aside0.mk (Below.refl w.heap.size w)
 have H : ((rational_canonical.f k a0_0 l0_1 l0_2).bind fun bt103 => (some (bt103.1, bt103.2.1, bt103.2.2))) = some (r1, r2, r3) := h
 clear h
 replace H := zb H
 obtain ⟨⟨t103, t104, t107⟩, A2, H⟩ := H
 dsimp only at H
 simp only [Option.some.injEq, Prod.mk.injEq] at H
 obtain ⟨rfl, rfl, rfl⟩ := H
 go_enter Try.func107, Try.ntmps107
 go_wp2_with (first | ((with_reducible refine gate_dst (N := 1) rfl ?_); refine box_event ?hg (N := 1) ?hd (cs := #[.bool a0_0, .slice A0_1 l0_1.length c0_1, .slice A0_2 l0_2.length c0_2]) (t := 60) ?hr ?_; (case hd => rfl); (case hg => rfl); (case hr => first | (go_simp; done) | (go_simp; rfl)); intro gb101 hg w3 hbox hb; replace HO0_1 := yVB HO0_1 hg hb; replace HO0_2 := yVB HO0_2 hg hb; have BK101 := Aside0.mk (hbox); have GW101 := yg hg HB; have GE101 := yg hg HB; replace HB := yS HB hb; clear hb hbox hg) | ((with_reducible refine gate_dst (N := 2) rfl ?_); refine box_event ?hg (N := 2) ?hd (cs := #[.bool false, .slice none 0 0, .slice none 0 0]) (t := 60) ?hr ?_; (case hd => rfl); (case hg => rfl); (case hr => first | (go_simp; done) | (go_simp; rfl)); intro gb102 hg w4 hbox hb; replace HO0_1 := yVB HO0_1 hg hb; replace HO0_2 := yVB HO0_2 hg hb; have BK102 := Aside0.mk (hbox); have GW102 := yg1 hg HB GE101; have GE102 := yg1 hg HB GE101; replace HB := yS1 HB GE101 hb; have NB101_102 := ynl hg BK101; have NB102_101 := yng hg BK101; replace BK101 := yK BK101 hb; clear hb hbox hg; have hnb5 := NB101_102.out; have hnc5 := NB102_101.out; have hcz6_0 : w4.cell? ⟨gb101, 0, none⟩ = some (.bool a0_0) := (blk_cell BK101.out 0).trans rfl; have hcz6_1 : w4.cell? ⟨gb101, 1, none⟩ = some (.slice A0_1 l0_1.length c0_1) := (blk_cell BK101.out 1).trans rfl; have hcz6_2 : w4.cell? ⟨gb101, 2, none⟩ = some (.slice A0_2 l0_2.length c0_2) := (blk_cell BK101.out 2).trans rfl; have hfz6_0 := blk_frozen BK101.out 0; have hfz6_1 := blk_frozen BK101.out 1; have hfz6_2 := blk_frozen BK101.out 2) | ((with_reducible refine gate_callee (f := 131) rfl ?_); refine zG (some 9) Try.func131 #[.bool a0_0, .slice A0_1 l0_1.length c0_1, .slice A0_2 l0_2.length c0_2] ?_; (with_reducible refine (rational_canonical.calls k a0_0 (fun k_ => ((((P0_1_ k_ ∨ P0_2_ k_) ∨ w.heap.size ≤ k_) ∧ k_ ≠ gb101) ∧ k_ ≠ gb102)) _ _ l0_1 (fun k_ => ((((P0_1_ k_ ∨ P0_2_ k_) ∨ w.heap.size ≤ k_) ∧ k_ ≠ gb101) ∧ k_ ≠ gb102)) _ _ l0_2 t103 t104 t107 _ ?side1 ?side2 A2.out).mono ?_); (case side1 => exact HO0_1.out); (case side2 => exact HO0_2.out); rintro e w7 ⟨v105, v108, rfl, ho0, ho1, hb⟩; refine ⟨_, rfl, ?_⟩; replace HO0_1 := yVb HO0_1 hb; replace HO0_2 := yVb HO0_2 hb; have HO106 := Aside0.mk (Kd.V_lower (Kd.V_mono (ok' := fun k_ => ((P0_1_ k_ ∨ P0_2_ k_) ∨ w.heap.size ≤ k_) ∧ k_ ≠ gb101 ∧ k_ ≠ gb102) ho0 (fun k_ hk_ => ⟨Or.elim hk_ (fun hs_ => Or.elim hs_ (fun hs_ => hs_.1.1) (fun hs_ => hs_.1.1)) (fun hn_ => (.inr (Nat.le_trans (below_size (zB2 HB.out GE101.out GE102.out)) hn_))), Or.elim hk_ (fun hs_ => Or.elim hs_ (fun hs_ => hs_.1.2) (fun hs_ => hs_.1.2)) (fun hn_ => (Kd.freshB (g := gb101) (o := .cells #[.bool a0_0, .slice A0_1 l0_1.length c0_1, .slice A0_2 l0_2.length c0_2] 60 (0, 0)) (by (with_reducible repeat (first | refine blk_drewN ?_ _ | refine blk_drew ?_ | refine blk_alloc ?_ _)); exact BK101.out) k_ hn_)), Or.elim hk_ (fun hs_ => Or.elim hs_ (fun hs_ => hs_.2) (fun hs_ => hs_.2)) (fun hn_ => (Kd.freshB (g := gb102) (o := .cells #[.bool false, .slice none 0 0, .slice none 0 0] 60 (0, 0)) (by (with_reducible repeat (first | refine blk_drewN ?_ _ | refine blk_drew ?_ | refine blk_alloc ?_ _)); exact BK102.out) k_ hn_))⟩)) (below_size (zB2 HB.out GE101.out GE102.out))); have HO109 := Aside0.mk (Kd.V_lower (Kd.V_mono (ok' := fun k_ => ((P0_1_ k_ ∨ P0_2_ k_) ∨ w.heap.size ≤ k_) ∧ k_ ≠ gb101 ∧ k_ ≠ gb102) ho1 (fun k_ hk_ => ⟨Or.elim hk_ (fun hs_ => Or.elim hs_ (fun hs_ => hs_.1.1) (fun hs_ => hs_.1.1)) (fun hn_ => (.inr (Nat.le_trans (below_size (zB2 HB.out GE101.out GE102.out)) hn_))), Or.elim hk_ (fun hs_ => Or.elim hs_ (fun hs_ => hs_.1.2) (fun hs_ => hs_.1.2)) (fun hn_ => (Kd.freshB (g := gb101) (o := .cells #[.bool a0_0, .slice A0_1 l0_1.length c0_1, .slice A0_2 l0_2.length c0_2] 60 (0, 0)) (by (with_reducible repeat (first | refine blk_drewN ?_ _ | refine blk_drew ?_ | refine blk_alloc ?_ _)); exact BK101.out) k_ hn_)), Or.elim hk_ (fun hs_ => Or.elim hs_ (fun hs_ => hs_.2) (fun hs_ => hs_.2)) (fun hn_ => (Kd.freshB (g := gb102) (o := .cells #[.bool false, .slice none 0 0, .slice none 0 0] 60 (0, 0)) (by (with_reducible repeat (first | refine blk_drewN ?_ _ | refine blk_drew ?_ | refine blk_alloc ?_ _)); exact BK102.out) k_ hn_))⟩)) (below_size (zB2 HB.out GE101.out GE102.out))); replace BK101 := yK BK101 hb; replace BK102 := yK BK102 hb; replace HB := yS2 HB GE101 GE102 hb; (try clear hb ho0); (try clear ho1); have hcz8_0 : w7.cell? ⟨gb102, 0, none⟩ = some (.bool false) := (blk_cell BK102.out 0).trans rfl; have hcz8_1 : w7.cell? ⟨gb102, 1, none⟩ = some (.slice none 0 0) := (blk_cell BK102.out 1).trans rfl; have hcz8_2 : w7.cell? ⟨gb102, 2, none⟩ = some (.slice none 0 0) := (blk_cell BK102.out 2).trans rfl; have hfz8_0 := blk_frozen BK102.out 0; have hfz8_1 := blk_frozen BK102.out 1; have hfz8_2 := blk_frozen BK102.out 2; obtain ⟨Ao9, co9, rfl⟩ := Kd.V_slice HO106.out; obtain ⟨Ao10, co10, rfl⟩ := Kd.V_slice HO109.out))
 refine bodyPost_ret (results_cell_row rfl _ _ gb102 60 #[.bool t103, .slice Ao9 t104.length co9, .slice Ao10 t107.length co10] (0, 0) _ rfl (by (with_reducible repeat (first | refine blk_drewN ?_ _ | refine blk_drew ?_ | refine blk_alloc ?_ _)); refine blk_put (cs := #[.bool t103, .slice Ao9 t104.length co9, .slice none 0 0]) ?_ 2 _ rfl; (with_reducible repeat (first | refine blk_drewN ?_ _ | refine blk_drew ?_ | refine blk_alloc ?_ _)); refine blk_put (cs := #[.bool t103, .slice none 0 0, .slice none 0 0]) ?_ 1 _ rfl; (with_reducible repeat (first | refine blk_drewN ?_ _ | refine blk_drew ?_ | refine blk_alloc ?_ _)); refine blk_put (cs := #[.bool false, .slice none 0 0, .slice none 0 0]) ?_ 0 _ rfl; (with_reducible repeat (first | refine blk_drewN ?_ _ | refine blk_drew ?_ | refine blk_alloc ?_ _)); exact BK102.out) Try.underlying60 rfl (by kernel_rfl)) rfl ?_
 exact ⟨_, _, zE, by (with_reducible repeat (first | apply Kd.V_alloc | apply Kd.V_drewN | apply Kd.V_drew)); exact Kd.V_mono (Kd.V_far (p := ⟨gb102, 2, none⟩) (Kd.V_far (p := ⟨gb102, 1, none⟩) (Kd.V_far (p := ⟨gb102, 0, none⟩) (Kd.V_mono HO106.out (fun k_ hk => (⟨hk, hk.2.2⟩ : _ ∧ k_ ≠ gb102))) (fun _ hk => hk.2) (.bool t103)) (fun _ hk => hk.2) (.slice Ao9 t104.length co9)) (fun _ hk => hk.2) (.slice Ao10 t107.length co10)) (fun _ hk => hk.1.1), by (with_reducible repeat (first | apply Kd.V_alloc | apply Kd.V_drewN | apply Kd.V_drew)); exact Kd.V_mono (Kd.V_far (p := ⟨gb102, 2, none⟩) (Kd.V_far (p := ⟨gb102, 1, none⟩) (Kd.V_far (p := ⟨gb102, 0, none⟩) (Kd.V_mono HO109.out (fun k_ hk => (⟨hk, hk.2.2⟩ : _ ∧ k_ ≠ gb102))) (fun _ hk => hk.2) (.bool t103)) (fun _ hk => hk.2) (.slice Ao9 t104.length co9)) (fun _ hk => hk.2) (.slice Ao10 t107.length co10)) (fun _ hk => hk.1.1), zB2 HB.out GE101.out GE102.out⟩
set_option maxHeartbeats 8000000 in
set_option maxRecDepth 100000 in
theorem macwilliams_ratio.calls (k : Nat) (a0_0 : Bool) (P0_1_ : Nat → Prop) (A0_1 : Option Addr) (c0_1 : Nat) (l0_1 : List Int) (P1_ : Nat → Prop) (A1 : Option Addr) (c1 : Nat) (l1 : List Int) (r1 : Bool) (r2 : List Int) (r3 : List Int) (w : World) (hs0_1 : Kd.V (Kd.int .u32) 97 w w.heap.size (fun k_ => P0_1_ k_) (.slice A0_1 l0_1.length c0_1) l0_1) (hs1 : Kd.V (Kd.int .u32) 97 w w.heap.size (fun k_ => P1_ k_) (.slice A1 l1.length c1) l1) (h : macwilliams_ratio.f k a0_0 l0_1 l1 = some (r1, r2, r3)) :
    Calls Try.prog 93 #[.agg #[.bool a0_0, .slice A0_1 l0_1.length c0_1], .slice A1 l1.length c1] w fun e w' => ∃ v1_ v2_ : Value, e = .returned (.agg #[.bool r1, v1_, v2_]) ∧ Kd.V (Kd.int .u32) 97 w' w.heap.size (fun k_ => ((P0_1_ k_ ∨ P1_ k_) ∨ w.heap.size ≤ k_)) v1_ r2 ∧ Kd.V (Kd.int .u32) 97 w' w.heap.size (fun k_ => ((P0_1_ k_ ∨ P1_ k_) ∨ w.heap.size ≤ k_)) v2_ r3 ∧ Below w.heap.size w w' := by
 have hu113 := Try.underlying113
 have hu60 := Try.underlying60
 have HO0_1 := Aside0.mk (show Kd.V (Kd.int .u32) 97 w w.heap.size (fun k_ => ((P0_1_ k_ ∨ P1_ k_) ∨ w.heap.size ≤ k_)) (.slice A0_1 l0_1.length c0_1) l0_1 from Kd.V_mono hs0_1 (fun k_ hk => .inl (.inl hk)))
 have HO1 := Aside0.mk (show Kd.V (Kd.int .u32) 97 w w.heap.size (fun k_ => ((P0_1_ k_ ∨ P1_ k_) ∨ w.heap.size ≤ k_)) (.slice A1 l1.length c1) l1 from Kd.V_mono hs1 (fun k_ hk => .inl (.inr hk)))
 have HB := Aside0.mk (Below.refl w.heap.size w)
 have H : ((rational_Trim.f k a0_0 l0_1 l1).bind fun bt103 => (some (bt103.1, bt103.2.1, bt103.2.2))) = some (r1, r2, r3) := h
 clear h
 replace H := zb H
 obtain ⟨⟨t103, t104, t107⟩, A3, H⟩ := H
 dsimp only at H
 simp only [Option.some.injEq, Prod.mk.injEq] at H
 obtain ⟨rfl, rfl, rfl⟩ := H
 go_enter Try.func93, Try.ntmps93
 go_wp2_with (first | ((with_reducible refine gate_dst (N := 2) rfl ?_); refine box_event ?hg (N := 2) ?hd (cs := #[.bool a0_0, .slice A0_1 l0_1.length c0_1]) (t := 113) ?hr ?_; (case hd => rfl); (case hg => rfl); (case hr => first | (go_simp; done) | (go_simp; rfl)); intro gb101 hg w4 hbox hb; replace HO0_1 := yVB HO0_1 hg hb; replace HO1 := yVB HO1 hg hb; have BK101 := Aside0.mk (hbox); have GW101 := yg hg HB; have GE101 := yg hg HB; replace HB := yS HB hb; clear hb hbox hg) | ((with_reducible refine gate_dst (N := 4) rfl ?_); refine box_event ?hg (N := 4) ?hd (cs := #[.bool false, .slice none 0 0, .slice none 0 0]) (t := 60) ?hr ?_; (case hd => rfl); (case hg => rfl); (case hr => first | (go_simp; done) | (go_simp; rfl)); intro gb102 hg w5 hbox hb; replace HO0_1 := yVB HO0_1 hg hb; replace HO1 := yVB HO1 hg hb; have BK102 := Aside0.mk (hbox); have GW102 := yg1 hg HB GE101; have GE102 := yg1 hg HB GE101; replace HB := yS1 HB GE101 hb; have NB101_102 := ynl hg BK101; have NB102_101 := yng hg BK101; replace BK101 := yK BK101 hb; clear hb hbox hg; have hnb6 := NB101_102.out; have hnc6 := NB102_101.out; have hcz7_0 : w5.cell? ⟨gb101, 0, none⟩ = some (.bool a0_0) := (blk_cell BK101.out 0).trans rfl; have hcz7_1 : w5.cell? ⟨gb101, 1, none⟩ = some (.slice A0_1 l0_1.length c0_1) := (blk_cell BK101.out 1).trans rfl; have hfz7_0 := blk_frozen BK101.out 0; have hfz7_1 := blk_frozen BK101.out 1) | ((with_reducible refine gate_callee (f := 107) rfl ?_); refine zG (some 11) Try.func107 #[.agg #[.bool a0_0, .slice A0_1 l0_1.length c0_1, .slice A1 l1.length c1]] ?_; (with_reducible refine (rational_Trim.calls k a0_0 (fun k_ => ((((P0_1_ k_ ∨ P1_ k_) ∨ w.heap.size ≤ k_) ∧ k_ ≠ gb101) ∧ k_ ≠ gb102)) _ _ l0_1 (fun k_ => ((((P0_1_ k_ ∨ P1_ k_) ∨ w.heap.size ≤ k_) ∧ k_ ≠ gb101) ∧ k_ ≠ gb102)) _ _ l1 t103 t104 t107 _ ?side1 ?side2 A3.out).mono ?_); (case side1 => exact HO0_1.out); (case side2 => exact HO1.out); rintro e w8 ⟨v105, v108, rfl, ho0, ho1, hb⟩; refine ⟨_, rfl, ?_⟩; replace HO0_1 := yVb HO0_1 hb; replace HO1 := yVb HO1 hb; have HO106 := Aside0.mk (Kd.V_lower (Kd.V_mono (ok' := fun k_ => ((P0_1_ k_ ∨ P1_ k_) ∨ w.heap.size ≤ k_) ∧ k_ ≠ gb101 ∧ k_ ≠ gb102) ho0 (fun k_ hk_ => ⟨Or.elim hk_ (fun hs_ => Or.elim hs_ (fun hs_ => hs_.1.1) (fun hs_ => hs_.1.1)) (fun hn_ => (.inr (Nat.le_trans (below_size (zB2 HB.out GE101.out GE102.out)) hn_))), Or.elim hk_ (fun hs_ => Or.elim hs_ (fun hs_ => hs_.1.2) (fun hs_ => hs_.1.2)) (fun hn_ => (Kd.freshB (g := gb101) (o := .cells #[.bool a0_0, .slice A0_1 l0_1.length c0_1] 113 (0, 0)) (by (with_reducible repeat (first | refine blk_drewN ?_ _ | refine blk_drew ?_ | refine blk_alloc ?_ _)); exact BK101.out) k_ hn_)), Or.elim hk_ (fun hs_ => Or.elim hs_ (fun hs_ => hs_.2) (fun hs_ => hs_.2)) (fun hn_ => (Kd.freshB (g := gb102) (o := .cells #[.bool false, .slice none 0 0, .slice none 0 0] 60 (0, 0)) (by (with_reducible repeat (first | refine blk_drewN ?_ _ | refine blk_drew ?_ | refine blk_alloc ?_ _)); exact BK102.out) k_ hn_))⟩)) (below_size (zB2 HB.out GE101.out GE102.out))); have HO109 := Aside0.mk (Kd.V_lower (Kd.V_mono (ok' := fun k_ => ((P0_1_ k_ ∨ P1_ k_) ∨ w.heap.size ≤ k_) ∧ k_ ≠ gb101 ∧ k_ ≠ gb102) ho1 (fun k_ hk_ => ⟨Or.elim hk_ (fun hs_ => Or.elim hs_ (fun hs_ => hs_.1.1) (fun hs_ => hs_.1.1)) (fun hn_ => (.inr (Nat.le_trans (below_size (zB2 HB.out GE101.out GE102.out)) hn_))), Or.elim hk_ (fun hs_ => Or.elim hs_ (fun hs_ => hs_.1.2) (fun hs_ => hs_.1.2)) (fun hn_ => (Kd.freshB (g := gb101) (o := .cells #[.bool a0_0, .slice A0_1 l0_1.length c0_1] 113 (0, 0)) (by (with_reducible repeat (first | refine blk_drewN ?_ _ | refine blk_drew ?_ | refine blk_alloc ?_ _)); exact BK101.out) k_ hn_)), Or.elim hk_ (fun hs_ => Or.elim hs_ (fun hs_ => hs_.2) (fun hs_ => hs_.2)) (fun hn_ => (Kd.freshB (g := gb102) (o := .cells #[.bool false, .slice none 0 0, .slice none 0 0] 60 (0, 0)) (by (with_reducible repeat (first | refine blk_drewN ?_ _ | refine blk_drew ?_ | refine blk_alloc ?_ _)); exact BK102.out) k_ hn_))⟩)) (below_size (zB2 HB.out GE101.out GE102.out))); replace BK101 := yK BK101 hb; replace BK102 := yK BK102 hb; replace HB := yS2 HB GE101 GE102 hb; (try clear hb ho0); (try clear ho1); have hcz9_0 : w8.cell? ⟨gb102, 0, none⟩ = some (.bool false) := (blk_cell BK102.out 0).trans rfl; have hcz9_1 : w8.cell? ⟨gb102, 1, none⟩ = some (.slice none 0 0) := (blk_cell BK102.out 1).trans rfl; have hcz9_2 : w8.cell? ⟨gb102, 2, none⟩ = some (.slice none 0 0) := (blk_cell BK102.out 2).trans rfl; have hfz9_0 := blk_frozen BK102.out 0; have hfz9_1 := blk_frozen BK102.out 1; have hfz9_2 := blk_frozen BK102.out 2; obtain ⟨Ao10, co10, rfl⟩ := Kd.V_slice HO106.out; obtain ⟨Ao11, co11, rfl⟩ := Kd.V_slice HO109.out))
 refine bodyPost_ret (results_cell_row rfl _ _ gb102 60 #[.bool t103, .slice Ao10 t104.length co10, .slice Ao11 t107.length co11] (0, 0) _ rfl (by (with_reducible repeat (first | refine blk_drewN ?_ _ | refine blk_drew ?_ | refine blk_alloc ?_ _)); refine blk_put (cs := #[.bool t103, .slice Ao10 t104.length co10, .slice none 0 0]) ?_ 2 _ rfl; (with_reducible repeat (first | refine blk_drewN ?_ _ | refine blk_drew ?_ | refine blk_alloc ?_ _)); refine blk_put (cs := #[.bool t103, .slice none 0 0, .slice none 0 0]) ?_ 1 _ rfl; (with_reducible repeat (first | refine blk_drewN ?_ _ | refine blk_drew ?_ | refine blk_alloc ?_ _)); refine blk_put (cs := #[.bool false, .slice none 0 0, .slice none 0 0]) ?_ 0 _ rfl; (with_reducible repeat (first | refine blk_drewN ?_ _ | refine blk_drew ?_ | refine blk_alloc ?_ _)); exact BK102.out) Try.underlying60 rfl (by kernel_rfl)) rfl ?_
 exact ⟨_, _, zE, by (with_reducible repeat (first | apply Kd.V_alloc | apply Kd.V_drewN | apply Kd.V_drew)); exact Kd.V_mono (Kd.V_far (p := ⟨gb102, 2, none⟩) (Kd.V_far (p := ⟨gb102, 1, none⟩) (Kd.V_far (p := ⟨gb102, 0, none⟩) (Kd.V_mono HO106.out (fun k_ hk => (⟨hk, hk.2.2⟩ : _ ∧ k_ ≠ gb102))) (fun _ hk => hk.2) (.bool t103)) (fun _ hk => hk.2) (.slice Ao10 t104.length co10)) (fun _ hk => hk.2) (.slice Ao11 t107.length co11)) (fun _ hk => hk.1.1), by (with_reducible repeat (first | apply Kd.V_alloc | apply Kd.V_drewN | apply Kd.V_drew)); exact Kd.V_mono (Kd.V_far (p := ⟨gb102, 2, none⟩) (Kd.V_far (p := ⟨gb102, 1, none⟩) (Kd.V_far (p := ⟨gb102, 0, none⟩) (Kd.V_mono HO109.out (fun k_ hk => (⟨hk, hk.2.2⟩ : _ ∧ k_ ≠ gb102))) (fun _ hk => hk.2) (.bool t103)) (fun _ hk => hk.2) (.slice Ao10 t104.length co10)) (fun _ hk => hk.2) (.slice Ao11 t107.length co11)) (fun _ hk => hk.1.1), zB2 HB.out GE101.out GE102.out⟩
set_option maxHeartbeats 8000000 in
set_option maxRecDepth 100000 in
theorem macwilliams_Krawtchouk.calls (k : Nat) (a0 : Int) (a1 : Int) (a2 : Int) (a3 : Int) (r1 : Bool) (r2 : List Int) (r3 : List Int) (r4 : Int) (w : World) (h : macwilliams_Krawtchouk.f k a0 a1 a2 a3 = some (r1, r2, r3, r4)) :
    Calls Try.prog 42 #[.int .i64 a0, .int .i64 a1, .int .i64 a2, .int .i64 a3] w fun e w' => ∃ v1_ v2_ : Value, e = .returned (.tuple #[.agg #[.bool r1, v1_, v2_], .int .i64 r4]) ∧ Kd.V (Kd.int .u32) 97 w' w.heap.size (fun k_ => (w.heap.size ≤ k_)) v1_ r2 ∧ Kd.V (Kd.int .u32) 97 w' w.heap.size (fun k_ => (w.heap.size ≤ k_)) v2_ r3 ∧ Below w.heap.size w w' := by
 have hu60 := Try.underlying60
 have hu113 := Try.underlying113
 have HB := Aside0.mk (Below.refl w.heap.size w)
 have H : (if a0 < 2 then (macwilliams_Krawtchouk.j0 k a0 a1 a2 a3 true) else (if a0 > 256 then (macwilliams_Krawtchouk.j0 k a0 a1 a2 a3 true) else (if a1 < 0 then (macwilliams_Krawtchouk.j0 k a0 a1 a2 a3 true) else (if a1 > 64 then (macwilliams_Krawtchouk.j0 k a0 a1 a2 a3 true) else (if a2 < 0 then (macwilliams_Krawtchouk.j0 k a0 a1 a2 a3 true) else (if a2 > a1 then (macwilliams_Krawtchouk.j0 k a0 a1 a2 a3 true) else (if a3 < 0 then (macwilliams_Krawtchouk.j0 k a0 a1 a2 a3 true) else (macwilliams_Krawtchouk.j0 k a0 a1 a2 a3 (decide (a3 > a1)))))))))) = some (r1, r2, r3, r4) := h
 clear h
 have HC5 := Aside0.mk H
 clear H
 go_enter Try.func42, Try.ntmps42
 go_upto_region 1 with (first | ((with_reducible refine gate_dst (N := 8) rfl ?_); refine box_event ?hg (N := 8) ?hd (cs := #[.bool false, .slice none 0 0, .slice none 0 0]) (t := 60) ?hr ?_; (case hd => rfl); (case hg => rfl); (case hr => first | (go_simp; done) | (go_simp; rfl)); intro gb101 hg w6 hbox hb; have BK101 := Aside0.mk (hbox); have GW101 := yg hg HB; have GE101 := yg hg HB; replace HB := yS HB hb; clear hb hbox hg))
 (try simp only [Act.put, List.setIfInBounds_toArray, List.set_cons_zero, List.set_cons_succ])
 go_cut [41] (fun v41 wc => ∃ (kq : Nat) (x41_4 : Bool), v41 = .bool x41_4 ∧ Aside0 (macwilliams_Krawtchouk.j0 kq a0 a1 a2 a3 x41_4 = some (r1, r2, r3, r4)) ∧ Aside0 (kq ≤ k) ∧ Aside0 (wc.heap[gb101]? = some (.cells #[.bool false, (.slice none 0 0), (.slice none 0 0)] 60 (0, 0))) ∧ Aside0 (Below w.heap.size w wc))
 case first =>
  have H := HC5.out
  clear HC5
  replace H := zi H
  rcases H with ⟨c7, H⟩ | ⟨c7, H⟩
  · have c7b0 := decide_eq_true c7
    clear c7
    (first | rw [c7b0] | (simp only [i64_w, i32_w]; rw [c7b0]) | rw [c7b1] | skip)
    have H' := Aside0.mk H
    clear H
    go_wp2
    go_meet
    case rel => exact ⟨_, (true), zF, H', ⟨zO⟩, ⟨by (with_reducible repeat (first | refine blk_drewN ?_ _ | refine blk_drew ?_ | refine blk_alloc ?_ _)); exact BK101.out⟩, ⟨zB1 HB.out GE101.out⟩⟩
  have c7b0 := decide_eq_false c7
  clear c7
  (first | rw [c7b0] | (simp only [i64_w, i32_w]; rw [c7b0]) | rw [c7b1] | skip)
  replace H := zi H
  rcases H with ⟨c8, H⟩ | ⟨c8, H⟩
  · have c8b0 : decide (256 < a0) = true := decide_eq_true c8
    clear c8
    have H' := Aside0.mk H
    clear H
    go_wp2
    go_meet
    case rel => exact ⟨_, (true), zF, H', ⟨zO⟩, ⟨by (with_reducible repeat (first | refine blk_drewN ?_ _ | refine blk_drew ?_ | refine blk_alloc ?_ _)); exact BK101.out⟩, ⟨zB1 HB.out GE101.out⟩⟩
  have c8b0 : decide (256 < a0) = false := decide_eq_false c8
  clear c8
  replace H := zi H
  rcases H with ⟨c9, H⟩ | ⟨c9, H⟩
  · have c9b0 := decide_eq_true c9
    clear c9
    have H' := Aside0.mk H
    clear H
    go_wp2
    go_meet
    case rel => exact ⟨_, (true), zF, H', ⟨zO⟩, ⟨by (with_reducible repeat (first | refine blk_drewN ?_ _ | refine blk_drew ?_ | refine blk_alloc ?_ _)); exact BK101.out⟩, ⟨zB1 HB.out GE101.out⟩⟩
  have c9b0 := decide_eq_false c9
  clear c9
  replace H := zi H
  rcases H with ⟨c10, H⟩ | ⟨c10, H⟩
  · have c10b0 : decide (64 < a1) = true := decide_eq_true c10
    clear c10
    have H' := Aside0.mk H
    clear H
    go_wp2
    go_meet
    case rel => exact ⟨_, (true), zF, H', ⟨zO⟩, ⟨by (with_reducible repeat (first | refine blk_drewN ?_ _ | refine blk_drew ?_ | refine blk_alloc ?_ _)); exact BK101.out⟩, ⟨zB1 HB.out GE101.out⟩⟩
  have c10b0 : decide (64 < a1) = false := decide_eq_false c10
  clear c10
  replace H := zi H
  rcases H with ⟨c11, H⟩ | ⟨c11, H⟩
  · have c11b0 := decide_eq_true c11
    clear c11
    have H' := Aside0.mk H
    clear H
    go_wp2
    go_meet
    case rel => exact ⟨_, (true), zF, H', ⟨zO⟩, ⟨by (with_reducible repeat (first | refine blk_drewN ?_ _ | refine blk_drew ?_ | refine blk_alloc ?_ _)); exact BK101.out⟩, ⟨zB1 HB.out GE101.out⟩⟩
  have c11b0 := decide_eq_false c11
  clear c11
  replace H := zi H
  rcases H with ⟨c12, H⟩ | ⟨c12, H⟩
  · have c12b0 : decide (a1 < a2) = true := decide_eq_true c12
    clear c12
    have H' := Aside0.mk H
    clear H
    go_wp2
    go_meet
    case rel => exact ⟨_, (true), zF, H', ⟨zO⟩, ⟨by (with_reducible repeat (first | refine blk_drewN ?_ _ | refine blk_drew ?_ | refine blk_alloc ?_ _)); exact BK101.out⟩, ⟨zB1 HB.out GE101.out⟩⟩
  have c12b0 : decide (a1 < a2) = false := decide_eq_false c12
  clear c12
  replace H := zi H
  rcases H with ⟨c13, H⟩ | ⟨c13, H⟩
  · have c13b0 := decide_eq_true c13
    clear c13
    have H' := Aside0.mk H
    clear H
    go_wp2
    go_meet
    case rel => exact ⟨_, (true), zF, H', ⟨zO⟩, ⟨by (with_reducible repeat (first | refine blk_drewN ?_ _ | refine blk_drew ?_ | refine blk_alloc ?_ _)); exact BK101.out⟩, ⟨zB1 HB.out GE101.out⟩⟩
  have c13b0 := decide_eq_false c13
  clear c13
  have H' := Aside0.mk H
  clear H
  go_wp2
  go_meet
  case rel => exact ⟨_, (decide (a3 > a1)), zF, H', ⟨zO⟩, ⟨by (with_reducible repeat (first | refine blk_drewN ?_ _ | refine blk_drew ?_ | refine blk_alloc ?_ _)); exact BK101.out⟩, ⟨zB1 HB.out GE101.out⟩⟩
 clear HC5
 (try clear c1);(try clear p2);(try clear c4);(try clear c7);(try clear c7b0);(try clear c7b1);(try clear c8);(try clear c8b0);(try clear c9);(try clear c9b0);(try clear c10);(try clear c10b0);(try clear c11);(try clear c11b0);(try clear c12);(try clear c12b0);(try clear c13);(try clear c13b0)
 obtain ⟨kq, x41_4, rfl, HA, HJ4, BK101, HB⟩ := hcut
 cases kq with | zero => exact absurd HA.out (by simp [macwilliams_Krawtchouk.j0]) | succ kj4 => ?_
 have H := HA.out
 clear HA
 simp only [macwilliams_Krawtchouk.j0] at H
 by_cases c14 : x41_4 = true
 · subst c14
   rw [if_pos rfl] at H
   simp only [Option.some.injEq, Prod.mk.injEq] at H
   obtain ⟨rfl, rfl, rfl, rfl⟩ := H
   have hcz15_0 : wc.cell? ⟨gb101, 0, none⟩ = some (.bool false) := (blk_cell BK101.out 0).trans rfl
   have hcz15_1 : wc.cell? ⟨gb101, 1, none⟩ = some (.slice none 0 0) := (blk_cell BK101.out 1).trans rfl
   have hcz15_2 : wc.cell? ⟨gb101, 2, none⟩ = some (.slice none 0 0) := (blk_cell BK101.out 2).trans rfl
   have hfz15_0 := blk_frozen BK101.out 0
   have hfz15_1 := blk_frozen BK101.out 1
   have hfz15_2 := blk_frozen BK101.out 2
   go_wp2
   refine bodyPost_ret (results_ct rfl _ _ gb101 60 #[.bool false, .slice none 0 0, .slice none 0 0] (0, 0) _ rfl (by (with_reducible repeat (first | refine blk_drewN ?_ _ | refine blk_drew ?_ | refine blk_alloc ?_ _)); refine blk_put (cs := #[.bool false, .slice none 0 0, .slice none 0 0]) ?_ 2 _ rfl; (with_reducible repeat (first | refine blk_drewN ?_ _ | refine blk_drew ?_ | refine blk_alloc ?_ _)); refine blk_put (cs := #[.bool false, .slice none 0 0, .slice none 0 0]) ?_ 1 _ rfl; (with_reducible repeat (first | refine blk_drewN ?_ _ | refine blk_drew ?_ | refine blk_alloc ?_ _)); refine blk_put (cs := #[.bool false, .slice none 0 0, .slice none 0 0]) ?_ 0 _ rfl; (with_reducible repeat (first | refine blk_drewN ?_ _ | refine blk_drew ?_ | refine blk_alloc ?_ _)); exact BK101.out) Try.underlying60 rfl (by kernel_rfl)) rfl ?_
   exact ⟨_, _, zE, by exact Kd.V_nil _ _ _ _ _, by exact Kd.V_nil _ _ _ _ _, zB1 HB.out GE101.out⟩
 replace c14 := Bool.eq_false_iff.mpr c14
 subst c14
 rw [if_neg Bool.false_ne_true] at H
 replace H := zb H
 obtain ⟨t102, A16, H⟩ := H
 replace H := zg H
 obtain ⟨c17, H⟩ := H
 have c17b0 := decide_eq_true c17
 clear c17
 replace H := zg H
 obtain ⟨c18, H⟩ := H
 have c18b0 := decide_eq_true c18
 clear c18
 replace H := zg H
 obtain ⟨c19, H⟩ := H
 have c19b0 := decide_eq_true c19
 clear c19
 replace H := zg H
 obtain ⟨c20, H⟩ := H
 have c20b0 := decide_eq_true c20
 clear c20
 obtain ⟨y107, hy107⟩ : ∃ y_ : List Int, y_ = (([1] : List Int)) := ⟨_, rfl⟩
 replace H : ((macwilliams_ratio.f kj4 ((rd_T113 (rd_L6 t102 a3) a2).f0) ((rd_T113 (rd_L6 t102 a3) a2).f1) y107).bind fun bt110 => (some (bt110.1, bt110.2.1, bt110.2.2, 0))) = some (r1, r2, r3, r4) := zY hy107 H
 have Ny107 := Aside0.mk hy107
 clear hy107
 replace H := zb H
 obtain ⟨⟨t110, t111, t114⟩, A21, H⟩ := H
 dsimp only at H
 simp only [Option.some.injEq, Prod.mk.injEq] at H
 obtain ⟨rfl, rfl, rfl, rfl⟩ := H
 go_wp2_with (first | ((with_reducible refine gate_callee (f := 94) rfl ?_); refine zG (some 45) Try.func94 #[.int .i64 a0, .int .i64 a1] ?_; (with_reducible refine (macwilliams_table.calls kj4 a0 a1 t102 _ A16.out).mono ?_); rintro e w22 ⟨v103, rfl, ho0, hb⟩; refine ⟨_, rfl, ?_⟩; have HO104 := Aside0.mk (Kd.N_lower (Kd.N_mono (ok' := fun k_ => (w.heap.size ≤ k_) ∧ k_ ≠ gb101) ho0 (fun k_ hk_ => ⟨(Nat.le_trans (below_size (zB1 HB.out GE101.out)) hk_), (Kd.freshB (g := gb101) (o := .cells #[.bool false, .slice none 0 0, .slice none 0 0] 60 (0, 0)) (by (with_reducible repeat (first | refine blk_drewN ?_ _ | refine blk_drew ?_ | refine blk_alloc ?_ _)); exact BK101.out) k_ hk_)⟩)) (below_size (zB1 HB.out GE101.out))); replace BK101 := yK BK101 hb; replace HB := yS1 HB GE101 hb; (try clear hb ho0); obtain ⟨Ao23, co23, rfl⟩ := Kd.N_slice HO104.out; have p105 : 0 ≤ (a3 : Int) := of_decide_eq_true zA; have q105 : a3 < (t102.length : Int) := of_decide_eq_true zA; obtain ⟨ad105, A105_0, c105_0, e105, hx105_0, hl105_0, hi105_0⟩ := at_L6 (Kd.N_reads' HO104.out).2.2 a3 p105 q105; cases e105; obtain ⟨ce105, hce105, hMe105, hcc105⟩ := Kd.N_get HO104.out [] a3 p105 (by first | exact q105 | exact of_decide_eq_true zA | (have e_ := (Kd.N_reads' HO104.out).1; omega)); obtain ⟨ua105_0, uc105_0, rfl, ul105_0, ge105_0⟩ := Kd.FK_slice_open hMe105; have hv105_0 := hcc105 0 _ rfl; rw [Nat.add_zero, show ((Kd.slice 113 k113)).sz = 1 from rfl, Nat.mul_one] at hv105_0; replace hv105_0 := Option.some.inj (hv105_0.symm.trans hx105_0); injection hv105_0 with hva_ hvn_ hvc_; rw [hva_] at ge105_0; rw [hvc_] at ul105_0; have HL105_0 := Aside0.mk (show Kd.V k113 113 _ w.heap.size _ _ (rd_L6 t102 a3) from Kd.V_mk ul105_0 ge105_0); clear hva_ hvn_ hvc_ ge105_0 ul105_0; clear hcc105 hce105; have HR105_0 := Aside0.mk hi105_0; have HC105_0 := Aside0.mk hl105_0; clear hi105_0 hl105_0; replace p105 := eq_true p105; replace q105 := eq_true q105; have p106 : 0 ≤ (a2 : Int) := of_decide_eq_true zA; have q106 : a2 < ((rd_L6 t102 a3).length : Int) := of_decide_eq_true zA; obtain ⟨ad106, A106_1, c106_1, e106, hx106_0, hx106_1, hl106_1, hi106_1⟩ := at_T113 (zCr HR105_0.out) a2 p106 q106; cases e106; obtain ⟨ce106, hce106, hMe106, hcc106⟩ := Kd.V_get HL105_0.out z113 a2 p106 (by first | exact q106 | exact of_decide_eq_true zA | (have e_ := (Kd.V_reads' HL105_0.out).1; omega)); obtain ⟨ua106_1, uc106_1, rfl, ul106_1, ge106_1⟩ := k113_openF hMe106; have hv106_1 := hcc106 1 _ rfl; rw [add_field _ _ 1 (by omega)] at hv106_1; replace hv106_1 := Option.some.inj (hv106_1.symm.trans hx106_1); injection hv106_1 with hva_ hvn_ hvc_; rw [hva_] at ge106_1; rw [hvc_] at ul106_1; have HL106_1 := Aside0.mk (show Kd.V (Kd.int .u32) 97 _ w.heap.size _ _ ((rd_T113 (rd_L6 t102 a3) a2).f1) from Kd.V_mk ul106_1 ge106_1); clear hva_ hvn_ hvc_ ge106_1 ul106_1; clear hcc106 hce106; have HR106_1 := Aside0.mk hi106_1; have HC106_1 := Aside0.mk hl106_1; clear hi106_1 hl106_1; replace p106 := eq_true p106; replace q106 := eq_true q106) | ((with_reducible refine gate_dst (N := 52) rfl ?_); refine Kd.R_lit (Kd.int .u32) _ 97 ?hg (N := 52) ?hd (xs := ([1] : List Int)) (inner := [.int .u32 1]) (ok := fun _ => True) (okp := fun _ => True) ?hr ?hp (fun _ hk => hk) trivial (Below.refl _ _) (Nat.le_refl _) (by simp) ?_; (case hd => rfl); (case hg => rfl); (case hr => first | (go_simp; done) | (go_simp; rfl)); (case hp => exact (Reps.one (show Kd.M (Kd.int .u32) _ _ _ 1 [.int .u32 1] from rfl) (Reps.none _ _))); intro v108 w24 ho25 hb hg_ hnew_; clear hg_ hnew_; (first | rw [← Ny107.out] at ho25 | (simp only [Int.reduceToNat] at ho25; rw [← Ny107.out] at ho25)); replace HO104 := yNe HO104 ho25 hb; replace HL105_0 := yVe HL105_0 ho25 hb; replace HL106_1 := yVe HL106_1 ho25 hb; replace ho25 := Kd.R_newM (M := fun k_ => (w.heap.size ≤ k_)) ho25 (below_size (zB1 HB.out GE101.out)) (fun k_ h_ => h_); have HO109 := yRl1 ho25 HB GE101; replace BK101 := yK BK101 hb; (try replace HR105_0 := yCb HR105_0 hb); (try replace HR106_1 := yCb HR106_1 hb); replace HB := yS1 HB GE101 hb; clear hb ho25; obtain ⟨Ao26, co26, rfl⟩ := Kd.R_slice HO109.out) | ((with_reducible refine gate_callee (f := 93) rfl ?_); refine zG (some 53) Try.func93 #[.agg #[.bool ((rd_T113 (rd_L6 t102 a3) a2).f0), .slice A106_1 ((rd_T113 (rd_L6 t102 a3) a2).f1).length c106_1], .slice Ao26 y107.length co26] ?_; (with_reducible refine (macwilliams_ratio.calls kj4 ((rd_T113 (rd_L6 t102 a3) a2).f0) (fun k_ => ((((w.heap.size ≤ k_) ∧ k_ ≠ gb101) ∧ some k_ ≠ (.slice (some ad105) t102.length co23 : Value).ownBlock) ∧ some k_ ≠ (.slice Ao26 y107.length co26 : Value).ownBlock)) _ _ ((rd_T113 (rd_L6 t102 a3) a2).f1) (fun k_ => some k_ = (.slice Ao26 y107.length co26 : Value).ownBlock) _ _ y107 t110 t111 t114 _ ?side1 ?side2 A21.out).mono ?_); (case side1 => exact HL106_1.out); (case side2 => exact Kd.R_V (Kd.R_tight rfl (Kd.R_types (Kd.R_apart' (HO109.out) (Kd.N_typed HO104.out) (by decide)) BK101.out (by decide)))); rintro e w27 ⟨v112, v115, rfl, ho0, ho1, hb⟩; refine ⟨_, rfl, ?_⟩; replace HL105_0 := yVb HL105_0 hb; replace HL106_1 := yVb HL106_1 hb; have HO113 := Aside0.mk (Kd.V_lower (Kd.V_mono (ok' := fun k_ => (w.heap.size ≤ k_) ∧ some k_ ≠ (.slice (some ad105) t102.length co23 : Value).ownBlock ∧ k_ ≠ gb101) ho0 (fun k_ hk_ => ⟨Or.elim hk_ (fun hs_ => Or.elim hs_ (fun hs_ => hs_.1.1.1) (fun hs_ => ((Kd.R_types (Kd.R_apart' (HO109.out) (Kd.N_typed HO104.out) (by decide)) BK101.out (by decide)).1 k_ hs_.symm).1.1.1)) (fun hn_ => (Nat.le_trans (below_size (zB1 HB.out GE101.out)) hn_)), Or.elim hk_ (fun hs_ => Or.elim hs_ (fun hs_ => hs_.1.2) (fun hs_ => ((Kd.R_types (Kd.R_apart' (HO109.out) (Kd.N_typed HO104.out) (by decide)) BK101.out (by decide)).1 k_ hs_.symm).1.2)) (fun hn_ => (Kd.fresh' (Kd.N_lt (zN HO104.out)) k_ hn_)), Or.elim hk_ (fun hs_ => Or.elim hs_ (fun hs_ => hs_.1.1.2) (fun hs_ => ((Kd.R_types (Kd.R_apart' (HO109.out) (Kd.N_typed HO104.out) (by decide)) BK101.out (by decide)).1 k_ hs_.symm).2)) (fun hn_ => (Kd.freshB (g := gb101) (o := .cells #[.bool false, .slice none 0 0, .slice none 0 0] 60 (0, 0)) (by (with_reducible repeat (first | refine blk_drewN ?_ _ | refine blk_drew ?_ | refine blk_alloc ?_ _)); exact BK101.out) k_ hn_))⟩)) (below_size (zB1 HB.out GE101.out))); have HO116 := Aside0.mk (Kd.V_lower (Kd.V_mono (ok' := fun k_ => (w.heap.size ≤ k_) ∧ some k_ ≠ (.slice (some ad105) t102.length co23 : Value).ownBlock ∧ k_ ≠ gb101) ho1 (fun k_ hk_ => ⟨Or.elim hk_ (fun hs_ => Or.elim hs_ (fun hs_ => hs_.1.1.1) (fun hs_ => ((Kd.R_types (Kd.R_apart' (HO109.out) (Kd.N_typed HO104.out) (by decide)) BK101.out (by decide)).1 k_ hs_.symm).1.1.1)) (fun hn_ => (Nat.le_trans (below_size (zB1 HB.out GE101.out)) hn_)), Or.elim hk_ (fun hs_ => Or.elim hs_ (fun hs_ => hs_.1.2) (fun hs_ => ((Kd.R_types (Kd.R_apart' (HO109.out) (Kd.N_typed HO104.out) (by decide)) BK101.out (by decide)).1 k_ hs_.symm).1.2)) (fun hn_ => (Kd.fresh' (Kd.N_lt (zN HO104.out)) k_ hn_)), Or.elim hk_ (fun hs_ => Or.elim hs_ (fun hs_ => hs_.1.1.2) (fun hs_ => ((Kd.R_types (Kd.R_apart' (HO109.out) (Kd.N_typed HO104.out) (by decide)) BK101.out (by decide)).1 k_ hs_.symm).2)) (fun hn_ => (Kd.freshB (g := gb101) (o := .cells #[.bool false, .slice none 0 0, .slice none 0 0] 60 (0, 0)) (by (with_reducible repeat (first | refine blk_drewN ?_ _ | refine blk_drew ?_ | refine blk_alloc ?_ _)); exact BK101.out) k_ hn_))⟩)) (below_size (zB1 HB.out GE101.out))); replace HO104 := yNb HO104 hb; replace HO109 := yRb HO109 hb; replace BK101 := yK BK101 hb; (try replace HR105_0 := yCb HR105_0 hb); (try replace HR106_1 := yCb HR106_1 hb); replace HB := yS1 HB GE101 hb; (try clear hb ho0); (try clear ho1); have hcz28_0 : w27.cell? ⟨gb101, 0, none⟩ = some (.bool false) := (blk_cell BK101.out 0).trans rfl; have hcz28_1 : w27.cell? ⟨gb101, 1, none⟩ = some (.slice none 0 0) := (blk_cell BK101.out 1).trans rfl; have hcz28_2 : w27.cell? ⟨gb101, 2, none⟩ = some (.slice none 0 0) := (blk_cell BK101.out 2).trans rfl; have hfz28_0 := blk_frozen BK101.out 0; have hfz28_1 := blk_frozen BK101.out 1; have hfz28_2 := blk_frozen BK101.out 2; obtain ⟨Ao29, co29, rfl⟩ := Kd.V_slice HO113.out; obtain ⟨Ao30, co30, rfl⟩ := Kd.V_slice HO116.out))
 refine bodyPost_ret (results_ct rfl _ _ gb101 60 #[.bool t110, .slice Ao29 t111.length co29, .slice Ao30 t114.length co30] (0, 0) _ rfl (by (with_reducible repeat (first | refine blk_drewN ?_ _ | refine blk_drew ?_ | refine blk_alloc ?_ _)); refine blk_put (cs := #[.bool t110, .slice Ao29 t111.length co29, .slice none 0 0]) ?_ 2 _ rfl; (with_reducible repeat (first | refine blk_drewN ?_ _ | refine blk_drew ?_ | refine blk_alloc ?_ _)); refine blk_put (cs := #[.bool t110, .slice none 0 0, .slice none 0 0]) ?_ 1 _ rfl; (with_reducible repeat (first | refine blk_drewN ?_ _ | refine blk_drew ?_ | refine blk_alloc ?_ _)); refine blk_put (cs := #[.bool false, .slice none 0 0, .slice none 0 0]) ?_ 0 _ rfl; (with_reducible repeat (first | refine blk_drewN ?_ _ | refine blk_drew ?_ | refine blk_alloc ?_ _)); exact BK101.out) Try.underlying60 rfl (by kernel_rfl)) rfl ?_
 exact ⟨_, _, zE, by (with_reducible repeat (first | apply Kd.V_alloc | apply Kd.V_drewN | apply Kd.V_drew)); exact Kd.V_mono (Kd.V_far (p := ⟨gb101, 2, none⟩) (Kd.V_far (p := ⟨gb101, 1, none⟩) (Kd.V_far (p := ⟨gb101, 0, none⟩) (Kd.V_mono HO113.out (fun k_ hk => (⟨hk, hk.2.2⟩ : _ ∧ k_ ≠ gb101))) (fun _ hk => hk.2) (.bool t110)) (fun _ hk => hk.2) (.slice Ao29 t111.length co29)) (fun _ hk => hk.2) (.slice Ao30 t114.length co30)) (fun _ hk => hk.1.1), by (with_reducible repeat (first | apply Kd.V_alloc | apply Kd.V_drewN | apply Kd.V_drew)); exact Kd.V_mono (Kd.V_far (p := ⟨gb101, 2, none⟩) (Kd.V_far (p := ⟨gb101, 1, none⟩) (Kd.V_far (p := ⟨gb101, 0, none⟩) (Kd.V_mono HO116.out (fun k_ hk => (⟨hk, hk.2.2⟩ : _ ∧ k_ ≠ gb101))) (fun _ hk => hk.2) (.bool t110)) (fun _ hk => hk.2) (.slice Ao29 t111.length co29)) (fun _ hk => hk.2) (.slice Ao30 t114.length co30)) (fun _ hk => hk.1.1), zB1 HB.out GE101.out⟩
set_option maxHeartbeats 8000000 in
set_option maxRecDepth 100000 in
theorem codewrightref02_Is.calls (k : Nat) (a0_0 : Bool) (A0_1 : Option Addr) (c0_1 : Nat) (l0_1 : List Int) (A0_2 : Option Addr) (c0_2 : Nat) (l0_2 : List Int) (r : Bool) (w : World) (hr0_1 : Kd.C (Kd.int .u32) w A0_1 l0_1.length l0_1) (hc0_1 : l0_1.length ≤ c0_1) (hr0_2 : Kd.C (Kd.int .u32) w A0_2 l0_2.length l0_2) (hc0_2 : l0_2.length ≤ c0_2) (h : codewrightref02_Is.f k a0_0 l0_1 l0_2 = some r) :
    Calls Try.prog 98 #[.agg #[.bool a0_0, .slice A0_1 l0_1.length c0_1, .slice A0_2 l0_2.length c0_2]] w fun e w' => e = .returned (.bool r) ∧ Below w.heap.size w w' := by
 have hu60 := Try.underlying60
 have HR0_1 := Aside0.mk hr0_1
 have HC0_1 := Aside0.mk hc0_1
 clear hr0_1 hc0_1
 have HR0_2 := Aside0.mk hr0_2
 have HC0_2 := Aside0.mk hc0_2
 clear hr0_2 hc0_2
 have HB := Aside0.mk (Below.refl w.heap.size w)
 have H : ((codewrightref02_Trim.f k a0_0 l0_1 l0_2).bind fun bt102 => ((codewrightref02_Same.f k a0_0 l0_1 l0_2 bt102.1 bt102.2.1 bt102.2.2).bind fun t109 => (some t109))) = some r := h
 clear h
 replace H := zb H
 obtain ⟨⟨t102, t103, t106⟩, A2, H⟩ := H
 dsimp only at H
 replace H := zb H
 obtain ⟨t109, A3, H⟩ := H
 obtain rfl := Option.some.inj H
 go_enter Try.func98, Try.ntmps98
 try go_wp2_with (first | ((with_reducible refine gate_dst (N := 1) rfl ?_); refine box_event ?hg (N := 1) ?hd (cs := #[.bool a0_0, .slice A0_1 l0_1.length c0_1, .slice A0_2 l0_2.length c0_2]) (t := 60) ?hr ?_; (case hd => rfl); (case hg => rfl); (case hr => first | (go_simp; done) | (go_simp; rfl)); intro gb101 hg w4 hbox hb; have BK101 := Aside0.mk (hbox); have GW101 := yg hg HB; have GE101 := yg hg HB; replace HB := yS HB hb; clear hb hbox hg))
 replace BK101 := Aside0.mk (blk_drew BK101.out)
 replace HB := Aside0.mk (below_drew1 HB.out)
 refine start_ (n := 5) (S := fun w' => w'.cell? ⟨gb101, 0, none⟩ = some (.bool a0_0) ∧ w'.cell? ⟨gb101, 1, none⟩ = some (.slice A0_1 l0_1.length c0_1) ∧ w'.cell? ⟨gb101, 2, none⟩ = some (.slice A0_2 l0_2.length c0_2)) (ds := []) #[false, false, false, false, false] (by kernel_rfl) rfl rfl ⟨(blk_cell BK101.out 0).trans rfl, (blk_cell BK101.out 1).trans rfl, (blk_cell BK101.out 2).trans rfl⟩ (fun hHeld => ?_)
 generalize w4.drew = w5 at BK101 HB hHeld ⊢
 refine take_ (i := 0) (N := some 3) (v := ?_) (a' := ?_) #[true, false, false, false, false] rfl rfl (by kernel_rfl) (fun _ _ _ h => h) (Or.inl ⟨by rfl, ?_⟩) hHeld ?_ ?_
 rotate_left
 · rintro w' ⟨s0, s1, s2⟩
   go_simp
   with_reducible rfl
 rotate_left
 · simp only [Act.put, List.setIfInBounds_toArray, List.set_cons_zero, List.set_cons_succ, i64_w, i32_w]
   rfl
 refine take_ (i := 1) (N := some 4) (v := ?_) (a' := ?_) #[true, true, false, false, false] rfl rfl (by kernel_rfl) (fun _ _ _ h => h) (Or.inl ⟨by rfl, ?_⟩) hHeld ?_ ?_
 rotate_left
 · rintro w' ⟨s0, s1, s2⟩
   go_simp
   with_reducible rfl
 rotate_left
 · simp only [Act.put, List.setIfInBounds_toArray, List.set_cons_zero, List.set_cons_succ, i64_w, i32_w]
   rfl
 refine one_ (i := 2) (N := some 5) #[true, true, true, false, false] rfl rfl (by kernel_rfl) (by decide) (fun K hK => ?_)
 refine goes_ Try.func99 (by kernel_rfl) rfl #[.agg #[.bool a0_0, .slice A0_1 l0_1.length c0_1, .slice A0_2 l0_2.length c0_2]] (by rfl) rfl rfl (by (try simp only [List.map_toArray, List.map_cons, List.map_nil]); first | done | rfl | (simp only [List.length_drop, List.length_take]; rfl)) ?_
 with_reducible refine (codewrightref02_Trim.calls k a0_0 _ _ l0_1 _ _ l0_2 t102 t103 t106 _ ?side1 ?side2 ?side3 ?side4 A2.out).mono ?_
 (case side1 => exact zC (Kd.C_below HR0_1.out HB.out))
 (case side2 => exact HC0_1.out)
 (case side3 => exact zC (Kd.C_below HR0_2.out HB.out))
 (case side4 => exact HC0_2.out)
 rintro e w6 ⟨v104, v107, rfl, ho0, ho1, hb⟩
 refine ⟨_, rfl, ?_⟩
 have HO105 := yRl1 ho0 HB GE101
 have HO108 := yRl1 ho1 HB GE101
 replace BK101 := yK BK101 hb
 replace HB := yS1 HB GE101 hb
 (try clear hb)
 (try clear hb2)
 (try clear hk)
 (try clear hi)
 (try clear ho0)
 (try clear ho1)
 obtain ⟨Ao7, co7, eo7⟩ := Kd.R_slice HO105.out
 (first | subst eo7 | (injection eo7 with f1_ f2_ f3_; have f4_ := f1_.symm; have f5_ := f3_.symm; clear f1_ f2_ f3_; subst f4_; subst f5_))
 obtain ⟨Ao8, co8, eo8⟩ := Kd.R_slice HO108.out
 (first | subst eo8 | (injection eo8 with f1_ f2_ f3_; have f4_ := f1_.symm; have f5_ := f3_.symm; clear f1_ f2_ f3_; subst f4_; subst f5_))
 refine hK.out _ _ ⟨(blk_cell BK101.out 0).trans rfl, (blk_cell BK101.out 1).trans rfl, (blk_cell BK101.out 2).trans rfl⟩ (fun hHeld => ?_)
 clear hK K
 refine norm_ (a' := ?_) ?_ ?_
 rotate_left
 · show Act.put _ (some 5) _ = _
   simp only [Act.put, List.setIfInBounds_toArray, List.set_cons_zero, List.set_cons_succ, i64_w, i32_w]
   rfl
 refine one_ (i := 3) (N := some 6) #[true, true, true, true, false] rfl rfl (by kernel_rfl) (by decide) (fun K hK => ?_)
 refine goes_ Try.func45 (by kernel_rfl) rfl #[.agg #[.bool a0_0, .slice A0_1 l0_1.length c0_1, .slice A0_2 l0_2.length c0_2], .agg #[.bool t102, .slice Ao7 t103.length co7, .slice Ao8 t106.length co8]] (by rfl) rfl rfl (by (try simp only [List.map_toArray, List.map_cons, List.map_nil]); first | done | rfl | (simp only [List.length_drop, List.length_take]; rfl)) ?_
 with_reducible refine (codewrightref02_Same.calls k a0_0 _ _ l0_1 _ _ l0_2 t102 _ _ t103 _ _ t106 t109 _ ?side1 ?side2 ?side3 ?side4 ?side5 ?side6 ?side7 ?side8 A3.out).mono ?_
 (case side1 => exact zC (Kd.C_below HR0_1.out HB.out))
 (case side2 => exact HC0_1.out)
 (case side3 => exact zC (Kd.C_below HR0_2.out HB.out))
 (case side4 => exact HC0_2.out)
 (case side5 => exact zC (Kd.R_reads' HO105.out).2.2)
 (case side6 => exact (Kd.R_reads' HO105.out).2.1)
 (case side7 => exact zC (Kd.R_reads' HO108.out).2.2)
 (case side8 => exact (Kd.R_reads' HO108.out).2.1)
 rintro e w9 ⟨rfl, hb⟩
 refine ⟨_, rfl, ?_⟩
 replace HO105 := yRb HO105 hb
 replace HO108 := yRb HO108 hb
 replace BK101 := yK BK101 hb
 replace HB := yS1 HB GE101 hb
 (try clear hb)
 (try clear hb2)
 (try clear hk)
 (try clear hi)
 refine hK.out _ _ ⟨(blk_cell BK101.out 0).trans rfl, (blk_cell BK101.out 1).trans rfl, (blk_cell BK101.out 2).trans rfl⟩ (fun hHeld => ?_)
 clear hK K
 refine norm_ (a' := ?_) ?_ ?_
 rotate_left
 · show Act.put _ (some 6) _ = _
   simp only [Act.put, List.setIfInBounds_toArray, List.set_cons_zero, List.set_cons_succ, i64_w, i32_w]
   rfl
 refine pure_ (i := 4) (N := some 2) (v := ?_) (a' := ?_) #[true, true, true, true, true] rfl rfl (by kernel_rfl) (fun _ _ _ h => h) (Or.inl ⟨by rfl, ?_⟩) ?_ ?_
 rotate_left
 · intro w'
   go_simp
   with_reducible rfl
 rotate_left
 · simp only [Act.put, List.setIfInBounds_toArray, List.set_cons_zero, List.set_cons_succ, i64_w, i32_w]
   rfl
 refine done_ (by kernel_rfl) ?_
 try go_wp2
 go_ret
 exact ⟨zE, zB1 HB.out GE101.out⟩
def codewrightlaw24_k.T2 : Bool × List (List Nat × List Nat) := (true, [([], []), ([], []), ([1], [1]), ([2], [2]), ([3], [3]), ([4, 3, 3], [3, 4]), ([3, 5], [3, 5]), ([0, 5, 0], [0]), ([6, 7, 0, 1, 2, 3, 4, 5, 6, 7], [6])])
def codewrightlaw24_k.B2 : List Nat := [0, 0, 2, 6, 14, 30, 62, 63, 255]
theorem codewrightlaw24_k.tab2 : rtab .any (opsOf Try.f49 2) = codewrightlaw24_k.T2 := by kernel_rfl
theorem codewrightlaw24_k.bits2 : waitsOk codewrightlaw24_k.T2.2 codewrightlaw24_k.B2 = true := by kernel_rfl
set_option maxHeartbeats 8000000 in
set_option maxRecDepth 100000 in
theorem codewrightlaw24_k.calls (k : Nat) (a0 : Int) (a1 : Int) (a2 : Int) (a3 : Int) (r1 : Bool) (r2 : List Int) (r3 : List Int) (r4 : Bool) (w : World) (h : codewrightlaw24_k.f k a0 a1 a2 a3 = some (r1, r2, r3, r4)) :
    Calls Try.prog 49 #[.int .i64 a0, .int .i64 a1, .int .i64 a2, .int .i64 a3] w fun e w' => ∃ v1_ v2_ : Value, e = .returned (.tuple #[.agg #[.bool r1, v1_, v2_], .bool r4]) ∧ Kd.V (Kd.int .u32) 97 w' w.heap.size (fun k_ => (w.heap.size ≤ k_)) v1_ r2 ∧ Kd.V (Kd.int .u32) 97 w' w.heap.size (fun k_ => (w.heap.size ≤ k_)) v2_ r3 ∧ Below w.heap.size w w' := by
 have hu60 := Try.underlying60
 have HB := Aside0.mk (Below.refl w.heap.size w)
 have H : ((macwilliams_Krawtchouk.f k a0 a1 a2 a3).bind fun bt102 => (if bt102.2.2.2 = 0 then ((codewrightref02_Is.f k bt102.1 bt102.2.1 bt102.2.2.1).bind fun t111 => (some (bt102.1, bt102.2.1, bt102.2.2.1, t111))) else (some (bt102.1, bt102.2.1, bt102.2.2.1, false)))) = some (r1, r2, r3, r4) := h
 clear h
 replace H := zb H
 obtain ⟨⟨t102, t103, t106, t109⟩, A5, H⟩ := H
 dsimp only at H
 replace H := zi H
 rcases H with ⟨c6, H⟩ | ⟨c6, H⟩
 · have c6b0 := beq_iff_eq.mpr c6
   have c6b1 := bne_eq_false_iff_eq.mpr c6
   clear c6
   replace H := zb H
   obtain ⟨t111, A7, H⟩ := H
   simp only [Option.some.injEq, Prod.mk.injEq] at H
   obtain ⟨rfl, rfl, rfl, rfl⟩ := H
   go_enter Try.func49, Try.ntmps49
   try go_wp2_with (first | ((with_reducible refine gate_dst (N := 8) rfl ?_); refine box_event ?hg (N := 8) ?hd (cs := #[.bool false, .slice none 0 0, .slice none 0 0]) (t := 60) ?hr ?_; (case hd => rfl); (case hg => rfl); (case hr => first | (go_simp; done) | (go_simp; rfl)); intro gb101 hg w8 hbox hb; have BK101 := Aside0.mk (hbox); have GW101 := yg hg HB; have GE101 := yg hg HB; replace HB := yS HB hb; clear hb hbox hg) | ((with_reducible refine gate_callee (f := 42) rfl ?_); refine zG (some 17) Try.func42 #[.int .i64 a0, .int .i64 a1, .int .i64 a2, .int .i64 a3] ?_; (with_reducible refine (macwilliams_Krawtchouk.calls k a0 a1 a2 a3 t102 t103 t106 t109 _ A5.out).mono ?_); rintro e w9 ⟨v104, v107, rfl, ho0, ho1, hb⟩; refine ⟨_, rfl, ?_⟩; have HO105 := Aside0.mk (Kd.V_lower (Kd.V_mono (ok' := fun k_ => (w.heap.size ≤ k_) ∧ k_ ≠ gb101) ho0 (fun k_ hk_ => ⟨(Nat.le_trans (below_size (zB1 HB.out GE101.out)) hk_), (Kd.freshB (g := gb101) (o := .cells #[.bool false, .slice none 0 0, .slice none 0 0] 60 (0, 0)) (by (with_reducible repeat (first | refine blk_drewN ?_ _ | refine blk_drew ?_ | refine blk_alloc ?_ _)); exact BK101.out) k_ hk_)⟩)) (below_size (zB1 HB.out GE101.out))); have HO108 := Aside0.mk (Kd.V_lower (Kd.V_mono (ok' := fun k_ => (w.heap.size ≤ k_) ∧ k_ ≠ gb101) ho1 (fun k_ hk_ => ⟨(Nat.le_trans (below_size (zB1 HB.out GE101.out)) hk_), (Kd.freshB (g := gb101) (o := .cells #[.bool false, .slice none 0 0, .slice none 0 0] 60 (0, 0)) (by (with_reducible repeat (first | refine blk_drewN ?_ _ | refine blk_drew ?_ | refine blk_alloc ?_ _)); exact BK101.out) k_ hk_)⟩)) (below_size (zB1 HB.out GE101.out))); replace BK101 := yK BK101 hb; replace HB := yS1 HB GE101 hb; (try clear hb ho0); (try clear ho1)) | ((with_reducible refine gate_dst (N := 10) rfl ?_); refine box_event ?hg (N := 10) ?hd (cs := #[.bool false, .slice none 0 0, .slice none 0 0]) (t := 60) ?hr ?_; (case hd => rfl); (case hg => rfl); (case hr => first | (go_simp; done) | (go_simp; rfl)); intro gb110 hg w10 hbox hb; replace HO105 := yVB HO105 hg hb; replace HO108 := yVB HO108 hg hb; have BK110 := Aside0.mk (hbox); have GW110 := yg1 hg HB GE101; have GE110 := yg1 hg HB GE101; replace HB := yS1 HB GE101 hb; have NB101_110 := ynl hg BK101; have NB110_101 := yng hg BK101; replace BK101 := yK BK101 hb; clear hb hbox hg; have hnb11 := NB110_101.out; have hnc11 := NB101_110.out; have hcz12_0 : w10.cell? ⟨gb110, 0, none⟩ = some (.bool false) := (blk_cell BK110.out 0).trans rfl; have hcz12_1 : w10.cell? ⟨gb110, 1, none⟩ = some (.slice none 0 0) := (blk_cell BK110.out 1).trans rfl; have hcz12_2 : w10.cell? ⟨gb110, 2, none⟩ = some (.slice none 0 0) := (blk_cell BK110.out 2).trans rfl; have hfz12_0 := blk_frozen BK110.out 0; have hfz12_1 := blk_frozen BK110.out 1; have hfz12_2 := blk_frozen BK110.out 2; obtain ⟨Ao13, co13, rfl⟩ := Kd.V_slice HO105.out; obtain ⟨Ao14, co14, rfl⟩ := Kd.V_slice HO108.out))
   have n0_ : Aside0 (Kd.V (Kd.int .u32) 97 (((w10.setCell ⟨gb110, 0, none⟩ (.bool t102)).setCell ⟨gb110, 1, none⟩ (.slice Ao13 t103.length co13)).setCell ⟨gb110, 2, none⟩ (.slice Ao14 t106.length co14)) w.heap.size (fun k_ => (w.heap.size ≤ k_) ∧ k_ ≠ gb101 ∧ k_ ≠ gb110) (.slice Ao13 t103.length co13) t103) := ⟨by (with_reducible repeat (first | apply Kd.V_alloc | apply Kd.V_drewN | apply Kd.V_drew)); exact Kd.V_mono (Kd.V_far (p := ⟨gb110, 2, none⟩) (Kd.V_far (p := ⟨gb110, 1, none⟩) (Kd.V_far (p := ⟨gb110, 0, none⟩) (Kd.V_mono HO105.out (fun k_ hk => (⟨hk, hk.2⟩ : _ ∧ k_ ≠ gb110))) (fun _ hk => hk.2) (.bool t102)) (fun _ hk => hk.2) (.slice Ao13 t103.length co13)) (fun _ hk => hk.2) (.slice Ao14 t106.length co14)) (fun _ hk => ⟨hk.1.1.1, ⟨hk.1.1.2, hk.1.2⟩⟩)⟩
   have n1_ : Aside0 (Kd.V (Kd.int .u32) 97 (((w10.setCell ⟨gb110, 0, none⟩ (.bool t102)).setCell ⟨gb110, 1, none⟩ (.slice Ao13 t103.length co13)).setCell ⟨gb110, 2, none⟩ (.slice Ao14 t106.length co14)) w.heap.size (fun k_ => (w.heap.size ≤ k_) ∧ k_ ≠ gb101 ∧ k_ ≠ gb110) (.slice Ao14 t106.length co14) t106) := ⟨by (with_reducible repeat (first | apply Kd.V_alloc | apply Kd.V_drewN | apply Kd.V_drew)); exact Kd.V_mono (Kd.V_far (p := ⟨gb110, 2, none⟩) (Kd.V_far (p := ⟨gb110, 1, none⟩) (Kd.V_far (p := ⟨gb110, 0, none⟩) (Kd.V_mono HO108.out (fun k_ hk => (⟨hk, hk.2⟩ : _ ∧ k_ ≠ gb110))) (fun _ hk => hk.2) (.bool t102)) (fun _ hk => hk.2) (.slice Ao13 t103.length co13)) (fun _ hk => hk.2) (.slice Ao14 t106.length co14)) (fun _ hk => ⟨hk.1.1.1, ⟨hk.1.1.2, hk.1.2⟩⟩)⟩
   have n2_ : Aside0 ((((w10.setCell ⟨gb110, 0, none⟩ (.bool t102)).setCell ⟨gb110, 1, none⟩ (.slice Ao13 t103.length co13)).setCell ⟨gb110, 2, none⟩ (.slice Ao14 t106.length co14)).heap[gb101]? = some (.cells #[.bool false, .slice none 0 0, .slice none 0 0] 60 (0, 0))) := ⟨by (with_reducible repeat (first | refine blk_drewN ?_ _ | refine blk_drew ?_ | refine blk_alloc ?_ _)); refine blk_far ?_ NB101_110.out _; (with_reducible repeat (first | refine blk_drewN ?_ _ | refine blk_drew ?_ | refine blk_alloc ?_ _)); refine blk_far ?_ NB101_110.out _; (with_reducible repeat (first | refine blk_drewN ?_ _ | refine blk_drew ?_ | refine blk_alloc ?_ _)); refine blk_far ?_ NB101_110.out _; (with_reducible repeat (first | refine blk_drewN ?_ _ | refine blk_drew ?_ | refine blk_alloc ?_ _)); exact BK101.out⟩
   have n3_ : Aside0 ((((w10.setCell ⟨gb110, 0, none⟩ (.bool t102)).setCell ⟨gb110, 1, none⟩ (.slice Ao13 t103.length co13)).setCell ⟨gb110, 2, none⟩ (.slice Ao14 t106.length co14)).heap[gb110]? = some (.cells #[.bool t102, .slice Ao13 t103.length co13, .slice Ao14 t106.length co14] 60 (0, 0))) := ⟨by (with_reducible repeat (first | refine blk_drewN ?_ _ | refine blk_drew ?_ | refine blk_alloc ?_ _)); refine blk_put (cs := #[.bool t102, .slice Ao13 t103.length co13, .slice none 0 0]) ?_ 2 _ rfl; (with_reducible repeat (first | refine blk_drewN ?_ _ | refine blk_drew ?_ | refine blk_alloc ?_ _)); refine blk_put (cs := #[.bool t102, .slice none 0 0, .slice none 0 0]) ?_ 1 _ rfl; (with_reducible repeat (first | refine blk_drewN ?_ _ | refine blk_drew ?_ | refine blk_alloc ?_ _)); refine blk_put (cs := #[.bool false, .slice none 0 0, .slice none 0 0]) ?_ 0 _ rfl; (with_reducible repeat (first | refine blk_drewN ?_ _ | refine blk_drew ?_ | refine blk_alloc ?_ _)); exact BK110.out⟩
   have n4_ : Aside0 (Below w.heap.size w (((w10.setCell ⟨gb110, 0, none⟩ (.bool t102)).setCell ⟨gb110, 1, none⟩ (.slice Ao13 t103.length co13)).setCell ⟨gb110, 2, none⟩ (.slice Ao14 t106.length co14))) := ⟨zB2 HB.out GE101.out GE110.out⟩
   (try clear HO105)
   (try clear HO108)
   (try clear BK101)
   (try clear BK110)
   (try clear HB)
   generalize (((w10.setCell ⟨gb110, 0, none⟩ (.bool t102)).setCell ⟨gb110, 1, none⟩ (.slice Ao13 t103.length co13)).setCell ⟨gb110, 2, none⟩ (.slice Ao14 t106.length co14)) = w15 at n0_ n1_ n2_ n3_ n4_ ⊢
   have HO105 := n0_
   have HO108 := n1_
   have BK101 := n2_
   have BK110 := n3_
   have HB := n4_
   clear n0_ n1_ n2_ n3_ n4_
   replace HO105 := Aside0.mk (Kd.V_drew HO105.out)
   replace HO108 := Aside0.mk (Kd.V_drew HO108.out)
   replace BK101 := Aside0.mk (blk_drew BK101.out)
   replace BK110 := Aside0.mk (blk_drew BK110.out)
   replace HB := Aside0.mk (below_drew1 HB.out)
   refine start_ (n := 9) (S := fun w' => w'.cell? ⟨gb110, 0, none⟩ = some (.bool t102) ∧ w'.cell? ⟨gb110, 1, none⟩ = some (.slice Ao13 t103.length co13) ∧ w'.cell? ⟨gb110, 2, none⟩ = some (.slice Ao14 t106.length co14)) (ds := []) #[false, false, false, false, false, false, false, false, false] (by kernel_rfl) rfl rfl ⟨(blk_cell BK110.out 0).trans rfl, (blk_cell BK110.out 1).trans rfl, (blk_cell BK110.out 2).trans rfl⟩ (fun hHeld => ?_); refine with_tabW codewrightlaw24_k.tab2 codewrightlaw24_k.bits2 (fun HT_ HW_ => ?_)
   generalize w15.drew = w16 at HO105 HO108 BK101 BK110 HB hHeld ⊢
   refine zp (i := 1) (N := some 21) HT_ ?_
   refine zp (i := 2) (N := some 22) HT_ ?_
   refine zp (i := 3) (N := some 23) HT_ ?_
   refine take_ (i := 0) (N := some 20) (v := ?_) (a' := ?_) #[true, true, true, true, false, false, false, false, false] rfl rfl (take_ofW HT_.out HW_.out (by kernel_rfl)) (fun _ _ _ h => h) (Or.inl ⟨by rfl, ?_⟩) hHeld ?_ ?_
   rotate_left
   · rintro w' ⟨s0, s1, s2⟩
     go_simp
     with_reducible rfl
   rotate_left
   · simp only [Act.put, List.setIfInBounds_toArray, List.set_cons_zero, List.set_cons_succ, i64_w, i32_w]
     rfl
   refine take_ (i := 4) (N := some 24) (v := ?_) (a' := ?_) #[true, true, true, true, true, false, false, false, false] rfl rfl (take_ofW HT_.out HW_.out (by kernel_rfl)) (fun _ _ _ h => h) (Or.inl ⟨by rfl, ?_⟩) hHeld ?_ ?_
   rotate_left
   · rintro w' ⟨s0, s1, s2⟩
     go_simp
     with_reducible rfl
   rotate_left
   · simp only [Act.put, List.setIfInBounds_toArray, List.set_cons_zero, List.set_cons_succ, i64_w, i32_w]
     rfl
   refine one_ (i := 5) (N := some 25) #[true, true, true, true, true, true, false, false, false] rfl rfl (one_of HT_.out (by kernel_rfl)) (by decide) (fun K hK => ?_)
   refine goes_ Try.func98 (by kernel_rfl) rfl #[.agg #[.bool t102, .slice Ao13 t103.length co13, .slice Ao14 t106.length co14]] (by rfl) rfl rfl (by (try simp only [List.map_toArray, List.map_cons, List.map_nil]); first | done | rfl | (simp only [List.length_drop, List.length_take]; rfl)) ?_
   with_reducible refine (codewrightref02_Is.calls k t102 _ _ t103 _ _ t106 t111 _ ?side1 ?side2 ?side3 ?side4 A7.out).mono ?_
   (case side1 => exact zC (Kd.V_reads' HO105.out).2.2)
   (case side2 => exact (Kd.V_reads' HO105.out).2.1)
   (case side3 => exact zC (Kd.V_reads' HO108.out).2.2)
   (case side4 => exact (Kd.V_reads' HO108.out).2.1)
   rintro e w17 ⟨rfl, hb⟩
   refine ⟨_, rfl, ?_⟩
   replace HO105 := yVb HO105 hb
   replace HO108 := yVb HO108 hb
   replace BK101 := yK BK101 hb
   replace BK110 := yK BK110 hb
   replace HB := yS2 HB GE101 GE110 hb
   (try clear hb)
   (try clear hb2)
   (try clear hk)
   (try clear hi)
   refine hK.out _ _ ⟨(blk_cell BK110.out 0).trans rfl, (blk_cell BK110.out 1).trans rfl, (blk_cell BK110.out 2).trans rfl⟩ (fun hHeld => ?_)
   clear hK K
   refine norm_ (a' := ?_) ?_ ?_
   rotate_left
   · show Act.put _ (some 25) _ = _
     simp only [Act.put, List.setIfInBounds_toArray, List.set_cons_zero, List.set_cons_succ, i64_w, i32_w]
     rfl
   refine zp (i := 6) (N := some 26) HT_ ?_
   refine one_ (i := 7) (N := none) #[true, true, true, true, true, true, true, true, false] rfl rfl (one_of HT_.out (by kernel_rfl)) (by decide) (fun K hK => ?_)
   have hs18 : w17.cell? ⟨gb101, 0, none⟩ = some (.bool false) := (blk_cell BK101.out 0).trans rfl
   have hfs18 := blk_frozen BK101.out 0
   have hns18_1 := NB110_101.out
   have hms18_1 := NB101_110.out
   have hs19 : w17.cell? ⟨gb101, 1, none⟩ = some (.slice none 0 0) := (blk_cell BK101.out 1).trans rfl
   have hfs19 := blk_frozen BK101.out 1
   have hns19_1 := NB110_101.out
   have hms19_1 := NB101_110.out
   have hs20 : w17.cell? ⟨gb101, 2, none⟩ = some (.slice none 0 0) := (blk_cell BK101.out 2).trans rfl
   have hfs20 := blk_frozen BK101.out 2
   have hns20_1 := NB110_101.out
   have hms20_1 := NB101_110.out
   refine skip_ (w1 := ?_) (by rfl) rfl ?_ ?_
   rotate_left
   · go_simp
     rfl
   refine hK.out _ _ ⟨((cell_far (p := ⟨gb101, _, none⟩) NB110_101.out _).trans (((cell_far (p := ⟨gb101, _, none⟩) NB110_101.out _).trans (((cell_far (p := ⟨gb101, _, none⟩) NB110_101.out _).trans (hHeld.1)))))), ((cell_far (p := ⟨gb101, _, none⟩) NB110_101.out _).trans (((cell_far (p := ⟨gb101, _, none⟩) NB110_101.out _).trans (((cell_far (p := ⟨gb101, _, none⟩) NB110_101.out _).trans (hHeld.2.1)))))), ((cell_far (p := ⟨gb101, _, none⟩) NB110_101.out _).trans (((cell_far (p := ⟨gb101, _, none⟩) NB110_101.out _).trans (((cell_far (p := ⟨gb101, _, none⟩) NB110_101.out _).trans (hHeld.2.2))))))⟩ (fun hHeld => ?_)
   clear hK K
   refine zp (i := 8) (N := some 9) HT_ ?_
   refine done_ (done_of HT_.out (by kernel_rfl)) ?_
   try go_wp2
   refine bodyPost_ret (results_ct rfl _ _ gb101 60 #[.bool t102, .slice Ao13 t103.length co13, .slice Ao14 t106.length co14] (0, 0) _ rfl (by (with_reducible repeat (first | refine blk_drewN ?_ _ | refine blk_drew ?_ | refine blk_alloc ?_ _)); refine blk_put (cs := #[.bool t102, .slice Ao13 t103.length co13, .slice none 0 0]) ?_ 2 _ rfl; (with_reducible repeat (first | refine blk_drewN ?_ _ | refine blk_drew ?_ | refine blk_alloc ?_ _)); refine blk_put (cs := #[.bool t102, .slice none 0 0, .slice none 0 0]) ?_ 1 _ rfl; (with_reducible repeat (first | refine blk_drewN ?_ _ | refine blk_drew ?_ | refine blk_alloc ?_ _)); refine blk_put (cs := #[.bool false, .slice none 0 0, .slice none 0 0]) ?_ 0 _ rfl; (with_reducible repeat (first | refine blk_drewN ?_ _ | refine blk_drew ?_ | refine blk_alloc ?_ _)); exact BK101.out) Try.underlying60 rfl (by kernel_rfl)) rfl ?_
   exact ⟨_, _, zE, by (with_reducible repeat (first | apply Kd.V_alloc | apply Kd.V_drewN | apply Kd.V_drew)); exact Kd.V_mono (Kd.V_far (p := ⟨gb101, 2, none⟩) (Kd.V_far (p := ⟨gb101, 1, none⟩) (Kd.V_far (p := ⟨gb101, 0, none⟩) (Kd.V_mono HO105.out (fun k_ hk => (⟨hk, hk.2.1⟩ : _ ∧ k_ ≠ gb101))) (fun _ hk => hk.2) (.bool t102)) (fun _ hk => hk.2) (.slice Ao13 t103.length co13)) (fun _ hk => hk.2) (.slice Ao14 t106.length co14)) (fun _ hk => hk.1.1), by (with_reducible repeat (first | apply Kd.V_alloc | apply Kd.V_drewN | apply Kd.V_drew)); exact Kd.V_mono (Kd.V_far (p := ⟨gb101, 2, none⟩) (Kd.V_far (p := ⟨gb101, 1, none⟩) (Kd.V_far (p := ⟨gb101, 0, none⟩) (Kd.V_mono HO108.out (fun k_ hk => (⟨hk, hk.2.1⟩ : _ ∧ k_ ≠ gb101))) (fun _ hk => hk.2) (.bool t102)) (fun _ hk => hk.2) (.slice Ao13 t103.length co13)) (fun _ hk => hk.2) (.slice Ao14 t106.length co14)) (fun _ hk => hk.1.1), zB2 HB.out GE101.out GE110.out⟩
 have c6b0 := beq_eq_false_iff_ne.mpr c6
 have c6b1 := bne_iff_ne.mpr c6
 simp only [Option.some.injEq, Prod.mk.injEq] at H
 obtain ⟨rfl, rfl, rfl, rfl⟩ := H
 go_enter Try.func49, Try.ntmps49
 try go_wp2_with (first | ((with_reducible refine gate_dst (N := 8) rfl ?_); refine box_event ?hg (N := 8) ?hd (cs := #[.bool false, .slice none 0 0, .slice none 0 0]) (t := 60) ?hr ?_; (case hd => rfl); (case hg => rfl); (case hr => first | (go_simp; done) | (go_simp; rfl)); intro gb101 hg w21 hbox hb; have BK101 := Aside0.mk (hbox); have GW101 := yg hg HB; have GE101 := yg hg HB; replace HB := yS HB hb; clear hb hbox hg) | ((with_reducible refine gate_callee (f := 42) rfl ?_); refine zG (some 17) Try.func42 #[.int .i64 a0, .int .i64 a1, .int .i64 a2, .int .i64 a3] ?_; (with_reducible refine (macwilliams_Krawtchouk.calls k a0 a1 a2 a3 t102 t103 t106 t109 _ A5.out).mono ?_); rintro e w22 ⟨v104, v107, rfl, ho0, ho1, hb⟩; refine ⟨_, rfl, ?_⟩; have HO105 := Aside0.mk (Kd.V_lower (Kd.V_mono (ok' := fun k_ => (w.heap.size ≤ k_) ∧ k_ ≠ gb101) ho0 (fun k_ hk_ => ⟨(Nat.le_trans (below_size (zB1 HB.out GE101.out)) hk_), (Kd.freshB (g := gb101) (o := .cells #[.bool false, .slice none 0 0, .slice none 0 0] 60 (0, 0)) (by (with_reducible repeat (first | refine blk_drewN ?_ _ | refine blk_drew ?_ | refine blk_alloc ?_ _)); exact BK101.out) k_ hk_)⟩)) (below_size (zB1 HB.out GE101.out))); have HO108 := Aside0.mk (Kd.V_lower (Kd.V_mono (ok' := fun k_ => (w.heap.size ≤ k_) ∧ k_ ≠ gb101) ho1 (fun k_ hk_ => ⟨(Nat.le_trans (below_size (zB1 HB.out GE101.out)) hk_), (Kd.freshB (g := gb101) (o := .cells #[.bool false, .slice none 0 0, .slice none 0 0] 60 (0, 0)) (by (with_reducible repeat (first | refine blk_drewN ?_ _ | refine blk_drew ?_ | refine blk_alloc ?_ _)); exact BK101.out) k_ hk_)⟩)) (below_size (zB1 HB.out GE101.out))); replace BK101 := yK BK101 hb; replace HB := yS1 HB GE101 hb; (try clear hb ho0); (try clear ho1)) | ((with_reducible refine gate_dst (N := 10) rfl ?_); refine box_event ?hg (N := 10) ?hd (cs := #[.bool false, .slice none 0 0, .slice none 0 0]) (t := 60) ?hr ?_; (case hd => rfl); (case hg => rfl); (case hr => first | (go_simp; done) | (go_simp; rfl)); intro gb110 hg w23 hbox hb; replace HO105 := yVB HO105 hg hb; replace HO108 := yVB HO108 hg hb; have BK110 := Aside0.mk (hbox); have GW110 := yg1 hg HB GE101; have GE110 := yg1 hg HB GE101; replace HB := yS1 HB GE101 hb; have NB101_110 := ynl hg BK101; have NB110_101 := yng hg BK101; replace BK101 := yK BK101 hb; clear hb hbox hg; have hnb24 := NB110_101.out; have hnc24 := NB101_110.out; have hcz25_0 : w23.cell? ⟨gb110, 0, none⟩ = some (.bool false) := (blk_cell BK110.out 0).trans rfl; have hcz25_1 : w23.cell? ⟨gb110, 1, none⟩ = some (.slice none 0 0) := (blk_cell BK110.out 1).trans rfl; have hcz25_2 : w23.cell? ⟨gb110, 2, none⟩ = some (.slice none 0 0) := (blk_cell BK110.out 2).trans rfl; have hfz25_0 := blk_frozen BK110.out 0; have hfz25_1 := blk_frozen BK110.out 1; have hfz25_2 := blk_frozen BK110.out 2; obtain ⟨Ao26, co26, rfl⟩ := Kd.V_slice HO105.out; obtain ⟨Ao27, co27, rfl⟩ := Kd.V_slice HO108.out))
 have n0_ : Aside0 (Kd.V (Kd.int .u32) 97 (((w23.setCell ⟨gb110, 0, none⟩ (.bool t102)).setCell ⟨gb110, 1, none⟩ (.slice Ao26 t103.length co26)).setCell ⟨gb110, 2, none⟩ (.slice Ao27 t106.length co27)) w.heap.size (fun k_ => (w.heap.size ≤ k_) ∧ k_ ≠ gb101 ∧ k_ ≠ gb110) (.slice Ao26 t103.length co26) t103) := ⟨by (with_reducible repeat (first | apply Kd.V_alloc | apply Kd.V_drewN | apply Kd.V_drew)); exact Kd.V_mono (Kd.V_far (p := ⟨gb110, 2, none⟩) (Kd.V_far (p := ⟨gb110, 1, none⟩) (Kd.V_far (p := ⟨gb110, 0, none⟩) (Kd.V_mono HO105.out (fun k_ hk => (⟨hk, hk.2⟩ : _ ∧ k_ ≠ gb110))) (fun _ hk => hk.2) (.bool t102)) (fun _ hk => hk.2) (.slice Ao26 t103.length co26)) (fun _ hk => hk.2) (.slice Ao27 t106.length co27)) (fun _ hk => ⟨hk.1.1.1, ⟨hk.1.1.2, hk.1.2⟩⟩)⟩
 have n1_ : Aside0 (Kd.V (Kd.int .u32) 97 (((w23.setCell ⟨gb110, 0, none⟩ (.bool t102)).setCell ⟨gb110, 1, none⟩ (.slice Ao26 t103.length co26)).setCell ⟨gb110, 2, none⟩ (.slice Ao27 t106.length co27)) w.heap.size (fun k_ => (w.heap.size ≤ k_) ∧ k_ ≠ gb101 ∧ k_ ≠ gb110) (.slice Ao27 t106.length co27) t106) := ⟨by (with_reducible repeat (first | apply Kd.V_alloc | apply Kd.V_drewN | apply Kd.V_drew)); exact Kd.V_mono (Kd.V_far (p := ⟨gb110, 2, none⟩) (Kd.V_far (p := ⟨gb110, 1, none⟩) (Kd.V_far (p := ⟨gb110, 0, none⟩) (Kd.V_mono HO108.out (fun k_ hk => (⟨hk, hk.2⟩ : _ ∧ k_ ≠ gb110))) (fun _ hk => hk.2) (.bool t102)) (fun _ hk => hk.2) (.slice Ao26 t103.length co26)) (fun _ hk => hk.2) (.slice Ao27 t106.length co27)) (fun _ hk => ⟨hk.1.1.1, ⟨hk.1.1.2, hk.1.2⟩⟩)⟩
 have n2_ : Aside0 ((((w23.setCell ⟨gb110, 0, none⟩ (.bool t102)).setCell ⟨gb110, 1, none⟩ (.slice Ao26 t103.length co26)).setCell ⟨gb110, 2, none⟩ (.slice Ao27 t106.length co27)).heap[gb101]? = some (.cells #[.bool false, .slice none 0 0, .slice none 0 0] 60 (0, 0))) := ⟨by (with_reducible repeat (first | refine blk_drewN ?_ _ | refine blk_drew ?_ | refine blk_alloc ?_ _)); refine blk_far ?_ NB101_110.out _; (with_reducible repeat (first | refine blk_drewN ?_ _ | refine blk_drew ?_ | refine blk_alloc ?_ _)); refine blk_far ?_ NB101_110.out _; (with_reducible repeat (first | refine blk_drewN ?_ _ | refine blk_drew ?_ | refine blk_alloc ?_ _)); refine blk_far ?_ NB101_110.out _; (with_reducible repeat (first | refine blk_drewN ?_ _ | refine blk_drew ?_ | refine blk_alloc ?_ _)); exact BK101.out⟩
 have n3_ : Aside0 ((((w23.setCell ⟨gb110, 0, none⟩ (.bool t102)).setCell ⟨gb110, 1, none⟩ (.slice Ao26 t103.length co26)).setCell ⟨gb110, 2, none⟩ (.slice Ao27 t106.length co27)).heap[gb110]? = some (.cells #[.bool t102, .slice Ao26 t103.length co26, .slice Ao27 t106.length co27] 60 (0, 0))) := ⟨by (with_reducible repeat (first | refine blk_drewN ?_ _ | refine blk_drew ?_ | refine blk_alloc ?_ _)); refine blk_put (cs := #[.bool t102, .slice Ao26 t103.length co26, .slice none 0 0]) ?_ 2 _ rfl; (with_reducible repeat (first | refine blk_drewN ?_ _ | refine blk_drew ?_ | refine blk_alloc ?_ _)); refine blk_put (cs := #[.bool t102, .slice none 0 0, .slice none 0 0]) ?_ 1 _ rfl; (with_reducible repeat (first | refine blk_drewN ?_ _ | refine blk_drew ?_ | refine blk_alloc ?_ _)); refine blk_put (cs := #[.bool false, .slice none 0 0, .slice none 0 0]) ?_ 0 _ rfl; (with_reducible repeat (first | refine blk_drewN ?_ _ | refine blk_drew ?_ | refine blk_alloc ?_ _)); exact BK110.out⟩
 have n4_ : Aside0 (Below w.heap.size w (((w23.setCell ⟨gb110, 0, none⟩ (.bool t102)).setCell ⟨gb110, 1, none⟩ (.slice Ao26 t103.length co26)).setCell ⟨gb110, 2, none⟩ (.slice Ao27 t106.length co27))) := ⟨zB2 HB.out GE101.out GE110.out⟩
 (try clear HO105)
 (try clear HO108)
 (try clear BK101)
 (try clear BK110)
 (try clear HB)
 generalize (((w23.setCell ⟨gb110, 0, none⟩ (.bool t102)).setCell ⟨gb110, 1, none⟩ (.slice Ao26 t103.length co26)).setCell ⟨gb110, 2, none⟩ (.slice Ao27 t106.length co27)) = w28 at n0_ n1_ n2_ n3_ n4_ ⊢
 have HO105 := n0_
 have HO108 := n1_
 have BK101 := n2_
 have BK110 := n3_
 have HB := n4_
 clear n0_ n1_ n2_ n3_ n4_
 replace HO105 := Aside0.mk (Kd.V_drew HO105.out)
 replace HO108 := Aside0.mk (Kd.V_drew HO108.out)
 replace BK101 := Aside0.mk (blk_drew BK101.out)
 replace BK110 := Aside0.mk (blk_drew BK110.out)
 replace HB := Aside0.mk (below_drew1 HB.out)
 refine start_ (n := 9) (S := fun w' => w'.cell? ⟨gb110, 0, none⟩ = some (.bool t102) ∧ w'.cell? ⟨gb110, 1, none⟩ = some (.slice Ao26 t103.length co26) ∧ w'.cell? ⟨gb110, 2, none⟩ = some (.slice Ao27 t106.length co27)) (ds := []) #[false, false, false, false, false, false, false, false, false] (by kernel_rfl) rfl rfl ⟨(blk_cell BK110.out 0).trans rfl, (blk_cell BK110.out 1).trans rfl, (blk_cell BK110.out 2).trans rfl⟩ (fun hHeld => ?_); refine with_tabW codewrightlaw24_k.tab2 codewrightlaw24_k.bits2 (fun HT_ HW_ => ?_)
 generalize w28.drew = w29 at HO105 HO108 BK101 BK110 HB hHeld ⊢
 refine zp (i := 1) (N := some 21) HT_ ?_
 refine zp (i := 2) (N := some 22) HT_ ?_
 refine zp (i := 3) (N := some 23) HT_ ?_
 refine pure_ (i := 4) (N := some 24) (v := undef) (a' := ?_) #[false, true, true, true, true, false, false, false, false] rfl rfl (any_of HT_.out (by kernel_rfl)) (fun _ _ _ h => h) (Or.inr ⟨by rfl, rfl⟩) ?_ ?_
 rotate_left
 · simp only [Act.put, List.setIfInBounds_toArray, List.set_cons_zero, List.set_cons_succ, i64_w, i32_w]
   rfl
 refine pure_ (i := 5) (N := some 25) (v := undef) (a' := ?_) #[false, true, true, true, true, true, false, false, false] rfl rfl (any_of HT_.out (by kernel_rfl)) (fun _ _ _ h => h) (Or.inr ⟨by rfl, rfl⟩) ?_ ?_
 rotate_left
 · simp only [Act.put, List.setIfInBounds_toArray, List.set_cons_zero, List.set_cons_succ, i64_w, i32_w]
   rfl
 refine zp (i := 6) (N := some 26) HT_ ?_
 refine take_ (i := 0) (N := some 20) (v := ?_) (a' := ?_) #[true, true, true, true, true, true, true, false, false] rfl rfl (take_ofW HT_.out HW_.out (by kernel_rfl)) (fun _ _ _ h => h) (Or.inl ⟨by rfl, ?_⟩) hHeld ?_ ?_
 rotate_left
 · rintro w' ⟨s0, s1, s2⟩
   go_simp
   with_reducible rfl
 rotate_left
 · simp only [Act.put, List.setIfInBounds_toArray, List.set_cons_zero, List.set_cons_succ, i64_w, i32_w]
   rfl
 refine one_ (i := 7) (N := none) #[true, true, true, true, true, true, true, true, false] rfl rfl (one_of HT_.out (by kernel_rfl)) (by decide) (fun K hK => ?_)
 have hs30 : w29.cell? ⟨gb101, 0, none⟩ = some (.bool false) := (blk_cell BK101.out 0).trans rfl
 have hfs30 := blk_frozen BK101.out 0
 have hns30_1 := NB110_101.out
 have hms30_1 := NB101_110.out
 have hs31 : w29.cell? ⟨gb101, 1, none⟩ = some (.slice none 0 0) := (blk_cell BK101.out 1).trans rfl
 have hfs31 := blk_frozen BK101.out 1
 have hns31_1 := NB110_101.out
 have hms31_1 := NB101_110.out
 have hs32 : w29.cell? ⟨gb101, 2, none⟩ = some (.slice none 0 0) := (blk_cell BK101.out 2).trans rfl
 have hfs32 := blk_frozen BK101.out 2
 have hns32_1 := NB110_101.out
 have hms32_1 := NB101_110.out
 refine skip_ (w1 := ?_) (by rfl) rfl ?_ ?_
 rotate_left
 · go_simp
   rfl
 refine hK.out _ _ ⟨((cell_far (p := ⟨gb101, _, none⟩) NB110_101.out _).trans (((cell_far (p := ⟨gb101, _, none⟩) NB110_101.out _).trans (((cell_far (p := ⟨gb101, _, none⟩) NB110_101.out _).trans (hHeld.1)))))), ((cell_far (p := ⟨gb101, _, none⟩) NB110_101.out _).trans (((cell_far (p := ⟨gb101, _, none⟩) NB110_101.out _).trans (((cell_far (p := ⟨gb101, _, none⟩) NB110_101.out _).trans (hHeld.2.1)))))), ((cell_far (p := ⟨gb101, _, none⟩) NB110_101.out _).trans (((cell_far (p := ⟨gb101, _, none⟩) NB110_101.out _).trans (((cell_far (p := ⟨gb101, _, none⟩) NB110_101.out _).trans (hHeld.2.2))))))⟩ (fun hHeld => ?_)
 clear hK K
 refine zp (i := 8) (N := some 9) HT_ ?_
 refine done_ (done_of HT_.out (by kernel_rfl)) ?_
 try go_wp2
 refine bodyPost_ret (results_ct rfl _ _ gb101 60 #[.bool t102, .slice Ao26 t103.length co26, .slice Ao27 t106.length co27] (0, 0) _ rfl (by (with_reducible repeat (first | refine blk_drewN ?_ _ | refine blk_drew ?_ | refine blk_alloc ?_ _)); refine blk_put (cs := #[.bool t102, .slice Ao26 t103.length co26, .slice none 0 0]) ?_ 2 _ rfl; (with_reducible repeat (first | refine blk_drewN ?_ _ | refine blk_drew ?_ | refine blk_alloc ?_ _)); refine blk_put (cs := #[.bool t102, .slice none 0 0, .slice none 0 0]) ?_ 1 _ rfl; (with_reducible repeat (first | refine blk_drewN ?_ _ | refine blk_drew ?_ | refine blk_alloc ?_ _)); refine blk_put (cs := #[.bool false, .slice none 0 0, .slice none 0 0]) ?_ 0 _ rfl; (with_reducible repeat (first | refine blk_drewN ?_ _ | refine blk_drew ?_ | refine blk_alloc ?_ _)); exact BK101.out) Try.underlying60 rfl (by kernel_rfl)) rfl ?_
 exact ⟨_, _, zE, by (with_reducible repeat (first | apply Kd.V_alloc | apply Kd.V_drewN | apply Kd.V_drew)); exact Kd.V_mono (Kd.V_far (p := ⟨gb101, 2, none⟩) (Kd.V_far (p := ⟨gb101, 1, none⟩) (Kd.V_far (p := ⟨gb101, 0, none⟩) (Kd.V_mono HO105.out (fun k_ hk => (⟨hk, hk.2.1⟩ : _ ∧ k_ ≠ gb101))) (fun _ hk => hk.2) (.bool t102)) (fun _ hk => hk.2) (.slice Ao26 t103.length co26)) (fun _ hk => hk.2) (.slice Ao27 t106.length co27)) (fun _ hk => hk.1.1), by (with_reducible repeat (first | apply Kd.V_alloc | apply Kd.V_drewN | apply Kd.V_drew)); exact Kd.V_mono (Kd.V_far (p := ⟨gb101, 2, none⟩) (Kd.V_far (p := ⟨gb101, 1, none⟩) (Kd.V_far (p := ⟨gb101, 0, none⟩) (Kd.V_mono HO108.out (fun k_ hk => (⟨hk, hk.2.1⟩ : _ ∧ k_ ≠ gb101))) (fun _ hk => hk.2) (.bool t102)) (fun _ hk => hk.2) (.slice Ao26 t103.length co26)) (fun _ hk => hk.2) (.slice Ao27 t106.length co27)) (fun _ hk => hk.1.1), zB2 HB.out GE101.out GE110.out⟩
set_option maxHeartbeats 8000000 in
set_option maxRecDepth 100000 in
theorem codewrightref01_Pow.calls (k : Nat) (A0 : Option Addr) (c0 : Nat) (l0 : List Int) (a1 : Int) (r1 : List Int) (r2 : Int) (w : World) (hr0 : Kd.C (Kd.int .u32) w A0 l0.length l0) (hc0 : l0.length ≤ c0) (h : codewrightref01_Pow.f k l0 a1 = some (r1, r2)) :
    Calls Try.prog 22 #[.slice A0 l0.length c0, .int .i64 a1] w fun e w' => ∃ v0_ : Value, e = .returned (.tuple #[v0_, .int .i64 r2]) ∧ Kd.R (Kd.int .u32) 97 w' w.heap.size (fun _ => True) v0_ r1 ∧ Below w.heap.size w w' := by
 have HR0 := Aside0.mk hr0
 have HC0 := Aside0.mk hc0
 clear hr0 hc0
 have HB := Aside0.mk (Below.refl w.heap.size w)
 have H : (if a1 < 0 then (some (([] : List Int), 6)) else ((codewrightref01_Trim.f k l0).bind fun t101 => (if a1 = 0 then (some ((([1] : List Int)), 0)) else ((codewrightref01_Bits.f k t101).bind fun t107 => (if t107 ≤ 1 then (some (t101, 0)) else (if a1 > 131072 then (some (([] : List Int), 8)) else (codewrightref01_Pow.l0 k t101 a1 (([1] : List Int)) 262144))))))) = some (r1, r2) := h
 clear h
 replace H := zi H
 rcases H with ⟨c3, H⟩ | ⟨c3, H⟩
 · have c3b0 := decide_eq_true c3
   clear c3
   simp only [Option.some.injEq, Prod.mk.injEq] at H
   obtain ⟨rfl, rfl⟩ := H
   go_enter Try.func22, Try.ntmps22
   go_wp2
   go_ret2
   exact ⟨_, zE, z0, zB HB.out⟩
 have c3b0 := decide_eq_false c3
 clear c3
 replace H := zb H
 obtain ⟨t101, A4, H⟩ := H
 replace H := zi H
 rcases H with ⟨c5, H⟩ | ⟨c5, H⟩
 · have c5b0 := beq_iff_eq.mpr c5
   have c5b1 := bne_eq_false_iff_eq.mpr c5
   clear c5
   obtain ⟨y104, hy104⟩ : ∃ y_ : List Int, y_ = (([1] : List Int)) := ⟨_, rfl⟩
   replace H : (some (y104, 0)) = some (r1, r2) := zY hy104 H
   have Ny104 := Aside0.mk hy104
   clear hy104
   simp only [Option.some.injEq, Prod.mk.injEq] at H
   obtain ⟨rfl, rfl⟩ := H
   go_enter Try.func22, Try.ntmps22
   go_wp2_with (first | ((with_reducible refine gate_callee (f := 75) rfl ?_); refine zG (some 11) Try.func75 #[.slice A0 l0.length c0] ?_; (with_reducible refine (codewrightref01_Trim.calls k _ _ l0 t101 _ ?side1 ?side2 A4.out).mono ?_); (case side1 => exact zC HR0.out); (case side2 => exact HC0.out); rintro e w6 ⟨v102, rfl, ho0, hb⟩; refine ⟨_, rfl, ?_⟩; have HO103 := yRl ho0 HB; replace HB := yS HB hb; (try clear hb ho0)) | ((with_reducible refine gate_dst (N := 14) rfl ?_); refine Kd.R_lit (Kd.int .u32) _ 97 ?hg (N := 14) ?hd (xs := ([1] : List Int)) (inner := [.int .u32 1]) (ok := fun _ => True) (okp := fun _ => True) ?hr ?hp (fun _ hk => hk) trivial (Below.refl _ _) (Nat.le_refl _) (by simp) ?_; (case hd => rfl); (case hg => rfl); (case hr => first | (go_simp; done) | (go_simp; rfl)); (case hp => exact (Reps.one (show Kd.M (Kd.int .u32) _ _ _ 1 [.int .u32 1] from rfl) (Reps.none _ _))); intro v105 w7 ho8 hb hg_ hnew_; clear hg_ hnew_; (first | rw [← Ny104.out] at ho8 | (simp only [Int.reduceToNat] at ho8; rw [← Ny104.out] at ho8)); replace ho8 := yn ho8 HO103; have HO106 := yRl ho8 HB; replace HO103 := yRe HO103 ho8 hb; replace HB := yS HB hb; clear hb ho8))
   go_ret2
   exact ⟨_, zE, by (with_reducible repeat (first | apply Kd.R_alloc | apply Kd.R_drewN | apply Kd.R_drew)); exact Kd.R_mono HO106.out (fun _ hk => trivial), zB HB.out⟩
 have c5b0 := beq_eq_false_iff_ne.mpr c5
 have c5b1 := bne_iff_ne.mpr c5
 replace H := zb H
 obtain ⟨t107, A9, H⟩ := H
 replace H := zi H
 rcases H with ⟨c10, H⟩ | ⟨c10, H⟩
 · have c10b0 := decide_eq_true c10
   clear c10
   simp only [Option.some.injEq, Prod.mk.injEq] at H
   obtain ⟨rfl, rfl⟩ := H
   go_enter Try.func22, Try.ntmps22
   go_wp2_with (first | ((with_reducible refine gate_callee (f := 75) rfl ?_); refine zG (some 11) Try.func75 #[.slice A0 l0.length c0] ?_; (with_reducible refine (codewrightref01_Trim.calls k _ _ l0 t101 _ ?side1 ?side2 A4.out).mono ?_); (case side1 => exact zC HR0.out); (case side2 => exact HC0.out); rintro e w11 ⟨v102, rfl, ho0, hb⟩; refine ⟨_, rfl, ?_⟩; have HO103 := yRl ho0 HB; replace HB := yS HB hb; (try clear hb ho0); obtain ⟨Ao12, co12, rfl⟩ := Kd.R_slice HO103.out) | ((with_reducible refine gate_callee (f := 76) rfl ?_); refine zG (some 16) Try.func76 #[.slice Ao12 t101.length co12] ?_; (with_reducible refine (codewrightref01_Bits.calls k _ _ t101 t107 _ ?side1 ?side2 A9.out).mono ?_); (case side1 => exact zC (Kd.R_reads' HO103.out).2.2); (case side2 => exact (Kd.R_reads' HO103.out).2.1); rintro e w13 ⟨rfl, hb⟩; refine ⟨_, rfl, ?_⟩; replace HO103 := yRb HO103 hb; replace HB := yS HB hb; (try clear hb); (try clear hb2); (try clear hk); (try clear hi)))
   go_ret2
   exact ⟨_, zE, zR HO103.out, zB HB.out⟩
 have c10b0 := decide_eq_false c10
 clear c10
 replace H := zi H
 rcases H with ⟨c14, H⟩ | ⟨c14, H⟩
 · have c14b0 : decide (131072 < a1) = true := decide_eq_true c14
   clear c14
   simp only [Option.some.injEq, Prod.mk.injEq] at H
   obtain ⟨rfl, rfl⟩ := H
   go_enter Try.func22, Try.ntmps22
   go_wp2_with (first | ((with_reducible refine gate_callee (f := 75) rfl ?_); refine zG (some 11) Try.func75 #[.slice A0 l0.length c0] ?_; (with_reducible refine (codewrightref01_Trim.calls k _ _ l0 t101 _ ?side1 ?side2 A4.out).mono ?_); (case side1 => exact zC HR0.out); (case side2 => exact HC0.out); rintro e w15 ⟨v102, rfl, ho0, hb⟩; refine ⟨_, rfl, ?_⟩; have HO103 := yRl ho0 HB; replace HB := yS HB hb; (try clear hb ho0); obtain ⟨Ao16, co16, rfl⟩ := Kd.R_slice HO103.out) | ((with_reducible refine gate_callee (f := 76) rfl ?_); refine zG (some 16) Try.func76 #[.slice Ao16 t101.length co16] ?_; (with_reducible refine (codewrightref01_Bits.calls k _ _ t101 t107 _ ?side1 ?side2 A9.out).mono ?_); (case side1 => exact zC (Kd.R_reads' HO103.out).2.2); (case side2 => exact (Kd.R_reads' HO103.out).2.1); rintro e w17 ⟨rfl, hb⟩; refine ⟨_, rfl, ?_⟩; replace HO103 := yRb HO103 hb; replace HB := yS HB hb; (try clear hb); (try clear hb2); (try clear hk); (try clear hi)))
   go_ret2
   exact ⟨_, zE, z0, zB HB.out⟩
 have c14b0 : decide (131072 < a1) = false := decide_eq_false c14
 clear c14
 obtain ⟨y108, hy108⟩ : ∃ y_ : List Int, y_ = (([1] : List Int)) := ⟨_, rfl⟩
 replace H : (codewrightref01_Pow.l0 k t101 a1 y108 262144) = some (r1, r2) := zY hy108 H
 have Ny108 := Aside0.mk hy108
 clear hy108
 have H' := Aside0.mk H
 clear H
 go_enter Try.func22, Try.ntmps22
 go_wp2_with (first | ((with_reducible refine gate_callee (f := 75) rfl ?_); refine zG (some 11) Try.func75 #[.slice A0 l0.length c0] ?_; (with_reducible refine (codewrightref01_Trim.calls k _ _ l0 t101 _ ?side1 ?side2 A4.out).mono ?_); (case side1 => exact zC HR0.out); (case side2 => exact HC0.out); rintro e w18 ⟨v102, rfl, ho0, hb⟩; refine ⟨_, rfl, ?_⟩; have HO103 := yRl ho0 HB; replace HB := yS HB hb; (try clear hb ho0); obtain ⟨Ao19, co19, rfl⟩ := Kd.R_slice HO103.out) | ((with_reducible refine gate_callee (f := 76) rfl ?_); refine zG (some 16) Try.func76 #[.slice Ao19 t101.length co19] ?_; (with_reducible refine (codewrightref01_Bits.calls k _ _ t101 t107 _ ?side1 ?side2 A9.out).mono ?_); (case side1 => exact zC (Kd.R_reads' HO103.out).2.2); (case side2 => exact (Kd.R_reads' HO103.out).2.1); rintro e w20 ⟨rfl, hb⟩; refine ⟨_, rfl, ?_⟩; replace HO103 := yRb HO103 hb; replace HB := yS HB hb; (try clear hb); (try clear hb2); (try clear hk); (try clear hi)) | ((with_reducible refine gate_dst (N := 21) rfl ?_); refine Kd.R_lit (Kd.int .u32) _ 97 ?hg (N := 21) ?hd (xs := ([1] : List Int)) (inner := [.int .u32 1]) (ok := fun _ => True) (okp := fun _ => True) ?hr ?hp (fun _ hk => hk) trivial (Below.refl _ _) (Nat.le_refl _) (by simp) ?_; (case hd => rfl); (case hg => rfl); (case hr => first | (go_simp; done) | (go_simp; rfl)); (case hp => exact (Reps.one (show Kd.M (Kd.int .u32) _ _ _ 1 [.int .u32 1] from rfl) (Reps.none _ _))); intro v109 w21 ho22 hb hg_ hnew_; clear hg_ hnew_; (first | rw [← Ny108.out] at ho22 | (simp only [Int.reduceToNat] at ho22; rw [← Ny108.out] at ho22)); replace ho22 := yn ho22 HO103; have HO110 := yRl ho22 HB; replace HO103 := yRe HO103 ho22 hb; replace HB := yS HB hb; clear hb ho22))
 go_loopg [6, 7] k (fun kq v6 v7 w' => ∃ (x6_1 : List Int) (x7_1 : Int), v7 = .int .i64 x7_1 ∧ Aside0 (codewrightref01_Pow.l0 kq t101 a1 x6_1 x7_1 = some (r1, r2)) ∧ Aside0 (kq ≤ k) ∧ Aside0 (Kd.R (Kd.int .u32) 97 w' w.heap.size (fun k_ => some k_ ≠ (v6 : Value).ownBlock) (.slice Ao19 t101.length co19) t101) ∧ Aside0 (Kd.R (Kd.int .u32) 97 w' w.heap.size (fun k_ => some k_ ≠ ((.slice Ao19 t101.length co19) : Value).ownBlock) v6 x6_1) ∧ Aside0 (Below w.heap.size w w'))
 case atStart => exact ⟨(y108), (262144), zF, H', ⟨Nat.le_refl _⟩, ⟨by (with_reducible repeat (first | apply Kd.R_alloc | apply Kd.R_drewN | apply Kd.R_drew)); exact Kd.R_mono HO103.out (fun _ hk => hk.2)⟩, ⟨by (with_reducible repeat (first | apply Kd.R_alloc | apply Kd.R_drewN | apply Kd.R_drew)); exact Kd.R_mono HO110.out (fun _ hk => hk.2)⟩, ⟨zB HB.out⟩⟩
 clear H'
 (try clear c1);(try clear c2);(try clear p2);(try clear c3);(try clear c3b0);(try clear c5);(try clear c5b0);(try clear c5b1);(try clear c7);(try clear c10);(try clear c10b0);(try clear c14);(try clear c14b0);(try clear c22)
 obtain ⟨x6_1, x7_1, rfl, HA, HK1, HO_0, HO_6, HB⟩ := hrel
 cases gk with | zero => exact absurd HA.out (by simp [codewrightref01_Pow.l0]) | succ k1 => ?_
 have H := HA.out
 clear HA
 simp only [codewrightref01_Pow.l0] at H
 replace H := zi H
 rcases H with ⟨c23, H⟩ | ⟨c23, H⟩
 · have c23b0 : decide (0 < x7_1) = true := decide_eq_true c23
   clear c23
   replace H := zb H
   obtain ⟨t111, A24, H⟩ := H
   replace H := zh H
   obtain ⟨c25, H⟩ := H
   have c25b0 := beq_eq_false_iff_ne.mpr c25
   have c25b1 := bne_iff_ne.mpr c25
   replace H := zi H
   rcases H with ⟨c26, H⟩ | ⟨c26, H⟩
   · have c26b0 := beq_iff_eq.mpr c26
     have c26b1 := bne_eq_false_iff_eq.mpr c26
     clear c26
     replace H := zb H
     obtain ⟨t114, A27, H⟩ := H
     replace H := zi H
     rcases H with ⟨c28, H⟩ | ⟨c28, H⟩
     · have c28b0 : decide (4096 < (t114.length : Int)) = true := decide_eq_true c28
       have c28b1 : decide (4096 < t114.length) = true := decide_eq_true (by omega)
       clear c28
       simp only [Option.some.injEq, Prod.mk.injEq] at H
       obtain ⟨rfl, rfl⟩ := H
       obtain ⟨Ao29, co29, rfl⟩ := Kd.R_slice HO_6.out
       go_wp2_with (first | ((with_reducible refine gate_callee (f := 26) rfl ?_); refine zG (some 28) Try.func26 #[.slice Ao29 x6_1.length co29, .slice Ao29 x6_1.length co29] ?_; (with_reducible refine (codewrightref01_Mul.calls k1 _ _ x6_1 _ _ x6_1 t111 _ ?side1 ?side2 ?side3 ?side4 A24.out).mono ?_); (case side1 => exact zC (Kd.R_reads' HO_6.out).2.2); (case side2 => exact (Kd.R_reads' HO_6.out).2.1); (case side3 => exact zC (Kd.R_reads' HO_6.out).2.2); (case side4 => exact (Kd.R_reads' HO_6.out).2.1); rintro e w30 ⟨v112, rfl, ho0, hb⟩; refine ⟨_, rfl, ?_⟩; replace ho0 := yn ho0 HO_0; replace ho0 := yn ho0 HO_6; have HO113 := yRl ho0 HB; replace HO_0 := yRe HO_0 ho0 hb; replace HO_6 := yRe HO_6 ho0 hb; replace HB := yS HB hb; (try clear hb ho0); obtain ⟨Ao31, co31, rfl⟩ := Kd.R_slice HO113.out) | ((with_reducible refine gate_callee (f := 26) rfl ?_); refine zG (some 36) Try.func26 #[.slice Ao31 t111.length co31, .slice Ao19 t101.length co19] ?_; (with_reducible refine (codewrightref01_Mul.calls k1 _ _ t111 _ _ t101 t114 _ ?side1 ?side2 ?side3 ?side4 A27.out).mono ?_); (case side1 => exact zC (Kd.R_reads' HO113.out).2.2); (case side2 => exact (Kd.R_reads' HO113.out).2.1); (case side3 => exact zC (Kd.R_reads' HO_0.out).2.2); (case side4 => exact (Kd.R_reads' HO_0.out).2.1); rintro e w32 ⟨v115, rfl, ho0, hb⟩; refine ⟨_, rfl, ?_⟩; replace ho0 := yn ho0 HO_0; replace ho0 := yn ho0 HO_6; replace ho0 := yn ho0 HO113; have HO116 := yRl ho0 HB; replace HO_0 := yRe HO_0 ho0 hb; replace HO_6 := yRe HO_6 ho0 hb; replace HO113 := yRe HO113 ho0 hb; replace HB := yS HB hb; (try clear hb ho0); obtain ⟨Ao33, co33, rfl⟩ := Kd.R_slice HO116.out))
       go_ret2
       exact ⟨_, zE, z0, zB HB.out⟩
     have c28b0 : decide (4096 < (t114.length : Int)) = false := decide_eq_false c28
     have c28b1 : decide (4096 < t114.length) = false := decide_eq_false (by omega)
     clear c28
     have H' := Aside0.mk H
     clear H
     obtain ⟨Ao34, co34, rfl⟩ := Kd.R_slice HO_6.out
     go_wp2_with (first | ((with_reducible refine gate_callee (f := 26) rfl ?_); refine zG (some 28) Try.func26 #[.slice Ao34 x6_1.length co34, .slice Ao34 x6_1.length co34] ?_; (with_reducible refine (codewrightref01_Mul.calls k1 _ _ x6_1 _ _ x6_1 t111 _ ?side1 ?side2 ?side3 ?side4 A24.out).mono ?_); (case side1 => exact zC (Kd.R_reads' HO_6.out).2.2); (case side2 => exact (Kd.R_reads' HO_6.out).2.1); (case side3 => exact zC (Kd.R_reads' HO_6.out).2.2); (case side4 => exact (Kd.R_reads' HO_6.out).2.1); rintro e w35 ⟨v112, rfl, ho0, hb⟩; refine ⟨_, rfl, ?_⟩; replace ho0 := yn ho0 HO_0; replace ho0 := yn ho0 HO_6; have HO113 := yRl ho0 HB; replace HO_0 := yRe HO_0 ho0 hb; replace HO_6 := yRe HO_6 ho0 hb; replace HB := yS HB hb; (try clear hb ho0); obtain ⟨Ao36, co36, rfl⟩ := Kd.R_slice HO113.out) | ((with_reducible refine gate_callee (f := 26) rfl ?_); refine zG (some 36) Try.func26 #[.slice Ao36 t111.length co36, .slice Ao19 t101.length co19] ?_; (with_reducible refine (codewrightref01_Mul.calls k1 _ _ t111 _ _ t101 t114 _ ?side1 ?side2 ?side3 ?side4 A27.out).mono ?_); (case side1 => exact zC (Kd.R_reads' HO113.out).2.2); (case side2 => exact (Kd.R_reads' HO113.out).2.1); (case side3 => exact zC (Kd.R_reads' HO_0.out).2.2); (case side4 => exact (Kd.R_reads' HO_0.out).2.1); rintro e w37 ⟨v115, rfl, ho0, hb⟩; refine ⟨_, rfl, ?_⟩; replace ho0 := yn ho0 HO_0; replace ho0 := yn ho0 HO_6; replace ho0 := yn ho0 HO113; have HO116 := yRl ho0 HB; replace HO_0 := yRe HO_0 ho0 hb; replace HO_6 := yRe HO_6 ho0 hb; replace HO113 := yRe HO113 ho0 hb; replace HB := yS HB hb; (try clear hb ho0); obtain ⟨Ao38, co38, rfl⟩ := Kd.R_slice HO116.out))
     go_roundg k1
     case measure => have := HK1.out; omega
     case rel => exact ⟨(t114), (wrap64 (Int.tdiv x7_1 2)), zF, H', ⟨zo1 HK1⟩, ⟨by (with_reducible repeat (first | apply Kd.R_alloc | apply Kd.R_drewN | apply Kd.R_drew)); exact Kd.R_mono HO_0.out (fun _ hk => hk.2)⟩, ⟨by (with_reducible repeat (first | apply Kd.R_alloc | apply Kd.R_drewN | apply Kd.R_drew)); exact Kd.R_mono HO116.out (fun _ hk => hk.1.1.2)⟩, ⟨zB HB.out⟩⟩
   have c26b0 := beq_eq_false_iff_ne.mpr c26
   have c26b1 := bne_iff_ne.mpr c26
   replace H := zi H
   rcases H with ⟨c39, H⟩ | ⟨c39, H⟩
   · have c39b0 : decide (4096 < (t111.length : Int)) = true := decide_eq_true c39
     have c39b1 : decide (4096 < t111.length) = true := decide_eq_true (by omega)
     clear c39
     simp only [Option.some.injEq, Prod.mk.injEq] at H
     obtain ⟨rfl, rfl⟩ := H
     obtain ⟨Ao40, co40, rfl⟩ := Kd.R_slice HO_6.out
     go_wp2_with (first | ((with_reducible refine gate_callee (f := 26) rfl ?_); refine zG (some 28) Try.func26 #[.slice Ao40 x6_1.length co40, .slice Ao40 x6_1.length co40] ?_; (with_reducible refine (codewrightref01_Mul.calls k1 _ _ x6_1 _ _ x6_1 t111 _ ?side1 ?side2 ?side3 ?side4 A24.out).mono ?_); (case side1 => exact zC (Kd.R_reads' HO_6.out).2.2); (case side2 => exact (Kd.R_reads' HO_6.out).2.1); (case side3 => exact zC (Kd.R_reads' HO_6.out).2.2); (case side4 => exact (Kd.R_reads' HO_6.out).2.1); rintro e w41 ⟨v112, rfl, ho0, hb⟩; refine ⟨_, rfl, ?_⟩; replace ho0 := yn ho0 HO_0; replace ho0 := yn ho0 HO_6; have HO113 := yRl ho0 HB; replace HO_0 := yRe HO_0 ho0 hb; replace HO_6 := yRe HO_6 ho0 hb; replace HB := yS HB hb; (try clear hb ho0); obtain ⟨Ao42, co42, rfl⟩ := Kd.R_slice HO113.out))
     go_ret2
     exact ⟨_, zE, z0, zB HB.out⟩
   have c39b0 : decide (4096 < (t111.length : Int)) = false := decide_eq_false c39
   have c39b1 : decide (4096 < t111.length) = false := decide_eq_false (by omega)
   clear c39
   have H' := Aside0.mk H
   clear H
   obtain ⟨Ao43, co43, rfl⟩ := Kd.R_slice HO_6.out
   go_wp2_with (first | ((with_reducible refine gate_callee (f := 26) rfl ?_); refine zG (some 28) Try.func26 #[.slice Ao43 x6_1.length co43, .slice Ao43 x6_1.length co43] ?_; (with_reducible refine (codewrightref01_Mul.calls k1 _ _ x6_1 _ _ x6_1 t111 _ ?side1 ?side2 ?side3 ?side4 A24.out).mono ?_); (case side1 => exact zC (Kd.R_reads' HO_6.out).2.2); (case side2 => exact (Kd.R_reads' HO_6.out).2.1); (case side3 => exact zC (Kd.R_reads' HO_6.out).2.2); (case side4 => exact (Kd.R_reads' HO_6.out).2.1); rintro e w44 ⟨v112, rfl, ho0, hb⟩; refine ⟨_, rfl, ?_⟩; replace ho0 := yn ho0 HO_0; replace ho0 := yn ho0 HO_6; have HO113 := yRl ho0 HB; replace HO_0 := yRe HO_0 ho0 hb; replace HO_6 := yRe HO_6 ho0 hb; replace HB := yS HB hb; (try clear hb ho0); obtain ⟨Ao45, co45, rfl⟩ := Kd.R_slice HO113.out))
   go_roundg k1
   case measure => have := HK1.out; omega
   case rel => exact ⟨(t111), (wrap64 (Int.tdiv x7_1 2)), zF, H', ⟨zo1 HK1⟩, ⟨by (with_reducible repeat (first | apply Kd.R_alloc | apply Kd.R_drewN | apply Kd.R_drew)); exact Kd.R_mono HO_0.out (fun _ hk => hk.2)⟩, ⟨by (with_reducible repeat (first | apply Kd.R_alloc | apply Kd.R_drewN | apply Kd.R_drew)); exact Kd.R_mono HO113.out (fun _ hk => hk.1.2)⟩, ⟨zB HB.out⟩⟩
 have c23b0 : decide (0 < x7_1) = false := decide_eq_false c23
 clear c23
 simp only [Option.some.injEq, Prod.mk.injEq] at H
 obtain ⟨rfl, rfl⟩ := H
 go_wp2
 go_ret2
 exact ⟨_, zE, by (with_reducible repeat (first | apply Kd.R_alloc | apply Kd.R_drewN | apply Kd.R_drew)); exact Kd.R_mono HO_6.out (fun _ hk => trivial), zB HB.out⟩
set_option maxHeartbeats 8000000 in
set_option maxRecDepth 100000 in
theorem codewrightref02_Inv.calls (k : Nat) (a0_0 : Bool) (A0_1 : Option Addr) (c0_1 : Nat) (l0_1 : List Int) (A0_2 : Option Addr) (c0_2 : Nat) (l0_2 : List Int) (r1 : Bool) (r2 : List Int) (r3 : List Int) (w : World) (hr0_1 : Kd.C (Kd.int .u32) w A0_1 l0_1.length l0_1) (hc0_1 : l0_1.length ≤ c0_1) (hr0_2 : Kd.C (Kd.int .u32) w A0_2 l0_2.length l0_2) (hc0_2 : l0_2.length ≤ c0_2) (h : codewrightref02_Inv.f k a0_0 l0_1 l0_2 = some (r1, r2, r3)) :
    Calls Try.prog 101 #[.agg #[.bool a0_0, .slice A0_1 l0_1.length c0_1, .slice A0_2 l0_2.length c0_2]] w fun e w' => ∃ v1_ v2_ : Value, e = .returned (.agg #[.bool r1, v1_, v2_]) ∧ Kd.R (Kd.int .u32) 97 w' w.heap.size (fun k_ => some k_ ≠ (v2_ : Value).ownBlock) v1_ r2 ∧ Kd.R (Kd.int .u32) 97 w' w.heap.size (fun k_ => some k_ ≠ (v1_ : Value).ownBlock) v2_ r3 ∧ Below w.heap.size w w' := by
 have hu60 := Try.underlying60
 have HR0_1 := Aside0.mk hr0_1
 have HC0_1 := Aside0.mk hc0_1
 clear hr0_1 hc0_1
 have HR0_2 := Aside0.mk hr0_2
 have HC0_2 := Aside0.mk hc0_2
 clear hr0_2 hc0_2
 have HB := Aside0.mk (Below.refl w.heap.size w)
 have H : ((codewrightref02_Trim.f k a0_0 l0_1 l0_2).bind fun bt103 => (some (bt103.1, bt103.2.2, bt103.2.1))) = some (r1, r2, r3) := h
 clear h
 replace H := zb H
 obtain ⟨⟨t103, t104, t107⟩, A2, H⟩ := H
 dsimp only at H
 simp only [Option.some.injEq, Prod.mk.injEq] at H
 obtain ⟨rfl, rfl, rfl⟩ := H
 go_enter Try.func101, Try.ntmps101
 go_wp2_with (first | ((with_reducible refine gate_dst (N := 1) rfl ?_); refine box_event ?hg (N := 1) ?hd (cs := #[.bool a0_0, .slice A0_1 l0_1.length c0_1, .slice A0_2 l0_2.length c0_2]) (t := 60) ?hr ?_; (case hd => rfl); (case hg => rfl); (case hr => first | (go_simp; done) | (go_simp; rfl)); intro gb101 hg w3 hbox hb; have BK101 := Aside0.mk (hbox); have GW101 := yg hg HB; have GE101 := yg hg HB; replace HB := yS HB hb; clear hb hbox hg) | ((with_reducible refine gate_dst (N := 2) rfl ?_); refine box_event ?hg (N := 2) ?hd (cs := #[.bool false, .slice none 0 0, .slice none 0 0]) (t := 60) ?hr ?_; (case hd => rfl); (case hg => rfl); (case hr => first | (go_simp; done) | (go_simp; rfl)); intro gb102 hg w4 hbox hb; have BK102 := Aside0.mk (hbox); have GW102 := yg1 hg HB GE101; have GE102 := yg1 hg HB GE101; replace HB := yS1 HB GE101 hb; have NB101_102 := ynl hg BK101; have NB102_101 := yng hg BK101; replace BK101 := yK BK101 hb; clear hb hbox hg; have hnb5 := NB101_102.out; have hnc5 := NB102_101.out; have hcz6_0 : w4.cell? ⟨gb101, 0, none⟩ = some (.bool a0_0) := (blk_cell BK101.out 0).trans rfl; have hcz6_1 : w4.cell? ⟨gb101, 1, none⟩ = some (.slice A0_1 l0_1.length c0_1) := (blk_cell BK101.out 1).trans rfl; have hcz6_2 : w4.cell? ⟨gb101, 2, none⟩ = some (.slice A0_2 l0_2.length c0_2) := (blk_cell BK101.out 2).trans rfl; have hfz6_0 := blk_frozen BK101.out 0; have hfz6_1 := blk_frozen BK101.out 1; have hfz6_2 := blk_frozen BK101.out 2) | ((with_reducible refine gate_callee (f := 99) rfl ?_); refine zG (some 4) Try.func99 #[.agg #[.bool a0_0, .slice A0_1 l0_1.length c0_1, .slice A0_2 l0_2.length c0_2]] ?_; (with_reducible refine (codewrightref02_Trim.calls k a0_0 _ _ l0_1 _ _ l0_2 t103 t104 t107 _ ?side1 ?side2 ?side3 ?side4 A2.out).mono ?_); (case side1 => exact zC (Kd.C_below HR0_1.out HB.out)); (case side2 => exact HC0_1.out); (case side3 => exact zC (Kd.C_below HR0_2.out HB.out)); (case side4 => exact HC0_2.out); rintro e w7 ⟨v105, v108, rfl, ho0, ho1, hb⟩; refine ⟨_, rfl, ?_⟩; have HO106 := yRl2 ho0 HB GE101 GE102; have HO109 := yRl2 ho1 HB GE101 GE102; replace BK101 := yK BK101 hb; replace BK102 := yK BK102 hb; replace HB := yS2 HB GE101 GE102 hb; (try clear hb ho0); (try clear ho1); have hcz8_0 : w7.cell? ⟨gb101, 0, none⟩ = some (.bool a0_0) := (blk_cell BK101.out 0).trans rfl; have hcz8_1 : w7.cell? ⟨gb101, 1, none⟩ = some (.slice A0_1 l0_1.length c0_1) := (blk_cell BK101.out 1).trans rfl; have hcz8_2 : w7.cell? ⟨gb101, 2, none⟩ = some (.slice A0_2 l0_2.length c0_2) := (blk_cell BK101.out 2).trans rfl; have hfz8_0 := blk_frozen BK101.out 0; have hfz8_1 := blk_frozen BK101.out 1; have hfz8_2 := blk_frozen BK101.out 2; obtain ⟨Ao9, co9, rfl⟩ := Kd.R_slice HO106.out; obtain ⟨Ao10, co10, rfl⟩ := Kd.R_slice HO109.out; have hcz11_0 : w7.cell? ⟨gb102, 0, none⟩ = some (.bool false) := (blk_cell BK102.out 0).trans rfl; have hcz11_1 : w7.cell? ⟨gb102, 1, none⟩ = some (.slice none 0 0) := (blk_cell BK102.out 1).trans rfl; have hcz11_2 : w7.cell? ⟨gb102, 2, none⟩ = some (.slice none 0 0) := (blk_cell BK102.out 2).trans rfl; have hfz11_0 := blk_frozen BK102.out 0; have hfz11_1 := blk_frozen BK102.out 1; have hfz11_2 := blk_frozen BK102.out 2))
 refine bodyPost_ret (results_cell_row rfl _ _ gb102 60 #[.bool t103, .slice Ao10 t107.length co10, .slice Ao9 t104.length co9] (0, 0) _ rfl (by (with_reducible repeat (first | refine blk_drewN ?_ _ | refine blk_drew ?_ | refine blk_alloc ?_ _)); refine blk_put (cs := #[.bool t103, .slice Ao10 t107.length co10, .slice none 0 0]) ?_ 2 _ rfl; (with_reducible repeat (first | refine blk_drewN ?_ _ | refine blk_drew ?_ | refine blk_alloc ?_ _)); refine blk_put (cs := #[.bool t103, .slice none 0 0, .slice none 0 0]) ?_ 1 _ rfl; (with_reducible repeat (first | refine blk_drewN ?_ _ | refine blk_drew ?_ | refine blk_alloc ?_ _)); refine blk_put (cs := #[.bool false, .slice none 0 0, .slice none 0 0]) ?_ 0 _ rfl; (with_reducible repeat (first | refine blk_drewN ?_ _ | refine blk_drew ?_ | refine blk_alloc ?_ _)); refine blk_far ?_ NB102_101.out _; (with_reducible repeat (first | refine blk_drewN ?_ _ | refine blk_drew ?_ | refine blk_alloc ?_ _)); refine blk_far ?_ NB102_101.out _; (with_reducible repeat (first | refine blk_drewN ?_ _ | refine blk_drew ?_ | refine blk_alloc ?_ _)); refine blk_far ?_ NB102_101.out _; (with_reducible repeat (first | refine blk_drewN ?_ _ | refine blk_drew ?_ | refine blk_alloc ?_ _)); exact BK102.out) Try.underlying60 rfl (by kernel_rfl)) rfl ?_
 exact ⟨_, _, zE, by (with_reducible repeat (first | apply Kd.R_alloc | apply Kd.R_drewN | apply Kd.R_drew)); exact Kd.R_mono (Kd.R_far (p := ⟨gb102, 2, none⟩) (Kd.R_far (p := ⟨gb102, 1, none⟩) (Kd.R_far (p := ⟨gb102, 0, none⟩) (Kd.R_far (p := ⟨gb101, 2, none⟩) (Kd.R_far (p := ⟨gb101, 1, none⟩) (Kd.R_far (p := ⟨gb101, 0, none⟩) (Kd.R_types (Kd.R_types HO109.out BK101.out (by decide)) BK102.out (by decide)) (fun _ hk => hk.1.2) (.bool t103)) (fun _ hk => hk.1.2) (.slice Ao9 t104.length co9)) (fun _ hk => hk.1.2) (.slice Ao10 t107.length co10)) (fun _ hk => hk.2) (.bool t103)) (fun _ hk => hk.2) (.slice Ao10 t107.length co10)) (fun _ hk => hk.2) (.slice Ao9 t104.length co9)) (fun _ hk => hk.1.1), by (with_reducible repeat (first | apply Kd.R_alloc | apply Kd.R_drewN | apply Kd.R_drew)); exact Kd.R_mono (Kd.R_far (p := ⟨gb102, 2, none⟩) (Kd.R_far (p := ⟨gb102, 1, none⟩) (Kd.R_far (p := ⟨gb102, 0, none⟩) (Kd.R_far (p := ⟨gb101, 2, none⟩) (Kd.R_far (p := ⟨gb101, 1, none⟩) (Kd.R_far (p := ⟨gb101, 0, none⟩) (Kd.R_types (Kd.R_types HO106.out BK101.out (by decide)) BK102.out (by decide)) (fun _ hk => hk.1.2) (.bool t103)) (fun _ hk => hk.1.2) (.slice Ao9 t104.length co9)) (fun _ hk => hk.1.2) (.slice Ao10 t107.length co10)) (fun _ hk => hk.2) (.bool t103)) (fun _ hk => hk.2) (.slice Ao10 t107.length co10)) (fun _ hk => hk.2) (.slice Ao9 t104.length co9)) (fun _ hk => hk.1.1), zB2 HB.out GE101.out GE102.out⟩
set_option maxHeartbeats 8000000 in
set_option maxRecDepth 100000 in
theorem codewrightref02_Pow.calls (k : Nat) (a0_0 : Bool) (A0_1 : Option Addr) (c0_1 : Nat) (l0_1 : List Int) (A0_2 : Option Addr) (c0_2 : Nat) (l0_2 : List Int) (a1 : Int) (r1 : Bool) (r2 : List Int) (r3 : List Int) (r4 : Int) (w : World) (hr0_1 : Kd.C (Kd.int .u32) w A0_1 l0_1.length l0_1) (hc0_1 : l0_1.length ≤ c0_1) (hr0_2 : Kd.C (Kd.int .u32) w A0_2 l0_2.length l0_2) (hc0_2 : l0_2.length ≤ c0_2) (h : codewrightref02_Pow.f k a0_0 l0_1 l0_2 a1 = some (r1, r2, r3, r4)) :
    Calls Try.prog 52 #[.agg #[.bool a0_0, .slice A0_1 l0_1.length c0_1, .slice A0_2 l0_2.length c0_2], .int .i64 a1] w fun e w' => ∃ v1_ v2_ : Value, e = .returned (.tuple #[.agg #[.bool r1, v1_, v2_], .int .i64 r4]) ∧ Kd.R (Kd.int .u32) 97 w' w.heap.size (fun k_ => some k_ ≠ (v2_ : Value).ownBlock) v1_ r2 ∧ Kd.R (Kd.int .u32) 97 w' w.heap.size (fun k_ => some k_ ≠ (v1_ : Value).ownBlock) v2_ r3 ∧ Below w.heap.size w w' := by
 have hu60 := Try.underlying60
 have HR0_1 := Aside0.mk hr0_1
 have HC0_1 := Aside0.mk hc0_1
 clear hr0_1 hc0_1
 have HR0_2 := Aside0.mk hr0_2
 have HC0_2 := Aside0.mk hc0_2
 clear hr0_2 hc0_2
 have HB := Aside0.mk (Below.refl w.heap.size w)
 have H : ((codewrightref02_Trim.f k a0_0 l0_1 l0_2).bind fun bt103 => (if a1 < 0 then (if (bt103.2.1.length : Int) = 0 then (some (false, ([] : List Int), ([] : List Int), 7)) else ((codewrightref02_Inv.f k bt103.1 bt103.2.1 bt103.2.2).bind fun bt110 => (codewrightref02_Pow.j0 k a1 bt110.1 bt110.2.1 bt110.2.2))) else (codewrightref02_Pow.j0 k a1 bt103.1 bt103.2.1 bt103.2.2))) = some (r1, r2, r3, r4) := h
 clear h
 replace H := zb H
 obtain ⟨⟨t103, t104, t107⟩, A3, H⟩ := H
 dsimp only at H
 have HC4 := Aside0.mk H
 clear H
 go_enter Try.func52, Try.ntmps52
 go_upto_if 14 with (first | ((with_reducible refine gate_dst (N := 2) rfl ?_); refine box_event ?hg (N := 2) ?hd (cs := #[.bool a0_0, .slice A0_1 l0_1.length c0_1, .slice A0_2 l0_2.length c0_2]) (t := 60) ?hr ?_; (case hd => rfl); (case hg => rfl); (case hr => first | (go_simp; done) | (go_simp; rfl)); intro gb101 hg w5 hbox hb; have BK101 := Aside0.mk (hbox); have GW101 := yg hg HB; have GE101 := yg hg HB; replace HB := yS HB hb; clear hb hbox hg) | ((with_reducible refine gate_dst (N := 4) rfl ?_); refine box_event ?hg (N := 4) ?hd (cs := #[.bool false, .slice none 0 0, .slice none 0 0]) (t := 60) ?hr ?_; (case hd => rfl); (case hg => rfl); (case hr => first | (go_simp; done) | (go_simp; rfl)); intro gb102 hg w6 hbox hb; have BK102 := Aside0.mk (hbox); have GW102 := yg1 hg HB GE101; have GE102 := yg1 hg HB GE101; replace HB := yS1 HB GE101 hb; have NB101_102 := ynl hg BK101; have NB102_101 := yng hg BK101; replace BK101 := yK BK101 hb; clear hb hbox hg; have hnb7 := NB101_102.out; have hnc7 := NB102_101.out; have hcz8_0 : w6.cell? ⟨gb101, 0, none⟩ = some (.bool a0_0) := (blk_cell BK101.out 0).trans rfl; have hcz8_1 : w6.cell? ⟨gb101, 1, none⟩ = some (.slice A0_1 l0_1.length c0_1) := (blk_cell BK101.out 1).trans rfl; have hcz8_2 : w6.cell? ⟨gb101, 2, none⟩ = some (.slice A0_2 l0_2.length c0_2) := (blk_cell BK101.out 2).trans rfl; have hfz8_0 := blk_frozen BK101.out 0; have hfz8_1 := blk_frozen BK101.out 1; have hfz8_2 := blk_frozen BK101.out 2) | ((with_reducible refine gate_callee (f := 99) rfl ?_); refine zG (some 12) Try.func99 #[.agg #[.bool a0_0, .slice A0_1 l0_1.length c0_1, .slice A0_2 l0_2.length c0_2]] ?_; (with_reducible refine (codewrightref02_Trim.calls k a0_0 _ _ l0_1 _ _ l0_2 t103 t104 t107 _ ?side1 ?side2 ?side3 ?side4 A3.out).mono ?_); (case side1 => exact zC (Kd.C_below HR0_1.out HB.out)); (case side2 => exact HC0_1.out); (case side3 => exact zC (Kd.C_below HR0_2.out HB.out)); (case side4 => exact HC0_2.out); rintro e w9 ⟨v105, v108, rfl, ho0, ho1, hb⟩; refine ⟨_, rfl, ?_⟩; have HO106 := yRl2 ho0 HB GE101 GE102; have HO109 := yRl2 ho1 HB GE101 GE102; replace BK101 := yK BK101 hb; replace BK102 := yK BK102 hb; replace HB := yS2 HB GE101 GE102 hb; (try clear hb ho0); (try clear ho1); have hcz10_0 : w9.cell? ⟨gb101, 0, none⟩ = some (.bool a0_0) := (blk_cell BK101.out 0).trans rfl; have hcz10_1 : w9.cell? ⟨gb101, 1, none⟩ = some (.slice A0_1 l0_1.length c0_1) := (blk_cell BK101.out 1).trans rfl; have hcz10_2 : w9.cell? ⟨gb101, 2, none⟩ = some (.slice A0_2 l0_2.length c0_2) := (blk_cell BK101.out 2).trans rfl; have hfz10_0 := blk_frozen BK101.out 0; have hfz10_1 := blk_frozen BK101.out 1; have hfz10_2 := blk_frozen BK101.out 2; obtain ⟨Ao11, co11, rfl⟩ := Kd.R_slice HO106.out; obtain ⟨Ao12, co12, rfl⟩ := Kd.R_slice HO109.out))
 (try simp only [Act.put, List.setIfInBounds_toArray, List.set_cons_zero, List.set_cons_succ])
 go_cut [] (fun wc => ∃ (kq : Nat) (x102000_3 : Bool) (x102001_3 : List Int) (x102002_3 : List Int) (x103000_3 : Bool) (u102001 : Value) (u102002 : Value), Aside0 (codewrightref02_Pow.j0 kq a1 x102000_3 x102001_3 x102002_3 = some (r1, r2, r3, r4)) ∧ Aside0 (kq ≤ k) ∧ Aside0 (Kd.R (Kd.int .u32) 97 wc w.heap.size (fun k_ => some k_ ≠ (u102002 : Value).ownBlock) u102001 x102001_3) ∧ Aside0 (Kd.R (Kd.int .u32) 97 wc w.heap.size (fun k_ => some k_ ≠ (u102001 : Value).ownBlock) u102002 x102002_3) ∧ Aside0 (wc.heap[gb101]? = some (.cells #[.bool x102000_3, u102001, u102002] 60 (0, 0))) ∧ Aside0 (wc.heap[gb102]? = some (.cells #[.bool x103000_3, (.slice none 0 0), (.slice none 0 0)] 60 (0, 0))) ∧ Aside0 (Below w.heap.size w wc))
 case first =>
  have H := HC4.out
  clear HC4
  replace H := zi H
  rcases H with ⟨c13, H⟩ | ⟨c13, H⟩
  · have c13b0 := decide_eq_true c13
    clear c13
    (first | rw [c13b0] | (simp only [i64_w, i32_w]; rw [c13b0]) | rw [c13b1] | skip)
    replace H := zi H
    rcases H with ⟨c14, H⟩ | ⟨c14, H⟩
    · have c14b0 := beq_iff_eq.mpr c14
      have c14b1 := bne_eq_false_iff_eq.mpr c14
      clear c14
      simp only [Option.some.injEq, Prod.mk.injEq] at H
      obtain ⟨rfl, rfl, rfl, rfl⟩ := H
      have hnb15 := NB101_102.out
      have hnc15 := NB102_101.out
      have hcz16_0 : w9.cell? ⟨gb101, 0, none⟩ = some (.bool a0_0) := (blk_cell BK101.out 0).trans rfl
      have hcz16_1 : w9.cell? ⟨gb101, 1, none⟩ = some (.slice A0_1 l0_1.length c0_1) := (blk_cell BK101.out 1).trans rfl
      have hcz16_2 : w9.cell? ⟨gb101, 2, none⟩ = some (.slice A0_2 l0_2.length c0_2) := (blk_cell BK101.out 2).trans rfl
      have hfz16_0 := blk_frozen BK101.out 0
      have hfz16_1 := blk_frozen BK101.out 1
      have hfz16_2 := blk_frozen BK101.out 2
      have hcz17_0 : w9.cell? ⟨gb102, 0, none⟩ = some (.bool false) := (blk_cell BK102.out 0).trans rfl
      have hcz17_1 : w9.cell? ⟨gb102, 1, none⟩ = some (.slice none 0 0) := (blk_cell BK102.out 1).trans rfl
      have hcz17_2 : w9.cell? ⟨gb102, 2, none⟩ = some (.slice none 0 0) := (blk_cell BK102.out 2).trans rfl
      have hfz17_0 := blk_frozen BK102.out 0
      have hfz17_1 := blk_frozen BK102.out 1
      have hfz17_2 := blk_frozen BK102.out 2
      go_wp2
      refine bodyPost_ret (results_ct rfl _ _ gb102 60 #[.bool false, .slice none 0 0, .slice none 0 0] (0, 0) _ rfl (by (with_reducible repeat (first | refine blk_drewN ?_ _ | refine blk_drew ?_ | refine blk_alloc ?_ _)); refine blk_put (cs := #[.bool false, .slice none 0 0, .slice none 0 0]) ?_ 2 _ rfl; (with_reducible repeat (first | refine blk_drewN ?_ _ | refine blk_drew ?_ | refine blk_alloc ?_ _)); refine blk_put (cs := #[.bool false, .slice none 0 0, .slice none 0 0]) ?_ 1 _ rfl; (with_reducible repeat (first | refine blk_drewN ?_ _ | refine blk_drew ?_ | refine blk_alloc ?_ _)); refine blk_put (cs := #[.bool false, .slice none 0 0, .slice none 0 0]) ?_ 0 _ rfl; (with_reducible repeat (first | refine blk_drewN ?_ _ | refine blk_drew ?_ | refine blk_alloc ?_ _)); refine blk_far ?_ NB102_101.out _; (with_reducible repeat (first | refine blk_drewN ?_ _ | refine blk_drew ?_ | refine blk_alloc ?_ _)); refine blk_far ?_ NB102_101.out _; (with_reducible repeat (first | refine blk_drewN ?_ _ | refine blk_drew ?_ | refine blk_alloc ?_ _)); refine blk_far ?_ NB102_101.out _; (with_reducible repeat (first | refine blk_drewN ?_ _ | refine blk_drew ?_ | refine blk_alloc ?_ _)); exact BK102.out) Try.underlying60 rfl (by kernel_rfl)) rfl ?_
      exact ⟨_, _, zE, z0, z0, zB2 HB.out GE101.out GE102.out⟩
    have c14b0 := beq_eq_false_iff_ne.mpr c14
    have c14b1 := bne_iff_ne.mpr c14
    have c14b2 : ¬ (t104 = []) := fun h_ => c14 (by rw [h_]; rfl)
    replace H := zb H
    obtain ⟨⟨t110, t111, t114⟩, A18, H⟩ := H
    dsimp only at H
    have H' := Aside0.mk H
    clear H
    have hnb19 := NB101_102.out
    have hnc19 := NB102_101.out
    have hcz20_0 : w9.cell? ⟨gb101, 0, none⟩ = some (.bool a0_0) := (blk_cell BK101.out 0).trans rfl
    have hcz20_1 : w9.cell? ⟨gb101, 1, none⟩ = some (.slice A0_1 l0_1.length c0_1) := (blk_cell BK101.out 1).trans rfl
    have hcz20_2 : w9.cell? ⟨gb101, 2, none⟩ = some (.slice A0_2 l0_2.length c0_2) := (blk_cell BK101.out 2).trans rfl
    have hfz20_0 := blk_frozen BK101.out 0
    have hfz20_1 := blk_frozen BK101.out 1
    have hfz20_2 := blk_frozen BK101.out 2
    go_wp2_with (first | ((with_reducible refine gate_callee (f := 101) rfl ?_); refine zG (some 21) Try.func101 #[.agg #[.bool t103, .slice Ao11 t104.length co11, .slice Ao12 t107.length co12]] ?_; (with_reducible refine (codewrightref02_Inv.calls k t103 _ _ t104 _ _ t107 t110 t111 t114 _ ?side1 ?side2 ?side3 ?side4 A18.out).mono ?_); (case side1 => refine (Kd.R_reads' (e := 97) (base := w.heap.size) (ok := fun k_ => some k_ ≠ (.slice Ao12 t107.length co12 : Value).ownBlock) (n := t104.length) (c := co11) ?_).2.2; exact (by (with_reducible repeat (first | apply Kd.R_alloc | apply Kd.R_drewN | apply Kd.R_drew)); exact (yf HO106.out BK101.out (fun _ h_ => h_.1)))); (case side2 => exact (Kd.R_reads' HO106.out).2.1); (case side3 => refine (Kd.R_reads' (e := 97) (base := w.heap.size) (ok := fun k_ => some k_ ≠ (.slice Ao11 t104.length co11 : Value).ownBlock) (n := t107.length) (c := co12) ?_).2.2; exact (by (with_reducible repeat (first | apply Kd.R_alloc | apply Kd.R_drewN | apply Kd.R_drew)); exact (yf HO109.out BK101.out (fun _ h_ => h_.1)))); (case side4 => exact (Kd.R_reads' HO109.out).2.1); rintro e w21 ⟨v112, v115, rfl, ho0, ho1, hb⟩; refine ⟨_, rfl, ?_⟩; have HO113 := Aside0.mk (Kd.R_lower (Kd.R_new' (Kd.R_new' ho0 (Kd.R_lt (by (with_reducible repeat (first | apply Kd.R_alloc | apply Kd.R_drewN | apply Kd.R_drew)); exact (yf HO106.out BK101.out (fun _ h_ => h_.1))))) (Kd.R_lt (by (with_reducible repeat (first | apply Kd.R_alloc | apply Kd.R_drewN | apply Kd.R_drew)); exact (yf HO109.out BK101.out (fun _ h_ => h_.1))))) (below_size (zB2 HB.out GE101.out GE102.out))); have HO116 := Aside0.mk (Kd.R_lower (Kd.R_new' (Kd.R_new' ho1 (Kd.R_lt (by (with_reducible repeat (first | apply Kd.R_alloc | apply Kd.R_drewN | apply Kd.R_drew)); exact (yf HO106.out BK101.out (fun _ h_ => h_.1))))) (Kd.R_lt (by (with_reducible repeat (first | apply Kd.R_alloc | apply Kd.R_drewN | apply Kd.R_drew)); exact (yf HO109.out BK101.out (fun _ h_ => h_.1))))) (below_size (zB2 HB.out GE101.out GE102.out))); replace HO106 := Aside0.mk (Kd.R_mono (Kd.R_told (Kd.R_told (Kd.R_old (by (with_reducible repeat (first | apply Kd.R_alloc | apply Kd.R_drewN | apply Kd.R_drew)); exact (yf HO106.out BK101.out (fun _ h_ => h_.1))) hb) (Kd.R_base ho0)) (Kd.R_base ho1)) (fun _ h_ => h_.1)); replace HO109 := Aside0.mk (Kd.R_mono (Kd.R_told (Kd.R_told (Kd.R_old (by (with_reducible repeat (first | apply Kd.R_alloc | apply Kd.R_drewN | apply Kd.R_drew)); exact (yf HO109.out BK101.out (fun _ h_ => h_.1))) hb) (Kd.R_base ho0)) (Kd.R_base ho1)) (fun _ h_ => h_.1)); replace BK101 := Aside0.mk (blk_below (g := gb101) (o := .cells #[.bool t103, .slice Ao11 t104.length co11, .slice Ao12 t107.length co12] 60 (0, 0)) (by (with_reducible repeat (first | refine blk_drewN ?_ _ | refine blk_drew ?_ | refine blk_alloc ?_ _)); refine blk_put (cs := #[.bool t103, .slice Ao11 t104.length co11, .slice A0_2 l0_2.length c0_2]) ?_ 2 _ rfl; (with_reducible repeat (first | refine blk_drewN ?_ _ | refine blk_drew ?_ | refine blk_alloc ?_ _)); refine blk_put (cs := #[.bool t103, .slice A0_1 l0_1.length c0_1, .slice A0_2 l0_2.length c0_2]) ?_ 1 _ rfl; (with_reducible repeat (first | refine blk_drewN ?_ _ | refine blk_drew ?_ | refine blk_alloc ?_ _)); refine blk_put (cs := #[.bool a0_0, .slice A0_1 l0_1.length c0_1, .slice A0_2 l0_2.length c0_2]) ?_ 0 _ rfl; (with_reducible repeat (first | refine blk_drewN ?_ _ | refine blk_drew ?_ | refine blk_alloc ?_ _)); exact BK101.out) hb); replace BK102 := Aside0.mk (blk_below (g := gb102) (o := .cells #[.bool false, .slice none 0 0, .slice none 0 0] 60 (0, 0)) (by (with_reducible repeat (first | refine blk_drewN ?_ _ | refine blk_drew ?_ | refine blk_alloc ?_ _)); refine blk_far ?_ NB102_101.out _; (with_reducible repeat (first | refine blk_drewN ?_ _ | refine blk_drew ?_ | refine blk_alloc ?_ _)); refine blk_far ?_ NB102_101.out _; (with_reducible repeat (first | refine blk_drewN ?_ _ | refine blk_drew ?_ | refine blk_alloc ?_ _)); refine blk_far ?_ NB102_101.out _; (with_reducible repeat (first | refine blk_drewN ?_ _ | refine blk_drew ?_ | refine blk_alloc ?_ _)); exact BK102.out) hb); replace HB := yS2 HB GE101 GE102 hb; (try clear hb ho0); (try clear ho1); have hcz22_0 : w21.cell? ⟨gb101, 0, none⟩ = some (.bool t103) := (blk_cell BK101.out 0).trans rfl; have hcz22_1 : w21.cell? ⟨gb101, 1, none⟩ = some (.slice Ao11 t104.length co11) := (blk_cell BK101.out 1).trans rfl; have hcz22_2 : w21.cell? ⟨gb101, 2, none⟩ = some (.slice Ao12 t107.length co12) := (blk_cell BK101.out 2).trans rfl; have hfz22_0 := blk_frozen BK101.out 0; have hfz22_1 := blk_frozen BK101.out 1; have hfz22_2 := blk_frozen BK101.out 2; obtain ⟨Ao23, co23, rfl⟩ := Kd.R_slice HO113.out; obtain ⟨Ao24, co24, rfl⟩ := Kd.R_slice HO116.out))
    go_meet
    case rel => exact ⟨_, (t110), (t111), (t114), (false), (.slice Ao23 t111.length co23), (.slice Ao24 t114.length co24), H', ⟨zO⟩, ⟨by (with_reducible repeat (first | apply Kd.R_alloc | apply Kd.R_drewN | apply Kd.R_drew)); exact yf HO113.out BK101.out (fun _ hk => hk.1.1.1)⟩, ⟨by (with_reducible repeat (first | apply Kd.R_alloc | apply Kd.R_drewN | apply Kd.R_drew)); exact yf HO116.out BK101.out (fun _ hk => hk.1.1.1)⟩, ⟨by (with_reducible repeat (first | refine blk_drewN ?_ _ | refine blk_drew ?_ | refine blk_alloc ?_ _)); refine blk_put (cs := #[.bool t110, .slice Ao23 t111.length co23, .slice Ao12 t107.length co12]) ?_ 2 _ rfl; (with_reducible repeat (first | refine blk_drewN ?_ _ | refine blk_drew ?_ | refine blk_alloc ?_ _)); refine blk_put (cs := #[.bool t110, .slice Ao11 t104.length co11, .slice Ao12 t107.length co12]) ?_ 1 _ rfl; (with_reducible repeat (first | refine blk_drewN ?_ _ | refine blk_drew ?_ | refine blk_alloc ?_ _)); refine blk_put (cs := #[.bool t103, .slice Ao11 t104.length co11, .slice Ao12 t107.length co12]) ?_ 0 _ rfl; (with_reducible repeat (first | refine blk_drewN ?_ _ | refine blk_drew ?_ | refine blk_alloc ?_ _)); exact BK101.out⟩, ⟨by (with_reducible repeat (first | refine blk_drewN ?_ _ | refine blk_drew ?_ | refine blk_alloc ?_ _)); refine blk_far ?_ NB102_101.out _; (with_reducible repeat (first | refine blk_drewN ?_ _ | refine blk_drew ?_ | refine blk_alloc ?_ _)); refine blk_far ?_ NB102_101.out _; (with_reducible repeat (first | refine blk_drewN ?_ _ | refine blk_drew ?_ | refine blk_alloc ?_ _)); refine blk_far ?_ NB102_101.out _; (with_reducible repeat (first | refine blk_drewN ?_ _ | refine blk_drew ?_ | refine blk_alloc ?_ _)); exact BK102.out⟩, ⟨zB2 HB.out GE101.out GE102.out⟩⟩
  have c13b0 := decide_eq_false c13
  clear c13
  (first | rw [c13b0] | (simp only [i64_w, i32_w]; rw [c13b0]) | rw [c13b1] | skip)
  have H' := Aside0.mk H
  clear H
  go_wp2
  go_meet
  case rel => exact ⟨_, (t103), (t104), (t107), (false), (.slice Ao11 t104.length co11), (.slice Ao12 t107.length co12), H', ⟨zO⟩, ⟨by (with_reducible repeat (first | apply Kd.R_alloc | apply Kd.R_drewN | apply Kd.R_drew)); exact yf HO106.out BK101.out (fun _ hk => hk.1)⟩, ⟨by (with_reducible repeat (first | apply Kd.R_alloc | apply Kd.R_drewN | apply Kd.R_drew)); exact yf HO109.out BK101.out (fun _ hk => hk.1)⟩, ⟨by (with_reducible repeat (first | refine blk_drewN ?_ _ | refine blk_drew ?_ | refine blk_alloc ?_ _)); refine blk_put (cs := #[.bool t103, .slice Ao11 t104.length co11, .slice A0_2 l0_2.length c0_2]) ?_ 2 _ rfl; (with_reducible repeat (first | refine blk_drewN ?_ _ | refine blk_drew ?_ | refine blk_alloc ?_ _)); refine blk_put (cs := #[.bool t103, .slice A0_1 l0_1.length c0_1, .slice A0_2 l0_2.length c0_2]) ?_ 1 _ rfl; (with_reducible repeat (first | refine blk_drewN ?_ _ | refine blk_drew ?_ | refine blk_alloc ?_ _)); refine blk_put (cs := #[.bool a0_0, .slice A0_1 l0_1.length c0_1, .slice A0_2 l0_2.length c0_2]) ?_ 0 _ rfl; (with_reducible repeat (first | refine blk_drewN ?_ _ | refine blk_drew ?_ | refine blk_alloc ?_ _)); exact BK101.out⟩, ⟨by (with_reducible repeat (first | refine blk_drewN ?_ _ | refine blk_drew ?_ | refine blk_alloc ?_ _)); refine blk_far ?_ NB102_101.out _; (with_reducible repeat (first | refine blk_drewN ?_ _ | refine blk_drew ?_ | refine blk_alloc ?_ _)); refine blk_far ?_ NB102_101.out _; (with_reducible repeat (first | refine blk_drewN ?_ _ | refine blk_drew ?_ | refine blk_alloc ?_ _)); refine blk_far ?_ NB102_101.out _; (with_reducible repeat (first | refine blk_drewN ?_ _ | refine blk_drew ?_ | refine blk_alloc ?_ _)); exact BK102.out⟩, ⟨zB2 HB.out GE101.out GE102.out⟩⟩
 clear HC4
 (try clear c1);(try clear p2);(try clear c5);(try clear c7);(try clear c9);(try clear c10);(try clear c13);(try clear c13b0);(try clear c13b1);(try clear c14);(try clear c14b0);(try clear c14b1);(try clear c14b2);(try clear c15);(try clear c19);(try clear hcz10_0);(try clear hcz10_1);(try clear hcz10_2);(try clear hcz16_0);(try clear hcz16_1);(try clear hcz16_2);(try clear hcz17_0);(try clear hcz17_1);(try clear hcz17_2);(try clear hcz20_0);(try clear hcz20_1);(try clear hcz20_2);(try clear hcz22_0);(try clear hcz22_1);(try clear hcz22_2);(try clear hcz8_0);(try clear hcz8_1);(try clear hcz8_2);(try clear hfz10_0);(try clear hfz10_1);(try clear hfz10_2);(try clear hfz16_0);(try clear hfz16_1);(try clear hfz16_2);(try clear hfz17_0);(try clear hfz17_1);(try clear hfz17_2);(try clear hfz20_0);(try clear hfz20_1);(try clear hfz20_2);(try clear hfz22_0);(try clear hfz22_1);(try clear hfz22_2);(try clear hfz8_0);(try clear hfz8_1);(try clear hfz8_2)
 obtain ⟨kq, x102000_3, x102001_3, x102002_3, x103000_3, u102001, u102002, HA, HJ3, HO_102001, HO_102002, BK101, BK102, HB⟩ := hcut
 cases kq with | zero => exact absurd HA.out (by simp [codewrightref02_Pow.j0]) | succ kj3 => ?_
 have H := HA.out
 clear HA
 simp only [codewrightref02_Pow.j0] at H
 have HC25 := Aside0.mk H
 clear H
 go_upto_if 26 with (fail)
 go_cut [1] (fun v1 wc => ∃ (kq : Nat) (x1_24 : Int), v1 = .int .i64 x1_24 ∧ Aside0 (codewrightref02_Pow.j1 kq x1_24 ((Int.tmod a1 2) != 0) x102000_3 x102001_3 x102002_3 = some (r1, r2, r3, r4)) ∧ Aside0 (kq ≤ kj3) ∧ Aside0 (Kd.R (Kd.int .u32) 97 wc w.heap.size (fun k_ => some k_ ≠ (u102002 : Value).ownBlock) u102001 x102001_3) ∧ Aside0 (Kd.R (Kd.int .u32) 97 wc w.heap.size (fun k_ => some k_ ≠ (u102001 : Value).ownBlock) u102002 x102002_3) ∧ Aside0 (wc.heap[gb101]? = some (.cells #[.bool x102000_3, u102001, u102002] 60 (0, 0))) ∧ Aside0 (wc.heap[gb102]? = some (.cells #[.bool x103000_3, (.slice none 0 0), (.slice none 0 0)] 60 (0, 0))) ∧ Aside0 (Below w.heap.size w wc))
 case first =>
  have H := HC25.out
  clear HC25
  replace H := zi H
  rcases H with ⟨c26, H⟩ | ⟨c26, H⟩
  · have c26b0 := decide_eq_true c26
    clear c26
    (first | rw [c26b0] | (simp only [i64_w, i32_w]; rw [c26b0]) | rw [c26b1] | skip)
    obtain ⟨ji27, hji27⟩ : ∃ j_ : Int, (mx a1 (-4611686018427387904)) = j_ := ⟨_, rfl⟩
    replace H : (codewrightref02_Pow.j1 kj3 (wrap64 (-(ji27))) ((Int.tmod a1 2) != 0) x102000_3 x102001_3 x102002_3) = some (r1, r2, r3, r4) := by first | (rw [hji27] at H; exact H) | (simp only [hji27] at H ⊢; exact H)
    have hji27_ : (if a1 < (-4611686018427387904) then (-4611686018427387904) else a1) = ji27 := hji27
    have H' := Aside0.mk H
    clear H
    go_wp2
    go_meet
    case rel => exact ⟨_, (wrap64 (-(ji27))), (by first | rfl | (simp; done) | (simp only [← hji27] <;> (first | rfl | simp)) | (simp [*]; done)), H', ⟨by have := HJ3.out; first | omega | exact Nat.le_refl _⟩, ⟨zR HO_102001.out⟩, ⟨zR HO_102002.out⟩, ⟨by (with_reducible repeat (first | refine blk_drewN ?_ _ | refine blk_drew ?_ | refine blk_alloc ?_ _)); exact BK101.out⟩, ⟨by (with_reducible repeat (first | refine blk_drewN ?_ _ | refine blk_drew ?_ | refine blk_alloc ?_ _)); exact BK102.out⟩, ⟨zB2 HB.out GE101.out GE102.out⟩⟩
  have c26b0 := decide_eq_false c26
  clear c26
  (first | rw [c26b0] | (simp only [i64_w, i32_w]; rw [c26b0]) | rw [c26b1] | skip)
  have H' := Aside0.mk H
  clear H
  go_wp2
  go_meet
  case rel => exact ⟨_, (a1), zF, H', ⟨by have := HJ3.out; first | omega | exact Nat.le_refl _⟩, ⟨zR HO_102001.out⟩, ⟨zR HO_102002.out⟩, ⟨by (with_reducible repeat (first | refine blk_drewN ?_ _ | refine blk_drew ?_ | refine blk_alloc ?_ _)); exact BK101.out⟩, ⟨by (with_reducible repeat (first | refine blk_drewN ?_ _ | refine blk_drew ?_ | refine blk_alloc ?_ _)); exact BK102.out⟩, ⟨zB2 HB.out GE101.out GE102.out⟩⟩
 clear HC25
 (try clear c1);(try clear c2);(try clear p2);(try clear c5);(try clear p6);(try clear c7);(try clear c9);(try clear c10);(try clear c13);(try clear c13b0);(try clear c13b1);(try clear c14);(try clear c14b0);(try clear c14b1);(try clear c14b2);(try clear c15);(try clear c19);(try clear c26);(try clear c26b0);(try clear c26b1);(try clear hcz10_0);(try clear hcz10_1);(try clear hcz10_2);(try clear hcz16_0);(try clear hcz16_1);(try clear hcz16_2);(try clear hcz17_0);(try clear hcz17_1);(try clear hcz17_2);(try clear hcz20_0);(try clear hcz20_1);(try clear hcz20_2);(try clear hcz22_0);(try clear hcz22_1);(try clear hcz22_2);(try clear hcz8_0);(try clear hcz8_1);(try clear hcz8_2);(try clear hfz10_0);(try clear hfz10_1);(try clear hfz10_2);(try clear hfz16_0);(try clear hfz16_1);(try clear hfz16_2);(try clear hfz17_0);(try clear hfz17_1);(try clear hfz17_2);(try clear hfz20_0);(try clear hfz20_1);(try clear hfz20_2);(try clear hfz22_0);(try clear hfz22_1);(try clear hfz22_2);(try clear hfz8_0);(try clear hfz8_1);(try clear hfz8_2)
 obtain ⟨kq, x1_24, rfl, HA, HJ24, HO_102001, HO_102002, BK101, BK102, HB⟩ := hcut
 cases kq with | zero => exact absurd HA.out (by simp [codewrightref02_Pow.j1]) | succ kj24 => ?_
 have H := HA.out
 clear HA
 simp only [codewrightref02_Pow.j1] at H
 replace H := zb H
 obtain ⟨⟨t117, t118⟩, A28, H⟩ := H
 dsimp only at H
 replace H := zb H
 obtain ⟨⟨t121, t122⟩, A29, H⟩ := H
 dsimp only at H
 replace H := zi H
 rcases H with ⟨c30, H⟩ | ⟨c30, H⟩
 · have c30b0 := beq_iff_eq.mpr c30
   have c30b1 := bne_eq_false_iff_eq.mpr c30
   clear c30
   replace H := zi H
   rcases H with ⟨c31, H⟩ | ⟨c31, H⟩
   · have c31b0 := beq_iff_eq.mpr c31
     have c31b1 := bne_eq_false_iff_eq.mpr c31
     clear c31
     by_cases c32 : x102000_3 = true
     · subst c32
       rw [if_pos rfl] at H
       replace H := zb H
       obtain ⟨⟨t125, t126, t129⟩, A33, H⟩ := H
       dsimp only at H
       simp only [Option.some.injEq, Prod.mk.injEq] at H
       obtain ⟨rfl, rfl, rfl, rfl⟩ := H
       have hnb34 := NB101_102.out
       have hnc34 := NB102_101.out
       have hcz35_0 : wc.cell? ⟨gb101, 0, none⟩ = some (.bool true) := (blk_cell BK101.out 0).trans rfl
       have hcz35_1 : wc.cell? ⟨gb101, 1, none⟩ = some (u102001) := (blk_cell BK101.out 1).trans rfl
       have hcz35_2 : wc.cell? ⟨gb101, 2, none⟩ = some (u102002) := (blk_cell BK101.out 2).trans rfl
       have hfz35_0 := blk_frozen BK101.out 0
       have hfz35_1 := blk_frozen BK101.out 1
       have hfz35_2 := blk_frozen BK101.out 2
       obtain ⟨Ao36, co36, rfl⟩ := Kd.R_slice HO_102001.out
       go_wp2_with (first | ((with_reducible refine gate_callee (f := 22) rfl ?_); refine zG (some 34) Try.func22 #[.slice Ao36 x102001_3.length co36, .int .i64 x1_24] ?_; (with_reducible refine (codewrightref01_Pow.calls kj24 _ _ x102001_3 x1_24 t117 t118 _ ?side1 ?side2 A28.out).mono ?_); (case side1 => exact zC (Kd.R_reads' HO_102001.out).2.2); (case side2 => exact (Kd.R_reads' HO_102001.out).2.1); rintro e w37 ⟨v119, rfl, ho0, hb⟩; refine ⟨_, rfl, ?_⟩; replace ho0 := yn ho0 HO_102001; replace ho0 := yn ho0 HO_102002; have HO120 := yRl2 ho0 HB GE101 GE102; replace HO_102001 := yRe HO_102001 ho0 hb; replace HO_102002 := yRe HO_102002 ho0 hb; replace BK101 := yK BK101 hb; replace BK102 := yK BK102 hb; replace HB := yS2 HB GE101 GE102 hb; (try clear hb ho0); have hcz38_0 : w37.cell? ⟨gb101, 0, none⟩ = some (.bool true) := (blk_cell BK101.out 0).trans rfl; have hcz38_1 : w37.cell? ⟨gb101, 1, none⟩ = some (.slice Ao36 x102001_3.length co36) := (blk_cell BK101.out 1).trans rfl; have hcz38_2 : w37.cell? ⟨gb101, 2, none⟩ = some (u102002) := (blk_cell BK101.out 2).trans rfl; have hfz38_0 := blk_frozen BK101.out 0; have hfz38_1 := blk_frozen BK101.out 1; have hfz38_2 := blk_frozen BK101.out 2; obtain ⟨Ao39, co39, rfl⟩ := Kd.R_slice HO_102002.out) | ((with_reducible refine gate_callee (f := 22) rfl ?_); refine zG (some 41) Try.func22 #[.slice Ao39 x102002_3.length co39, .int .i64 x1_24] ?_; (with_reducible refine (codewrightref01_Pow.calls kj24 _ _ x102002_3 x1_24 t121 t122 _ ?side1 ?side2 A29.out).mono ?_); (case side1 => exact zC (Kd.R_reads' HO_102002.out).2.2); (case side2 => exact (Kd.R_reads' HO_102002.out).2.1); rintro e w40 ⟨v123, rfl, ho0, hb⟩; refine ⟨_, rfl, ?_⟩; replace ho0 := yn ho0 HO_102001; replace ho0 := yn ho0 HO_102002; replace ho0 := yn ho0 HO120; have HO124 := yRl2 ho0 HB GE101 GE102; replace HO_102001 := yRe HO_102001 ho0 hb; replace HO_102002 := yRe HO_102002 ho0 hb; replace HO120 := yRe HO120 ho0 hb; replace BK101 := yK BK101 hb; replace BK102 := yK BK102 hb; replace HB := yS2 HB GE101 GE102 hb; (try clear hb ho0); have hcz41_0 : w40.cell? ⟨gb101, 0, none⟩ = some (.bool true) := (blk_cell BK101.out 0).trans rfl; have hcz41_1 : w40.cell? ⟨gb101, 1, none⟩ = some (.slice Ao36 x102001_3.length co36) := (blk_cell BK101.out 1).trans rfl; have hcz41_2 : w40.cell? ⟨gb101, 2, none⟩ = some (.slice Ao39 x102002_3.length co39) := (blk_cell BK101.out 2).trans rfl; have hfz41_0 := blk_frozen BK101.out 0; have hfz41_1 := blk_frozen BK101.out 1; have hfz41_2 := blk_frozen BK101.out 2; obtain ⟨Ao42, co42, rfl⟩ := Kd.R_slice HO120.out; obtain ⟨Ao43, co43, rfl⟩ := Kd.R_slice HO124.out) | ((with_reducible refine gate_callee (f := 90) rfl ?_); refine zG (some 58) Try.func90 #[.bool ((Int.tmod a1 2) != 0), .slice Ao42 t117.length co42, .slice Ao43 t121.length co43] ?_; (with_reducible refine (codewrightref02_Make.calls kj24 ((Int.tmod a1 2) != 0) _ _ t117 _ _ t121 t125 t126 t129 _ ?side1 ?side2 ?side3 ?side4 A33.out).mono ?_); (case side1 => exact zC (Kd.R_reads' HO120.out).2.2); (case side2 => exact (Kd.R_reads' HO120.out).2.1); (case side3 => exact zC (Kd.R_reads' HO124.out).2.2); (case side4 => exact (Kd.R_reads' HO124.out).2.1); rintro e w44 ⟨v127, v130, rfl, ho0, ho1, hb⟩; refine ⟨_, rfl, ?_⟩; replace ho0 := yn ho0 HO_102001; replace ho0 := yn ho0 HO_102002; replace ho0 := yn ho0 HO120; replace ho0 := yn ho0 HO124; have HO128 := yRl2 ho0 HB GE101 GE102; replace ho1 := yn ho1 HO_102001; replace ho1 := yn ho1 HO_102002; replace ho1 := yn ho1 HO120; replace ho1 := yn ho1 HO124; have HO131 := yRl2 ho1 HB GE101 GE102; replace HO_102001 := yRt HO_102001 hb ho0 ho1; replace HO_102002 := yRt HO_102002 hb ho0 ho1; replace HO120 := yRt HO120 hb ho0 ho1; replace HO124 := yRt HO124 hb ho0 ho1; replace BK101 := yK BK101 hb; replace BK102 := yK BK102 hb; replace HB := yS2 HB GE101 GE102 hb; (try clear hb ho0); (try clear ho1); have hcz45_0 : w44.cell? ⟨gb102, 0, none⟩ = some (.bool x103000_3) := (blk_cell BK102.out 0).trans rfl; have hcz45_1 : w44.cell? ⟨gb102, 1, none⟩ = some (.slice none 0 0) := (blk_cell BK102.out 1).trans rfl; have hcz45_2 : w44.cell? ⟨gb102, 2, none⟩ = some (.slice none 0 0) := (blk_cell BK102.out 2).trans rfl; have hfz45_0 := blk_frozen BK102.out 0; have hfz45_1 := blk_frozen BK102.out 1; have hfz45_2 := blk_frozen BK102.out 2; obtain ⟨Ao46, co46, rfl⟩ := Kd.R_slice HO128.out; obtain ⟨Ao47, co47, rfl⟩ := Kd.R_slice HO131.out))
       refine bodyPost_ret (results_ct rfl _ _ gb102 60 #[.bool t125, .slice Ao46 t126.length co46, .slice Ao47 t129.length co47] (0, 0) _ rfl (by (with_reducible repeat (first | refine blk_drewN ?_ _ | refine blk_drew ?_ | refine blk_alloc ?_ _)); refine blk_put (cs := #[.bool t125, .slice Ao46 t126.length co46, .slice none 0 0]) ?_ 2 _ rfl; (with_reducible repeat (first | refine blk_drewN ?_ _ | refine blk_drew ?_ | refine blk_alloc ?_ _)); refine blk_put (cs := #[.bool t125, .slice none 0 0, .slice none 0 0]) ?_ 1 _ rfl; (with_reducible repeat (first | refine blk_drewN ?_ _ | refine blk_drew ?_ | refine blk_alloc ?_ _)); refine blk_put (cs := #[.bool x103000_3, .slice none 0 0, .slice none 0 0]) ?_ 0 _ rfl; (with_reducible repeat (first | refine blk_drewN ?_ _ | refine blk_drew ?_ | refine blk_alloc ?_ _)); exact BK102.out) Try.underlying60 rfl (by kernel_rfl)) rfl ?_
       exact ⟨_, _, zE, by (with_reducible repeat (first | apply Kd.R_alloc | apply Kd.R_drewN | apply Kd.R_drew)); exact yf HO128.out BK102.out (fun _ hk => hk.1.1.1.1.1), by (with_reducible repeat (first | apply Kd.R_alloc | apply Kd.R_drewN | apply Kd.R_drew)); exact yf HO131.out BK102.out (fun _ hk => hk.1.1.1.1.1), zB2 HB.out GE101.out GE102.out⟩
     replace c32 := Bool.eq_false_iff.mpr c32
     subst c32
     rw [if_neg Bool.false_ne_true] at H
     replace H := zb H
     obtain ⟨⟨t132, t133, t136⟩, A48, H⟩ := H
     dsimp only at H
     simp only [Option.some.injEq, Prod.mk.injEq] at H
     obtain ⟨rfl, rfl, rfl, rfl⟩ := H
     have hnb49 := NB101_102.out
     have hnc49 := NB102_101.out
     have hcz50_0 : wc.cell? ⟨gb101, 0, none⟩ = some (.bool false) := (blk_cell BK101.out 0).trans rfl
     have hcz50_1 : wc.cell? ⟨gb101, 1, none⟩ = some (u102001) := (blk_cell BK101.out 1).trans rfl
     have hcz50_2 : wc.cell? ⟨gb101, 2, none⟩ = some (u102002) := (blk_cell BK101.out 2).trans rfl
     have hfz50_0 := blk_frozen BK101.out 0
     have hfz50_1 := blk_frozen BK101.out 1
     have hfz50_2 := blk_frozen BK101.out 2
     obtain ⟨Ao51, co51, rfl⟩ := Kd.R_slice HO_102001.out
     go_wp2_with (first | ((with_reducible refine gate_callee (f := 22) rfl ?_); refine zG (some 34) Try.func22 #[.slice Ao51 x102001_3.length co51, .int .i64 x1_24] ?_; (with_reducible refine (codewrightref01_Pow.calls kj24 _ _ x102001_3 x1_24 t117 t118 _ ?side1 ?side2 A28.out).mono ?_); (case side1 => exact zC (Kd.R_reads' HO_102001.out).2.2); (case side2 => exact (Kd.R_reads' HO_102001.out).2.1); rintro e w52 ⟨v119, rfl, ho0, hb⟩; refine ⟨_, rfl, ?_⟩; replace ho0 := yn ho0 HO_102001; replace ho0 := yn ho0 HO_102002; have HO120 := yRl2 ho0 HB GE101 GE102; replace HO_102001 := yRe HO_102001 ho0 hb; replace HO_102002 := yRe HO_102002 ho0 hb; replace BK101 := yK BK101 hb; replace BK102 := yK BK102 hb; replace HB := yS2 HB GE101 GE102 hb; (try clear hb ho0); have hcz53_0 : w52.cell? ⟨gb101, 0, none⟩ = some (.bool false) := (blk_cell BK101.out 0).trans rfl; have hcz53_1 : w52.cell? ⟨gb101, 1, none⟩ = some (.slice Ao51 x102001_3.length co51) := (blk_cell BK101.out 1).trans rfl; have hcz53_2 : w52.cell? ⟨gb101, 2, none⟩ = some (u102002) := (blk_cell BK101.out 2).trans rfl; have hfz53_0 := blk_frozen BK101.out 0; have hfz53_1 := blk_frozen BK101.out 1; have hfz53_2 := blk_frozen BK101.out 2; obtain ⟨Ao54, co54, rfl⟩ := Kd.R_slice HO_102002.out) | ((with_reducible refine gate_callee (f := 22) rfl ?_); refine zG (some 41) Try.func22 #[.slice Ao54 x102002_3.length co54, .int .i64 x1_24] ?_; (with_reducible refine (codewrightref01_Pow.calls kj24 _ _ x102002_3 x1_24 t121 t122 _ ?side1 ?side2 A29.out).mono ?_); (case side1 => exact zC (Kd.R_reads' HO_102002.out).2.2); (case side2 => exact (Kd.R_reads' HO_102002.out).2.1); rintro e w55 ⟨v123, rfl, ho0, hb⟩; refine ⟨_, rfl, ?_⟩; replace ho0 := yn ho0 HO_102001; replace ho0 := yn ho0 HO_102002; replace ho0 := yn ho0 HO120; have HO124 := yRl2 ho0 HB GE101 GE102; replace HO_102001 := yRe HO_102001 ho0 hb; replace HO_102002 := yRe HO_102002 ho0 hb; replace HO120 := yRe HO120 ho0 hb; replace BK101 := yK BK101 hb; replace BK102 := yK BK102 hb; replace HB := yS2 HB GE101 GE102 hb; (try clear hb ho0); have hcz56_0 : w55.cell? ⟨gb101, 0, none⟩ = some (.bool false) := (blk_cell BK101.out 0).trans rfl; have hcz56_1 : w55.cell? ⟨gb101, 1, none⟩ = some (.slice Ao51 x102001_3.length co51) := (blk_cell BK101.out 1).trans rfl; have hcz56_2 : w55.cell? ⟨gb101, 2, none⟩ = some (.slice Ao54 x102002_3.length co54) := (blk_cell BK101.out 2).trans rfl; have hfz56_0 := blk_frozen BK101.out 0; have hfz56_1 := blk_frozen BK101.out 1; have hfz56_2 := blk_frozen BK101.out 2; obtain ⟨Ao57, co57, rfl⟩ := Kd.R_slice HO120.out; obtain ⟨Ao58, co58, rfl⟩ := Kd.R_slice HO124.out) | ((with_reducible refine gate_callee (f := 90) rfl ?_); refine zG (some 58) Try.func90 #[.bool false, .slice Ao57 t117.length co57, .slice Ao58 t121.length co58] ?_; (with_reducible refine (codewrightref02_Make.calls kj24 false _ _ t117 _ _ t121 t132 t133 t136 _ ?side1 ?side2 ?side3 ?side4 A48.out).mono ?_); (case side1 => exact zC (Kd.R_reads' HO120.out).2.2); (case side2 => exact (Kd.R_reads' HO120.out).2.1); (case side3 => exact zC (Kd.R_reads' HO124.out).2.2); (case side4 => exact (Kd.R_reads' HO124.out).2.1); rintro e w59 ⟨v134, v137, rfl, ho0, ho1, hb⟩; refine ⟨_, rfl, ?_⟩; replace ho0 := yn ho0 HO_102001; replace ho0 := yn ho0 HO_102002; replace ho0 := yn ho0 HO120; replace ho0 := yn ho0 HO124; have HO135 := yRl2 ho0 HB GE101 GE102; replace ho1 := yn ho1 HO_102001; replace ho1 := yn ho1 HO_102002; replace ho1 := yn ho1 HO120; replace ho1 := yn ho1 HO124; have HO138 := yRl2 ho1 HB GE101 GE102; replace HO_102001 := yRt HO_102001 hb ho0 ho1; replace HO_102002 := yRt HO_102002 hb ho0 ho1; replace HO120 := yRt HO120 hb ho0 ho1; replace HO124 := yRt HO124 hb ho0 ho1; replace BK101 := yK BK101 hb; replace BK102 := yK BK102 hb; replace HB := yS2 HB GE101 GE102 hb; (try clear hb ho0); (try clear ho1); have hcz60_0 : w59.cell? ⟨gb102, 0, none⟩ = some (.bool x103000_3) := (blk_cell BK102.out 0).trans rfl; have hcz60_1 : w59.cell? ⟨gb102, 1, none⟩ = some (.slice none 0 0) := (blk_cell BK102.out 1).trans rfl; have hcz60_2 : w59.cell? ⟨gb102, 2, none⟩ = some (.slice none 0 0) := (blk_cell BK102.out 2).trans rfl; have hfz60_0 := blk_frozen BK102.out 0; have hfz60_1 := blk_frozen BK102.out 1; have hfz60_2 := blk_frozen BK102.out 2; obtain ⟨Ao61, co61, rfl⟩ := Kd.R_slice HO135.out; obtain ⟨Ao62, co62, rfl⟩ := Kd.R_slice HO138.out))
     refine bodyPost_ret (results_ct rfl _ _ gb102 60 #[.bool t132, .slice Ao61 t133.length co61, .slice Ao62 t136.length co62] (0, 0) _ rfl (by (with_reducible repeat (first | refine blk_drewN ?_ _ | refine blk_drew ?_ | refine blk_alloc ?_ _)); refine blk_put (cs := #[.bool t132, .slice Ao61 t133.length co61, .slice none 0 0]) ?_ 2 _ rfl; (with_reducible repeat (first | refine blk_drewN ?_ _ | refine blk_drew ?_ | refine blk_alloc ?_ _)); refine blk_put (cs := #[.bool t132, .slice none 0 0, .slice none 0 0]) ?_ 1 _ rfl; (with_reducible repeat (first | refine blk_drewN ?_ _ | refine blk_drew ?_ | refine blk_alloc ?_ _)); refine blk_put (cs := #[.bool x103000_3, .slice none 0 0, .slice none 0 0]) ?_ 0 _ rfl; (with_reducible repeat (first | refine blk_drewN ?_ _ | refine blk_drew ?_ | refine blk_alloc ?_ _)); exact BK102.out) Try.underlying60 rfl (by kernel_rfl)) rfl ?_
     exact ⟨_, _, zE, by (with_reducible repeat (first | apply Kd.R_alloc | apply Kd.R_drewN | apply Kd.R_drew)); exact yf HO135.out BK102.out (fun _ hk => hk.1.1.1.1.1), by (with_reducible repeat (first | apply Kd.R_alloc | apply Kd.R_drewN | apply Kd.R_drew)); exact yf HO138.out BK102.out (fun _ hk => hk.1.1.1.1.1), zB2 HB.out GE101.out GE102.out⟩
   have c31b0 := beq_eq_false_iff_ne.mpr c31
   have c31b1 := bne_iff_ne.mpr c31
   simp only [Option.some.injEq, Prod.mk.injEq] at H
   obtain ⟨rfl, rfl, rfl, rfl⟩ := H
   have hnb63 := NB101_102.out
   have hnc63 := NB102_101.out
   have hcz64_0 : wc.cell? ⟨gb101, 0, none⟩ = some (.bool x102000_3) := (blk_cell BK101.out 0).trans rfl
   have hcz64_1 : wc.cell? ⟨gb101, 1, none⟩ = some (u102001) := (blk_cell BK101.out 1).trans rfl
   have hcz64_2 : wc.cell? ⟨gb101, 2, none⟩ = some (u102002) := (blk_cell BK101.out 2).trans rfl
   have hfz64_0 := blk_frozen BK101.out 0
   have hfz64_1 := blk_frozen BK101.out 1
   have hfz64_2 := blk_frozen BK101.out 2
   obtain ⟨Ao65, co65, rfl⟩ := Kd.R_slice HO_102001.out
   go_wp2_with (first | ((with_reducible refine gate_callee (f := 22) rfl ?_); refine zG (some 34) Try.func22 #[.slice Ao65 x102001_3.length co65, .int .i64 x1_24] ?_; (with_reducible refine (codewrightref01_Pow.calls kj24 _ _ x102001_3 x1_24 t117 t118 _ ?side1 ?side2 A28.out).mono ?_); (case side1 => exact zC (Kd.R_reads' HO_102001.out).2.2); (case side2 => exact (Kd.R_reads' HO_102001.out).2.1); rintro e w66 ⟨v119, rfl, ho0, hb⟩; refine ⟨_, rfl, ?_⟩; replace ho0 := yn ho0 HO_102001; replace ho0 := yn ho0 HO_102002; have HO120 := yRl2 ho0 HB GE101 GE102; replace HO_102001 := yRe HO_102001 ho0 hb; replace HO_102002 := yRe HO_102002 ho0 hb; replace BK101 := yK BK101 hb; replace BK102 := yK BK102 hb; replace HB := yS2 HB GE101 GE102 hb; (try clear hb ho0); have hcz67_0 : w66.cell? ⟨gb101, 0, none⟩ = some (.bool x102000_3) := (blk_cell BK101.out 0).trans rfl; have hcz67_1 : w66.cell? ⟨gb101, 1, none⟩ = some (.slice Ao65 x102001_3.length co65) := (blk_cell BK101.out 1).trans rfl; have hcz67_2 : w66.cell? ⟨gb101, 2, none⟩ = some (u102002) := (blk_cell BK101.out 2).trans rfl; have hfz67_0 := blk_frozen BK101.out 0; have hfz67_1 := blk_frozen BK101.out 1; have hfz67_2 := blk_frozen BK101.out 2; obtain ⟨Ao68, co68, rfl⟩ := Kd.R_slice HO_102002.out) | ((with_reducible refine gate_callee (f := 22) rfl ?_); refine zG (some 41) Try.func22 #[.slice Ao68 x102002_3.length co68, .int .i64 x1_24] ?_; (with_reducible refine (codewrightref01_Pow.calls kj24 _ _ x102002_3 x1_24 t121 t122 _ ?side1 ?side2 A29.out).mono ?_); (case side1 => exact zC (Kd.R_reads' HO_102002.out).2.2); (case side2 => exact (Kd.R_reads' HO_102002.out).2.1); rintro e w69 ⟨v123, rfl, ho0, hb⟩; refine ⟨_, rfl, ?_⟩; replace ho0 := yn ho0 HO_102001; replace ho0 := yn ho0 HO_102002; replace ho0 := yn ho0 HO120; have HO124 := yRl2 ho0 HB GE101 GE102; replace HO_102001 := yRe HO_102001 ho0 hb; replace HO_102002 := yRe HO_102002 ho0 hb; replace HO120 := yRe HO120 ho0 hb; replace BK101 := yK BK101 hb; replace BK102 := yK BK102 hb; replace HB := yS2 HB GE101 GE102 hb; (try clear hb ho0); have hcz70_0 : w69.cell? ⟨gb102, 0, none⟩ = some (.bool x103000_3) := (blk_cell BK102.out 0).trans rfl; have hcz70_1 : w69.cell? ⟨gb102, 1, none⟩ = some (.slice none 0 0) := (blk_cell BK102.out 1).trans rfl; have hcz70_2 : w69.cell? ⟨gb102, 2, none⟩ = some (.slice none 0 0) := (blk_cell BK102.out 2).trans rfl; have hfz70_0 := blk_frozen BK102.out 0; have hfz70_1 := blk_frozen BK102.out 1; have hfz70_2 := blk_frozen BK102.out 2))
   refine bodyPost_ret (results_ct rfl _ _ gb102 60 #[.bool false, .slice none 0 0, .slice none 0 0] (0, 0) _ rfl (by (with_reducible repeat (first | refine blk_drewN ?_ _ | refine blk_drew ?_ | refine blk_alloc ?_ _)); refine blk_put (cs := #[.bool false, .slice none 0 0, .slice none 0 0]) ?_ 2 _ rfl; (with_reducible repeat (first | refine blk_drewN ?_ _ | refine blk_drew ?_ | refine blk_alloc ?_ _)); refine blk_put (cs := #[.bool false, .slice none 0 0, .slice none 0 0]) ?_ 1 _ rfl; (with_reducible repeat (first | refine blk_drewN ?_ _ | refine blk_drew ?_ | refine blk_alloc ?_ _)); refine blk_put (cs := #[.bool x103000_3, .slice none 0 0, .slice none 0 0]) ?_ 0 _ rfl; (with_reducible repeat (first | refine blk_drewN ?_ _ | refine blk_drew ?_ | refine blk_alloc ?_ _)); exact BK102.out) Try.underlying60 rfl (by kernel_rfl)) rfl ?_
   exact ⟨_, _, zE, z0, z0, zB2 HB.out GE101.out GE102.out⟩
 have c30b0 := beq_eq_false_iff_ne.mpr c30
 have c30b1 := bne_iff_ne.mpr c30
 simp only [Option.some.injEq, Prod.mk.injEq] at H
 obtain ⟨rfl, rfl, rfl, rfl⟩ := H
 have hnb71 := NB101_102.out
 have hnc71 := NB102_101.out
 have hcz72_0 : wc.cell? ⟨gb101, 0, none⟩ = some (.bool x102000_3) := (blk_cell BK101.out 0).trans rfl
 have hcz72_1 : wc.cell? ⟨gb101, 1, none⟩ = some (u102001) := (blk_cell BK101.out 1).trans rfl
 have hcz72_2 : wc.cell? ⟨gb101, 2, none⟩ = some (u102002) := (blk_cell BK101.out 2).trans rfl
 have hfz72_0 := blk_frozen BK101.out 0
 have hfz72_1 := blk_frozen BK101.out 1
 have hfz72_2 := blk_frozen BK101.out 2
 obtain ⟨Ao73, co73, rfl⟩ := Kd.R_slice HO_102001.out
 go_wp2_with (first | ((with_reducible refine gate_callee (f := 22) rfl ?_); refine zG (some 34) Try.func22 #[.slice Ao73 x102001_3.length co73, .int .i64 x1_24] ?_; (with_reducible refine (codewrightref01_Pow.calls kj24 _ _ x102001_3 x1_24 t117 t118 _ ?side1 ?side2 A28.out).mono ?_); (case side1 => exact zC (Kd.R_reads' HO_102001.out).2.2); (case side2 => exact (Kd.R_reads' HO_102001.out).2.1); rintro e w74 ⟨v119, rfl, ho0, hb⟩; refine ⟨_, rfl, ?_⟩; replace ho0 := yn ho0 HO_102001; replace ho0 := yn ho0 HO_102002; have HO120 := yRl2 ho0 HB GE101 GE102; replace HO_102001 := yRe HO_102001 ho0 hb; replace HO_102002 := yRe HO_102002 ho0 hb; replace BK101 := yK BK101 hb; replace BK102 := yK BK102 hb; replace HB := yS2 HB GE101 GE102 hb; (try clear hb ho0); have hcz75_0 : w74.cell? ⟨gb101, 0, none⟩ = some (.bool x102000_3) := (blk_cell BK101.out 0).trans rfl; have hcz75_1 : w74.cell? ⟨gb101, 1, none⟩ = some (.slice Ao73 x102001_3.length co73) := (blk_cell BK101.out 1).trans rfl; have hcz75_2 : w74.cell? ⟨gb101, 2, none⟩ = some (u102002) := (blk_cell BK101.out 2).trans rfl; have hfz75_0 := blk_frozen BK101.out 0; have hfz75_1 := blk_frozen BK101.out 1; have hfz75_2 := blk_frozen BK101.out 2; obtain ⟨Ao76, co76, rfl⟩ := Kd.R_slice HO_102002.out) | ((with_reducible refine gate_callee (f := 22) rfl ?_); refine zG (some 41) Try.func22 #[.slice Ao76 x102002_3.length co76, .int .i64 x1_24] ?_; (with_reducible refine (codewrightref01_Pow.calls kj24 _ _ x102002_3 x1_24 t121 t122 _ ?side1 ?side2 A29.out).mono ?_); (case side1 => exact zC (Kd.R_reads' HO_102002.out).2.2); (case side2 => exact (Kd.R_reads' HO_102002.out).2.1); rintro e w77 ⟨v123, rfl, ho0, hb⟩; refine ⟨_, rfl, ?_⟩; replace ho0 := yn ho0 HO_102001; replace ho0 := yn ho0 HO_102002; replace ho0 := yn ho0 HO120; have HO124 := yRl2 ho0 HB GE101 GE102; replace HO_102001 := yRe HO_102001 ho0 hb; replace HO_102002 := yRe HO_102002 ho0 hb; replace HO120 := yRe HO120 ho0 hb; replace BK101 := yK BK101 hb; replace BK102 := yK BK102 hb; replace HB := yS2 HB GE101 GE102 hb; (try clear hb ho0); have hcz78_0 : w77.cell? ⟨gb102, 0, none⟩ = some (.bool x103000_3) := (blk_cell BK102.out 0).trans rfl; have hcz78_1 : w77.cell? ⟨gb102, 1, none⟩ = some (.slice none 0 0) := (blk_cell BK102.out 1).trans rfl; have hcz78_2 : w77.cell? ⟨gb102, 2, none⟩ = some (.slice none 0 0) := (blk_cell BK102.out 2).trans rfl; have hfz78_0 := blk_frozen BK102.out 0; have hfz78_1 := blk_frozen BK102.out 1; have hfz78_2 := blk_frozen BK102.out 2))
 refine bodyPost_ret (results_ct rfl _ _ gb102 60 #[.bool false, .slice none 0 0, .slice none 0 0] (0, 0) _ rfl (by (with_reducible repeat (first | refine blk_drewN ?_ _ | refine blk_drew ?_ | refine blk_alloc ?_ _)); refine blk_put (cs := #[.bool false, .slice none 0 0, .slice none 0 0]) ?_ 2 _ rfl; (with_reducible repeat (first | refine blk_drewN ?_ _ | refine blk_drew ?_ | refine blk_alloc ?_ _)); refine blk_put (cs := #[.bool false, .slice none 0 0, .slice none 0 0]) ?_ 1 _ rfl; (with_reducible repeat (first | refine blk_drewN ?_ _ | refine blk_drew ?_ | refine blk_alloc ?_ _)); refine blk_put (cs := #[.bool x103000_3, .slice none 0 0, .slice none 0 0]) ?_ 0 _ rfl; (with_reducible repeat (first | refine blk_drewN ?_ _ | refine blk_drew ?_ | refine blk_alloc ?_ _)); exact BK102.out) Try.underlying60 rfl (by kernel_rfl)) rfl ?_
 exact ⟨_, _, zE, z0, z0, zB2 HB.out GE101.out GE102.out⟩
end Go.Proofs.Ytifkbghnmhineaa.PAll
