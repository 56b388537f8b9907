/- What functions of the program do and come to, for the statement MacwilliamsOrthogonal, part 3. Conditions: as each theorem says. -/
import Derived.Test.YtifkbghnmhineaaQOrthogonal2

namespace Go.Proofs.Ytifkbghnmhineaa.PAll
open Go.RowKit Go.Proofs.YtifkbghnmhineaaW.PrintWords Go.Proofs.YtifkbghnmhineaaW.PrintLast Go.Proofs.YtifkbghnmhineaaW.PrintMore
attribute [local go_sem] max2_int min2_int max_two min_two max_three min_three max_four min_four
set_option linter.unusedVariables false
set_option linter.unusedSimpArgs false
set_option maxHeartbeats 8000000 in
set_option maxRecDepth 100000 in
theorem rational_canonical.calls (k : Nat) (a0 : Bool) (P1_ : Nat → Prop) (A1 : Option Addr) (c1 : Nat) (l1 : List Int) (P2_ : Nat → Prop) (A2 : Option Addr) (c2 : Nat) (l2 : List Int) (r1 : Bool) (r2 : List Int) (r3 : List Int) (w : World) (hs1 : Kd.V (Kd.int .u32) 97 w w.heap.size (fun k_ => P1_ k_) (.slice A1 l1.length c1) l1) (hs2 : Kd.V (Kd.int .u32) 97 w w.heap.size (fun k_ => P2_ k_) (.slice A2 l2.length c2) l2) (h : rational_canonical.f k a0 l1 l2 = some (r1, r2, r3)) :
    Calls Try.prog 131 #[.bool a0, .slice A1 l1.length c1, .slice A2 l2.length c2] w fun e w' => ∃ v1_ v2_ : Value, e = .returned (.agg #[.bool r1, v1_, v2_]) ∧ Kd.V (Kd.int .u32) 97 w' w.heap.size (fun k_ => ((P1_ k_ ∨ P2_ k_) ∨ w.heap.size ≤ k_)) v1_ r2 ∧ Kd.V (Kd.int .u32) 97 w' w.heap.size (fun k_ => ((P1_ k_ ∨ P2_ k_) ∨ w.heap.size ≤ k_)) v2_ r3 ∧ Below w.heap.size w w' := by
 have hu60 := Try.underlying60
 have HO1 := Aside0.mk (show Kd.V (Kd.int .u32) 97 w w.heap.size (fun k_ => ((P1_ k_ ∨ P2_ k_) ∨ w.heap.size ≤ k_)) (.slice A1 l1.length c1) l1 from Kd.V_mono hs1 (fun k_ hk => .inl (.inl hk)))
 have HO2 := Aside0.mk (show Kd.V (Kd.int .u32) 97 w w.heap.size (fun k_ => ((P1_ k_ ∨ P2_ k_) ∨ w.heap.size ≤ k_)) (.slice A2 l2.length c2) l2 from Kd.V_mono hs2 (fun k_ hk => .inl (.inr hk)))
 have HB := Aside0.mk (Below.refl w.heap.size w)
 have H : ((nat_Bits.f k l1).bind fun t102 => (if t102 = 0 then (rational_canonical.j0 k a0 l1 l2 true) else ((nat_Bits.f k l2).bind fun t103 => (rational_canonical.j0 k a0 l1 l2 (t103 == 0))))) = some (r1, r2, r3) := h
 clear h
 have HC4 := Aside0.mk H
 clear H
 go_enter Try.func131, Try.ntmps131
 go_upto_region 1 with (first | ((with_reducible refine gate_dst (N := 6) rfl ?_); refine box_event ?hg (N := 6) ?hd (cs := #[.bool false, .slice none 0 0, .slice none 0 0]) (t := 60) ?hr ?_; (case hd => rfl); (case hg => rfl); (case hr => first | (go_simp; done) | (go_simp; rfl)); intro gb101 hg w5 hbox hb; replace HO1 := yVB HO1 hg hb; replace HO2 := yVB HO2 hg hb; have BK101 := Aside0.mk (hbox); have GW101 := yg hg HB; have GE101 := yg hg HB; replace HB := yS HB hb; clear hb hbox hg))
 (try simp only [Act.put, List.setIfInBounds_toArray, List.set_cons_zero, List.set_cons_succ])
 go_cut [15] (fun v15 wc => ∃ (kq : Nat) (x15_3 : Bool), v15 = .bool x15_3 ∧ Aside0 (rational_canonical.j0 kq a0 l1 l2 x15_3 = some (r1, r2, r3)) ∧ Aside0 (kq ≤ k) ∧ Aside0 (Kd.V (Kd.int .u32) 97 wc w.heap.size (fun k_ => ((P1_ k_ ∨ P2_ k_) ∨ w.heap.size ≤ k_) ∧ k_ ≠ gb101) (.slice A1 l1.length c1) l1) ∧ Aside0 (Kd.V (Kd.int .u32) 97 wc w.heap.size (fun k_ => ((P1_ k_ ∨ P2_ k_) ∨ w.heap.size ≤ k_) ∧ k_ ≠ gb101) (.slice A2 l2.length c2) l2) ∧ Aside0 (wc.heap[gb101]? = some (.cells #[.bool false, (.slice none 0 0), (.slice none 0 0)] 60 (0, 0))) ∧ Aside0 (Below w.heap.size w wc))
 case first =>
  have H := HC4.out
  clear HC4
  replace H := zb H
  obtain ⟨t102, A6, H⟩ := H
  replace H := zi H
  rcases H with ⟨c7, H⟩ | ⟨c7, H⟩
  · have c7b0 := beq_iff_eq.mpr c7
    have c7b1 := bne_eq_false_iff_eq.mpr c7
    clear c7
    (first | rw [c7b0] | (simp only [i64_w, i32_w]; rw [c7b0]) | rw [c7b1] | skip)
    have H' := Aside0.mk H
    clear H
    go_wp2_with (first | ((with_reducible refine gate_callee (f := 87) rfl ?_); refine zG (some 9) Try.func87 #[.slice A1 l1.length c1] ?_; (with_reducible refine (nat_Bits.calls k _ _ l1 t102 _ ?side1 ?side2 A6.out).mono ?_); (case side1 => exact zC (Kd.V_reads' HO1.out).2.2); (case side2 => exact (Kd.V_reads' HO1.out).2.1); rintro e w8 ⟨rfl, hb⟩; refine ⟨_, rfl, ?_⟩; replace HO1 := yVb HO1 hb; replace HO2 := yVb HO2 hb; replace BK101 := yK BK101 hb; replace HB := yS1 HB GE101 hb; (try clear hb); (try clear hb2); (try clear hk); (try clear hi)))
    go_meet
    case rel => exact ⟨_, (true), zF, H', ⟨zO⟩, ⟨zV HO1.out⟩, ⟨zV HO2.out⟩, ⟨by (with_reducible repeat (first | refine blk_drewN ?_ _ | refine blk_drew ?_ | refine blk_alloc ?_ _)); exact BK101.out⟩, ⟨zB1 HB.out GE101.out⟩⟩
  have c7b0 := beq_eq_false_iff_ne.mpr c7
  have c7b1 := bne_iff_ne.mpr c7
  (first | rw [c7b0] | (simp only [i64_w, i32_w]; rw [c7b0]) | rw [c7b1] | skip)
  replace H := zb H
  obtain ⟨t103, A9, H⟩ := H
  have H' := Aside0.mk H
  clear H
  go_wp2_with (first | ((with_reducible refine gate_callee (f := 87) rfl ?_); refine zG (some 9) Try.func87 #[.slice A1 l1.length c1] ?_; (with_reducible refine (nat_Bits.calls k _ _ l1 t102 _ ?side1 ?side2 A6.out).mono ?_); (case side1 => exact zC (Kd.V_reads' HO1.out).2.2); (case side2 => exact (Kd.V_reads' HO1.out).2.1); rintro e w10 ⟨rfl, hb⟩; refine ⟨_, rfl, ?_⟩; replace HO1 := yVb HO1 hb; replace HO2 := yVb HO2 hb; replace BK101 := yK BK101 hb; replace HB := yS1 HB GE101 hb; (try clear hb); (try clear hb2); (try clear hk); (try clear hi)) | (go_at_call 87; (with_reducible refine (nat_Bits.calls k _ _ l2 t103 _ ?side1 ?side2 A9.out).mono ?_); (case side1 => exact zC (Kd.V_reads' HO2.out).2.2); (case side2 => exact (Kd.V_reads' HO2.out).2.1); rintro e w11 ⟨rfl, hb⟩; replace HO1 := yVb HO1 hb; replace HO2 := yVb HO2 hb; replace BK101 := yK BK101 hb; replace HB := yS1 HB GE101 hb; (try clear hb); (try clear hb2); (try clear hk); (try clear hi)))
  go_meet
  case rel => exact ⟨_, ((t103 == 0)), zF, H', ⟨zO⟩, ⟨zV HO1.out⟩, ⟨zV HO2.out⟩, ⟨by (with_reducible repeat (first | refine blk_drewN ?_ _ | refine blk_drew ?_ | refine blk_alloc ?_ _)); exact BK101.out⟩, ⟨zB1 HB.out GE101.out⟩⟩
 clear HC4
 (try clear c1);(try clear c2);(try clear p2);(try clear c7);(try clear c7b0);(try clear c7b1);(try clear c8)
 obtain ⟨kq, x15_3, rfl, HA, HJ3, HO_1, HO_2, BK101, HB⟩ := hcut
 cases kq with | zero => exact absurd HA.out (by simp [rational_canonical.j0]) | succ kj3 => ?_
 have H := HA.out
 clear HA
 simp only [rational_canonical.j0] at H
 by_cases c12 : x15_3 = true
 · subst c12
   rw [if_pos rfl] at H
   replace H := zb H
   obtain ⟨t104, A13, H⟩ := H
   simp only [Option.some.injEq, Prod.mk.injEq] at H
   obtain ⟨rfl, rfl, rfl⟩ := H
   go_wp2_with (first | ((with_reducible refine gate_callee (f := 141) rfl ?_); refine zG (some 16) Try.func141 #[] ?_; (with_reducible refine (rational_one.calls  t104 _ A13.out).mono ?_); rintro e w14 ⟨v105, rfl, ho0, hb⟩; refine ⟨_, rfl, ?_⟩; replace HO_1 := yVe HO_1 ho0 hb; replace HO_2 := yVe HO_2 ho0 hb; replace ho0 := Kd.R_newM (M := fun k_ => (w.heap.size ≤ k_)) ho0 (below_size (zB1 HB.out GE101.out)) (fun k_ h_ => h_); have HO106 := yRl1 ho0 HB GE101; replace BK101 := yK BK101 hb; replace HB := yS1 HB GE101 hb; (try clear hb ho0); obtain ⟨Ao15, co15, rfl⟩ := Kd.R_slice HO106.out; have hcz16_0 : w14.cell? ⟨gb101, 0, none⟩ = some (.bool false) := (blk_cell BK101.out 0).trans rfl; have hcz16_1 : w14.cell? ⟨gb101, 1, none⟩ = some (.slice none 0 0) := (blk_cell BK101.out 1).trans rfl; have hcz16_2 : w14.cell? ⟨gb101, 2, none⟩ = some (.slice none 0 0) := (blk_cell BK101.out 2).trans rfl; have hfz16_0 := blk_frozen BK101.out 0; have hfz16_1 := blk_frozen BK101.out 1; have hfz16_2 := blk_frozen BK101.out 2))
   refine bodyPost_ret (results_cell_row rfl _ _ gb101 60 #[.bool false, .slice none 0 0, .slice Ao15 t104.length co15] (0, 0) _ rfl (by (with_reducible repeat (first | refine blk_drewN ?_ _ | refine blk_drew ?_ | refine blk_alloc ?_ _)); refine blk_put (cs := #[.bool false, .slice none 0 0, .slice none 0 0]) ?_ 2 _ rfl; (with_reducible repeat (first | refine blk_drewN ?_ _ | refine blk_drew ?_ | refine blk_alloc ?_ _)); refine blk_put (cs := #[.bool false, .slice none 0 0, .slice none 0 0]) ?_ 1 _ rfl; (with_reducible repeat (first | refine blk_drewN ?_ _ | refine blk_drew ?_ | refine blk_alloc ?_ _)); refine blk_put (cs := #[.bool false, .slice none 0 0, .slice none 0 0]) ?_ 0 _ rfl; (with_reducible repeat (first | refine blk_drewN ?_ _ | refine blk_drew ?_ | refine blk_alloc ?_ _)); exact BK101.out) Try.underlying60 rfl (by kernel_rfl)) rfl ?_
   exact ⟨_, _, zE, by exact Kd.V_nil _ _ _ _ _, Kd.V_mono (Kd.R_V (by (with_reducible repeat (first | apply Kd.R_alloc | apply Kd.R_drewN | apply Kd.R_drew)); exact yf HO106.out BK101.out (fun _ hk => hk.1.1))) (fun k_ hk => by first | exact ⟨(.inr (hk.1)), hk.2⟩ | exact (.inr (hk))), zB1 HB.out GE101.out⟩
 replace c12 := Bool.eq_false_iff.mpr c12
 subst c12
 rw [if_neg Bool.false_ne_true] at H
 replace H := zb H
 obtain ⟨t107, A17, H⟩ := H
 replace H := zb H
 obtain ⟨⟨t110, t113, t116⟩, A18, H⟩ := H
 dsimp only at H
 replace H := zb H
 obtain ⟨⟨t117, t120, t123⟩, A19, H⟩ := H
 dsimp only at H
 simp only [Option.some.injEq, Prod.mk.injEq] at H
 obtain ⟨rfl, rfl, rfl⟩ := H
 go_wp2_with (first | ((with_reducible refine gate_callee (f := 108) rfl ?_); refine zG (some 20) Try.func108 #[.slice A1 l1.length c1, .slice A2 l2.length c2] ?_; (with_reducible refine (nat_Gcd.calls kj3 _ _ l1 _ _ l2 t107 _ ?side1 ?side2 ?side3 ?side4 A17.out).mono ?_); (case side1 => exact zC (Kd.V_reads' HO_1.out).2.2); (case side2 => exact (Kd.V_reads' HO_1.out).2.1); (case side3 => exact zC (Kd.V_reads' HO_2.out).2.2); (case side4 => exact (Kd.V_reads' HO_2.out).2.1); rintro e w20 ⟨v108, rfl, ho0, hb⟩; refine ⟨_, rfl, ?_⟩; replace HO_1 := yVe HO_1 ho0 hb; replace HO_2 := yVe HO_2 ho0 hb; replace ho0 := Kd.R_newM (M := fun k_ => (w.heap.size ≤ k_)) ho0 (below_size (zB1 HB.out GE101.out)) (fun k_ h_ => h_); have HO109 := yRl1 ho0 HB GE101; replace BK101 := yK BK101 hb; replace HB := yS1 HB GE101 hb; (try clear hb ho0); obtain ⟨Ao21, co21, rfl⟩ := Kd.R_slice HO109.out) | ((with_reducible refine gate_callee (f := 105) rfl ?_); refine zG (some 24) Try.func105 #[.slice A1 l1.length c1, .slice Ao21 t107.length co21] ?_; (with_reducible refine (nat_DivMod.calls kj3 (fun k_ => ((((P1_ k_ ∨ P2_ k_) ∨ w.heap.size ≤ k_) ∧ k_ ≠ gb101) ∧ some k_ ≠ (.slice Ao21 t107.length co21 : Value).ownBlock)) _ _ l1 (fun k_ => some k_ = (.slice Ao21 t107.length co21 : Value).ownBlock) _ _ t107 t110 t113 t116 _ ?side1 ?side2 A18.out).mono ?_); (case side1 => exact HO_1.out); (case side2 => exact Kd.R_V (Kd.R_tight rfl (Kd.R_types (HO109.out) BK101.out (by decide)))); rintro e w22 ⟨v111, v114, rfl, ho0, ho1, hb⟩; refine ⟨_, rfl, ?_⟩; replace HO_1 := yVe HO_1 ho1 hb; replace HO_2 := yVe HO_2 ho1 hb; have HO112 := Aside0.mk (Kd.V_lower (Kd.V_mono (ok' := fun k_ => ((P1_ k_ ∨ P2_ k_) ∨ w.heap.size ≤ k_) ∧ some k_ ≠ (v114 : Value).ownBlock ∧ k_ ≠ gb101) ho0 (fun k_ hk_ => ⟨Or.elim hk_.1 (fun hs_ => Or.elim hs_ (fun hs_ => hs_.1.1) (fun hs_ => (.inr (((Kd.R_types (HO109.out) BK101.out (by decide)).1 k_ hs_.symm).1.1)))) (fun hn_ => (.inr (Nat.le_trans (below_size (zB1 HB.out GE101.out)) hn_))), hk_.2, Or.elim hk_.1 (fun hs_ => Or.elim hs_ (fun hs_ => hs_.1.2) (fun hs_ => ((Kd.R_types (HO109.out) BK101.out (by decide)).1 k_ hs_.symm).2)) (fun hn_ => (Kd.freshB (g := gb101) (o := .cells #[.bool false, .slice none 0 0, .slice none 0 0] 60 (0, 0)) (by (with_reducible repeat (first | refine blk_drewN ?_ _ | refine blk_drew ?_ | refine blk_alloc ?_ _)); exact BK101.out) k_ hn_))⟩)) (below_size (zB1 HB.out GE101.out))); replace ho1 := Kd.R_newM (M := fun k_ => (w.heap.size ≤ k_)) (yt ho1) (below_size (zB1 HB.out GE101.out)) (fun k_ h_ => h_); replace ho1 := yn ho1 HO109; have HO115 := yRl1 ho1 HB GE101; replace HO109 := yRe HO109 ho1 hb; replace BK101 := yK BK101 hb; replace HB := yS1 HB GE101 hb; (try clear hb ho0); (try clear ho1)) | ((with_reducible refine gate_callee (f := 105) rfl ?_); refine zG (some 31) Try.func105 #[.slice A2 l2.length c2, .slice Ao21 t107.length co21] ?_; (with_reducible refine (nat_DivMod.calls kj3 (fun k_ => (((((P1_ k_ ∨ P2_ k_) ∨ w.heap.size ≤ k_) ∧ k_ ≠ gb101) ∧ some k_ ≠ (.slice Ao21 t107.length co21 : Value).ownBlock) ∧ some k_ ≠ (v114 : Value).ownBlock)) _ _ l2 (fun k_ => some k_ = (.slice Ao21 t107.length co21 : Value).ownBlock) _ _ t107 t117 t120 t123 _ ?side1 ?side2 A19.out).mono ?_); (case side1 => exact HO_2.out); (case side2 => exact Kd.R_V (Kd.R_tight rfl (Kd.R_types (HO109.out) BK101.out (by decide)))); rintro e w23 ⟨v118, v121, rfl, ho0, ho1, hb⟩; refine ⟨_, rfl, ?_⟩; replace HO_1 := yVe HO_1 ho1 hb; replace HO_2 := yVe HO_2 ho1 hb; replace HO112 := yVe HO112 ho1 hb; have HO119 := Aside0.mk (Kd.V_lower (Kd.V_mono (ok' := fun k_ => ((P1_ k_ ∨ P2_ k_) ∨ w.heap.size ≤ k_) ∧ some k_ ≠ (v121 : Value).ownBlock ∧ some k_ ≠ (v114 : Value).ownBlock ∧ k_ ≠ gb101) ho0 (fun k_ hk_ => ⟨Or.elim hk_.1 (fun hs_ => Or.elim hs_ (fun hs_ => hs_.1.1.1) (fun hs_ => (.inr (((Kd.R_types (HO109.out) BK101.out (by decide)).1 k_ hs_.symm).1.1.1)))) (fun hn_ => (.inr (Nat.le_trans (below_size (zB1 HB.out GE101.out)) hn_))), hk_.2, Or.elim hk_.1 (fun hs_ => Or.elim hs_ (fun hs_ => hs_.2) (fun hs_ => ((Kd.R_types (HO109.out) BK101.out (by decide)).1 k_ hs_.symm).1.2)) (fun hn_ => (Kd.fresh' (Kd.R_lt (zR HO115.out)) k_ hn_)), Or.elim hk_.1 (fun hs_ => Or.elim hs_ (fun hs_ => hs_.1.1.2) (fun hs_ => ((Kd.R_types (HO109.out) BK101.out (by decide)).1 k_ hs_.symm).2)) (fun hn_ => (Kd.freshB (g := gb101) (o := .cells #[.bool false, .slice none 0 0, .slice none 0 0] 60 (0, 0)) (by (with_reducible repeat (first | refine blk_drewN ?_ _ | refine blk_drew ?_ | refine blk_alloc ?_ _)); exact BK101.out) k_ hn_))⟩)) (below_size (zB1 HB.out GE101.out))); replace ho1 := Kd.R_newM (M := fun k_ => (w.heap.size ≤ k_)) (yt ho1) (below_size (zB1 HB.out GE101.out)) (fun k_ h_ => h_); replace ho1 := yn ho1 HO109; replace ho1 := yn ho1 HO115; have HO122 := yRl1 ho1 HB GE101; replace HO109 := yRe HO109 ho1 hb; replace HO115 := yRe HO115 ho1 hb; replace BK101 := yK BK101 hb; replace HB := yS1 HB GE101 hb; (try clear hb ho0); (try clear ho1); obtain ⟨Ao24, co24, rfl⟩ := Kd.V_slice HO119.out; obtain ⟨Ao25, co25, rfl⟩ := Kd.V_slice HO112.out; have hcz26_0 : w23.cell? ⟨gb101, 0, none⟩ = some (.bool false) := (blk_cell BK101.out 0).trans rfl; have hcz26_1 : w23.cell? ⟨gb101, 1, none⟩ = some (.slice none 0 0) := (blk_cell BK101.out 1).trans rfl; have hcz26_2 : w23.cell? ⟨gb101, 2, none⟩ = some (.slice none 0 0) := (blk_cell BK101.out 2).trans rfl; have hfz26_0 := blk_frozen BK101.out 0; have hfz26_1 := blk_frozen BK101.out 1; have hfz26_2 := blk_frozen BK101.out 2))
 refine bodyPost_ret (results_cell_row rfl _ _ gb101 60 #[.bool a0, .slice Ao25 t110.length co25, .slice Ao24 t117.length co24] (0, 0) _ rfl (by (with_reducible repeat (first | refine blk_drewN ?_ _ | refine blk_drew ?_ | refine blk_alloc ?_ _)); refine blk_put (cs := #[.bool a0, .slice Ao25 t110.length co25, .slice none 0 0]) ?_ 2 _ rfl; (with_reducible repeat (first | refine blk_drewN ?_ _ | refine blk_drew ?_ | refine blk_alloc ?_ _)); refine blk_put (cs := #[.bool a0, .slice none 0 0, .slice none 0 0]) ?_ 1 _ rfl; (with_reducible repeat (first | refine blk_drewN ?_ _ | refine blk_drew ?_ | refine blk_alloc ?_ _)); refine blk_put (cs := #[.bool false, .slice none 0 0, .slice none 0 0]) ?_ 0 _ rfl; (with_reducible repeat (first | refine blk_drewN ?_ _ | refine blk_drew ?_ | refine blk_alloc ?_ _)); exact BK101.out) Try.underlying60 rfl (by kernel_rfl)) rfl ?_
 exact ⟨_, _, zE, by (with_reducible repeat (first | apply Kd.V_alloc | apply Kd.V_drewN | apply Kd.V_drew)); exact Kd.V_mono (Kd.V_far (p := ⟨gb101, 2, none⟩) (Kd.V_far (p := ⟨gb101, 1, none⟩) (Kd.V_far (p := ⟨gb101, 0, none⟩) (Kd.V_mono HO112.out (fun k_ hk => (⟨hk, hk.1.2.2⟩ : _ ∧ k_ ≠ gb101))) (fun _ hk => hk.2) (.bool a0)) (fun _ hk => hk.2) (.slice Ao25 t110.length co25)) (fun _ hk => hk.2) (.slice Ao24 t117.length co24)) (fun _ hk => hk.1.1.1), by (with_reducible repeat (first | apply Kd.V_alloc | apply Kd.V_drewN | apply Kd.V_drew)); exact Kd.V_mono (Kd.V_far (p := ⟨gb101, 2, none⟩) (Kd.V_far (p := ⟨gb101, 1, none⟩) (Kd.V_far (p := ⟨gb101, 0, none⟩) (Kd.V_mono HO119.out (fun k_ hk => (⟨hk, hk.2.2.2⟩ : _ ∧ k_ ≠ gb101))) (fun _ hk => hk.2) (.bool a0)) (fun _ hk => hk.2) (.slice Ao25 t110.length co25)) (fun _ hk => hk.2) (.slice Ao24 t117.length co24)) (fun _ hk => hk.1.1), zB1 HB.out GE101.out⟩
set_option maxHeartbeats 8000000 in
set_option maxRecDepth 100000 in
theorem rational_Trim.calls (k : Nat) (a0_0 : Bool) (P0_1_ : Nat → Prop) (A0_1 : Option Addr) (c0_1 : Nat) (l0_1 : List Int) (P0_2_ : Nat → Prop) (A0_2 : Option Addr) (c0_2 : Nat) (l0_2 : List Int) (r1 : Bool) (r2 : List Int) (r3 : List Int) (w : World) (hs0_1 : Kd.V (Kd.int .u32) 97 w w.heap.size (fun k_ => P0_1_ k_) (.slice A0_1 l0_1.length c0_1) l0_1) (hs0_2 : Kd.V (Kd.int .u32) 97 w w.heap.size (fun k_ => P0_2_ k_) (.slice A0_2 l0_2.length c0_2) l0_2) (h : rational_Trim.f k a0_0 l0_1 l0_2 = some (r1, r2, r3)) :
    Calls Try.prog 107 #[.agg #[.bool a0_0, .slice A0_1 l0_1.length c0_1, .slice A0_2 l0_2.length c0_2]] w fun e w' => ∃ v1_ v2_ : Value, e = .returned (.agg #[.bool r1, v1_, v2_]) ∧ Kd.V (Kd.int .u32) 97 w' w.heap.size (fun k_ => ((P0_1_ k_ ∨ P0_2_ k_) ∨ w.heap.size ≤ k_)) v1_ r2 ∧ Kd.V (Kd.int .u32) 97 w' w.heap.size (fun k_ => ((P0_1_ k_ ∨ P0_2_ k_) ∨ w.heap.size ≤ k_)) v2_ r3 ∧ Below w.heap.size w w' := by
 have hu60 := Try.underlying60
 have HO0_1 := Aside0.mk (show Kd.V (Kd.int .u32) 97 w w.heap.size (fun k_ => ((P0_1_ k_ ∨ P0_2_ k_) ∨ w.heap.size ≤ k_)) (.slice A0_1 l0_1.length c0_1) l0_1 from Kd.V_mono hs0_1 (fun k_ hk => .inl (.inl hk)))
 have HO0_2 := Aside0.mk (show Kd.V (Kd.int .u32) 97 w w.heap.size (fun k_ => ((P0_1_ k_ ∨ P0_2_ k_) ∨ w.heap.size ≤ k_)) (.slice A0_2 l0_2.length c0_2) l0_2 from Kd.V_mono hs0_2 (fun k_ hk => .inl (.inr hk)))
 have HB := Aside0.mk (Below.refl w.heap.size w)
 have H : ((rational_canonical.f k a0_0 l0_1 l0_2).bind fun bt103 => (some (bt103.1, bt103.2.1, bt103.2.2))) = some (r1, r2, r3) := h
 clear h
 replace H := zb H
 obtain ⟨⟨t103, t104, t107⟩, A2, H⟩ := H
 dsimp only at H
 simp only [Option.some.injEq, Prod.mk.injEq] at H
 obtain ⟨rfl, rfl, rfl⟩ := H
 go_enter Try.func107, Try.ntmps107
 go_wp2_with (first | ((with_reducible refine gate_dst (N := 1) rfl ?_); refine box_event ?hg (N := 1) ?hd (cs := #[.bool a0_0, .slice A0_1 l0_1.length c0_1, .slice A0_2 l0_2.length c0_2]) (t := 60) ?hr ?_; (case hd => rfl); (case hg => rfl); (case hr => first | (go_simp; done) | (go_simp; rfl)); intro gb101 hg w3 hbox hb; replace HO0_1 := yVB HO0_1 hg hb; replace HO0_2 := yVB HO0_2 hg hb; have BK101 := Aside0.mk (hbox); have GW101 := yg hg HB; have GE101 := yg hg HB; replace HB := yS HB hb; clear hb hbox hg) | ((with_reducible refine gate_dst (N := 2) rfl ?_); refine box_event ?hg (N := 2) ?hd (cs := #[.bool false, .slice none 0 0, .slice none 0 0]) (t := 60) ?hr ?_; (case hd => rfl); (case hg => rfl); (case hr => first | (go_simp; done) | (go_simp; rfl)); intro gb102 hg w4 hbox hb; replace HO0_1 := yVB HO0_1 hg hb; replace HO0_2 := yVB HO0_2 hg hb; have BK102 := Aside0.mk (hbox); have GW102 := yg1 hg HB GE101; have GE102 := yg1 hg HB GE101; replace HB := yS1 HB GE101 hb; have NB101_102 := ynl hg BK101; have NB102_101 := yng hg BK101; replace BK101 := yK BK101 hb; clear hb hbox hg; have hnb5 := NB101_102.out; have hnc5 := NB102_101.out; have hcz6_0 : w4.cell? ⟨gb101, 0, none⟩ = some (.bool a0_0) := (blk_cell BK101.out 0).trans rfl; have hcz6_1 : w4.cell? ⟨gb101, 1, none⟩ = some (.slice A0_1 l0_1.length c0_1) := (blk_cell BK101.out 1).trans rfl; have hcz6_2 : w4.cell? ⟨gb101, 2, none⟩ = some (.slice A0_2 l0_2.length c0_2) := (blk_cell BK101.out 2).trans rfl; have hfz6_0 := blk_frozen BK101.out 0; have hfz6_1 := blk_frozen BK101.out 1; have hfz6_2 := blk_frozen BK101.out 2) | ((with_reducible refine gate_callee (f := 131) rfl ?_); refine zG (some 9) Try.func131 #[.bool a0_0, .slice A0_1 l0_1.length c0_1, .slice A0_2 l0_2.length c0_2] ?_; (with_reducible refine (rational_canonical.calls k a0_0 (fun k_ => ((((P0_1_ k_ ∨ P0_2_ k_) ∨ w.heap.size ≤ k_) ∧ k_ ≠ gb101) ∧ k_ ≠ gb102)) _ _ l0_1 (fun k_ => ((((P0_1_ k_ ∨ P0_2_ k_) ∨ w.heap.size ≤ k_) ∧ k_ ≠ gb101) ∧ k_ ≠ gb102)) _ _ l0_2 t103 t104 t107 _ ?side1 ?side2 A2.out).mono ?_); (case side1 => exact HO0_1.out); (case side2 => exact HO0_2.out); rintro e w7 ⟨v105, v108, rfl, ho0, ho1, hb⟩; refine ⟨_, rfl, ?_⟩; replace HO0_1 := yVb HO0_1 hb; replace HO0_2 := yVb HO0_2 hb; have HO106 := Aside0.mk (Kd.V_lower (Kd.V_mono (ok' := fun k_ => ((P0_1_ k_ ∨ P0_2_ k_) ∨ w.heap.size ≤ k_) ∧ k_ ≠ gb101 ∧ k_ ≠ gb102) ho0 (fun k_ hk_ => ⟨Or.elim hk_ (fun hs_ => Or.elim hs_ (fun hs_ => hs_.1.1) (fun hs_ => hs_.1.1)) (fun hn_ => (.inr (Nat.le_trans (below_size (zB2 HB.out GE101.out GE102.out)) hn_))), Or.elim hk_ (fun hs_ => Or.elim hs_ (fun hs_ => hs_.1.2) (fun hs_ => hs_.1.2)) (fun hn_ => (Kd.freshB (g := gb101) (o := .cells #[.bool a0_0, .slice A0_1 l0_1.length c0_1, .slice A0_2 l0_2.length c0_2] 60 (0, 0)) (by (with_reducible repeat (first | refine blk_drewN ?_ _ | refine blk_drew ?_ | refine blk_alloc ?_ _)); exact BK101.out) k_ hn_)), Or.elim hk_ (fun hs_ => Or.elim hs_ (fun hs_ => hs_.2) (fun hs_ => hs_.2)) (fun hn_ => (Kd.freshB (g := gb102) (o := .cells #[.bool false, .slice none 0 0, .slice none 0 0] 60 (0, 0)) (by (with_reducible repeat (first | refine blk_drewN ?_ _ | refine blk_drew ?_ | refine blk_alloc ?_ _)); exact BK102.out) k_ hn_))⟩)) (below_size (zB2 HB.out GE101.out GE102.out))); have HO109 := Aside0.mk (Kd.V_lower (Kd.V_mono (ok' := fun k_ => ((P0_1_ k_ ∨ P0_2_ k_) ∨ w.heap.size ≤ k_) ∧ k_ ≠ gb101 ∧ k_ ≠ gb102) ho1 (fun k_ hk_ => ⟨Or.elim hk_ (fun hs_ => Or.elim hs_ (fun hs_ => hs_.1.1) (fun hs_ => hs_.1.1)) (fun hn_ => (.inr (Nat.le_trans (below_size (zB2 HB.out GE101.out GE102.out)) hn_))), Or.elim hk_ (fun hs_ => Or.elim hs_ (fun hs_ => hs_.1.2) (fun hs_ => hs_.1.2)) (fun hn_ => (Kd.freshB (g := gb101) (o := .cells #[.bool a0_0, .slice A0_1 l0_1.length c0_1, .slice A0_2 l0_2.length c0_2] 60 (0, 0)) (by (with_reducible repeat (first | refine blk_drewN ?_ _ | refine blk_drew ?_ | refine blk_alloc ?_ _)); exact BK101.out) k_ hn_)), Or.elim hk_ (fun hs_ => Or.elim hs_ (fun hs_ => hs_.2) (fun hs_ => hs_.2)) (fun hn_ => (Kd.freshB (g := gb102) (o := .cells #[.bool false, .slice none 0 0, .slice none 0 0] 60 (0, 0)) (by (with_reducible repeat (first | refine blk_drewN ?_ _ | refine blk_drew ?_ | refine blk_alloc ?_ _)); exact BK102.out) k_ hn_))⟩)) (below_size (zB2 HB.out GE101.out GE102.out))); replace BK101 := yK BK101 hb; replace BK102 := yK BK102 hb; replace HB := yS2 HB GE101 GE102 hb; (try clear hb ho0); (try clear ho1); have hcz8_0 : w7.cell? ⟨gb102, 0, none⟩ = some (.bool false) := (blk_cell BK102.out 0).trans rfl; have hcz8_1 : w7.cell? ⟨gb102, 1, none⟩ = some (.slice none 0 0) := (blk_cell BK102.out 1).trans rfl; have hcz8_2 : w7.cell? ⟨gb102, 2, none⟩ = some (.slice none 0 0) := (blk_cell BK102.out 2).trans rfl; have hfz8_0 := blk_frozen BK102.out 0; have hfz8_1 := blk_frozen BK102.out 1; have hfz8_2 := blk_frozen BK102.out 2; obtain ⟨Ao9, co9, rfl⟩ := Kd.V_slice HO106.out; obtain ⟨Ao10, co10, rfl⟩ := Kd.V_slice HO109.out))
 refine bodyPost_ret (results_cell_row rfl _ _ gb102 60 #[.bool t103, .slice Ao9 t104.length co9, .slice Ao10 t107.length co10] (0, 0) _ rfl (by (with_reducible repeat (first | refine blk_drewN ?_ _ | refine blk_drew ?_ | refine blk_alloc ?_ _)); refine blk_put (cs := #[.bool t103, .slice Ao9 t104.length co9, .slice none 0 0]) ?_ 2 _ rfl; (with_reducible repeat (first | refine blk_drewN ?_ _ | refine blk_drew ?_ | refine blk_alloc ?_ _)); refine blk_put (cs := #[.bool t103, .slice none 0 0, .slice none 0 0]) ?_ 1 _ rfl; (with_reducible repeat (first | refine blk_drewN ?_ _ | refine blk_drew ?_ | refine blk_alloc ?_ _)); refine blk_put (cs := #[.bool false, .slice none 0 0, .slice none 0 0]) ?_ 0 _ rfl; (with_reducible repeat (first | refine blk_drewN ?_ _ | refine blk_drew ?_ | refine blk_alloc ?_ _)); exact BK102.out) Try.underlying60 rfl (by kernel_rfl)) rfl ?_
 exact ⟨_, _, zE, by (with_reducible repeat (first | apply Kd.V_alloc | apply Kd.V_drewN | apply Kd.V_drew)); exact Kd.V_mono (Kd.V_far (p := ⟨gb102, 2, none⟩) (Kd.V_far (p := ⟨gb102, 1, none⟩) (Kd.V_far (p := ⟨gb102, 0, none⟩) (Kd.V_mono HO106.out (fun k_ hk => (⟨hk, hk.2.2⟩ : _ ∧ k_ ≠ gb102))) (fun _ hk => hk.2) (.bool t103)) (fun _ hk => hk.2) (.slice Ao9 t104.length co9)) (fun _ hk => hk.2) (.slice Ao10 t107.length co10)) (fun _ hk => hk.1.1), by (with_reducible repeat (first | apply Kd.V_alloc | apply Kd.V_drewN | apply Kd.V_drew)); exact Kd.V_mono (Kd.V_far (p := ⟨gb102, 2, none⟩) (Kd.V_far (p := ⟨gb102, 1, none⟩) (Kd.V_far (p := ⟨gb102, 0, none⟩) (Kd.V_mono HO109.out (fun k_ hk => (⟨hk, hk.2.2⟩ : _ ∧ k_ ≠ gb102))) (fun _ hk => hk.2) (.bool t103)) (fun _ hk => hk.2) (.slice Ao9 t104.length co9)) (fun _ hk => hk.2) (.slice Ao10 t107.length co10)) (fun _ hk => hk.1.1), zB2 HB.out GE101.out GE102.out⟩
set_option maxHeartbeats 8000000 in
set_option maxRecDepth 100000 in
theorem macwilliams_ratio.calls (k : Nat) (a0_0 : Bool) (P0_1_ : Nat → Prop) (A0_1 : Option Addr) (c0_1 : Nat) (l0_1 : List Int) (P1_ : Nat → Prop) (A1 : Option Addr) (c1 : Nat) (l1 : List Int) (r1 : Bool) (r2 : List Int) (r3 : List Int) (w : World) (hs0_1 : Kd.V (Kd.int .u32) 97 w w.heap.size (fun k_ => P0_1_ k_) (.slice A0_1 l0_1.length c0_1) l0_1) (hs1 : Kd.V (Kd.int .u32) 97 w w.heap.size (fun k_ => P1_ k_) (.slice A1 l1.length c1) l1) (h : macwilliams_ratio.f k a0_0 l0_1 l1 = some (r1, r2, r3)) :
    Calls Try.prog 93 #[.agg #[.bool a0_0, .slice A0_1 l0_1.length c0_1], .slice A1 l1.length c1] w fun e w' => ∃ v1_ v2_ : Value, e = .returned (.agg #[.bool r1, v1_, v2_]) ∧ Kd.V (Kd.int .u32) 97 w' w.heap.size (fun k_ => ((P0_1_ k_ ∨ P1_ k_) ∨ w.heap.size ≤ k_)) v1_ r2 ∧ Kd.V (Kd.int .u32) 97 w' w.heap.size (fun k_ => ((P0_1_ k_ ∨ P1_ k_) ∨ w.heap.size ≤ k_)) v2_ r3 ∧ Below w.heap.size w w' := by
 have hu113 := Try.underlying113
 have hu60 := Try.underlying60
 have HO0_1 := Aside0.mk (show Kd.V (Kd.int .u32) 97 w w.heap.size (fun k_ => ((P0_1_ k_ ∨ P1_ k_) ∨ w.heap.size ≤ k_)) (.slice A0_1 l0_1.length c0_1) l0_1 from Kd.V_mono hs0_1 (fun k_ hk => .inl (.inl hk)))
 have HO1 := Aside0.mk (show Kd.V (Kd.int .u32) 97 w w.heap.size (fun k_ => ((P0_1_ k_ ∨ P1_ k_) ∨ w.heap.size ≤ k_)) (.slice A1 l1.length c1) l1 from Kd.V_mono hs1 (fun k_ hk => .inl (.inr hk)))
 have HB := Aside0.mk (Below.refl w.heap.size w)
 have H : ((rational_Trim.f k a0_0 l0_1 l1).bind fun bt103 => (some (bt103.1, bt103.2.1, bt103.2.2))) = some (r1, r2, r3) := h
 clear h
 replace H := zb H
 obtain ⟨⟨t103, t104, t107⟩, A3, H⟩ := H
 dsimp only at H
 simp only [Option.some.injEq, Prod.mk.injEq] at H
 obtain ⟨rfl, rfl, rfl⟩ := H
 go_enter Try.func93, Try.ntmps93
 go_wp2_with (first | ((with_reducible refine gate_dst (N := 2) rfl ?_); refine box_event ?hg (N := 2) ?hd (cs := #[.bool a0_0, .slice A0_1 l0_1.length c0_1]) (t := 113) ?hr ?_; (case hd => rfl); (case hg => rfl); (case hr => first | (go_simp; done) | (go_simp; rfl)); intro gb101 hg w4 hbox hb; replace HO0_1 := yVB HO0_1 hg hb; replace HO1 := yVB HO1 hg hb; have BK101 := Aside0.mk (hbox); have GW101 := yg hg HB; have GE101 := yg hg HB; replace HB := yS HB hb; clear hb hbox hg) | ((with_reducible refine gate_dst (N := 4) rfl ?_); refine box_event ?hg (N := 4) ?hd (cs := #[.bool false, .slice none 0 0, .slice none 0 0]) (t := 60) ?hr ?_; (case hd => rfl); (case hg => rfl); (case hr => first | (go_simp; done) | (go_simp; rfl)); intro gb102 hg w5 hbox hb; replace HO0_1 := yVB HO0_1 hg hb; replace HO1 := yVB HO1 hg hb; have BK102 := Aside0.mk (hbox); have GW102 := yg1 hg HB GE101; have GE102 := yg1 hg HB GE101; replace HB := yS1 HB GE101 hb; have NB101_102 := ynl hg BK101; have NB102_101 := yng hg BK101; replace BK101 := yK BK101 hb; clear hb hbox hg; have hnb6 := NB101_102.out; have hnc6 := NB102_101.out; have hcz7_0 : w5.cell? ⟨gb101, 0, none⟩ = some (.bool a0_0) := (blk_cell BK101.out 0).trans rfl; have hcz7_1 : w5.cell? ⟨gb101, 1, none⟩ = some (.slice A0_1 l0_1.length c0_1) := (blk_cell BK101.out 1).trans rfl; have hfz7_0 := blk_frozen BK101.out 0; have hfz7_1 := blk_frozen BK101.out 1) | ((with_reducible refine gate_callee (f := 107) rfl ?_); refine zG (some 11) Try.func107 #[.agg #[.bool a0_0, .slice A0_1 l0_1.length c0_1, .slice A1 l1.length c1]] ?_; (with_reducible refine (rational_Trim.calls k a0_0 (fun k_ => ((((P0_1_ k_ ∨ P1_ k_) ∨ w.heap.size ≤ k_) ∧ k_ ≠ gb101) ∧ k_ ≠ gb102)) _ _ l0_1 (fun k_ => ((((P0_1_ k_ ∨ P1_ k_) ∨ w.heap.size ≤ k_) ∧ k_ ≠ gb101) ∧ k_ ≠ gb102)) _ _ l1 t103 t104 t107 _ ?side1 ?side2 A3.out).mono ?_); (case side1 => exact HO0_1.out); (case side2 => exact HO1.out); rintro e w8 ⟨v105, v108, rfl, ho0, ho1, hb⟩; refine ⟨_, rfl, ?_⟩; replace HO0_1 := yVb HO0_1 hb; replace HO1 := yVb HO1 hb; have HO106 := Aside0.mk (Kd.V_lower (Kd.V_mono (ok' := fun k_ => ((P0_1_ k_ ∨ P1_ k_) ∨ w.heap.size ≤ k_) ∧ k_ ≠ gb101 ∧ k_ ≠ gb102) ho0 (fun k_ hk_ => ⟨Or.elim hk_ (fun hs_ => Or.elim hs_ (fun hs_ => hs_.1.1) (fun hs_ => hs_.1.1)) (fun hn_ => (.inr (Nat.le_trans (below_size (zB2 HB.out GE101.out GE102.out)) hn_))), Or.elim hk_ (fun hs_ => Or.elim hs_ (fun hs_ => hs_.1.2) (fun hs_ => hs_.1.2)) (fun hn_ => (Kd.freshB (g := gb101) (o := .cells #[.bool a0_0, .slice A0_1 l0_1.length c0_1] 113 (0, 0)) (by (with_reducible repeat (first | refine blk_drewN ?_ _ | refine blk_drew ?_ | refine blk_alloc ?_ _)); exact BK101.out) k_ hn_)), Or.elim hk_ (fun hs_ => Or.elim hs_ (fun hs_ => hs_.2) (fun hs_ => hs_.2)) (fun hn_ => (Kd.freshB (g := gb102) (o := .cells #[.bool false, .slice none 0 0, .slice none 0 0] 60 (0, 0)) (by (with_reducible repeat (first | refine blk_drewN ?_ _ | refine blk_drew ?_ | refine blk_alloc ?_ _)); exact BK102.out) k_ hn_))⟩)) (below_size (zB2 HB.out GE101.out GE102.out))); have HO109 := Aside0.mk (Kd.V_lower (Kd.V_mono (ok' := fun k_ => ((P0_1_ k_ ∨ P1_ k_) ∨ w.heap.size ≤ k_) ∧ k_ ≠ gb101 ∧ k_ ≠ gb102) ho1 (fun k_ hk_ => ⟨Or.elim hk_ (fun hs_ => Or.elim hs_ (fun hs_ => hs_.1.1) (fun hs_ => hs_.1.1)) (fun hn_ => (.inr (Nat.le_trans (below_size (zB2 HB.out GE101.out GE102.out)) hn_))), Or.elim hk_ (fun hs_ => Or.elim hs_ (fun hs_ => hs_.1.2) (fun hs_ => hs_.1.2)) (fun hn_ => (Kd.freshB (g := gb101) (o := .cells #[.bool a0_0, .slice A0_1 l0_1.length c0_1] 113 (0, 0)) (by (with_reducible repeat (first | refine blk_drewN ?_ _ | refine blk_drew ?_ | refine blk_alloc ?_ _)); exact BK101.out) k_ hn_)), Or.elim hk_ (fun hs_ => Or.elim hs_ (fun hs_ => hs_.2) (fun hs_ => hs_.2)) (fun hn_ => (Kd.freshB (g := gb102) (o := .cells #[.bool false, .slice none 0 0, .slice none 0 0] 60 (0, 0)) (by (with_reducible repeat (first | refine blk_drewN ?_ _ | refine blk_drew ?_ | refine blk_alloc ?_ _)); exact BK102.out) k_ hn_))⟩)) (below_size (zB2 HB.out GE101.out GE102.out))); replace BK101 := yK BK101 hb; replace BK102 := yK BK102 hb; replace HB := yS2 HB GE101 GE102 hb; (try clear hb ho0); (try clear ho1); have hcz9_0 : w8.cell? ⟨gb102, 0, none⟩ = some (.bool false) := (blk_cell BK102.out 0).trans rfl; have hcz9_1 : w8.cell? ⟨gb102, 1, none⟩ = some (.slice none 0 0) := (blk_cell BK102.out 1).trans rfl; have hcz9_2 : w8.cell? ⟨gb102, 2, none⟩ = some (.slice none 0 0) := (blk_cell BK102.out 2).trans rfl; have hfz9_0 := blk_frozen BK102.out 0; have hfz9_1 := blk_frozen BK102.out 1; have hfz9_2 := blk_frozen BK102.out 2; obtain ⟨Ao10, co10, rfl⟩ := Kd.V_slice HO106.out; obtain ⟨Ao11, co11, rfl⟩ := Kd.V_slice HO109.out))
 refine bodyPost_ret (results_cell_row rfl _ _ gb102 60 #[.bool t103, .slice Ao10 t104.length co10, .slice Ao11 t107.length co11] (0, 0) _ rfl (by (with_reducible repeat (first | refine blk_drewN ?_ _ | refine blk_drew ?_ | refine blk_alloc ?_ _)); refine blk_put (cs := #[.bool t103, .slice Ao10 t104.length co10, .slice none 0 0]) ?_ 2 _ rfl; (with_reducible repeat (first | refine blk_drewN ?_ _ | refine blk_drew ?_ | refine blk_alloc ?_ _)); refine blk_put (cs := #[.bool t103, .slice none 0 0, .slice none 0 0]) ?_ 1 _ rfl; (with_reducible repeat (first | refine blk_drewN ?_ _ | refine blk_drew ?_ | refine blk_alloc ?_ _)); refine blk_put (cs := #[.bool false, .slice none 0 0, .slice none 0 0]) ?_ 0 _ rfl; (with_reducible repeat (first | refine blk_drewN ?_ _ | refine blk_drew ?_ | refine blk_alloc ?_ _)); exact BK102.out) Try.underlying60 rfl (by kernel_rfl)) rfl ?_
 exact ⟨_, _, zE, by (with_reducible repeat (first | apply Kd.V_alloc | apply Kd.V_drewN | apply Kd.V_drew)); exact Kd.V_mono (Kd.V_far (p := ⟨gb102, 2, none⟩) (Kd.V_far (p := ⟨gb102, 1, none⟩) (Kd.V_far (p := ⟨gb102, 0, none⟩) (Kd.V_mono HO106.out (fun k_ hk => (⟨hk, hk.2.2⟩ : _ ∧ k_ ≠ gb102))) (fun _ hk => hk.2) (.bool t103)) (fun _ hk => hk.2) (.slice Ao10 t104.length co10)) (fun _ hk => hk.2) (.slice Ao11 t107.length co11)) (fun _ hk => hk.1.1), by (with_reducible repeat (first | apply Kd.V_alloc | apply Kd.V_drewN | apply Kd.V_drew)); exact Kd.V_mono (Kd.V_far (p := ⟨gb102, 2, none⟩) (Kd.V_far (p := ⟨gb102, 1, none⟩) (Kd.V_far (p := ⟨gb102, 0, none⟩) (Kd.V_mono HO109.out (fun k_ hk => (⟨hk, hk.2.2⟩ : _ ∧ k_ ≠ gb102))) (fun _ hk => hk.2) (.bool t103)) (fun _ hk => hk.2) (.slice Ao10 t104.length co10)) (fun _ hk => hk.2) (.slice Ao11 t107.length co11)) (fun _ hk => hk.1.1), zB2 HB.out GE101.out GE102.out⟩
set_option maxHeartbeats 8000000 in
set_option maxRecDepth 100000 in
theorem macwilliams_Krawtchouk.calls (k : Nat) (a0 : Int) (a1 : Int) (a2 : Int) (a3 : Int) (r1 : Bool) (r2 : List Int) (r3 : List Int) (r4 : Int) (w : World) (h : macwilliams_Krawtchouk.f k a0 a1 a2 a3 = some (r1, r2, r3, r4)) :
    Calls Try.prog 42 #[.int .i64 a0, .int .i64 a1, .int .i64 a2, .int .i64 a3] w fun e w' => ∃ v1_ v2_ : Value, e = .returned (.tuple #[.agg #[.bool r1, v1_, v2_], .int .i64 r4]) ∧ Kd.V (Kd.int .u32) 97 w' w.heap.size (fun k_ => (w.heap.size ≤ k_)) v1_ r2 ∧ Kd.V (Kd.int .u32) 97 w' w.heap.size (fun k_ => (w.heap.size ≤ k_)) v2_ r3 ∧ Below w.heap.size w w' := by
 have hu60 := Try.underlying60
 have hu113 := Try.underlying113
 have HB := Aside0.mk (Below.refl w.heap.size w)
 have H : (if a0 < 2 then (macwilliams_Krawtchouk.j0 k a0 a1 a2 a3 true) else (if a0 > 256 then (macwilliams_Krawtchouk.j0 k a0 a1 a2 a3 true) else (if a1 < 0 then (macwilliams_Krawtchouk.j0 k a0 a1 a2 a3 true) else (if a1 > 64 then (macwilliams_Krawtchouk.j0 k a0 a1 a2 a3 true) else (if a2 < 0 then (macwilliams_Krawtchouk.j0 k a0 a1 a2 a3 true) else (if a2 > a1 then (macwilliams_Krawtchouk.j0 k a0 a1 a2 a3 true) else (if a3 < 0 then (macwilliams_Krawtchouk.j0 k a0 a1 a2 a3 true) else (macwilliams_Krawtchouk.j0 k a0 a1 a2 a3 (decide (a3 > a1)))))))))) = some (r1, r2, r3, r4) := h
 clear h
 have HC5 := Aside0.mk H
 clear H
 go_enter Try.func42, Try.ntmps42
 go_upto_region 1 with (first | ((with_reducible refine gate_dst (N := 8) rfl ?_); refine box_event ?hg (N := 8) ?hd (cs := #[.bool false, .slice none 0 0, .slice none 0 0]) (t := 60) ?hr ?_; (case hd => rfl); (case hg => rfl); (case hr => first | (go_simp; done) | (go_simp; rfl)); intro gb101 hg w6 hbox hb; have BK101 := Aside0.mk (hbox); have GW101 := yg hg HB; have GE101 := yg hg HB; replace HB := yS HB hb; clear hb hbox hg))
 (try simp only [Act.put, List.setIfInBounds_toArray, List.set_cons_zero, List.set_cons_succ])
 go_cut [41] (fun v41 wc => ∃ (kq : Nat) (x41_4 : Bool), v41 = .bool x41_4 ∧ Aside0 (macwilliams_Krawtchouk.j0 kq a0 a1 a2 a3 x41_4 = some (r1, r2, r3, r4)) ∧ Aside0 (kq ≤ k) ∧ Aside0 (wc.heap[gb101]? = some (.cells #[.bool false, (.slice none 0 0), (.slice none 0 0)] 60 (0, 0))) ∧ Aside0 (Below w.heap.size w wc))
 case first =>
  have H := HC5.out
  clear HC5
  replace H := zi H
  rcases H with ⟨c7, H⟩ | ⟨c7, H⟩
  · have c7b0 := decide_eq_true c7
    clear c7
    (first | rw [c7b0] | (simp only [i64_w, i32_w]; rw [c7b0]) | rw [c7b1] | skip)
    have H' := Aside0.mk H
    clear H
    go_wp2
    go_meet
    case rel => exact ⟨_, (true), zF, H', ⟨zO⟩, ⟨by (with_reducible repeat (first | refine blk_drewN ?_ _ | refine blk_drew ?_ | refine blk_alloc ?_ _)); exact BK101.out⟩, ⟨zB1 HB.out GE101.out⟩⟩
  have c7b0 := decide_eq_false c7
  clear c7
  (first | rw [c7b0] | (simp only [i64_w, i32_w]; rw [c7b0]) | rw [c7b1] | skip)
  replace H := zi H
  rcases H with ⟨c8, H⟩ | ⟨c8, H⟩
  · have c8b0 : decide (256 < a0) = true := decide_eq_true c8
    clear c8
    have H' := Aside0.mk H
    clear H
    go_wp2
    go_meet
    case rel => exact ⟨_, (true), zF, H', ⟨zO⟩, ⟨by (with_reducible repeat (first | refine blk_drewN ?_ _ | refine blk_drew ?_ | refine blk_alloc ?_ _)); exact BK101.out⟩, ⟨zB1 HB.out GE101.out⟩⟩
  have c8b0 : decide (256 < a0) = false := decide_eq_false c8
  clear c8
  replace H := zi H
  rcases H with ⟨c9, H⟩ | ⟨c9, H⟩
  · have c9b0 := decide_eq_true c9
    clear c9
    have H' := Aside0.mk H
    clear H
    go_wp2
    go_meet
    case rel => exact ⟨_, (true), zF, H', ⟨zO⟩, ⟨by (with_reducible repeat (first | refine blk_drewN ?_ _ | refine blk_drew ?_ | refine blk_alloc ?_ _)); exact BK101.out⟩, ⟨zB1 HB.out GE101.out⟩⟩
  have c9b0 := decide_eq_false c9
  clear c9
  replace H := zi H
  rcases H with ⟨c10, H⟩ | ⟨c10, H⟩
  · have c10b0 : decide (64 < a1) = true := decide_eq_true c10
    clear c10
    have H' := Aside0.mk H
    clear H
    go_wp2
    go_meet
    case rel => exact ⟨_, (true), zF, H', ⟨zO⟩, ⟨by (with_reducible repeat (first | refine blk_drewN ?_ _ | refine blk_drew ?_ | refine blk_alloc ?_ _)); exact BK101.out⟩, ⟨zB1 HB.out GE101.out⟩⟩
  have c10b0 : decide (64 < a1) = false := decide_eq_false c10
  clear c10
  replace H := zi H
  rcases H with ⟨c11, H⟩ | ⟨c11, H⟩
  · have c11b0 := decide_eq_true c11
    clear c11
    have H' := Aside0.mk H
    clear H
    go_wp2
    go_meet
    case rel => exact ⟨_, (true), zF, H', ⟨zO⟩, ⟨by (with_reducible repeat (first | refine blk_drewN ?_ _ | refine blk_drew ?_ | refine blk_alloc ?_ _)); exact BK101.out⟩, ⟨zB1 HB.out GE101.out⟩⟩
  have c11b0 := decide_eq_false c11
  clear c11
  replace H := zi H
  rcases H with ⟨c12, H⟩ | ⟨c12, H⟩
  · have c12b0 : decide (a1 < a2) = true := decide_eq_true c12
    clear c12
    have H' := Aside0.mk H
    clear H
    go_wp2
    go_meet
    case rel => exact ⟨_, (true), zF, H', ⟨zO⟩, ⟨by (with_reducible repeat (first | refine blk_drewN ?_ _ | refine blk_drew ?_ | refine blk_alloc ?_ _)); exact BK101.out⟩, ⟨zB1 HB.out GE101.out⟩⟩
  have c12b0 : decide (a1 < a2) = false := decide_eq_false c12
  clear c12
  replace H := zi H
  rcases H with ⟨c13, H⟩ | ⟨c13, H⟩
  · have c13b0 := decide_eq_true c13
    clear c13
    have H' := Aside0.mk H
    clear H
    go_wp2
    go_meet
    case rel => exact ⟨_, (true), zF, H', ⟨zO⟩, ⟨by (with_reducible repeat (first | refine blk_drewN ?_ _ | refine blk_drew ?_ | refine blk_alloc ?_ _)); exact BK101.out⟩, ⟨zB1 HB.out GE101.out⟩⟩
  have c13b0 := decide_eq_false c13
  clear c13
  have H' := Aside0.mk H
  clear H
  go_wp2
  go_meet
  case rel => exact ⟨_, (decide (a3 > a1)), zF, H', ⟨zO⟩, ⟨by (with_reducible repeat (first | refine blk_drewN ?_ _ | refine blk_drew ?_ | refine blk_alloc ?_ _)); exact BK101.out⟩, ⟨zB1 HB.out GE101.out⟩⟩
 clear HC5
 (try clear c1);(try clear p2);(try clear c4);(try clear c7);(try clear c7b0);(try clear c7b1);(try clear c8);(try clear c8b0);(try clear c9);(try clear c9b0);(try clear c10);(try clear c10b0);(try clear c11);(try clear c11b0);(try clear c12);(try clear c12b0);(try clear c13);(try clear c13b0)
 obtain ⟨kq, x41_4, rfl, HA, HJ4, BK101, HB⟩ := hcut
 cases kq with | zero => exact absurd HA.out (by simp [macwilliams_Krawtchouk.j0]) | succ kj4 => ?_
 have H := HA.out
 clear HA
 simp only [macwilliams_Krawtchouk.j0] at H
 by_cases c14 : x41_4 = true
 · subst c14
   rw [if_pos rfl] at H
   simp only [Option.some.injEq, Prod.mk.injEq] at H
   obtain ⟨rfl, rfl, rfl, rfl⟩ := H
   have hcz15_0 : wc.cell? ⟨gb101, 0, none⟩ = some (.bool false) := (blk_cell BK101.out 0).trans rfl
   have hcz15_1 : wc.cell? ⟨gb101, 1, none⟩ = some (.slice none 0 0) := (blk_cell BK101.out 1).trans rfl
   have hcz15_2 : wc.cell? ⟨gb101, 2, none⟩ = some (.slice none 0 0) := (blk_cell BK101.out 2).trans rfl
   have hfz15_0 := blk_frozen BK101.out 0
   have hfz15_1 := blk_frozen BK101.out 1
   have hfz15_2 := blk_frozen BK101.out 2
   go_wp2
   refine bodyPost_ret (results_ct rfl _ _ gb101 60 #[.bool false, .slice none 0 0, .slice none 0 0] (0, 0) _ rfl (by (with_reducible repeat (first | refine blk_drewN ?_ _ | refine blk_drew ?_ | refine blk_alloc ?_ _)); refine blk_put (cs := #[.bool false, .slice none 0 0, .slice none 0 0]) ?_ 2 _ rfl; (with_reducible repeat (first | refine blk_drewN ?_ _ | refine blk_drew ?_ | refine blk_alloc ?_ _)); refine blk_put (cs := #[.bool false, .slice none 0 0, .slice none 0 0]) ?_ 1 _ rfl; (with_reducible repeat (first | refine blk_drewN ?_ _ | refine blk_drew ?_ | refine blk_alloc ?_ _)); refine blk_put (cs := #[.bool false, .slice none 0 0, .slice none 0 0]) ?_ 0 _ rfl; (with_reducible repeat (first | refine blk_drewN ?_ _ | refine blk_drew ?_ | refine blk_alloc ?_ _)); exact BK101.out) Try.underlying60 rfl (by kernel_rfl)) rfl ?_
   exact ⟨_, _, zE, by exact Kd.V_nil _ _ _ _ _, by exact Kd.V_nil _ _ _ _ _, zB1 HB.out GE101.out⟩
 replace c14 := Bool.eq_false_iff.mpr c14
 subst c14
 rw [if_neg Bool.false_ne_true] at H
 replace H := zb H
 obtain ⟨t102, A16, H⟩ := H
 replace H := zg H
 obtain ⟨c17, H⟩ := H
 have c17b0 := decide_eq_true c17
 clear c17
 replace H := zg H
 obtain ⟨c18, H⟩ := H
 have c18b0 := decide_eq_true c18
 clear c18
 replace H := zg H
 obtain ⟨c19, H⟩ := H
 have c19b0 := decide_eq_true c19
 clear c19
 replace H := zg H
 obtain ⟨c20, H⟩ := H
 have c20b0 := decide_eq_true c20
 clear c20
 obtain ⟨y107, hy107⟩ : ∃ y_ : List Int, y_ = (([1] : List Int)) := ⟨_, rfl⟩
 replace H : ((macwilliams_ratio.f kj4 ((rd_T113 (rd_L6 t102 a3) a2).f0) ((rd_T113 (rd_L6 t102 a3) a2).f1) y107).bind fun bt110 => (some (bt110.1, bt110.2.1, bt110.2.2, 0))) = some (r1, r2, r3, r4) := zY hy107 H
 have Ny107 := Aside0.mk hy107
 clear hy107
 replace H := zb H
 obtain ⟨⟨t110, t111, t114⟩, A21, H⟩ := H
 dsimp only at H
 simp only [Option.some.injEq, Prod.mk.injEq] at H
 obtain ⟨rfl, rfl, rfl, rfl⟩ := H
 go_wp2_with (first | ((with_reducible refine gate_callee (f := 94) rfl ?_); refine zG (some 45) Try.func94 #[.int .i64 a0, .int .i64 a1] ?_; (with_reducible refine (macwilliams_table.calls kj4 a0 a1 t102 _ A16.out).mono ?_); rintro e w22 ⟨v103, rfl, ho0, hb⟩; refine ⟨_, rfl, ?_⟩; have HO104 := Aside0.mk (Kd.N_lower (Kd.N_mono (ok' := fun k_ => (w.heap.size ≤ k_) ∧ k_ ≠ gb101) ho0 (fun k_ hk_ => ⟨(Nat.le_trans (below_size (zB1 HB.out GE101.out)) hk_), (Kd.freshB (g := gb101) (o := .cells #[.bool false, .slice none 0 0, .slice none 0 0] 60 (0, 0)) (by (with_reducible repeat (first | refine blk_drewN ?_ _ | refine blk_drew ?_ | refine blk_alloc ?_ _)); exact BK101.out) k_ hk_)⟩)) (below_size (zB1 HB.out GE101.out))); replace BK101 := yK BK101 hb; replace HB := yS1 HB GE101 hb; (try clear hb ho0); obtain ⟨Ao23, co23, rfl⟩ := Kd.N_slice HO104.out; have p105 : 0 ≤ (a3 : Int) := of_decide_eq_true zA; have q105 : a3 < (t102.length : Int) := of_decide_eq_true zA; obtain ⟨ad105, A105_0, c105_0, e105, hx105_0, hl105_0, hi105_0⟩ := at_L6 (Kd.N_reads' HO104.out).2.2 a3 p105 q105; cases e105; obtain ⟨ce105, hce105, hMe105, hcc105⟩ := Kd.N_get HO104.out [] a3 p105 (by first | exact q105 | exact of_decide_eq_true zA | (have e_ := (Kd.N_reads' HO104.out).1; omega)); obtain ⟨ua105_0, uc105_0, rfl, ul105_0, ge105_0⟩ := Kd.FK_slice_open hMe105; have hv105_0 := hcc105 0 _ rfl; rw [Nat.add_zero, show ((Kd.slice 113 k113)).sz = 1 from rfl, Nat.mul_one] at hv105_0; replace hv105_0 := Option.some.inj (hv105_0.symm.trans hx105_0); injection hv105_0 with hva_ hvn_ hvc_; rw [hva_] at ge105_0; rw [hvc_] at ul105_0; have HL105_0 := Aside0.mk (show Kd.V k113 113 _ w.heap.size _ _ (rd_L6 t102 a3) from Kd.V_mk ul105_0 ge105_0); clear hva_ hvn_ hvc_ ge105_0 ul105_0; clear hcc105 hce105; have HR105_0 := Aside0.mk hi105_0; have HC105_0 := Aside0.mk hl105_0; clear hi105_0 hl105_0; replace p105 := eq_true p105; replace q105 := eq_true q105; have p106 : 0 ≤ (a2 : Int) := of_decide_eq_true zA; have q106 : a2 < ((rd_L6 t102 a3).length : Int) := of_decide_eq_true zA; obtain ⟨ad106, A106_1, c106_1, e106, hx106_0, hx106_1, hl106_1, hi106_1⟩ := at_T113 (zCr HR105_0.out) a2 p106 q106; cases e106; obtain ⟨ce106, hce106, hMe106, hcc106⟩ := Kd.V_get HL105_0.out z113 a2 p106 (by first | exact q106 | exact of_decide_eq_true zA | (have e_ := (Kd.V_reads' HL105_0.out).1; omega)); obtain ⟨ua106_1, uc106_1, rfl, ul106_1, ge106_1⟩ := k113_openF hMe106; have hv106_1 := hcc106 1 _ rfl; rw [add_field _ _ 1 (by omega)] at hv106_1; replace hv106_1 := Option.some.inj (hv106_1.symm.trans hx106_1); injection hv106_1 with hva_ hvn_ hvc_; rw [hva_] at ge106_1; rw [hvc_] at ul106_1; have HL106_1 := Aside0.mk (show Kd.V (Kd.int .u32) 97 _ w.heap.size _ _ ((rd_T113 (rd_L6 t102 a3) a2).f1) from Kd.V_mk ul106_1 ge106_1); clear hva_ hvn_ hvc_ ge106_1 ul106_1; clear hcc106 hce106; have HR106_1 := Aside0.mk hi106_1; have HC106_1 := Aside0.mk hl106_1; clear hi106_1 hl106_1; replace p106 := eq_true p106; replace q106 := eq_true q106) | ((with_reducible refine gate_dst (N := 52) rfl ?_); refine Kd.R_lit (Kd.int .u32) _ 97 ?hg (N := 52) ?hd (xs := ([1] : List Int)) (inner := [.int .u32 1]) (ok := fun _ => True) (okp := fun _ => True) ?hr ?hp (fun _ hk => hk) trivial (Below.refl _ _) (Nat.le_refl _) (by simp) ?_; (case hd => rfl); (case hg => rfl); (case hr => first | (go_simp; done) | (go_simp; rfl)); (case hp => exact (Reps.one (show Kd.M (Kd.int .u32) _ _ _ 1 [.int .u32 1] from rfl) (Reps.none _ _))); intro v108 w24 ho25 hb hg_ hnew_; clear hg_ hnew_; (first | rw [← Ny107.out] at ho25 | (simp only [Int.reduceToNat] at ho25; rw [← Ny107.out] at ho25)); replace HO104 := yNe HO104 ho25 hb; replace HL105_0 := yVe HL105_0 ho25 hb; replace HL106_1 := yVe HL106_1 ho25 hb; replace ho25 := Kd.R_newM (M := fun k_ => (w.heap.size ≤ k_)) ho25 (below_size (zB1 HB.out GE101.out)) (fun k_ h_ => h_); have HO109 := yRl1 ho25 HB GE101; replace BK101 := yK BK101 hb; replace HR105_0 := yCb HR105_0 hb; replace HR106_1 := yCb HR106_1 hb; replace HB := yS1 HB GE101 hb; clear hb ho25; obtain ⟨Ao26, co26, rfl⟩ := Kd.R_slice HO109.out) | ((with_reducible refine gate_callee (f := 93) rfl ?_); refine zG (some 53) Try.func93 #[.agg #[.bool ((rd_T113 (rd_L6 t102 a3) a2).f0), .slice A106_1 ((rd_T113 (rd_L6 t102 a3) a2).f1).length c106_1], .slice Ao26 y107.length co26] ?_; (with_reducible refine (macwilliams_ratio.calls kj4 ((rd_T113 (rd_L6 t102 a3) a2).f0) (fun k_ => ((((w.heap.size ≤ k_) ∧ k_ ≠ gb101) ∧ some k_ ≠ (.slice (some ad105) t102.length co23 : Value).ownBlock) ∧ some k_ ≠ (.slice Ao26 y107.length co26 : Value).ownBlock)) _ _ ((rd_T113 (rd_L6 t102 a3) a2).f1) (fun k_ => some k_ = (.slice Ao26 y107.length co26 : Value).ownBlock) _ _ y107 t110 t111 t114 _ ?side1 ?side2 A21.out).mono ?_); (case side1 => exact HL106_1.out); (case side2 => exact Kd.R_V (Kd.R_tight rfl (Kd.R_types (Kd.R_apart' (HO109.out) (Kd.N_typed HO104.out) (by decide)) BK101.out (by decide)))); rintro e w27 ⟨v112, v115, rfl, ho0, ho1, hb⟩; refine ⟨_, rfl, ?_⟩; replace HL105_0 := yVb HL105_0 hb; replace HL106_1 := yVb HL106_1 hb; have HO113 := Aside0.mk (Kd.V_lower (Kd.V_mono (ok' := fun k_ => (w.heap.size ≤ k_) ∧ some k_ ≠ (.slice (some ad105) t102.length co23 : Value).ownBlock ∧ k_ ≠ gb101) ho0 (fun k_ hk_ => ⟨Or.elim hk_ (fun hs_ => Or.elim hs_ (fun hs_ => hs_.1.1.1) (fun hs_ => ((Kd.R_types (Kd.R_apart' (HO109.out) (Kd.N_typed HO104.out) (by decide)) BK101.out (by decide)).1 k_ hs_.symm).1.1.1)) (fun hn_ => (Nat.le_trans (below_size (zB1 HB.out GE101.out)) hn_)), Or.elim hk_ (fun hs_ => Or.elim hs_ (fun hs_ => hs_.1.2) (fun hs_ => ((Kd.R_types (Kd.R_apart' (HO109.out) (Kd.N_typed HO104.out) (by decide)) BK101.out (by decide)).1 k_ hs_.symm).1.2)) (fun hn_ => (Kd.fresh' (Kd.N_lt (zN HO104.out)) k_ hn_)), Or.elim hk_ (fun hs_ => Or.elim hs_ (fun hs_ => hs_.1.1.2) (fun hs_ => ((Kd.R_types (Kd.R_apart' (HO109.out) (Kd.N_typed HO104.out) (by decide)) BK101.out (by decide)).1 k_ hs_.symm).2)) (fun hn_ => (Kd.freshB (g := gb101) (o := .cells #[.bool false, .slice none 0 0, .slice none 0 0] 60 (0, 0)) (by (with_reducible repeat (first | refine blk_drewN ?_ _ | refine blk_drew ?_ | refine blk_alloc ?_ _)); exact BK101.out) k_ hn_))⟩)) (below_size (zB1 HB.out GE101.out))); have HO116 := Aside0.mk (Kd.V_lower (Kd.V_mono (ok' := fun k_ => (w.heap.size ≤ k_) ∧ some k_ ≠ (.slice (some ad105) t102.length co23 : Value).ownBlock ∧ k_ ≠ gb101) ho1 (fun k_ hk_ => ⟨Or.elim hk_ (fun hs_ => Or.elim hs_ (fun hs_ => hs_.1.1.1) (fun hs_ => ((Kd.R_types (Kd.R_apart' (HO109.out) (Kd.N_typed HO104.out) (by decide)) BK101.out (by decide)).1 k_ hs_.symm).1.1.1)) (fun hn_ => (Nat.le_trans (below_size (zB1 HB.out GE101.out)) hn_)), Or.elim hk_ (fun hs_ => Or.elim hs_ (fun hs_ => hs_.1.2) (fun hs_ => ((Kd.R_types (Kd.R_apart' (HO109.out) (Kd.N_typed HO104.out) (by decide)) BK101.out (by decide)).1 k_ hs_.symm).1.2)) (fun hn_ => (Kd.fresh' (Kd.N_lt (zN HO104.out)) k_ hn_)), Or.elim hk_ (fun hs_ => Or.elim hs_ (fun hs_ => hs_.1.1.2) (fun hs_ => ((Kd.R_types (Kd.R_apart' (HO109.out) (Kd.N_typed HO104.out) (by decide)) BK101.out (by decide)).1 k_ hs_.symm).2)) (fun hn_ => (Kd.freshB (g := gb101) (o := .cells #[.bool false, .slice none 0 0, .slice none 0 0] 60 (0, 0)) (by (with_reducible repeat (first | refine blk_drewN ?_ _ | refine blk_drew ?_ | refine blk_alloc ?_ _)); exact BK101.out) k_ hn_))⟩)) (below_size (zB1 HB.out GE101.out))); replace HO104 := yNb HO104 hb; replace HO109 := yRb HO109 hb; replace BK101 := yK BK101 hb; replace HR105_0 := yCb HR105_0 hb; replace HR106_1 := yCb HR106_1 hb; replace HB := yS1 HB GE101 hb; (try clear hb ho0); (try clear ho1); have hcz28_0 : w27.cell? ⟨gb101, 0, none⟩ = some (.bool false) := (blk_cell BK101.out 0).trans rfl; have hcz28_1 : w27.cell? ⟨gb101, 1, none⟩ = some (.slice none 0 0) := (blk_cell BK101.out 1).trans rfl; have hcz28_2 : w27.cell? ⟨gb101, 2, none⟩ = some (.slice none 0 0) := (blk_cell BK101.out 2).trans rfl; have hfz28_0 := blk_frozen BK101.out 0; have hfz28_1 := blk_frozen BK101.out 1; have hfz28_2 := blk_frozen BK101.out 2; obtain ⟨Ao29, co29, rfl⟩ := Kd.V_slice HO113.out; obtain ⟨Ao30, co30, rfl⟩ := Kd.V_slice HO116.out))
 refine bodyPost_ret (results_ct rfl _ _ gb101 60 #[.bool t110, .slice Ao29 t111.length co29, .slice Ao30 t114.length co30] (0, 0) _ rfl (by (with_reducible repeat (first | refine blk_drewN ?_ _ | refine blk_drew ?_ | refine blk_alloc ?_ _)); refine blk_put (cs := #[.bool t110, .slice Ao29 t111.length co29, .slice none 0 0]) ?_ 2 _ rfl; (with_reducible repeat (first | refine blk_drewN ?_ _ | refine blk_drew ?_ | refine blk_alloc ?_ _)); refine blk_put (cs := #[.bool t110, .slice none 0 0, .slice none 0 0]) ?_ 1 _ rfl; (with_reducible repeat (first | refine blk_drewN ?_ _ | refine blk_drew ?_ | refine blk_alloc ?_ _)); refine blk_put (cs := #[.bool false, .slice none 0 0, .slice none 0 0]) ?_ 0 _ rfl; (with_reducible repeat (first | refine blk_drewN ?_ _ | refine blk_drew ?_ | refine blk_alloc ?_ _)); exact BK101.out) Try.underlying60 rfl (by kernel_rfl)) rfl ?_
 exact ⟨_, _, zE, by (with_reducible repeat (first | apply Kd.V_alloc | apply Kd.V_drewN | apply Kd.V_drew)); exact Kd.V_mono (Kd.V_far (p := ⟨gb101, 2, none⟩) (Kd.V_far (p := ⟨gb101, 1, none⟩) (Kd.V_far (p := ⟨gb101, 0, none⟩) (Kd.V_mono HO113.out (fun k_ hk => (⟨hk, hk.2.2⟩ : _ ∧ k_ ≠ gb101))) (fun _ hk => hk.2) (.bool t110)) (fun _ hk => hk.2) (.slice Ao29 t111.length co29)) (fun _ hk => hk.2) (.slice Ao30 t114.length co30)) (fun _ hk => hk.1.1), by (with_reducible repeat (first | apply Kd.V_alloc | apply Kd.V_drewN | apply Kd.V_drew)); exact Kd.V_mono (Kd.V_far (p := ⟨gb101, 2, none⟩) (Kd.V_far (p := ⟨gb101, 1, none⟩) (Kd.V_far (p := ⟨gb101, 0, none⟩) (Kd.V_mono HO116.out (fun k_ hk => (⟨hk, hk.2.2⟩ : _ ∧ k_ ≠ gb101))) (fun _ hk => hk.2) (.bool t110)) (fun _ hk => hk.2) (.slice Ao29 t111.length co29)) (fun _ hk => hk.2) (.slice Ao30 t114.length co30)) (fun _ hk => hk.1.1), zB1 HB.out GE101.out⟩
set_option maxHeartbeats 8000000 in
set_option maxRecDepth 100000 in
theorem codewrightref02_Is.calls (k : Nat) (a0_0 : Bool) (A0_1 : Option Addr) (c0_1 : Nat) (l0_1 : List Int) (A0_2 : Option Addr) (c0_2 : Nat) (l0_2 : List Int) (r : Bool) (w : World) (hr0_1 : Kd.C (Kd.int .u32) w A0_1 l0_1.length l0_1) (hc0_1 : l0_1.length ≤ c0_1) (hr0_2 : Kd.C (Kd.int .u32) w A0_2 l0_2.length l0_2) (hc0_2 : l0_2.length ≤ c0_2) (h : codewrightref02_Is.f k a0_0 l0_1 l0_2 = some r) :
    Calls Try.prog 98 #[.agg #[.bool a0_0, .slice A0_1 l0_1.length c0_1, .slice A0_2 l0_2.length c0_2]] w fun e w' => e = .returned (.bool r) ∧ Below w.heap.size w w' := by
 have hu60 := Try.underlying60
 have HR0_1 := Aside0.mk hr0_1
 have HC0_1 := Aside0.mk hc0_1
 clear hr0_1 hc0_1
 have HR0_2 := Aside0.mk hr0_2
 have HC0_2 := Aside0.mk hc0_2
 clear hr0_2 hc0_2
 have HB := Aside0.mk (Below.refl w.heap.size w)
 have H : ((codewrightref02_Trim.f k a0_0 l0_1 l0_2).bind fun bt102 => ((codewrightref02_Same.f k a0_0 l0_1 l0_2 bt102.1 bt102.2.1 bt102.2.2).bind fun t109 => (some t109))) = some r := h
 clear h
 replace H := zb H
 obtain ⟨⟨t102, t103, t106⟩, A2, H⟩ := H
 dsimp only at H
 replace H := zb H
 obtain ⟨t109, A3, H⟩ := H
 obtain rfl := Option.some.inj H
 go_enter Try.func98, Try.ntmps98
 try go_wp2_with (first | ((with_reducible refine gate_dst (N := 1) rfl ?_); refine box_event ?hg (N := 1) ?hd (cs := #[.bool a0_0, .slice A0_1 l0_1.length c0_1, .slice A0_2 l0_2.length c0_2]) (t := 60) ?hr ?_; (case hd => rfl); (case hg => rfl); (case hr => first | (go_simp; done) | (go_simp; rfl)); intro gb101 hg w4 hbox hb; have BK101 := Aside0.mk (hbox); have GW101 := yg hg HB; have GE101 := yg hg HB; replace HB := yS HB hb; clear hb hbox hg))
 replace BK101 := Aside0.mk (blk_drew BK101.out)
 replace HB := Aside0.mk (below_drew1 HB.out)
 refine start_ (n := 5) (S := fun w' => w'.cell? ⟨gb101, 0, none⟩ = some (.bool a0_0) ∧ w'.cell? ⟨gb101, 1, none⟩ = some (.slice A0_1 l0_1.length c0_1) ∧ w'.cell? ⟨gb101, 2, none⟩ = some (.slice A0_2 l0_2.length c0_2)) (ds := []) #[false, false, false, false, false] (by kernel_rfl) rfl rfl ⟨(blk_cell BK101.out 0).trans rfl, (blk_cell BK101.out 1).trans rfl, (blk_cell BK101.out 2).trans rfl⟩ (fun hHeld => ?_)
 generalize w4.drew = w5 at BK101 HB hHeld ⊢
 refine take_ (i := 0) (N := some 3) (v := ?_) (a' := ?_) #[true, false, false, false, false] rfl rfl (by kernel_rfl) (fun _ _ _ h => h) (Or.inl ⟨by rfl, ?_⟩) hHeld ?_ ?_
 rotate_left
 · rintro w' ⟨s0, s1, s2⟩
   go_simp
   with_reducible rfl
 rotate_left
 · simp only [Act.put, List.setIfInBounds_toArray, List.set_cons_zero, List.set_cons_succ, i64_w, i32_w]
   rfl
 refine take_ (i := 1) (N := some 4) (v := ?_) (a' := ?_) #[true, true, false, false, false] rfl rfl (by kernel_rfl) (fun _ _ _ h => h) (Or.inl ⟨by rfl, ?_⟩) hHeld ?_ ?_
 rotate_left
 · rintro w' ⟨s0, s1, s2⟩
   go_simp
   with_reducible rfl
 rotate_left
 · simp only [Act.put, List.setIfInBounds_toArray, List.set_cons_zero, List.set_cons_succ, i64_w, i32_w]
   rfl
 refine one_ (i := 2) (N := some 5) #[true, true, true, false, false] rfl rfl (by kernel_rfl) (by decide) (fun K hK => ?_)
 refine goes_ Try.func99 (by kernel_rfl) rfl #[.agg #[.bool a0_0, .slice A0_1 l0_1.length c0_1, .slice A0_2 l0_2.length c0_2]] (by rfl) rfl rfl (by (try simp only [List.map_toArray, List.map_cons, List.map_nil]); first | done | rfl | (simp only [List.length_drop, List.length_take]; rfl)) ?_
 with_reducible refine (codewrightref02_Trim.calls k a0_0 _ _ l0_1 _ _ l0_2 t102 t103 t106 _ ?side1 ?side2 ?side3 ?side4 A2.out).mono ?_
 (case side1 => exact zC (Kd.C_below HR0_1.out HB.out))
 (case side2 => exact HC0_1.out)
 (case side3 => exact zC (Kd.C_below HR0_2.out HB.out))
 (case side4 => exact HC0_2.out)
 rintro e w6 ⟨v104, v107, rfl, ho0, ho1, hb⟩
 refine ⟨_, rfl, ?_⟩
 have HO105 := yRl1 ho0 HB GE101
 have HO108 := yRl1 ho1 HB GE101
 replace BK101 := yK BK101 hb
 replace HB := yS1 HB GE101 hb
 (try clear hb)
 (try clear hb2)
 (try clear hk)
 (try clear hi)
 (try clear ho0)
 (try clear ho1)
 obtain ⟨Ao7, co7, eo7⟩ := Kd.R_slice HO105.out
 (first | subst eo7 | (injection eo7 with f1_ f2_ f3_; have f4_ := f1_.symm; have f5_ := f3_.symm; clear f1_ f2_ f3_; subst f4_; subst f5_))
 obtain ⟨Ao8, co8, eo8⟩ := Kd.R_slice HO108.out
 (first | subst eo8 | (injection eo8 with f1_ f2_ f3_; have f4_ := f1_.symm; have f5_ := f3_.symm; clear f1_ f2_ f3_; subst f4_; subst f5_))
 refine hK.out _ _ ⟨(blk_cell BK101.out 0).trans rfl, (blk_cell BK101.out 1).trans rfl, (blk_cell BK101.out 2).trans rfl⟩ (fun hHeld => ?_)
 clear hK K
 refine norm_ (a' := ?_) ?_ ?_
 rotate_left
 · show Act.put _ (some 5) _ = _
   simp only [Act.put, List.setIfInBounds_toArray, List.set_cons_zero, List.set_cons_succ, i64_w, i32_w]
   rfl
 refine one_ (i := 3) (N := some 6) #[true, true, true, true, false] rfl rfl (by kernel_rfl) (by decide) (fun K hK => ?_)
 refine goes_ Try.func45 (by kernel_rfl) rfl #[.agg #[.bool a0_0, .slice A0_1 l0_1.length c0_1, .slice A0_2 l0_2.length c0_2], .agg #[.bool t102, .slice Ao7 t103.length co7, .slice Ao8 t106.length co8]] (by rfl) rfl rfl (by (try simp only [List.map_toArray, List.map_cons, List.map_nil]); first | done | rfl | (simp only [List.length_drop, List.length_take]; rfl)) ?_
 with_reducible refine (codewrightref02_Same.calls k a0_0 _ _ l0_1 _ _ l0_2 t102 _ _ t103 _ _ t106 t109 _ ?side1 ?side2 ?side3 ?side4 ?side5 ?side6 ?side7 ?side8 A3.out).mono ?_
 (case side1 => exact zC (Kd.C_below HR0_1.out HB.out))
 (case side2 => exact HC0_1.out)
 (case side3 => exact zC (Kd.C_below HR0_2.out HB.out))
 (case side4 => exact HC0_2.out)
 (case side5 => exact zC (Kd.R_reads' HO105.out).2.2)
 (case side6 => exact (Kd.R_reads' HO105.out).2.1)
 (case side7 => exact zC (Kd.R_reads' HO108.out).2.2)
 (case side8 => exact (Kd.R_reads' HO108.out).2.1)
 rintro e w9 ⟨rfl, hb⟩
 refine ⟨_, rfl, ?_⟩
 replace HO105 := yRb HO105 hb
 replace HO108 := yRb HO108 hb
 replace BK101 := yK BK101 hb
 replace HB := yS1 HB GE101 hb
 (try clear hb)
 (try clear hb2)
 (try clear hk)
 (try clear hi)
 refine hK.out _ _ ⟨(blk_cell BK101.out 0).trans rfl, (blk_cell BK101.out 1).trans rfl, (blk_cell BK101.out 2).trans rfl⟩ (fun hHeld => ?_)
 clear hK K
 refine norm_ (a' := ?_) ?_ ?_
 rotate_left
 · show Act.put _ (some 6) _ = _
   simp only [Act.put, List.setIfInBounds_toArray, List.set_cons_zero, List.set_cons_succ, i64_w, i32_w]
   rfl
 refine pure_ (i := 4) (N := some 2) (v := ?_) (a' := ?_) #[true, true, true, true, true] rfl rfl (by kernel_rfl) (fun _ _ _ h => h) (Or.inl ⟨by rfl, ?_⟩) ?_ ?_
 rotate_left
 · intro w'
   go_simp
   with_reducible rfl
 rotate_left
 · simp only [Act.put, List.setIfInBounds_toArray, List.set_cons_zero, List.set_cons_succ, i64_w, i32_w]
   rfl
 refine done_ (by kernel_rfl) ?_
 try go_wp2
 go_ret
 exact ⟨zE, zB1 HB.out GE101.out⟩
def codewrightlaw24_k.T2 : Bool × List (List Nat × List Nat) := (true, [([], []), ([], []), ([1], [1]), ([2], [2]), ([3], [3]), ([4, 3, 3], [3, 4]), ([3, 5], [3, 5]), ([0, 5, 0], [0]), ([6, 7, 0, 1, 2, 3, 4, 5, 6, 7], [6])])
def codewrightlaw24_k.B2 : List Nat := [0, 0, 2, 6, 14, 30, 62, 63, 255]
theorem codewrightlaw24_k.tab2 : rtab .any (opsOf Try.f49 2) = codewrightlaw24_k.T2 := by kernel_rfl
theorem codewrightlaw24_k.bits2 : waitsOk codewrightlaw24_k.T2.2 codewrightlaw24_k.B2 = true := by kernel_rfl
set_option maxHeartbeats 8000000 in
set_option maxRecDepth 100000 in
theorem codewrightlaw24_k.calls (k : Nat) (a0 : Int) (a1 : Int) (a2 : Int) (a3 : Int) (r1 : Bool) (r2 : List Int) (r3 : List Int) (r4 : Bool) (w : World) (h : codewrightlaw24_k.f k a0 a1 a2 a3 = some (r1, r2, r3, r4)) :
    Calls Try.prog 49 #[.int .i64 a0, .int .i64 a1, .int .i64 a2, .int .i64 a3] w fun e w' => ∃ v1_ v2_ : Value, e = .returned (.tuple #[.agg #[.bool r1, v1_, v2_], .bool r4]) ∧ Kd.V (Kd.int .u32) 97 w' w.heap.size (fun k_ => (w.heap.size ≤ k_)) v1_ r2 ∧ Kd.V (Kd.int .u32) 97 w' w.heap.size (fun k_ => (w.heap.size ≤ k_)) v2_ r3 ∧ Below w.heap.size w w' := by
 have hu60 := Try.underlying60
 have HB := Aside0.mk (Below.refl w.heap.size w)
 have H : ((macwilliams_Krawtchouk.f k a0 a1 a2 a3).bind fun bt102 => (if bt102.2.2.2 = 0 then ((codewrightref02_Is.f k bt102.1 bt102.2.1 bt102.2.2.1).bind fun t111 => (some (bt102.1, bt102.2.1, bt102.2.2.1, t111))) else (some (bt102.1, bt102.2.1, bt102.2.2.1, false)))) = some (r1, r2, r3, r4) := h
 clear h
 replace H := zb H
 obtain ⟨⟨t102, t103, t106, t109⟩, A5, H⟩ := H
 dsimp only at H
 replace H := zi H
 rcases H with ⟨c6, H⟩ | ⟨c6, H⟩
 · have c6b0 := beq_iff_eq.mpr c6
   have c6b1 := bne_eq_false_iff_eq.mpr c6
   clear c6
   replace H := zb H
   obtain ⟨t111, A7, H⟩ := H
   simp only [Option.some.injEq, Prod.mk.injEq] at H
   obtain ⟨rfl, rfl, rfl, rfl⟩ := H
   go_enter Try.func49, Try.ntmps49
   try go_wp2_with (first | ((with_reducible refine gate_dst (N := 8) rfl ?_); refine box_event ?hg (N := 8) ?hd (cs := #[.bool false, .slice none 0 0, .slice none 0 0]) (t := 60) ?hr ?_; (case hd => rfl); (case hg => rfl); (case hr => first | (go_simp; done) | (go_simp; rfl)); intro gb101 hg w8 hbox hb; have BK101 := Aside0.mk (hbox); have GW101 := yg hg HB; have GE101 := yg hg HB; replace HB := yS HB hb; clear hb hbox hg) | ((with_reducible refine gate_callee (f := 42) rfl ?_); refine zG (some 17) Try.func42 #[.int .i64 a0, .int .i64 a1, .int .i64 a2, .int .i64 a3] ?_; (with_reducible refine (macwilliams_Krawtchouk.calls k a0 a1 a2 a3 t102 t103 t106 t109 _ A5.out).mono ?_); rintro e w9 ⟨v104, v107, rfl, ho0, ho1, hb⟩; refine ⟨_, rfl, ?_⟩; have HO105 := Aside0.mk (Kd.V_lower (Kd.V_mono (ok' := fun k_ => (w.heap.size ≤ k_) ∧ k_ ≠ gb101) ho0 (fun k_ hk_ => ⟨(Nat.le_trans (below_size (zB1 HB.out GE101.out)) hk_), (Kd.freshB (g := gb101) (o := .cells #[.bool false, .slice none 0 0, .slice none 0 0] 60 (0, 0)) (by (with_reducible repeat (first | refine blk_drewN ?_ _ | refine blk_drew ?_ | refine blk_alloc ?_ _)); exact BK101.out) k_ hk_)⟩)) (below_size (zB1 HB.out GE101.out))); have HO108 := Aside0.mk (Kd.V_lower (Kd.V_mono (ok' := fun k_ => (w.heap.size ≤ k_) ∧ k_ ≠ gb101) ho1 (fun k_ hk_ => ⟨(Nat.le_trans (below_size (zB1 HB.out GE101.out)) hk_), (Kd.freshB (g := gb101) (o := .cells #[.bool false, .slice none 0 0, .slice none 0 0] 60 (0, 0)) (by (with_reducible repeat (first | refine blk_drewN ?_ _ | refine blk_drew ?_ | refine blk_alloc ?_ _)); exact BK101.out) k_ hk_)⟩)) (below_size (zB1 HB.out GE101.out))); replace BK101 := yK BK101 hb; replace HB := yS1 HB GE101 hb; (try clear hb ho0); (try clear ho1)) | ((with_reducible refine gate_dst (N := 10) rfl ?_); refine box_event ?hg (N := 10) ?hd (cs := #[.bool false, .slice none 0 0, .slice none 0 0]) (t := 60) ?hr ?_; (case hd => rfl); (case hg => rfl); (case hr => first | (go_simp; done) | (go_simp; rfl)); intro gb110 hg w10 hbox hb; replace HO105 := yVB HO105 hg hb; replace HO108 := yVB HO108 hg hb; have BK110 := Aside0.mk (hbox); have GW110 := yg1 hg HB GE101; have GE110 := yg1 hg HB GE101; replace HB := yS1 HB GE101 hb; have NB101_110 := ynl hg BK101; have NB110_101 := yng hg BK101; replace BK101 := yK BK101 hb; clear hb hbox hg; have hnb11 := NB110_101.out; have hnc11 := NB101_110.out; have hcz12_0 : w10.cell? ⟨gb110, 0, none⟩ = some (.bool false) := (blk_cell BK110.out 0).trans rfl; have hcz12_1 : w10.cell? ⟨gb110, 1, none⟩ = some (.slice none 0 0) := (blk_cell BK110.out 1).trans rfl; have hcz12_2 : w10.cell? ⟨gb110, 2, none⟩ = some (.slice none 0 0) := (blk_cell BK110.out 2).trans rfl; have hfz12_0 := blk_frozen BK110.out 0; have hfz12_1 := blk_frozen BK110.out 1; have hfz12_2 := blk_frozen BK110.out 2; obtain ⟨Ao13, co13, rfl⟩ := Kd.V_slice HO105.out; obtain ⟨Ao14, co14, rfl⟩ := Kd.V_slice HO108.out))
   have n0_ : Aside0 (Kd.V (Kd.int .u32) 97 (((w10.setCell ⟨gb110, 0, none⟩ (.bool t102)).setCell ⟨gb110, 1, none⟩ (.slice Ao13 t103.length co13)).setCell ⟨gb110, 2, none⟩ (.slice Ao14 t106.length co14)) w.heap.size (fun k_ => (w.heap.size ≤ k_) ∧ k_ ≠ gb101 ∧ k_ ≠ gb110) (.slice Ao13 t103.length co13) t103) := ⟨by (with_reducible repeat (first | apply Kd.V_alloc | apply Kd.V_drewN | apply Kd.V_drew)); exact Kd.V_mono (Kd.V_far (p := ⟨gb110, 2, none⟩) (Kd.V_far (p := ⟨gb110, 1, none⟩) (Kd.V_far (p := ⟨gb110, 0, none⟩) (Kd.V_mono HO105.out (fun k_ hk => (⟨hk, hk.2⟩ : _ ∧ k_ ≠ gb110))) (fun _ hk => hk.2) (.bool t102)) (fun _ hk => hk.2) (.slice Ao13 t103.length co13)) (fun _ hk => hk.2) (.slice Ao14 t106.length co14)) (fun _ hk => ⟨hk.1.1.1, ⟨hk.1.1.2, hk.1.2⟩⟩)⟩
   have n1_ : Aside0 (Kd.V (Kd.int .u32) 97 (((w10.setCell ⟨gb110, 0, none⟩ (.bool t102)).setCell ⟨gb110, 1, none⟩ (.slice Ao13 t103.length co13)).setCell ⟨gb110, 2, none⟩ (.slice Ao14 t106.length co14)) w.heap.size (fun k_ => (w.heap.size ≤ k_) ∧ k_ ≠ gb101 ∧ k_ ≠ gb110) (.slice Ao14 t106.length co14) t106) := ⟨by (with_reducible repeat (first | apply Kd.V_alloc | apply Kd.V_drewN | apply Kd.V_drew)); exact Kd.V_mono (Kd.V_far (p := ⟨gb110, 2, none⟩) (Kd.V_far (p := ⟨gb110, 1, none⟩) (Kd.V_far (p := ⟨gb110, 0, none⟩) (Kd.V_mono HO108.out (fun k_ hk => (⟨hk, hk.2⟩ : _ ∧ k_ ≠ gb110))) (fun _ hk => hk.2) (.bool t102)) (fun _ hk => hk.2) (.slice Ao13 t103.length co13)) (fun _ hk => hk.2) (.slice Ao14 t106.length co14)) (fun _ hk => ⟨hk.1.1.1, ⟨hk.1.1.2, hk.1.2⟩⟩)⟩
   have n2_ : Aside0 ((((w10.setCell ⟨gb110, 0, none⟩ (.bool t102)).setCell ⟨gb110, 1, none⟩ (.slice Ao13 t103.length co13)).setCell ⟨gb110, 2, none⟩ (.slice Ao14 t106.length co14)).heap[gb101]? = some (.cells #[.bool false, .slice none 0 0, .slice none 0 0] 60 (0, 0))) := ⟨by (with_reducible repeat (first | refine blk_drewN ?_ _ | refine blk_drew ?_ | refine blk_alloc ?_ _)); refine blk_far ?_ NB101_110.out _; (with_reducible repeat (first | refine blk_drewN ?_ _ | refine blk_drew ?_ | refine blk_alloc ?_ _)); refine blk_far ?_ NB101_110.out _; (with_reducible repeat (first | refine blk_drewN ?_ _ | refine blk_drew ?_ | refine blk_alloc ?_ _)); refine blk_far ?_ NB101_110.out _; (with_reducible repeat (first | refine blk_drewN ?_ _ | refine blk_drew ?_ | refine blk_alloc ?_ _)); exact BK101.out⟩
   have n3_ : Aside0 ((((w10.setCell ⟨gb110, 0, none⟩ (.bool t102)).setCell ⟨gb110, 1, none⟩ (.slice Ao13 t103.length co13)).setCell ⟨gb110, 2, none⟩ (.slice Ao14 t106.length co14)).heap[gb110]? = some (.cells #[.bool t102, .slice Ao13 t103.length co13, .slice Ao14 t106.length co14] 60 (0, 0))) := ⟨by (with_reducible repeat (first | refine blk_drewN ?_ _ | refine blk_drew ?_ | refine blk_alloc ?_ _)); refine blk_put (cs := #[.bool t102, .slice Ao13 t103.length co13, .slice none 0 0]) ?_ 2 _ rfl; (with_reducible repeat (first | refine blk_drewN ?_ _ | refine blk_drew ?_ | refine blk_alloc ?_ _)); refine blk_put (cs := #[.bool t102, .slice none 0 0, .slice none 0 0]) ?_ 1 _ rfl; (with_reducible repeat (first | refine blk_drewN ?_ _ | refine blk_drew ?_ | refine blk_alloc ?_ _)); refine blk_put (cs := #[.bool false, .slice none 0 0, .slice none 0 0]) ?_ 0 _ rfl; (with_reducible repeat (first | refine blk_drewN ?_ _ | refine blk_drew ?_ | refine blk_alloc ?_ _)); exact BK110.out⟩
   have n4_ : Aside0 (Below w.heap.size w (((w10.setCell ⟨gb110, 0, none⟩ (.bool t102)).setCell ⟨gb110, 1, none⟩ (.slice Ao13 t103.length co13)).setCell ⟨gb110, 2, none⟩ (.slice Ao14 t106.length co14))) := ⟨zB2 HB.out GE101.out GE110.out⟩
   (try clear HO105)
   (try clear HO108)
   (try clear BK101)
   (try clear BK110)
   (try clear HB)
   generalize (((w10.setCell ⟨gb110, 0, none⟩ (.bool t102)).setCell ⟨gb110, 1, none⟩ (.slice Ao13 t103.length co13)).setCell ⟨gb110, 2, none⟩ (.slice Ao14 t106.length co14)) = w15 at n0_ n1_ n2_ n3_ n4_ ⊢
   have HO105 := n0_
   have HO108 := n1_
   have BK101 := n2_
   have BK110 := n3_
   have HB := n4_
   clear n0_ n1_ n2_ n3_ n4_
   replace HO105 := Aside0.mk (Kd.V_drew HO105.out)
   replace HO108 := Aside0.mk (Kd.V_drew HO108.out)
   replace BK101 := Aside0.mk (blk_drew BK101.out)
   replace BK110 := Aside0.mk (blk_drew BK110.out)
   replace HB := Aside0.mk (below_drew1 HB.out)
   refine start_ (n := 9) (S := fun w' => w'.cell? ⟨gb110, 0, none⟩ = some (.bool t102) ∧ w'.cell? ⟨gb110, 1, none⟩ = some (.slice Ao13 t103.length co13) ∧ w'.cell? ⟨gb110, 2, none⟩ = some (.slice Ao14 t106.length co14)) (ds := []) #[false, false, false, false, false, false, false, false, false] (by kernel_rfl) rfl rfl ⟨(blk_cell BK110.out 0).trans rfl, (blk_cell BK110.out 1).trans rfl, (blk_cell BK110.out 2).trans rfl⟩ (fun hHeld => ?_); refine with_tabW codewrightlaw24_k.tab2 codewrightlaw24_k.bits2 (fun HT_ HW_ => ?_)
   generalize w15.drew = w16 at HO105 HO108 BK101 BK110 HB hHeld ⊢
   refine zp (i := 1) (N := some 21) HT_ ?_
   refine zp (i := 2) (N := some 22) HT_ ?_
   refine zp (i := 3) (N := some 23) HT_ ?_
   refine take_ (i := 0) (N := some 20) (v := ?_) (a' := ?_) #[true, true, true, true, false, false, false, false, false] rfl rfl (take_ofW HT_.out HW_.out (by kernel_rfl)) (fun _ _ _ h => h) (Or.inl ⟨by rfl, ?_⟩) hHeld ?_ ?_
   rotate_left
   · rintro w' ⟨s0, s1, s2⟩
     go_simp
     with_reducible rfl
   rotate_left
   · simp only [Act.put, List.setIfInBounds_toArray, List.set_cons_zero, List.set_cons_succ, i64_w, i32_w]
     rfl
   refine take_ (i := 4) (N := some 24) (v := ?_) (a' := ?_) #[true, true, true, true, true, false, false, false, false] rfl rfl (take_ofW HT_.out HW_.out (by kernel_rfl)) (fun _ _ _ h => h) (Or.inl ⟨by rfl, ?_⟩) hHeld ?_ ?_
   rotate_left
   · rintro w' ⟨s0, s1, s2⟩
     go_simp
     with_reducible rfl
   rotate_left
   · simp only [Act.put, List.setIfInBounds_toArray, List.set_cons_zero, List.set_cons_succ, i64_w, i32_w]
     rfl
   refine one_ (i := 5) (N := some 25) #[true, true, true, true, true, true, false, false, false] rfl rfl (one_of HT_.out (by kernel_rfl)) (by decide) (fun K hK => ?_)
   refine goes_ Try.func98 (by kernel_rfl) rfl #[.agg #[.bool t102, .slice Ao13 t103.length co13, .slice Ao14 t106.length co14]] (by rfl) rfl rfl (by (try simp only [List.map_toArray, List.map_cons, List.map_nil]); first | done | rfl | (simp only [List.length_drop, List.length_take]; rfl)) ?_
   with_reducible refine (codewrightref02_Is.calls k t102 _ _ t103 _ _ t106 t111 _ ?side1 ?side2 ?side3 ?side4 A7.out).mono ?_
   (case side1 => exact zC (Kd.V_reads' HO105.out).2.2)
   (case side2 => exact (Kd.V_reads' HO105.out).2.1)
   (case side3 => exact zC (Kd.V_reads' HO108.out).2.2)
   (case side4 => exact (Kd.V_reads' HO108.out).2.1)
   rintro e w17 ⟨rfl, hb⟩
   refine ⟨_, rfl, ?_⟩
   replace HO105 := yVb HO105 hb
   replace HO108 := yVb HO108 hb
   replace BK101 := yK BK101 hb
   replace BK110 := yK BK110 hb
   replace HB := yS2 HB GE101 GE110 hb
   (try clear hb)
   (try clear hb2)
   (try clear hk)
   (try clear hi)
   refine hK.out _ _ ⟨(blk_cell BK110.out 0).trans rfl, (blk_cell BK110.out 1).trans rfl, (blk_cell BK110.out 2).trans rfl⟩ (fun hHeld => ?_)
   clear hK K
   refine norm_ (a' := ?_) ?_ ?_
   rotate_left
   · show Act.put _ (some 25) _ = _
     simp only [Act.put, List.setIfInBounds_toArray, List.set_cons_zero, List.set_cons_succ, i64_w, i32_w]
     rfl
   refine zp (i := 6) (N := some 26) HT_ ?_
   refine one_ (i := 7) (N := none) #[true, true, true, true, true, true, true, true, false] rfl rfl (one_of HT_.out (by kernel_rfl)) (by decide) (fun K hK => ?_)
   have hs18 : w17.cell? ⟨gb101, 0, none⟩ = some (.bool false) := (blk_cell BK101.out 0).trans rfl
   have hfs18 := blk_frozen BK101.out 0
   have hns18_1 := NB110_101.out
   have hms18_1 := NB101_110.out
   have hs19 : w17.cell? ⟨gb101, 1, none⟩ = some (.slice none 0 0) := (blk_cell BK101.out 1).trans rfl
   have hfs19 := blk_frozen BK101.out 1
   have hns19_1 := NB110_101.out
   have hms19_1 := NB101_110.out
   have hs20 : w17.cell? ⟨gb101, 2, none⟩ = some (.slice none 0 0) := (blk_cell BK101.out 2).trans rfl
   have hfs20 := blk_frozen BK101.out 2
   have hns20_1 := NB110_101.out
   have hms20_1 := NB101_110.out
   refine skip_ (w1 := ?_) (by rfl) rfl ?_ ?_
   rotate_left
   · go_simp
     rfl
   refine hK.out _ _ ⟨((cell_far (p := ⟨gb101, _, none⟩) NB110_101.out _).trans (((cell_far (p := ⟨gb101, _, none⟩) NB110_101.out _).trans (((cell_far (p := ⟨gb101, _, none⟩) NB110_101.out _).trans (hHeld.1)))))), ((cell_far (p := ⟨gb101, _, none⟩) NB110_101.out _).trans (((cell_far (p := ⟨gb101, _, none⟩) NB110_101.out _).trans (((cell_far (p := ⟨gb101, _, none⟩) NB110_101.out _).trans (hHeld.2.1)))))), ((cell_far (p := ⟨gb101, _, none⟩) NB110_101.out _).trans (((cell_far (p := ⟨gb101, _, none⟩) NB110_101.out _).trans (((cell_far (p := ⟨gb101, _, none⟩) NB110_101.out _).trans (hHeld.2.2))))))⟩ (fun hHeld => ?_)
   clear hK K
   refine zp (i := 8) (N := some 9) HT_ ?_
   refine done_ (done_of HT_.out (by kernel_rfl)) ?_
   try go_wp2
   refine bodyPost_ret (results_ct rfl _ _ gb101 60 #[.bool t102, .slice Ao13 t103.length co13, .slice Ao14 t106.length co14] (0, 0) _ rfl (by (with_reducible repeat (first | refine blk_drewN ?_ _ | refine blk_drew ?_ | refine blk_alloc ?_ _)); refine blk_put (cs := #[.bool t102, .slice Ao13 t103.length co13, .slice none 0 0]) ?_ 2 _ rfl; (with_reducible repeat (first | refine blk_drewN ?_ _ | refine blk_drew ?_ | refine blk_alloc ?_ _)); refine blk_put (cs := #[.bool t102, .slice none 0 0, .slice none 0 0]) ?_ 1 _ rfl; (with_reducible repeat (first | refine blk_drewN ?_ _ | refine blk_drew ?_ | refine blk_alloc ?_ _)); refine blk_put (cs := #[.bool false, .slice none 0 0, .slice none 0 0]) ?_ 0 _ rfl; (with_reducible repeat (first | refine blk_drewN ?_ _ | refine blk_drew ?_ | refine blk_alloc ?_ _)); exact BK101.out) Try.underlying60 rfl (by kernel_rfl)) rfl ?_
   exact ⟨_, _, zE, by (with_reducible repeat (first | apply Kd.V_alloc | apply Kd.V_drewN | apply Kd.V_drew)); exact Kd.V_mono (Kd.V_far (p := ⟨gb101, 2, none⟩) (Kd.V_far (p := ⟨gb101, 1, none⟩) (Kd.V_far (p := ⟨gb101, 0, none⟩) (Kd.V_mono HO105.out (fun k_ hk => (⟨hk, hk.2.1⟩ : _ ∧ k_ ≠ gb101))) (fun _ hk => hk.2) (.bool t102)) (fun _ hk => hk.2) (.slice Ao13 t103.length co13)) (fun _ hk => hk.2) (.slice Ao14 t106.length co14)) (fun _ hk => hk.1.1), by (with_reducible repeat (first | apply Kd.V_alloc | apply Kd.V_drewN | apply Kd.V_drew)); exact Kd.V_mono (Kd.V_far (p := ⟨gb101, 2, none⟩) (Kd.V_far (p := ⟨gb101, 1, none⟩) (Kd.V_far (p := ⟨gb101, 0, none⟩) (Kd.V_mono HO108.out (fun k_ hk => (⟨hk, hk.2.1⟩ : _ ∧ k_ ≠ gb101))) (fun _ hk => hk.2) (.bool t102)) (fun _ hk => hk.2) (.slice Ao13 t103.length co13)) (fun _ hk => hk.2) (.slice Ao14 t106.length co14)) (fun _ hk => hk.1.1), zB2 HB.out GE101.out GE110.out⟩
 have c6b0 := beq_eq_false_iff_ne.mpr c6
 have c6b1 := bne_iff_ne.mpr c6
 simp only [Option.some.injEq, Prod.mk.injEq] at H
 obtain ⟨rfl, rfl, rfl, rfl⟩ := H
 go_enter Try.func49, Try.ntmps49
 try go_wp2_with (first | ((with_reducible refine gate_dst (N := 8) rfl ?_); refine box_event ?hg (N := 8) ?hd (cs := #[.bool false, .slice none 0 0, .slice none 0 0]) (t := 60) ?hr ?_; (case hd => rfl); (case hg => rfl); (case hr => first | (go_simp; done) | (go_simp; rfl)); intro gb101 hg w21 hbox hb; have BK101 := Aside0.mk (hbox); have GW101 := yg hg HB; have GE101 := yg hg HB; replace HB := yS HB hb; clear hb hbox hg) | ((with_reducible refine gate_callee (f := 42) rfl ?_); refine zG (some 17) Try.func42 #[.int .i64 a0, .int .i64 a1, .int .i64 a2, .int .i64 a3] ?_; (with_reducible refine (macwilliams_Krawtchouk.calls k a0 a1 a2 a3 t102 t103 t106 t109 _ A5.out).mono ?_); rintro e w22 ⟨v104, v107, rfl, ho0, ho1, hb⟩; refine ⟨_, rfl, ?_⟩; have HO105 := Aside0.mk (Kd.V_lower (Kd.V_mono (ok' := fun k_ => (w.heap.size ≤ k_) ∧ k_ ≠ gb101) ho0 (fun k_ hk_ => ⟨(Nat.le_trans (below_size (zB1 HB.out GE101.out)) hk_), (Kd.freshB (g := gb101) (o := .cells #[.bool false, .slice none 0 0, .slice none 0 0] 60 (0, 0)) (by (with_reducible repeat (first | refine blk_drewN ?_ _ | refine blk_drew ?_ | refine blk_alloc ?_ _)); exact BK101.out) k_ hk_)⟩)) (below_size (zB1 HB.out GE101.out))); have HO108 := Aside0.mk (Kd.V_lower (Kd.V_mono (ok' := fun k_ => (w.heap.size ≤ k_) ∧ k_ ≠ gb101) ho1 (fun k_ hk_ => ⟨(Nat.le_trans (below_size (zB1 HB.out GE101.out)) hk_), (Kd.freshB (g := gb101) (o := .cells #[.bool false, .slice none 0 0, .slice none 0 0] 60 (0, 0)) (by (with_reducible repeat (first | refine blk_drewN ?_ _ | refine blk_drew ?_ | refine blk_alloc ?_ _)); exact BK101.out) k_ hk_)⟩)) (below_size (zB1 HB.out GE101.out))); replace BK101 := yK BK101 hb; replace HB := yS1 HB GE101 hb; (try clear hb ho0); (try clear ho1)) | ((with_reducible refine gate_dst (N := 10) rfl ?_); refine box_event ?hg (N := 10) ?hd (cs := #[.bool false, .slice none 0 0, .slice none 0 0]) (t := 60) ?hr ?_; (case hd => rfl); (case hg => rfl); (case hr => first | (go_simp; done) | (go_simp; rfl)); intro gb110 hg w23 hbox hb; replace HO105 := yVB HO105 hg hb; replace HO108 := yVB HO108 hg hb; have BK110 := Aside0.mk (hbox); have GW110 := yg1 hg HB GE101; have GE110 := yg1 hg HB GE101; replace HB := yS1 HB GE101 hb; have NB101_110 := ynl hg BK101; have NB110_101 := yng hg BK101; replace BK101 := yK BK101 hb; clear hb hbox hg; have hnb24 := NB110_101.out; have hnc24 := NB101_110.out; have hcz25_0 : w23.cell? ⟨gb110, 0, none⟩ = some (.bool false) := (blk_cell BK110.out 0).trans rfl; have hcz25_1 : w23.cell? ⟨gb110, 1, none⟩ = some (.slice none 0 0) := (blk_cell BK110.out 1).trans rfl; have hcz25_2 : w23.cell? ⟨gb110, 2, none⟩ = some (.slice none 0 0) := (blk_cell BK110.out 2).trans rfl; have hfz25_0 := blk_frozen BK110.out 0; have hfz25_1 := blk_frozen BK110.out 1; have hfz25_2 := blk_frozen BK110.out 2; obtain ⟨Ao26, co26, rfl⟩ := Kd.V_slice HO105.out; obtain ⟨Ao27, co27, rfl⟩ := Kd.V_slice HO108.out))
 have n0_ : Aside0 (Kd.V (Kd.int .u32) 97 (((w23.setCell ⟨gb110, 0, none⟩ (.bool t102)).setCell ⟨gb110, 1, none⟩ (.slice Ao26 t103.length co26)).setCell ⟨gb110, 2, none⟩ (.slice Ao27 t106.length co27)) w.heap.size (fun k_ => (w.heap.size ≤ k_) ∧ k_ ≠ gb101 ∧ k_ ≠ gb110) (.slice Ao26 t103.length co26) t103) := ⟨by (with_reducible repeat (first | apply Kd.V_alloc | apply Kd.V_drewN | apply Kd.V_drew)); exact Kd.V_mono (Kd.V_far (p := ⟨gb110, 2, none⟩) (Kd.V_far (p := ⟨gb110, 1, none⟩) (Kd.V_far (p := ⟨gb110, 0, none⟩) (Kd.V_mono HO105.out (fun k_ hk => (⟨hk, hk.2⟩ : _ ∧ k_ ≠ gb110))) (fun _ hk => hk.2) (.bool t102)) (fun _ hk => hk.2) (.slice Ao26 t103.length co26)) (fun _ hk => hk.2) (.slice Ao27 t106.length co27)) (fun _ hk => ⟨hk.1.1.1, ⟨hk.1.1.2, hk.1.2⟩⟩)⟩
 have n1_ : Aside0 (Kd.V (Kd.int .u32) 97 (((w23.setCell ⟨gb110, 0, none⟩ (.bool t102)).setCell ⟨gb110, 1, none⟩ (.slice Ao26 t103.length co26)).setCell ⟨gb110, 2, none⟩ (.slice Ao27 t106.length co27)) w.heap.size (fun k_ => (w.heap.size ≤ k_) ∧ k_ ≠ gb101 ∧ k_ ≠ gb110) (.slice Ao27 t106.length co27) t106) := ⟨by (with_reducible repeat (first | apply Kd.V_alloc | apply Kd.V_drewN | apply Kd.V_drew)); exact Kd.V_mono (Kd.V_far (p := ⟨gb110, 2, none⟩) (Kd.V_far (p := ⟨gb110, 1, none⟩) (Kd.V_far (p := ⟨gb110, 0, none⟩) (Kd.V_mono HO108.out (fun k_ hk => (⟨hk, hk.2⟩ : _ ∧ k_ ≠ gb110))) (fun _ hk => hk.2) (.bool t102)) (fun _ hk => hk.2) (.slice Ao26 t103.length co26)) (fun _ hk => hk.2) (.slice Ao27 t106.length co27)) (fun _ hk => ⟨hk.1.1.1, ⟨hk.1.1.2, hk.1.2⟩⟩)⟩
 have n2_ : Aside0 ((((w23.setCell ⟨gb110, 0, none⟩ (.bool t102)).setCell ⟨gb110, 1, none⟩ (.slice Ao26 t103.length co26)).setCell ⟨gb110, 2, none⟩ (.slice Ao27 t106.length co27)).heap[gb101]? = some (.cells #[.bool false, .slice none 0 0, .slice none 0 0] 60 (0, 0))) := ⟨by (with_reducible repeat (first | refine blk_drewN ?_ _ | refine blk_drew ?_ | refine blk_alloc ?_ _)); refine blk_far ?_ NB101_110.out _; (with_reducible repeat (first | refine blk_drewN ?_ _ | refine blk_drew ?_ | refine blk_alloc ?_ _)); refine blk_far ?_ NB101_110.out _; (with_reducible repeat (first | refine blk_drewN ?_ _ | refine blk_drew ?_ | refine blk_alloc ?_ _)); refine blk_far ?_ NB101_110.out _; (with_reducible repeat (first | refine blk_drewN ?_ _ | refine blk_drew ?_ | refine blk_alloc ?_ _)); exact BK101.out⟩
 have n3_ : Aside0 ((((w23.setCell ⟨gb110, 0, none⟩ (.bool t102)).setCell ⟨gb110, 1, none⟩ (.slice Ao26 t103.length co26)).setCell ⟨gb110, 2, none⟩ (.slice Ao27 t106.length co27)).heap[gb110]? = some (.cells #[.bool t102, .slice Ao26 t103.length co26, .slice Ao27 t106.length co27] 60 (0, 0))) := ⟨by (with_reducible repeat (first | refine blk_drewN ?_ _ | refine blk_drew ?_ | refine blk_alloc ?_ _)); refine blk_put (cs := #[.bool t102, .slice Ao26 t103.length co26, .slice none 0 0]) ?_ 2 _ rfl; (with_reducible repeat (first | refine blk_drewN ?_ _ | refine blk_drew ?_ | refine blk_alloc ?_ _)); refine blk_put (cs := #[.bool t102, .slice none 0 0, .slice none 0 0]) ?_ 1 _ rfl; (with_reducible repeat (first | refine blk_drewN ?_ _ | refine blk_drew ?_ | refine blk_alloc ?_ _)); refine blk_put (cs := #[.bool false, .slice none 0 0, .slice none 0 0]) ?_ 0 _ rfl; (with_reducible repeat (first | refine blk_drewN ?_ _ | refine blk_drew ?_ | refine blk_alloc ?_ _)); exact BK110.out⟩
 have n4_ : Aside0 (Below w.heap.size w (((w23.setCell ⟨gb110, 0, none⟩ (.bool t102)).setCell ⟨gb110, 1, none⟩ (.slice Ao26 t103.length co26)).setCell ⟨gb110, 2, none⟩ (.slice Ao27 t106.length co27))) := ⟨zB2 HB.out GE101.out GE110.out⟩
 (try clear HO105)
 (try clear HO108)
 (try clear BK101)
 (try clear BK110)
 (try clear HB)
 generalize (((w23.setCell ⟨gb110, 0, none⟩ (.bool t102)).setCell ⟨gb110, 1, none⟩ (.slice Ao26 t103.length co26)).setCell ⟨gb110, 2, none⟩ (.slice Ao27 t106.length co27)) = w28 at n0_ n1_ n2_ n3_ n4_ ⊢
 have HO105 := n0_
 have HO108 := n1_
 have BK101 := n2_
 have BK110 := n3_
 have HB := n4_
 clear n0_ n1_ n2_ n3_ n4_
 replace HO105 := Aside0.mk (Kd.V_drew HO105.out)
 replace HO108 := Aside0.mk (Kd.V_drew HO108.out)
 replace BK101 := Aside0.mk (blk_drew BK101.out)
 replace BK110 := Aside0.mk (blk_drew BK110.out)
 replace HB := Aside0.mk (below_drew1 HB.out)
 refine start_ (n := 9) (S := fun w' => w'.cell? ⟨gb110, 0, none⟩ = some (.bool t102) ∧ w'.cell? ⟨gb110, 1, none⟩ = some (.slice Ao26 t103.length co26) ∧ w'.cell? ⟨gb110, 2, none⟩ = some (.slice Ao27 t106.length co27)) (ds := []) #[false, false, false, false, false, false, false, false, false] (by kernel_rfl) rfl rfl ⟨(blk_cell BK110.out 0).trans rfl, (blk_cell BK110.out 1).trans rfl, (blk_cell BK110.out 2).trans rfl⟩ (fun hHeld => ?_); refine with_tabW codewrightlaw24_k.tab2 codewrightlaw24_k.bits2 (fun HT_ HW_ => ?_)
 generalize w28.drew = w29 at HO105 HO108 BK101 BK110 HB hHeld ⊢
 refine zp (i := 1) (N := some 21) HT_ ?_
 refine zp (i := 2) (N := some 22) HT_ ?_
 refine zp (i := 3) (N := some 23) HT_ ?_
 refine pure_ (i := 4) (N := some 24) (v := undef) (a' := ?_) #[false, true, true, true, true, false, false, false, false] rfl rfl (any_of HT_.out (by kernel_rfl)) (fun _ _ _ h => h) (Or.inr ⟨by rfl, rfl⟩) ?_ ?_
 rotate_left
 · simp only [Act.put, List.setIfInBounds_toArray, List.set_cons_zero, List.set_cons_succ, i64_w, i32_w]
   rfl
 refine pure_ (i := 5) (N := some 25) (v := undef) (a' := ?_) #[false, true, true, true, true, true, false, false, false] rfl rfl (any_of HT_.out (by kernel_rfl)) (fun _ _ _ h => h) (Or.inr ⟨by rfl, rfl⟩) ?_ ?_
 rotate_left
 · simp only [Act.put, List.setIfInBounds_toArray, List.set_cons_zero, List.set_cons_succ, i64_w, i32_w]
   rfl
 refine zp (i := 6) (N := some 26) HT_ ?_
 refine take_ (i := 0) (N := some 20) (v := ?_) (a' := ?_) #[true, true, true, true, true, true, true, false, false] rfl rfl (take_ofW HT_.out HW_.out (by kernel_rfl)) (fun _ _ _ h => h) (Or.inl ⟨by rfl, ?_⟩) hHeld ?_ ?_
 rotate_left
 · rintro w' ⟨s0, s1, s2⟩
   go_simp
   with_reducible rfl
 rotate_left
 · simp only [Act.put, List.setIfInBounds_toArray, List.set_cons_zero, List.set_cons_succ, i64_w, i32_w]
   rfl
 refine one_ (i := 7) (N := none) #[true, true, true, true, true, true, true, true, false] rfl rfl (one_of HT_.out (by kernel_rfl)) (by decide) (fun K hK => ?_)
 have hs30 : w29.cell? ⟨gb101, 0, none⟩ = some (.bool false) := (blk_cell BK101.out 0).trans rfl
 have hfs30 := blk_frozen BK101.out 0
 have hns30_1 := NB110_101.out
 have hms30_1 := NB101_110.out
 have hs31 : w29.cell? ⟨gb101, 1, none⟩ = some (.slice none 0 0) := (blk_cell BK101.out 1).trans rfl
 have hfs31 := blk_frozen BK101.out 1
 have hns31_1 := NB110_101.out
 have hms31_1 := NB101_110.out
 have hs32 : w29.cell? ⟨gb101, 2, none⟩ = some (.slice none 0 0) := (blk_cell BK101.out 2).trans rfl
 have hfs32 := blk_frozen BK101.out 2
 have hns32_1 := NB110_101.out
 have hms32_1 := NB101_110.out
 refine skip_ (w1 := ?_) (by rfl) rfl ?_ ?_
 rotate_left
 · go_simp
   rfl
 refine hK.out _ _ ⟨((cell_far (p := ⟨gb101, _, none⟩) NB110_101.out _).trans (((cell_far (p := ⟨gb101, _, none⟩) NB110_101.out _).trans (((cell_far (p := ⟨gb101, _, none⟩) NB110_101.out _).trans (hHeld.1)))))), ((cell_far (p := ⟨gb101, _, none⟩) NB110_101.out _).trans (((cell_far (p := ⟨gb101, _, none⟩) NB110_101.out _).trans (((cell_far (p := ⟨gb101, _, none⟩) NB110_101.out _).trans (hHeld.2.1)))))), ((cell_far (p := ⟨gb101, _, none⟩) NB110_101.out _).trans (((cell_far (p := ⟨gb101, _, none⟩) NB110_101.out _).trans (((cell_far (p := ⟨gb101, _, none⟩) NB110_101.out _).trans (hHeld.2.2))))))⟩ (fun hHeld => ?_)
 clear hK K
 refine zp (i := 8) (N := some 9) HT_ ?_
 refine done_ (done_of HT_.out (by kernel_rfl)) ?_
 try go_wp2
 refine bodyPost_ret (results_ct rfl _ _ gb101 60 #[.bool t102, .slice Ao26 t103.length co26, .slice Ao27 t106.length co27] (0, 0) _ rfl (by (with_reducible repeat (first | refine blk_drewN ?_ _ | refine blk_drew ?_ | refine blk_alloc ?_ _)); refine blk_put (cs := #[.bool t102, .slice Ao26 t103.length co26, .slice none 0 0]) ?_ 2 _ rfl; (with_reducible repeat (first | refine blk_drewN ?_ _ | refine blk_drew ?_ | refine blk_alloc ?_ _)); refine blk_put (cs := #[.bool t102, .slice none 0 0, .slice none 0 0]) ?_ 1 _ rfl; (with_reducible repeat (first | refine blk_drewN ?_ _ | refine blk_drew ?_ | refine blk_alloc ?_ _)); refine blk_put (cs := #[.bool false, .slice none 0 0, .slice none 0 0]) ?_ 0 _ rfl; (with_reducible repeat (first | refine blk_drewN ?_ _ | refine blk_drew ?_ | refine blk_alloc ?_ _)); exact BK101.out) Try.underlying60 rfl (by kernel_rfl)) rfl ?_
 exact ⟨_, _, zE, by (with_reducible repeat (first | apply Kd.V_alloc | apply Kd.V_drewN | apply Kd.V_drew)); exact Kd.V_mono (Kd.V_far (p := ⟨gb101, 2, none⟩) (Kd.V_far (p := ⟨gb101, 1, none⟩) (Kd.V_far (p := ⟨gb101, 0, none⟩) (Kd.V_mono HO105.out (fun k_ hk => (⟨hk, hk.2.1⟩ : _ ∧ k_ ≠ gb101))) (fun _ hk => hk.2) (.bool t102)) (fun _ hk => hk.2) (.slice Ao26 t103.length co26)) (fun _ hk => hk.2) (.slice Ao27 t106.length co27)) (fun _ hk => hk.1.1), by (with_reducible repeat (first | apply Kd.V_alloc | apply Kd.V_drewN | apply Kd.V_drew)); exact Kd.V_mono (Kd.V_far (p := ⟨gb101, 2, none⟩) (Kd.V_far (p := ⟨gb101, 1, none⟩) (Kd.V_far (p := ⟨gb101, 0, none⟩) (Kd.V_mono HO108.out (fun k_ hk => (⟨hk, hk.2.1⟩ : _ ∧ k_ ≠ gb101))) (fun _ hk => hk.2) (.bool t102)) (fun _ hk => hk.2) (.slice Ao26 t103.length co26)) (fun _ hk => hk.2) (.slice Ao27 t106.length co27)) (fun _ hk => hk.1.1), zB2 HB.out GE101.out GE110.out⟩
set_option maxHeartbeats 8000000 in
set_option maxRecDepth 100000 in
theorem codewrightref01_small.calls (k : Nat) (A0 : Option Addr) (c0 : Nat) (l0 : List Int) (a1 : Int) (a2 : Int) (r : List Int) (w : World) (hr0 : Kd.C (Kd.int .u32) w A0 l0.length l0) (hc0 : l0.length ≤ c0) (h : codewrightref01_small.f k l0 a1 a2 = some r) :
    Calls Try.prog 120 #[.slice A0 l0.length c0, .int .i64 a1, .int .i64 a2] w fun e w' => ∃ v0_ : Value, e = .returned (v0_) ∧ Kd.R (Kd.int .u32) 97 w' w.heap.size (fun _ => True) v0_ r ∧ Below w.heap.size w w' := by
 have HR0 := Aside0.mk hr0
 have HC0 := Aside0.mk hc0
 clear hr0 hc0
 have HB := Aside0.mk (Below.refl w.heap.size w)
 have H : ((codewrightref01_Of.f k (IntKind.u64.wrap (a1))).bind fun t101 => ((codewrightref01_Mul.f k l0 t101).bind fun t104 => (if 0 ≤ (t104.length : Int) then (if ((t104.length : Int) : Int).toNat ≤ 70368744177664 then (codewrightref01_small.l0 k t104 a2 (List.replicate ((t104.length : Int) : Int).toNat 0) 0 (wrap64 ((t104.length : Int) - 1))) else (none)) else (none)))) = some r := h
 clear h
 replace H := zb H
 obtain ⟨t101, A4, H⟩ := H
 replace H := zb H
 obtain ⟨t104, A5, H⟩ := H
 replace H := zg H
 obtain ⟨c6, H⟩ := H
 have c6b0 := eq_true c6
 have c6b1 := decide_eq_true c6
 clear c6
 replace H := zg H
 obtain ⟨c7, H⟩ := H
 have c7b0 := eq_true c7
 have c7b1 := decide_eq_true c7
 clear c7
 obtain ⟨y107, hy107⟩ : ∃ y_ : List Int, y_ = (List.replicate ((t104.length : Int) : Int).toNat 0) := ⟨_, rfl⟩
 replace H : (codewrightref01_small.l0 k t104 a2 y107 0 (wrap64 ((t104.length : Int) - 1))) = some r := zY hy107 H
 have Ny107 := Aside0.mk hy107
 clear hy107
 have H' := Aside0.mk H
 clear H
 go_enter Try.func120, Try.ntmps120
 go_wp2_with (first | ((with_reducible refine gate_callee (f := 23) rfl ?_); refine zG (some 14) Try.func23 #[.int .u64 (IntKind.u64.wrap (a1))] ?_; (with_reducible refine (codewrightref01_Of.calls k (IntKind.u64.wrap (a1)) t101 _ A4.out).mono ?_); rintro e w8 ⟨v102, rfl, ho0, hb⟩; refine ⟨_, rfl, ?_⟩; have HO103 := yRl ho0 HB; replace HB := yS HB hb; (try clear hb ho0); obtain ⟨Ao9, co9, rfl⟩ := Kd.R_slice HO103.out) | ((with_reducible refine gate_callee (f := 26) rfl ?_); refine zG (some 15) Try.func26 #[.slice A0 l0.length c0, .slice Ao9 t101.length co9] ?_; (with_reducible refine (codewrightref01_Mul.calls k _ _ l0 _ _ t101 t104 _ ?side1 ?side2 ?side3 ?side4 A5.out).mono ?_); (case side1 => exact zC (Kd.C_below HR0.out HB.out)); (case side2 => exact HC0.out); (case side3 => exact zC (Kd.R_reads' HO103.out).2.2); (case side4 => exact (Kd.R_reads' HO103.out).2.1); rintro e w10 ⟨v105, rfl, ho0, hb⟩; refine ⟨_, rfl, ?_⟩; replace ho0 := yn ho0 HO103; have HO106 := yRl ho0 HB; replace HO103 := yRe HO103 ho0 hb; replace HB := yS HB hb; (try clear hb ho0); obtain ⟨Ao11, co11, rfl⟩ := Kd.R_slice HO106.out) | ((with_reducible refine gate_dst (N := 18) rfl ?_); refine Kd.R_make (Kd.int .u32) _ 97 rfl (N := 18) rfl 29 _ _ rfl (t104.length : Int) rfl rfl Try.underlying29 (.int .u32 0) 4 info97 rfl (by decide) (by omega) 0 (ok := fun _ => True) (okp := fun _ => True) rfl (fun _ hk => hk) trivial (of_decide_eq_true zA) (Nat.le_trans (Nat.mul_le_mul_right _ (of_decide_eq_true zA : (t104.length : Int).toNat ≤ 70368744177664)) (by omega)) (Below.refl _ _) (Nat.le_refl _) ?_; intro v108 w12 ho13 hb hg_ hnew_; clear hg_ hnew_; (first | rw [← Ny107.out] at ho13 | (simp only [Int.reduceToNat] at ho13; rw [← Ny107.out] at ho13)); replace ho13 := yn ho13 HO103; replace ho13 := yn ho13 HO106; have HO109 := yRl ho13 HB; replace HO103 := yRe HO103 ho13 hb; replace HO106 := yRe HO106 ho13 hb; replace HB := yS HB hb; clear hb ho13))
 go_loopg [8, 9] k (fun kq v8 v9 w' => ∃ (x7_1 : List Int) (x8_1 : Int) (x9_1 : Int), v8 = .int .u64 x8_1 ∧ v9 = .int .i64 x9_1 ∧ Aside0 (codewrightref01_small.l0 kq t104 a2 x7_1 x8_1 x9_1 = some r) ∧ Aside0 (kq ≤ k) ∧ Aside0 (Kd.R (Kd.int .u32) 97 w' w.heap.size (fun k_ => some k_ ≠ (v108 : Value).ownBlock) (.slice Ao11 t104.length co11) t104) ∧ Aside0 (Kd.R (Kd.int .u32) 97 w' w.heap.size (fun k_ => some k_ ≠ ((.slice Ao11 t104.length co11) : Value).ownBlock) v108 x7_1) ∧ Aside0 (Below w.heap.size w w'))
 case atStart => exact ⟨(y107), (0), (wrap64 ((t104.length : Int) - 1)), zF, zF, H', ⟨Nat.le_refl _⟩, ⟨by (with_reducible repeat (first | apply Kd.R_alloc | apply Kd.R_drewN | apply Kd.R_drew)); exact Kd.R_mono HO106.out (fun _ hk => hk.2)⟩, ⟨by (with_reducible repeat (first | apply Kd.R_alloc | apply Kd.R_drewN | apply Kd.R_drew)); exact Kd.R_mono HO109.out (fun _ hk => hk.2)⟩, ⟨zB HB.out⟩⟩
 clear H'
 (try clear c1);(try clear c2);(try clear p2);(try clear c6);(try clear c6b0);(try clear c6b1);(try clear p6);(try clear c7);(try clear c7b0);(try clear c7b1);(try clear c12)
 obtain ⟨x7_1, x8_1, x9_1, rfl, rfl, HA, HK1, HO_0, HO_7, HB⟩ := hrel
 cases gk with | zero => exact absurd HA.out (by simp [codewrightref01_small.l0]) | succ k1 => ?_
 have H := HA.out
 clear HA
 simp only [codewrightref01_small.l0] at H
 replace H := zi H
 rcases H with ⟨c14, H⟩ | ⟨c14, H⟩
 · have c14b0 : decide (0 ≤ x9_1) = true := decide_eq_true c14
   clear c14
   replace H := zg H
   obtain ⟨c15, H⟩ := H
   have c15b0 := decide_eq_true c15
   clear c15
   replace H := zg H
   obtain ⟨c16, H⟩ := H
   have c16b0 := decide_eq_true c16
   clear c16
   replace H := zh H
   obtain ⟨c17, H⟩ := H
   have c17b0 := beq_eq_false_iff_ne.mpr c17
   have c17b1 := bne_iff_ne.mpr c17
   replace H := zg H
   obtain ⟨c18, H⟩ := H
   have c18b0 := decide_eq_true c18
   clear c18
   obtain ⟨y111, hy111⟩ : ∃ y_ : List Int, y_ = (x7_1.set (x9_1 : Int).toNat ((IntKind.u64.wrap (Int.tdiv (IntKind.u64.wrap ((IntKind.u64.wrap (x8_1 * 4294967296)) + (IntKind.u64.wrap (rd t104 x9_1)))) (IntKind.u64.wrap (a2)))) % 4294967296)) := ⟨_, rfl⟩
   replace H : (codewrightref01_small.l0 k1 t104 a2 y111 (Int.tmod (IntKind.u64.wrap ((IntKind.u64.wrap (x8_1 * 4294967296)) + (IntKind.u64.wrap (rd t104 x9_1)))) (IntKind.u64.wrap (a2))) (wrap64 (x9_1 - 1))) = some r := zY hy111 H
   have Ny111 := Aside0.mk hy111
   clear hy111
   have H' := Aside0.mk H
   clear H
   have p110 : 0 ≤ (x9_1 : Int) := of_decide_eq_true zA
   have q110 : x9_1 < (t104.length : Int) := of_decide_eq_true zA
   obtain ⟨ad110, e110, hx110_0⟩ := Kd.at_int (Kd.R_reads' HO_0.out).2.2 x9_1 p110 q110
   cases e110
   replace p110 := eq_true p110
   replace q110 := eq_true q110
   have p19 : 0 ≤ (x9_1 : Int) := of_decide_eq_true zA
   have q19 : (x9_1 : Int) < ((x7_1.length : Int) : Int) := of_decide_eq_true zA
   obtain ⟨go19, co19, eo19, gb19, gl19, cl19, HG19⟩ := Kd.R_form HO_7.out (by omega)
   (first | cases eo19 | (injection eo19 with ea_ en_ ec_; (first | subst ea_ | (injection ea_ with ea_; subst ea_)); subst ec_; clear en_))
   have GB19 := Aside0.mk gb19
   have GG19 := Aside0.mk HG19
   clear gb19 gl19 HG19
   obtain ⟨hx19_0, hf19_0⟩ := Kd.R_celln 0 HO_7.out (x9_1 : Int) p19 q19
   replace p19 := eq_true p19
   replace q19 := eq_true q19
   have HP20 := Kd.R_putg HO_7.out (x9_1 : Int) ((IntKind.u64.wrap (Int.tdiv (IntKind.u64.wrap ((IntKind.u64.wrap (x8_1 * 4294967296)) + (IntKind.u64.wrap (rd t104 x9_1)))) (IntKind.u64.wrap (a2)))) % 4294967296)
   go_wp2_with (first | ((with_reducible refine gate_store (t := 97) (p := 41) rfl ?_); refine store_event (t := 97) (p := 41) (v := ?vo_w21) (w1 := (wr.setCell ⟨go19, (x9_1 : Int).toNat, none⟩ (.int .u32 ((IntKind.u64.wrap (Int.tdiv (IntKind.u64.wrap ((IntKind.u64.wrap (x8_1 * 4294967296)) + (IntKind.u64.wrap (rd t104 x9_1)))) (IntKind.u64.wrap (a2)))) % 4294967296)))) ?hg ?ho ?hn ?hr ?_; (case ho => rfl); (case hg => rfl); (case hn => rfl); (case hr => first | (go_simp; done) | (go_simp; rfl)); intro w21 hw; have hg : wr.grownBy w21 (some go19) := (by rw [hw]; exact HP20.2); have hp_ : Kd.R (Kd.int .u32) 97 w21 w.heap.size (fun k_ => some k_ ≠ (.slice (some ad110) t104.length co11 : Value).ownBlock) (.slice (some ⟨go19, 0, none⟩) x7_1.length co19) y111 := (by rw [hw, Ny111.out]; exact HP20.1); clear HP20; replace HO_0 := Aside0.mk (Kd.R_after (v := (.slice (some ⟨go19, 0, none⟩) x7_1.length co19)) (v1 := (.slice (some ⟨go19, 0, none⟩) x7_1.length co19)) (ok := (fun _ => True)) (by (with_reducible repeat (first | apply Kd.R_alloc | apply Kd.R_drewN | apply Kd.R_drew)); exact Kd.R_mono HO_0.out (fun _ hk => ⟨trivial, hk⟩)) hg (.inl rfl)); replace HO_7 := Aside0.mk (hp_); replace HB := Aside0.mk ((by rw [hw]; exact below_set (HB.out) GB19.out : Below w.heap.size w w21)); clear hg hw hp_))
   go_roundg k1
   case measure => have := HK1.out; omega
   case rel => exact ⟨(y111), (Int.tmod (IntKind.u64.wrap ((IntKind.u64.wrap (x8_1 * 4294967296)) + (IntKind.u64.wrap (rd t104 x9_1)))) (IntKind.u64.wrap (a2))), (wrap64 (x9_1 - 1)), zF, zF, H', ⟨zo1 HK1⟩, ⟨by (with_reducible repeat (first | apply Kd.R_alloc | apply Kd.R_drewN | apply Kd.R_drew)); exact Kd.R_mono HO_0.out (fun _ hk => hk.2)⟩, ⟨zR HO_7.out⟩, ⟨zB HB.out⟩⟩
 have c14b0 : decide (0 ≤ x9_1) = false := decide_eq_false c14
 clear c14
 replace H := zb H
 obtain ⟨t112, A22, H⟩ := H
 obtain rfl := Option.some.inj H
 obtain ⟨Ao23, co23, rfl⟩ := Kd.R_slice HO_7.out
 go_wp2_with (first | ((with_reducible refine gate_callee (f := 75) rfl ?_); refine zG (some 47) Try.func75 #[.slice Ao23 x7_1.length co23] ?_; (with_reducible refine (codewrightref01_Trim.calls k1 _ _ x7_1 t112 _ ?side1 ?side2 A22.out).mono ?_); (case side1 => exact zC (Kd.R_reads' HO_7.out).2.2); (case side2 => exact (Kd.R_reads' HO_7.out).2.1); rintro e w24 ⟨v113, rfl, ho0, hb⟩; refine ⟨_, rfl, ?_⟩; replace ho0 := yn ho0 HO_0; replace ho0 := yn ho0 HO_7; have HO114 := yRl ho0 HB; replace HO_0 := yRe HO_0 ho0 hb; replace HO_7 := yRe HO_7 ho0 hb; replace HB := yS HB hb; (try clear hb ho0)))
 go_ret
 exact ⟨_, zE, by (with_reducible repeat (first | apply Kd.R_alloc | apply Kd.R_drewN | apply Kd.R_drew)); exact Kd.R_mono HO114.out (fun _ hk => trivial), zB HB.out⟩
set_option maxHeartbeats 8000000 in
set_option maxRecDepth 100000 in
theorem codewrightref01_Choose.calls (k : Nat) (a0 : Int) (a1 : Int) (r : List Int) (w : World) (h : codewrightref01_Choose.f k a0 a1 = some r) :
    Calls Try.prog 78 #[.int .i64 a0, .int .i64 a1] w fun e w' => ∃ v0_ : Value, e = .returned (v0_) ∧ Kd.R (Kd.int .u32) 97 w' w.heap.size (fun _ => True) v0_ r ∧ Below w.heap.size w w' := by
 have HB := Aside0.mk (Below.refl w.heap.size w)
 have H : (if a1 < 0 then (codewrightref01_Choose.j0 k a0 a1 true) else (codewrightref01_Choose.j0 k a0 a1 (decide (a1 > a0)))) = some r := h
 clear h
 have HC3 := Aside0.mk H
 clear H
 go_enter Try.func78, Try.ntmps78
 go_upto_region 1 with (fail)
 go_cut [13] (fun v13 wc => ∃ (kq : Nat) (x13_2 : Bool), v13 = .bool x13_2 ∧ Aside0 (codewrightref01_Choose.j0 kq a0 a1 x13_2 = some r) ∧ Aside0 (kq ≤ k) ∧ Aside0 (Below w.heap.size w wc))
 case first =>
  have H := HC3.out
  clear HC3
  replace H := zi H
  rcases H with ⟨c4, H⟩ | ⟨c4, H⟩
  · have c4b0 := decide_eq_true c4
    clear c4
    (first | rw [c4b0] | (simp only [i64_w, i32_w]; rw [c4b0]) | rw [c4b1] | skip)
    have H' := Aside0.mk H
    clear H
    go_wp2
    go_meet
    case rel => exact ⟨_, (true), zF, H', ⟨zO⟩, ⟨zB HB.out⟩⟩
  have c4b0 := decide_eq_false c4
  clear c4
  (first | rw [c4b0] | (simp only [i64_w, i32_w]; rw [c4b0]) | rw [c4b1] | skip)
  have H' := Aside0.mk H
  clear H
  go_wp2
  go_meet
  case rel => exact ⟨_, (decide (a1 > a0)), zF, H', ⟨zO⟩, ⟨zB HB.out⟩⟩
 clear HC3
 (try clear p2);(try clear c4);(try clear c4b0);(try clear c4b1)
 obtain ⟨kq, x13_2, rfl, HA, HJ2, HB⟩ := hcut
 cases kq with | zero => exact absurd HA.out (by simp [codewrightref01_Choose.j0]) | succ kj2 => ?_
 have H := HA.out
 clear HA
 simp only [codewrightref01_Choose.j0] at H
 by_cases c5 : x13_2 = true
 · subst c5
   rw [if_pos rfl] at H
   obtain ⟨y101, hy101⟩ : ∃ y_ : List Int, y_ = (([] : List Int)) := ⟨_, rfl⟩
   replace H : (some y101) = some r := zY hy101 H
   have Ny101 := Aside0.mk hy101
   clear hy101
   obtain rfl := Option.some.inj H
   go_wp2_with (first | ((with_reducible refine gate_dst (N := 14) rfl ?_); refine Kd.R_lit (Kd.int .u32) _ 97 ?hg (N := 14) ?hd (xs := ([] : List Int)) (inner := []) (ok := fun _ => True) (okp := fun _ => True) ?hr ?hp (fun _ hk => hk) trivial (Below.refl _ _) (Nat.le_refl _) (by simp) ?_; (case hd => rfl); (case hg => rfl); (case hr => first | (go_simp; done) | (go_simp; rfl)); (case hp => exact (Reps.none _ _)); intro v102 w6 ho7 hb hg_ hnew_; clear hg_ hnew_; (first | rw [← Ny101.out] at ho7 | (simp only [Int.reduceToNat] at ho7; rw [← Ny101.out] at ho7)); have HO103 := yRl ho7 HB; replace HB := yS HB hb; clear hb ho7))
   go_ret
   exact ⟨_, zE, zR HO103.out, zB HB.out⟩
 replace c5 := Bool.eq_false_iff.mpr c5
 subst c5
 rw [if_neg Bool.false_ne_true] at H
 obtain ⟨y104, hy104⟩ : ∃ y_ : List Int, y_ = (([1] : List Int)) := ⟨_, rfl⟩
 replace H : (codewrightref01_Choose.l0 kj2 a0 a1 y104 0) = some r := zY hy104 H
 have Ny104 := Aside0.mk hy104
 clear hy104
 have H' := Aside0.mk H
 clear H
 go_wp2_with (first | ((with_reducible refine gate_dst (N := 15) rfl ?_); refine Kd.R_lit (Kd.int .u32) _ 97 ?hg (N := 15) ?hd (xs := ([1] : List Int)) (inner := [.int .u32 1]) (ok := fun _ => True) (okp := fun _ => True) ?hr ?hp (fun _ hk => hk) trivial (Below.refl _ _) (Nat.le_refl _) (by simp) ?_; (case hd => rfl); (case hg => rfl); (case hr => first | (go_simp; done) | (go_simp; rfl)); (case hp => exact (Reps.one (show Kd.M (Kd.int .u32) _ _ _ 1 [.int .u32 1] from rfl) (Reps.none _ _))); intro v105 w8 ho9 hb hg_ hnew_; clear hg_ hnew_; (first | rw [← Ny104.out] at ho9 | (simp only [Int.reduceToNat] at ho9; rw [← Ny104.out] at ho9)); have HO106 := yRl ho9 HB; replace HB := yS HB hb; clear hb ho9))
 go_loopg [5, 6] kj2 (fun kq v5 v6 w' => ∃ (x5_2 : List Int) (x6_2 : Int), v6 = .int .i64 x6_2 ∧ Aside0 (codewrightref01_Choose.l0 kq a0 a1 x5_2 x6_2 = some r) ∧ Aside0 (kq ≤ kj2) ∧ Aside0 (Kd.R (Kd.int .u32) 97 w' w.heap.size (fun _ => True) v5 x5_2) ∧ Aside0 (Below w.heap.size w w'))
 case atStart => exact ⟨(y104), (0), zF, H', ⟨Nat.le_refl _⟩, ⟨zR HO106.out⟩, ⟨zB HB.out⟩⟩
 clear H'
 (try clear p2);(try clear c4);(try clear c4b0);(try clear c4b1);(try clear c5);(try clear c7)
 obtain ⟨x5_2, x6_2, rfl, HA, HK2, HO_5, HB⟩ := hrel
 cases gk with | zero => exact absurd HA.out (by simp [codewrightref01_Choose.l0]) | succ k2 => ?_
 have H := HA.out
 clear HA
 simp only [codewrightref01_Choose.l0] at H
 replace H := zi H
 rcases H with ⟨c10, H⟩ | ⟨c10, H⟩
 · have c10b0 := decide_eq_true c10
   clear c10
   replace H := zb H
   obtain ⟨t107, A11, H⟩ := H
   have H' := Aside0.mk H
   clear H
   obtain ⟨Ao12, co12, rfl⟩ := Kd.R_slice HO_5.out
   go_wp2_with (first | ((with_reducible refine gate_callee (f := 120) rfl ?_); refine zG (some 27) Try.func120 #[.slice Ao12 x5_2.length co12, .int .i64 (wrap64 (a0 - x6_2)), .int .i64 (wrap64 (x6_2 + 1))] ?_; (with_reducible refine (codewrightref01_small.calls k2 _ _ x5_2 (wrap64 (a0 - x6_2)) (wrap64 (x6_2 + 1)) t107 _ ?side1 ?side2 A11.out).mono ?_); (case side1 => exact zC (Kd.R_reads' HO_5.out).2.2); (case side2 => exact (Kd.R_reads' HO_5.out).2.1); rintro e w13 ⟨v108, rfl, ho0, hb⟩; refine ⟨_, rfl, ?_⟩; replace ho0 := yn ho0 HO_5; have HO109 := yRl ho0 HB; replace HO_5 := yRe HO_5 ho0 hb; replace HB := yS HB hb; (try clear hb ho0)))
   go_roundg k2
   case measure => have := HJ2.out; have := HK2.out; omega
   case rel => exact ⟨(t107), (wrap64 (x6_2 + 1)), zF, H', ⟨zo2 HJ2 HK2⟩, ⟨by (with_reducible repeat (first | apply Kd.R_alloc | apply Kd.R_drewN | apply Kd.R_drew)); exact Kd.R_mono HO109.out (fun _ hk => trivial)⟩, ⟨zB HB.out⟩⟩
 have c10b0 := decide_eq_false c10
 clear c10
 obtain rfl := Option.some.inj H
 go_wp2
 go_ret
 exact ⟨_, zE, zR HO_5.out, zB HB.out⟩
set_option maxHeartbeats 8000000 in
set_option maxRecDepth 100000 in
theorem codewrightref02_Nat.calls (k : Nat) (A0 : Option Addr) (c0 : Nat) (l0 : List Int) (r1 : Bool) (r2 : List Int) (r3 : List Int) (w : World) (hr0 : Kd.C (Kd.int .u32) w A0 l0.length l0) (hc0 : l0.length ≤ c0) (h : codewrightref02_Nat.f k l0 = some (r1, r2, r3)) :
    Calls Try.prog 95 #[.slice A0 l0.length c0] w fun e w' => ∃ v1_ v2_ : Value, e = .returned (.agg #[.bool r1, v1_, v2_]) ∧ Kd.R (Kd.int .u32) 97 w' w.heap.size (fun k_ => some k_ ≠ (v2_ : Value).ownBlock) v1_ r2 ∧ Kd.R (Kd.int .u32) 97 w' w.heap.size (fun k_ => some k_ ≠ (v1_ : Value).ownBlock) v2_ r3 ∧ Below w.heap.size w w' := by
 have hu60 := Try.underlying60
 have HR0 := Aside0.mk hr0
 have HC0 := Aside0.mk hc0
 clear hr0 hc0
 have HB := Aside0.mk (Below.refl w.heap.size w)
 have H : ((codewrightref02_Make.f k false l0 (([1] : List Int))).bind fun bt105 => (some (bt105.1, bt105.2.1, bt105.2.2))) = some (r1, r2, r3) := h
 clear h
 obtain ⟨y102, hy102⟩ : ∃ y_ : List Int, y_ = (([1] : List Int)) := ⟨_, rfl⟩
 replace H : ((codewrightref02_Make.f k false l0 y102).bind fun bt105 => (some (bt105.1, bt105.2.1, bt105.2.2))) = some (r1, r2, r3) := zY hy102 H
 have Ny102 := Aside0.mk hy102
 clear hy102
 replace H := zb H
 obtain ⟨⟨t105, t106, t109⟩, A2, H⟩ := H
 dsimp only at H
 simp only [Option.some.injEq, Prod.mk.injEq] at H
 obtain ⟨rfl, rfl, rfl⟩ := H
 go_enter Try.func95, Try.ntmps95
 go_wp2_with (first | ((with_reducible refine gate_dst (N := 2) rfl ?_); refine box_event ?hg (N := 2) ?hd (cs := #[.bool false, .slice none 0 0, .slice none 0 0]) (t := 60) ?hr ?_; (case hd => rfl); (case hg => rfl); (case hr => first | (go_simp; done) | (go_simp; rfl)); intro gb101 hg w3 hbox hb; have BK101 := Aside0.mk (hbox); have GW101 := yg hg HB; have GE101 := yg hg HB; replace HB := yS HB hb; clear hb hbox hg) | ((with_reducible refine gate_dst (N := 4) rfl ?_); refine Kd.R_lit (Kd.int .u32) _ 97 ?hg (N := 4) ?hd (xs := ([1] : List Int)) (inner := [.int .u32 1]) (ok := fun _ => True) (okp := fun _ => True) ?hr ?hp (fun _ hk => hk) trivial (Below.refl _ _) (Nat.le_refl _) (by simp) ?_; (case hd => rfl); (case hg => rfl); (case hr => first | (go_simp; done) | (go_simp; rfl)); (case hp => exact (Reps.one (show Kd.M (Kd.int .u32) _ _ _ 1 [.int .u32 1] from rfl) (Reps.none _ _))); intro v103 w4 ho5 hb hg_ hnew_; clear hg_ hnew_; (first | rw [← Ny102.out] at ho5 | (simp only [Int.reduceToNat] at ho5; rw [← Ny102.out] at ho5)); have HO104 := yRl1 ho5 HB GE101; replace BK101 := yK BK101 hb; replace HB := yS1 HB GE101 hb; clear hb ho5; obtain ⟨Ao6, co6, rfl⟩ := Kd.R_slice HO104.out) | ((with_reducible refine gate_callee (f := 90) rfl ?_); refine zG (some 5) Try.func90 #[.bool false, .slice A0 l0.length c0, .slice Ao6 y102.length co6] ?_; (with_reducible refine (codewrightref02_Make.calls k false _ _ l0 _ _ y102 t105 t106 t109 _ ?side1 ?side2 ?side3 ?side4 A2.out).mono ?_); (case side1 => exact zC (Kd.C_below HR0.out HB.out)); (case side2 => exact HC0.out); (case side3 => exact zC (Kd.R_reads' HO104.out).2.2); (case side4 => exact (Kd.R_reads' HO104.out).2.1); rintro e w7 ⟨v107, v110, rfl, ho0, ho1, hb⟩; refine ⟨_, rfl, ?_⟩; replace ho0 := yn ho0 HO104; have HO108 := yRl1 ho0 HB GE101; replace ho1 := yn ho1 HO104; have HO111 := yRl1 ho1 HB GE101; replace HO104 := yRt HO104 hb ho0 ho1; replace BK101 := yK BK101 hb; replace HB := yS1 HB GE101 hb; (try clear hb ho0); (try clear ho1); have hcz8_0 : w7.cell? ⟨gb101, 0, none⟩ = some (.bool false) := (blk_cell BK101.out 0).trans rfl; have hcz8_1 : w7.cell? ⟨gb101, 1, none⟩ = some (.slice none 0 0) := (blk_cell BK101.out 1).trans rfl; have hcz8_2 : w7.cell? ⟨gb101, 2, none⟩ = some (.slice none 0 0) := (blk_cell BK101.out 2).trans rfl; have hfz8_0 := blk_frozen BK101.out 0; have hfz8_1 := blk_frozen BK101.out 1; have hfz8_2 := blk_frozen BK101.out 2; obtain ⟨Ao9, co9, rfl⟩ := Kd.R_slice HO108.out; obtain ⟨Ao10, co10, rfl⟩ := Kd.R_slice HO111.out))
 refine bodyPost_ret (results_cell_row rfl _ _ gb101 60 #[.bool t105, .slice Ao9 t106.length co9, .slice Ao10 t109.length co10] (0, 0) _ rfl (by (with_reducible repeat (first | refine blk_drewN ?_ _ | refine blk_drew ?_ | refine blk_alloc ?_ _)); refine blk_put (cs := #[.bool t105, .slice Ao9 t106.length co9, .slice none 0 0]) ?_ 2 _ rfl; (with_reducible repeat (first | refine blk_drewN ?_ _ | refine blk_drew ?_ | refine blk_alloc ?_ _)); refine blk_put (cs := #[.bool t105, .slice none 0 0, .slice none 0 0]) ?_ 1 _ rfl; (with_reducible repeat (first | refine blk_drewN ?_ _ | refine blk_drew ?_ | refine blk_alloc ?_ _)); refine blk_put (cs := #[.bool false, .slice none 0 0, .slice none 0 0]) ?_ 0 _ rfl; (with_reducible repeat (first | refine blk_drewN ?_ _ | refine blk_drew ?_ | refine blk_alloc ?_ _)); exact BK101.out) Try.underlying60 rfl (by kernel_rfl)) rfl ?_
 exact ⟨_, _, zE, by (with_reducible repeat (first | apply Kd.R_alloc | apply Kd.R_drewN | apply Kd.R_drew)); exact yf HO108.out BK101.out (fun _ hk => hk.1.1), by (with_reducible repeat (first | apply Kd.R_alloc | apply Kd.R_drewN | apply Kd.R_drew)); exact yf HO111.out BK101.out (fun _ hk => hk.1.1), zB1 HB.out GE101.out⟩
set_option maxHeartbeats 8000000 in
set_option maxRecDepth 100000 in
theorem codewrightlaw24_choose.calls (k : Nat) (a0 : Int) (a1 : Int) (r1 : Bool) (r2 : List Int) (r3 : List Int) (w : World) (h : codewrightlaw24_choose.f k a0 a1 = some (r1, r2, r3)) :
    Calls Try.prog 53 #[.int .i64 a0, .int .i64 a1] w fun e w' => ∃ v1_ v2_ : Value, e = .returned (.agg #[.bool r1, v1_, v2_]) ∧ Kd.R (Kd.int .u32) 97 w' w.heap.size (fun k_ => some k_ ≠ (v2_ : Value).ownBlock) v1_ r2 ∧ Kd.R (Kd.int .u32) 97 w' w.heap.size (fun k_ => some k_ ≠ (v1_ : Value).ownBlock) v2_ r3 ∧ Below w.heap.size w w' := by
 have hu60 := Try.underlying60
 have HB := Aside0.mk (Below.refl w.heap.size w)
 have H : ((codewrightref01_Choose.f k a0 a1).bind fun t102 => ((codewrightref02_Nat.f k t102).bind fun bt105 => (some (bt105.1, bt105.2.1, bt105.2.2)))) = some (r1, r2, r3) := h
 clear h
 replace H := zb H
 obtain ⟨t102, A3, H⟩ := H
 replace H := zb H
 obtain ⟨⟨t105, t106, t109⟩, A4, H⟩ := H
 dsimp only at H
 simp only [Option.some.injEq, Prod.mk.injEq] at H
 obtain ⟨rfl, rfl, rfl⟩ := H
 go_enter Try.func53, Try.ntmps53
 go_wp2_with (first | ((with_reducible refine gate_dst (N := 4) rfl ?_); refine box_event ?hg (N := 4) ?hd (cs := #[.bool false, .slice none 0 0, .slice none 0 0]) (t := 60) ?hr ?_; (case hd => rfl); (case hg => rfl); (case hr => first | (go_simp; done) | (go_simp; rfl)); intro gb101 hg w5 hbox hb; have BK101 := Aside0.mk (hbox); have GW101 := yg hg HB; have GE101 := yg hg HB; replace HB := yS HB hb; clear hb hbox hg) | ((with_reducible refine gate_callee (f := 78) rfl ?_); refine zG (some 7) Try.func78 #[.int .i64 a0, .int .i64 a1] ?_; (with_reducible refine (codewrightref01_Choose.calls k a0 a1 t102 _ A3.out).mono ?_); rintro e w6 ⟨v103, rfl, ho0, hb⟩; refine ⟨_, rfl, ?_⟩; have HO104 := yRl1 ho0 HB GE101; replace BK101 := yK BK101 hb; replace HB := yS1 HB GE101 hb; (try clear hb ho0); obtain ⟨Ao7, co7, rfl⟩ := Kd.R_slice HO104.out) | ((with_reducible refine gate_callee (f := 95) rfl ?_); refine zG (some 8) Try.func95 #[.slice Ao7 t102.length co7] ?_; (with_reducible refine (codewrightref02_Nat.calls k _ _ t102 t105 t106 t109 _ ?side1 ?side2 A4.out).mono ?_); (case side1 => exact zC (Kd.R_reads' HO104.out).2.2); (case side2 => exact (Kd.R_reads' HO104.out).2.1); rintro e w8 ⟨v107, v110, rfl, ho0, ho1, hb⟩; refine ⟨_, rfl, ?_⟩; replace ho0 := yn ho0 HO104; have HO108 := yRl1 ho0 HB GE101; replace ho1 := yn ho1 HO104; have HO111 := yRl1 ho1 HB GE101; replace HO104 := yRt HO104 hb ho0 ho1; replace BK101 := yK BK101 hb; replace HB := yS1 HB GE101 hb; (try clear hb ho0); (try clear ho1); have hcz9_0 : w8.cell? ⟨gb101, 0, none⟩ = some (.bool false) := (blk_cell BK101.out 0).trans rfl; have hcz9_1 : w8.cell? ⟨gb101, 1, none⟩ = some (.slice none 0 0) := (blk_cell BK101.out 1).trans rfl; have hcz9_2 : w8.cell? ⟨gb101, 2, none⟩ = some (.slice none 0 0) := (blk_cell BK101.out 2).trans rfl; have hfz9_0 := blk_frozen BK101.out 0; have hfz9_1 := blk_frozen BK101.out 1; have hfz9_2 := blk_frozen BK101.out 2; obtain ⟨Ao10, co10, rfl⟩ := Kd.R_slice HO108.out; obtain ⟨Ao11, co11, rfl⟩ := Kd.R_slice HO111.out))
 refine bodyPost_ret (results_cell_row rfl _ _ gb101 60 #[.bool t105, .slice Ao10 t106.length co10, .slice Ao11 t109.length co11] (0, 0) _ rfl (by (with_reducible repeat (first | refine blk_drewN ?_ _ | refine blk_drew ?_ | refine blk_alloc ?_ _)); refine blk_put (cs := #[.bool t105, .slice Ao10 t106.length co10, .slice none 0 0]) ?_ 2 _ rfl; (with_reducible repeat (first | refine blk_drewN ?_ _ | refine blk_drew ?_ | refine blk_alloc ?_ _)); refine blk_put (cs := #[.bool t105, .slice none 0 0, .slice none 0 0]) ?_ 1 _ rfl; (with_reducible repeat (first | refine blk_drewN ?_ _ | refine blk_drew ?_ | refine blk_alloc ?_ _)); refine blk_put (cs := #[.bool false, .slice none 0 0, .slice none 0 0]) ?_ 0 _ rfl; (with_reducible repeat (first | refine blk_drewN ?_ _ | refine blk_drew ?_ | refine blk_alloc ?_ _)); exact BK101.out) Try.underlying60 rfl (by kernel_rfl)) rfl ?_
 exact ⟨_, _, zE, by (with_reducible repeat (first | apply Kd.R_alloc | apply Kd.R_drewN | apply Kd.R_drew)); exact yf HO108.out BK101.out (fun _ hk => hk.1.1), by (with_reducible repeat (first | apply Kd.R_alloc | apply Kd.R_drewN | apply Kd.R_drew)); exact yf HO111.out BK101.out (fun _ hk => hk.1.1), zB1 HB.out GE101.out⟩
set_option maxHeartbeats 8000000 in
set_option maxRecDepth 100000 in
theorem codewrightref01_Pow.calls (k : Nat) (A0 : Option Addr) (c0 : Nat) (l0 : List Int) (a1 : Int) (r1 : List Int) (r2 : Int) (w : World) (hr0 : Kd.C (Kd.int .u32) w A0 l0.length l0) (hc0 : l0.length ≤ c0) (h : codewrightref01_Pow.f k l0 a1 = some (r1, r2)) :
    Calls Try.prog 22 #[.slice A0 l0.length c0, .int .i64 a1] w fun e w' => ∃ v0_ : Value, e = .returned (.tuple #[v0_, .int .i64 r2]) ∧ Kd.R (Kd.int .u32) 97 w' w.heap.size (fun _ => True) v0_ r1 ∧ Below w.heap.size w w' := by
 have HR0 := Aside0.mk hr0
 have HC0 := Aside0.mk hc0
 clear hr0 hc0
 have HB := Aside0.mk (Below.refl w.heap.size w)
 have H : (if a1 < 0 then (some (([] : List Int), 6)) else ((codewrightref01_Trim.f k l0).bind fun t101 => (if a1 = 0 then (some ((([1] : List Int)), 0)) else ((codewrightref01_Bits.f k t101).bind fun t107 => (if t107 ≤ 1 then (some (t101, 0)) else (if a1 > 131072 then (some (([] : List Int), 8)) else (codewrightref01_Pow.l0 k t101 a1 (([1] : List Int)) 262144))))))) = some (r1, r2) := h
 clear h
 replace H := zi H
 rcases H with ⟨c3, H⟩ | ⟨c3, H⟩
 · have c3b0 := decide_eq_true c3
   clear c3
   simp only [Option.some.injEq, Prod.mk.injEq] at H
   obtain ⟨rfl, rfl⟩ := H
   go_enter Try.func22, Try.ntmps22
   go_wp2
   go_ret2
   exact ⟨_, zE, z0, zB HB.out⟩
 have c3b0 := decide_eq_false c3
 clear c3
 replace H := zb H
 obtain ⟨t101, A4, H⟩ := H
 replace H := zi H
 rcases H with ⟨c5, H⟩ | ⟨c5, H⟩
 · have c5b0 := beq_iff_eq.mpr c5
   have c5b1 := bne_eq_false_iff_eq.mpr c5
   clear c5
   obtain ⟨y104, hy104⟩ : ∃ y_ : List Int, y_ = (([1] : List Int)) := ⟨_, rfl⟩
   replace H : (some (y104, 0)) = some (r1, r2) := zY hy104 H
   have Ny104 := Aside0.mk hy104
   clear hy104
   simp only [Option.some.injEq, Prod.mk.injEq] at H
   obtain ⟨rfl, rfl⟩ := H
   go_enter Try.func22, Try.ntmps22
   go_wp2_with (first | ((with_reducible refine gate_callee (f := 75) rfl ?_); refine zG (some 11) Try.func75 #[.slice A0 l0.length c0] ?_; (with_reducible refine (codewrightref01_Trim.calls k _ _ l0 t101 _ ?side1 ?side2 A4.out).mono ?_); (case side1 => exact zC HR0.out); (case side2 => exact HC0.out); rintro e w6 ⟨v102, rfl, ho0, hb⟩; refine ⟨_, rfl, ?_⟩; have HO103 := yRl ho0 HB; replace HB := yS HB hb; (try clear hb ho0)) | ((with_reducible refine gate_dst (N := 14) rfl ?_); refine Kd.R_lit (Kd.int .u32) _ 97 ?hg (N := 14) ?hd (xs := ([1] : List Int)) (inner := [.int .u32 1]) (ok := fun _ => True) (okp := fun _ => True) ?hr ?hp (fun _ hk => hk) trivial (Below.refl _ _) (Nat.le_refl _) (by simp) ?_; (case hd => rfl); (case hg => rfl); (case hr => first | (go_simp; done) | (go_simp; rfl)); (case hp => exact (Reps.one (show Kd.M (Kd.int .u32) _ _ _ 1 [.int .u32 1] from rfl) (Reps.none _ _))); intro v105 w7 ho8 hb hg_ hnew_; clear hg_ hnew_; (first | rw [← Ny104.out] at ho8 | (simp only [Int.reduceToNat] at ho8; rw [← Ny104.out] at ho8)); replace ho8 := yn ho8 HO103; have HO106 := yRl ho8 HB; replace HO103 := yRe HO103 ho8 hb; replace HB := yS HB hb; clear hb ho8))
   go_ret2
   exact ⟨_, zE, by (with_reducible repeat (first | apply Kd.R_alloc | apply Kd.R_drewN | apply Kd.R_drew)); exact Kd.R_mono HO106.out (fun _ hk => trivial), zB HB.out⟩
 have c5b0 := beq_eq_false_iff_ne.mpr c5
 have c5b1 := bne_iff_ne.mpr c5
 replace H := zb H
 obtain ⟨t107, A9, H⟩ := H
 replace H := zi H
 rcases H with ⟨c10, H⟩ | ⟨c10, H⟩
 · have c10b0 := decide_eq_true c10
   clear c10
   simp only [Option.some.injEq, Prod.mk.injEq] at H
   obtain ⟨rfl, rfl⟩ := H
   go_enter Try.func22, Try.ntmps22
   go_wp2_with (first | ((with_reducible refine gate_callee (f := 75) rfl ?_); refine zG (some 11) Try.func75 #[.slice A0 l0.length c0] ?_; (with_reducible refine (codewrightref01_Trim.calls k _ _ l0 t101 _ ?side1 ?side2 A4.out).mono ?_); (case side1 => exact zC HR0.out); (case side2 => exact HC0.out); rintro e w11 ⟨v102, rfl, ho0, hb⟩; refine ⟨_, rfl, ?_⟩; have HO103 := yRl ho0 HB; replace HB := yS HB hb; (try clear hb ho0); obtain ⟨Ao12, co12, rfl⟩ := Kd.R_slice HO103.out) | ((with_reducible refine gate_callee (f := 76) rfl ?_); refine zG (some 16) Try.func76 #[.slice Ao12 t101.length co12] ?_; (with_reducible refine (codewrightref01_Bits.calls k _ _ t101 t107 _ ?side1 ?side2 A9.out).mono ?_); (case side1 => exact zC (Kd.R_reads' HO103.out).2.2); (case side2 => exact (Kd.R_reads' HO103.out).2.1); rintro e w13 ⟨rfl, hb⟩; refine ⟨_, rfl, ?_⟩; replace HO103 := yRb HO103 hb; replace HB := yS HB hb; (try clear hb); (try clear hb2); (try clear hk); (try clear hi)))
   go_ret2
   exact ⟨_, zE, zR HO103.out, zB HB.out⟩
 have c10b0 := decide_eq_false c10
 clear c10
 replace H := zi H
 rcases H with ⟨c14, H⟩ | ⟨c14, H⟩
 · have c14b0 : decide (131072 < a1) = true := decide_eq_true c14
   clear c14
   simp only [Option.some.injEq, Prod.mk.injEq] at H
   obtain ⟨rfl, rfl⟩ := H
   go_enter Try.func22, Try.ntmps22
   go_wp2_with (first | ((with_reducible refine gate_callee (f := 75) rfl ?_); refine zG (some 11) Try.func75 #[.slice A0 l0.length c0] ?_; (with_reducible refine (codewrightref01_Trim.calls k _ _ l0 t101 _ ?side1 ?side2 A4.out).mono ?_); (case side1 => exact zC HR0.out); (case side2 => exact HC0.out); rintro e w15 ⟨v102, rfl, ho0, hb⟩; refine ⟨_, rfl, ?_⟩; have HO103 := yRl ho0 HB; replace HB := yS HB hb; (try clear hb ho0); obtain ⟨Ao16, co16, rfl⟩ := Kd.R_slice HO103.out) | ((with_reducible refine gate_callee (f := 76) rfl ?_); refine zG (some 16) Try.func76 #[.slice Ao16 t101.length co16] ?_; (with_reducible refine (codewrightref01_Bits.calls k _ _ t101 t107 _ ?side1 ?side2 A9.out).mono ?_); (case side1 => exact zC (Kd.R_reads' HO103.out).2.2); (case side2 => exact (Kd.R_reads' HO103.out).2.1); rintro e w17 ⟨rfl, hb⟩; refine ⟨_, rfl, ?_⟩; replace HO103 := yRb HO103 hb; replace HB := yS HB hb; (try clear hb); (try clear hb2); (try clear hk); (try clear hi)))
   go_ret2
   exact ⟨_, zE, z0, zB HB.out⟩
 have c14b0 : decide (131072 < a1) = false := decide_eq_false c14
 clear c14
 obtain ⟨y108, hy108⟩ : ∃ y_ : List Int, y_ = (([1] : List Int)) := ⟨_, rfl⟩
 replace H : (codewrightref01_Pow.l0 k t101 a1 y108 262144) = some (r1, r2) := zY hy108 H
 have Ny108 := Aside0.mk hy108
 clear hy108
 have H' := Aside0.mk H
 clear H
 go_enter Try.func22, Try.ntmps22
 go_wp2_with (first | ((with_reducible refine gate_callee (f := 75) rfl ?_); refine zG (some 11) Try.func75 #[.slice A0 l0.length c0] ?_; (with_reducible refine (codewrightref01_Trim.calls k _ _ l0 t101 _ ?side1 ?side2 A4.out).mono ?_); (case side1 => exact zC HR0.out); (case side2 => exact HC0.out); rintro e w18 ⟨v102, rfl, ho0, hb⟩; refine ⟨_, rfl, ?_⟩; have HO103 := yRl ho0 HB; replace HB := yS HB hb; (try clear hb ho0); obtain ⟨Ao19, co19, rfl⟩ := Kd.R_slice HO103.out) | ((with_reducible refine gate_callee (f := 76) rfl ?_); refine zG (some 16) Try.func76 #[.slice Ao19 t101.length co19] ?_; (with_reducible refine (codewrightref01_Bits.calls k _ _ t101 t107 _ ?side1 ?side2 A9.out).mono ?_); (case side1 => exact zC (Kd.R_reads' HO103.out).2.2); (case side2 => exact (Kd.R_reads' HO103.out).2.1); rintro e w20 ⟨rfl, hb⟩; refine ⟨_, rfl, ?_⟩; replace HO103 := yRb HO103 hb; replace HB := yS HB hb; (try clear hb); (try clear hb2); (try clear hk); (try clear hi)) | ((with_reducible refine gate_dst (N := 21) rfl ?_); refine Kd.R_lit (Kd.int .u32) _ 97 ?hg (N := 21) ?hd (xs := ([1] : List Int)) (inner := [.int .u32 1]) (ok := fun _ => True) (okp := fun _ => True) ?hr ?hp (fun _ hk => hk) trivial (Below.refl _ _) (Nat.le_refl _) (by simp) ?_; (case hd => rfl); (case hg => rfl); (case hr => first | (go_simp; done) | (go_simp; rfl)); (case hp => exact (Reps.one (show Kd.M (Kd.int .u32) _ _ _ 1 [.int .u32 1] from rfl) (Reps.none _ _))); intro v109 w21 ho22 hb hg_ hnew_; clear hg_ hnew_; (first | rw [← Ny108.out] at ho22 | (simp only [Int.reduceToNat] at ho22; rw [← Ny108.out] at ho22)); replace ho22 := yn ho22 HO103; have HO110 := yRl ho22 HB; replace HO103 := yRe HO103 ho22 hb; replace HB := yS HB hb; clear hb ho22))
 go_loopg [6, 7] k (fun kq v6 v7 w' => ∃ (x6_1 : List Int) (x7_1 : Int), v7 = .int .i64 x7_1 ∧ Aside0 (codewrightref01_Pow.l0 kq t101 a1 x6_1 x7_1 = some (r1, r2)) ∧ Aside0 (kq ≤ k) ∧ Aside0 (Kd.R (Kd.int .u32) 97 w' w.heap.size (fun k_ => some k_ ≠ (v6 : Value).ownBlock) (.slice Ao19 t101.length co19) t101) ∧ Aside0 (Kd.R (Kd.int .u32) 97 w' w.heap.size (fun k_ => some k_ ≠ ((.slice Ao19 t101.length co19) : Value).ownBlock) v6 x6_1) ∧ Aside0 (Below w.heap.size w w'))
 case atStart => exact ⟨(y108), (262144), zF, H', ⟨Nat.le_refl _⟩, ⟨by (with_reducible repeat (first | apply Kd.R_alloc | apply Kd.R_drewN | apply Kd.R_drew)); exact Kd.R_mono HO103.out (fun _ hk => hk.2)⟩, ⟨by (with_reducible repeat (first | apply Kd.R_alloc | apply Kd.R_drewN | apply Kd.R_drew)); exact Kd.R_mono HO110.out (fun _ hk => hk.2)⟩, ⟨zB HB.out⟩⟩
 clear H'
 (try clear c1);(try clear c2);(try clear p2);(try clear c3);(try clear c3b0);(try clear c5);(try clear c5b0);(try clear c5b1);(try clear c7);(try clear c10);(try clear c10b0);(try clear c14);(try clear c14b0);(try clear c22)
 obtain ⟨x6_1, x7_1, rfl, HA, HK1, HO_0, HO_6, HB⟩ := hrel
 cases gk with | zero => exact absurd HA.out (by simp [codewrightref01_Pow.l0]) | succ k1 => ?_
 have H := HA.out
 clear HA
 simp only [codewrightref01_Pow.l0] at H
 replace H := zi H
 rcases H with ⟨c23, H⟩ | ⟨c23, H⟩
 · have c23b0 : decide (0 < x7_1) = true := decide_eq_true c23
   clear c23
   replace H := zb H
   obtain ⟨t111, A24, H⟩ := H
   replace H := zh H
   obtain ⟨c25, H⟩ := H
   have c25b0 := beq_eq_false_iff_ne.mpr c25
   have c25b1 := bne_iff_ne.mpr c25
   replace H := zi H
   rcases H with ⟨c26, H⟩ | ⟨c26, H⟩
   · have c26b0 := beq_iff_eq.mpr c26
     have c26b1 := bne_eq_false_iff_eq.mpr c26
     clear c26
     replace H := zb H
     obtain ⟨t114, A27, H⟩ := H
     replace H := zi H
     rcases H with ⟨c28, H⟩ | ⟨c28, H⟩
     · have c28b0 : decide (4096 < (t114.length : Int)) = true := decide_eq_true c28
       have c28b1 : decide (4096 < t114.length) = true := decide_eq_true (by omega)
       clear c28
       simp only [Option.some.injEq, Prod.mk.injEq] at H
       obtain ⟨rfl, rfl⟩ := H
       obtain ⟨Ao29, co29, rfl⟩ := Kd.R_slice HO_6.out
       go_wp2_with (first | ((with_reducible refine gate_callee (f := 26) rfl ?_); refine zG (some 28) Try.func26 #[.slice Ao29 x6_1.length co29, .slice Ao29 x6_1.length co29] ?_; (with_reducible refine (codewrightref01_Mul.calls k1 _ _ x6_1 _ _ x6_1 t111 _ ?side1 ?side2 ?side3 ?side4 A24.out).mono ?_); (case side1 => exact zC (Kd.R_reads' HO_6.out).2.2); (case side2 => exact (Kd.R_reads' HO_6.out).2.1); (case side3 => exact zC (Kd.R_reads' HO_6.out).2.2); (case side4 => exact (Kd.R_reads' HO_6.out).2.1); rintro e w30 ⟨v112, rfl, ho0, hb⟩; refine ⟨_, rfl, ?_⟩; replace ho0 := yn ho0 HO_0; replace ho0 := yn ho0 HO_6; have HO113 := yRl ho0 HB; replace HO_0 := yRe HO_0 ho0 hb; replace HO_6 := yRe HO_6 ho0 hb; replace HB := yS HB hb; (try clear hb ho0); obtain ⟨Ao31, co31, rfl⟩ := Kd.R_slice HO113.out) | ((with_reducible refine gate_callee (f := 26) rfl ?_); refine zG (some 36) Try.func26 #[.slice Ao31 t111.length co31, .slice Ao19 t101.length co19] ?_; (with_reducible refine (codewrightref01_Mul.calls k1 _ _ t111 _ _ t101 t114 _ ?side1 ?side2 ?side3 ?side4 A27.out).mono ?_); (case side1 => exact zC (Kd.R_reads' HO113.out).2.2); (case side2 => exact (Kd.R_reads' HO113.out).2.1); (case side3 => exact zC (Kd.R_reads' HO_0.out).2.2); (case side4 => exact (Kd.R_reads' HO_0.out).2.1); rintro e w32 ⟨v115, rfl, ho0, hb⟩; refine ⟨_, rfl, ?_⟩; replace ho0 := yn ho0 HO_0; replace ho0 := yn ho0 HO_6; replace ho0 := yn ho0 HO113; have HO116 := yRl ho0 HB; replace HO_0 := yRe HO_0 ho0 hb; replace HO_6 := yRe HO_6 ho0 hb; replace HO113 := yRe HO113 ho0 hb; replace HB := yS HB hb; (try clear hb ho0); obtain ⟨Ao33, co33, rfl⟩ := Kd.R_slice HO116.out))
       go_ret2
       exact ⟨_, zE, z0, zB HB.out⟩
     have c28b0 : decide (4096 < (t114.length : Int)) = false := decide_eq_false c28
     have c28b1 : decide (4096 < t114.length) = false := decide_eq_false (by omega)
     clear c28
     have H' := Aside0.mk H
     clear H
     obtain ⟨Ao34, co34, rfl⟩ := Kd.R_slice HO_6.out
     go_wp2_with (first | ((with_reducible refine gate_callee (f := 26) rfl ?_); refine zG (some 28) Try.func26 #[.slice Ao34 x6_1.length co34, .slice Ao34 x6_1.length co34] ?_; (with_reducible refine (codewrightref01_Mul.calls k1 _ _ x6_1 _ _ x6_1 t111 _ ?side1 ?side2 ?side3 ?side4 A24.out).mono ?_); (case side1 => exact zC (Kd.R_reads' HO_6.out).2.2); (case side2 => exact (Kd.R_reads' HO_6.out).2.1); (case side3 => exact zC (Kd.R_reads' HO_6.out).2.2); (case side4 => exact (Kd.R_reads' HO_6.out).2.1); rintro e w35 ⟨v112, rfl, ho0, hb⟩; refine ⟨_, rfl, ?_⟩; replace ho0 := yn ho0 HO_0; replace ho0 := yn ho0 HO_6; have HO113 := yRl ho0 HB; replace HO_0 := yRe HO_0 ho0 hb; replace HO_6 := yRe HO_6 ho0 hb; replace HB := yS HB hb; (try clear hb ho0); obtain ⟨Ao36, co36, rfl⟩ := Kd.R_slice HO113.out) | ((with_reducible refine gate_callee (f := 26) rfl ?_); refine zG (some 36) Try.func26 #[.slice Ao36 t111.length co36, .slice Ao19 t101.length co19] ?_; (with_reducible refine (codewrightref01_Mul.calls k1 _ _ t111 _ _ t101 t114 _ ?side1 ?side2 ?side3 ?side4 A27.out).mono ?_); (case side1 => exact zC (Kd.R_reads' HO113.out).2.2); (case side2 => exact (Kd.R_reads' HO113.out).2.1); (case side3 => exact zC (Kd.R_reads' HO_0.out).2.2); (case side4 => exact (Kd.R_reads' HO_0.out).2.1); rintro e w37 ⟨v115, rfl, ho0, hb⟩; refine ⟨_, rfl, ?_⟩; replace ho0 := yn ho0 HO_0; replace ho0 := yn ho0 HO_6; replace ho0 := yn ho0 HO113; have HO116 := yRl ho0 HB; replace HO_0 := yRe HO_0 ho0 hb; replace HO_6 := yRe HO_6 ho0 hb; replace HO113 := yRe HO113 ho0 hb; replace HB := yS HB hb; (try clear hb ho0); obtain ⟨Ao38, co38, rfl⟩ := Kd.R_slice HO116.out))
     go_roundg k1
     case measure => have := HK1.out; omega
     case rel => exact ⟨(t114), (wrap64 (Int.tdiv x7_1 2)), zF, H', ⟨zo1 HK1⟩, ⟨by (with_reducible repeat (first | apply Kd.R_alloc | apply Kd.R_drewN | apply Kd.R_drew)); exact Kd.R_mono HO_0.out (fun _ hk => hk.2)⟩, ⟨by (with_reducible repeat (first | apply Kd.R_alloc | apply Kd.R_drewN | apply Kd.R_drew)); exact Kd.R_mono HO116.out (fun _ hk => hk.1.1.2)⟩, ⟨zB HB.out⟩⟩
   have c26b0 := beq_eq_false_iff_ne.mpr c26
   have c26b1 := bne_iff_ne.mpr c26
   replace H := zi H
   rcases H with ⟨c39, H⟩ | ⟨c39, H⟩
   · have c39b0 : decide (4096 < (t111.length : Int)) = true := decide_eq_true c39
     have c39b1 : decide (4096 < t111.length) = true := decide_eq_true (by omega)
     clear c39
     simp only [Option.some.injEq, Prod.mk.injEq] at H
     obtain ⟨rfl, rfl⟩ := H
     obtain ⟨Ao40, co40, rfl⟩ := Kd.R_slice HO_6.out
     go_wp2_with (first | ((with_reducible refine gate_callee (f := 26) rfl ?_); refine zG (some 28) Try.func26 #[.slice Ao40 x6_1.length co40, .slice Ao40 x6_1.length co40] ?_; (with_reducible refine (codewrightref01_Mul.calls k1 _ _ x6_1 _ _ x6_1 t111 _ ?side1 ?side2 ?side3 ?side4 A24.out).mono ?_); (case side1 => exact zC (Kd.R_reads' HO_6.out).2.2); (case side2 => exact (Kd.R_reads' HO_6.out).2.1); (case side3 => exact zC (Kd.R_reads' HO_6.out).2.2); (case side4 => exact (Kd.R_reads' HO_6.out).2.1); rintro e w41 ⟨v112, rfl, ho0, hb⟩; refine ⟨_, rfl, ?_⟩; replace ho0 := yn ho0 HO_0; replace ho0 := yn ho0 HO_6; have HO113 := yRl ho0 HB; replace HO_0 := yRe HO_0 ho0 hb; replace HO_6 := yRe HO_6 ho0 hb; replace HB := yS HB hb; (try clear hb ho0); obtain ⟨Ao42, co42, rfl⟩ := Kd.R_slice HO113.out))
     go_ret2
     exact ⟨_, zE, z0, zB HB.out⟩
   have c39b0 : decide (4096 < (t111.length : Int)) = false := decide_eq_false c39
   have c39b1 : decide (4096 < t111.length) = false := decide_eq_false (by omega)
   clear c39
   have H' := Aside0.mk H
   clear H
   obtain ⟨Ao43, co43, rfl⟩ := Kd.R_slice HO_6.out
   go_wp2_with (first | ((with_reducible refine gate_callee (f := 26) rfl ?_); refine zG (some 28) Try.func26 #[.slice Ao43 x6_1.length co43, .slice Ao43 x6_1.length co43] ?_; (with_reducible refine (codewrightref01_Mul.calls k1 _ _ x6_1 _ _ x6_1 t111 _ ?side1 ?side2 ?side3 ?side4 A24.out).mono ?_); (case side1 => exact zC (Kd.R_reads' HO_6.out).2.2); (case side2 => exact (Kd.R_reads' HO_6.out).2.1); (case side3 => exact zC (Kd.R_reads' HO_6.out).2.2); (case side4 => exact (Kd.R_reads' HO_6.out).2.1); rintro e w44 ⟨v112, rfl, ho0, hb⟩; refine ⟨_, rfl, ?_⟩; replace ho0 := yn ho0 HO_0; replace ho0 := yn ho0 HO_6; have HO113 := yRl ho0 HB; replace HO_0 := yRe HO_0 ho0 hb; replace HO_6 := yRe HO_6 ho0 hb; replace HB := yS HB hb; (try clear hb ho0); obtain ⟨Ao45, co45, rfl⟩ := Kd.R_slice HO113.out))
   go_roundg k1
   case measure => have := HK1.out; omega
   case rel => exact ⟨(t111), (wrap64 (Int.tdiv x7_1 2)), zF, H', ⟨zo1 HK1⟩, ⟨by (with_reducible repeat (first | apply Kd.R_alloc | apply Kd.R_drewN | apply Kd.R_drew)); exact Kd.R_mono HO_0.out (fun _ hk => hk.2)⟩, ⟨by (with_reducible repeat (first | apply Kd.R_alloc | apply Kd.R_drewN | apply Kd.R_drew)); exact Kd.R_mono HO113.out (fun _ hk => hk.1.2)⟩, ⟨zB HB.out⟩⟩
 have c23b0 : decide (0 < x7_1) = false := decide_eq_false c23
 clear c23
 simp only [Option.some.injEq, Prod.mk.injEq] at H
 obtain ⟨rfl, rfl⟩ := H
 go_wp2
 go_ret2
 exact ⟨_, zE, by (with_reducible repeat (first | apply Kd.R_alloc | apply Kd.R_drewN | apply Kd.R_drew)); exact Kd.R_mono HO_6.out (fun _ hk => trivial), zB HB.out⟩
set_option maxHeartbeats 8000000 in
set_option maxRecDepth 100000 in
theorem codewrightlaw24_pow.calls (k : Nat) (a0 : Int) (a1 : Int) (r1 : Bool) (r2 : List Int) (r3 : List Int) (w : World) (h : codewrightlaw24_pow.f k a0 a1 = some (r1, r2, r3)) :
    Calls Try.prog 54 #[.int .i64 a0, .int .i64 a1] w fun e w' => ∃ v1_ v2_ : Value, e = .returned (.agg #[.bool r1, v1_, v2_]) ∧ Kd.R (Kd.int .u32) 97 w' w.heap.size (fun k_ => some k_ ≠ (v2_ : Value).ownBlock) v1_ r2 ∧ Kd.R (Kd.int .u32) 97 w' w.heap.size (fun k_ => some k_ ≠ (v1_ : Value).ownBlock) v2_ r3 ∧ Below w.heap.size w w' := by
 have hu60 := Try.underlying60
 have HB := Aside0.mk (Below.refl w.heap.size w)
 have H : ((codewrightref01_Of.f k (IntKind.u64.wrap (a0))).bind fun t102 => ((codewrightref01_Pow.f k t102 a1).bind fun bt105 => ((codewrightref02_Nat.f k bt105.1).bind fun bt109 => (some (bt109.1, bt109.2.1, bt109.2.2))))) = some (r1, r2, r3) := h
 clear h
 replace H := zb H
 obtain ⟨t102, A3, H⟩ := H
 replace H := zb H
 obtain ⟨⟨t105, t106⟩, A4, H⟩ := H
 dsimp only at H
 replace H := zb H
 obtain ⟨⟨t109, t110, t113⟩, A5, H⟩ := H
 dsimp only at H
 simp only [Option.some.injEq, Prod.mk.injEq] at H
 obtain ⟨rfl, rfl, rfl⟩ := H
 go_enter Try.func54, Try.ntmps54
 go_wp2_with (first | ((with_reducible refine gate_dst (N := 4) rfl ?_); refine box_event ?hg (N := 4) ?hd (cs := #[.bool false, .slice none 0 0, .slice none 0 0]) (t := 60) ?hr ?_; (case hd => rfl); (case hg => rfl); (case hr => first | (go_simp; done) | (go_simp; rfl)); intro gb101 hg w6 hbox hb; have BK101 := Aside0.mk (hbox); have GW101 := yg hg HB; have GE101 := yg hg HB; replace HB := yS HB hb; clear hb hbox hg) | ((with_reducible refine gate_callee (f := 23) rfl ?_); refine zG (some 10) Try.func23 #[.int .u64 (IntKind.u64.wrap (a0))] ?_; (with_reducible refine (codewrightref01_Of.calls k (IntKind.u64.wrap (a0)) t102 _ A3.out).mono ?_); rintro e w7 ⟨v103, rfl, ho0, hb⟩; refine ⟨_, rfl, ?_⟩; have HO104 := yRl1 ho0 HB GE101; replace BK101 := yK BK101 hb; replace HB := yS1 HB GE101 hb; (try clear hb ho0); obtain ⟨Ao8, co8, rfl⟩ := Kd.R_slice HO104.out) | ((with_reducible refine gate_callee (f := 22) rfl ?_); refine zG (some 12) Try.func22 #[.slice Ao8 t102.length co8, .int .i64 a1] ?_; (with_reducible refine (codewrightref01_Pow.calls k _ _ t102 a1 t105 t106 _ ?side1 ?side2 A4.out).mono ?_); (case side1 => exact zC (Kd.R_reads' HO104.out).2.2); (case side2 => exact (Kd.R_reads' HO104.out).2.1); rintro e w9 ⟨v107, rfl, ho0, hb⟩; refine ⟨_, rfl, ?_⟩; replace ho0 := yn ho0 HO104; have HO108 := yRl1 ho0 HB GE101; replace HO104 := yRe HO104 ho0 hb; replace BK101 := yK BK101 hb; replace HB := yS1 HB GE101 hb; (try clear hb ho0); obtain ⟨Ao10, co10, rfl⟩ := Kd.R_slice HO108.out) | ((with_reducible refine gate_callee (f := 95) rfl ?_); refine zG (some 16) Try.func95 #[.slice Ao10 t105.length co10] ?_; (with_reducible refine (codewrightref02_Nat.calls k _ _ t105 t109 t110 t113 _ ?side1 ?side2 A5.out).mono ?_); (case side1 => exact zC (Kd.R_reads' HO108.out).2.2); (case side2 => exact (Kd.R_reads' HO108.out).2.1); rintro e w11 ⟨v111, v114, rfl, ho0, ho1, hb⟩; refine ⟨_, rfl, ?_⟩; replace ho0 := yn ho0 HO104; replace ho0 := yn ho0 HO108; have HO112 := yRl1 ho0 HB GE101; replace ho1 := yn ho1 HO104; replace ho1 := yn ho1 HO108; have HO115 := yRl1 ho1 HB GE101; replace HO104 := yRt HO104 hb ho0 ho1; replace HO108 := yRt HO108 hb ho0 ho1; replace BK101 := yK BK101 hb; replace HB := yS1 HB GE101 hb; (try clear hb ho0); (try clear ho1); have hcz12_0 : w11.cell? ⟨gb101, 0, none⟩ = some (.bool false) := (blk_cell BK101.out 0).trans rfl; have hcz12_1 : w11.cell? ⟨gb101, 1, none⟩ = some (.slice none 0 0) := (blk_cell BK101.out 1).trans rfl; have hcz12_2 : w11.cell? ⟨gb101, 2, none⟩ = some (.slice none 0 0) := (blk_cell BK101.out 2).trans rfl; have hfz12_0 := blk_frozen BK101.out 0; have hfz12_1 := blk_frozen BK101.out 1; have hfz12_2 := blk_frozen BK101.out 2; obtain ⟨Ao13, co13, rfl⟩ := Kd.R_slice HO112.out; obtain ⟨Ao14, co14, rfl⟩ := Kd.R_slice HO115.out))
 refine bodyPost_ret (results_cell_row rfl _ _ gb101 60 #[.bool t109, .slice Ao13 t110.length co13, .slice Ao14 t113.length co14] (0, 0) _ rfl (by (with_reducible repeat (first | refine blk_drewN ?_ _ | refine blk_drew ?_ | refine blk_alloc ?_ _)); refine blk_put (cs := #[.bool t109, .slice Ao13 t110.length co13, .slice none 0 0]) ?_ 2 _ rfl; (with_reducible repeat (first | refine blk_drewN ?_ _ | refine blk_drew ?_ | refine blk_alloc ?_ _)); refine blk_put (cs := #[.bool t109, .slice none 0 0, .slice none 0 0]) ?_ 1 _ rfl; (with_reducible repeat (first | refine blk_drewN ?_ _ | refine blk_drew ?_ | refine blk_alloc ?_ _)); refine blk_put (cs := #[.bool false, .slice none 0 0, .slice none 0 0]) ?_ 0 _ rfl; (with_reducible repeat (first | refine blk_drewN ?_ _ | refine blk_drew ?_ | refine blk_alloc ?_ _)); exact BK101.out) Try.underlying60 rfl (by kernel_rfl)) rfl ?_
 exact ⟨_, _, zE, by (with_reducible repeat (first | apply Kd.R_alloc | apply Kd.R_drewN | apply Kd.R_drew)); exact yf HO112.out BK101.out (fun _ hk => hk.1.1.1), by (with_reducible repeat (first | apply Kd.R_alloc | apply Kd.R_drewN | apply Kd.R_drew)); exact yf HO115.out BK101.out (fun _ hk => hk.1.1.1), zB1 HB.out GE101.out⟩
set_option maxHeartbeats 8000000 in
set_option maxRecDepth 100000 in
theorem codewrightref02_Sign.calls (k : Nat) (a0_0 : Bool) (A0_1 : Option Addr) (c0_1 : Nat) (l0_1 : List Int) (A0_2 : Option Addr) (c0_2 : Nat) (l0_2 : List Int) (r : Int) (w : World) (hr0_1 : Kd.C (Kd.int .u32) w A0_1 l0_1.length l0_1) (hc0_1 : l0_1.length ≤ c0_1) (hr0_2 : Kd.C (Kd.int .u32) w A0_2 l0_2.length l0_2) (hc0_2 : l0_2.length ≤ c0_2) (h : codewrightref02_Sign.f k a0_0 l0_1 l0_2 = some r) :
    Calls Try.prog 55 #[.agg #[.bool a0_0, .slice A0_1 l0_1.length c0_1, .slice A0_2 l0_2.length c0_2]] w fun e w' => e = .returned (.int .i64 r) ∧ Below w.heap.size w w' := by
 have hu60 := Try.underlying60
 have HR0_1 := Aside0.mk hr0_1
 have HC0_1 := Aside0.mk hc0_1
 clear hr0_1 hc0_1
 have HR0_2 := Aside0.mk hr0_2
 have HC0_2 := Aside0.mk hc0_2
 clear hr0_2 hc0_2
 have HB := Aside0.mk (Below.refl w.heap.size w)
 have H : ((codewrightref02_Trim.f k a0_0 l0_1 l0_2).bind fun bt102 => (if (bt102.2.1.length : Int) = 0 then (some 0) else (if bt102.1 = true then (some (-1)) else (some 1)))) = some r := h
 clear h
 replace H := zb H
 obtain ⟨⟨t102, t103, t106⟩, A2, H⟩ := H
 dsimp only at H
 replace H := zi H
 rcases H with ⟨c3, H⟩ | ⟨c3, H⟩
 · have c3b0 := beq_iff_eq.mpr c3
   have c3b1 := bne_eq_false_iff_eq.mpr c3
   clear c3
   obtain rfl := Option.some.inj H
   go_enter Try.func55, Try.ntmps55
   go_wp2_with (first | ((with_reducible refine gate_dst (N := 1) rfl ?_); refine box_event ?hg (N := 1) ?hd (cs := #[.bool a0_0, .slice A0_1 l0_1.length c0_1, .slice A0_2 l0_2.length c0_2]) (t := 60) ?hr ?_; (case hd => rfl); (case hg => rfl); (case hr => first | (go_simp; done) | (go_simp; rfl)); intro gb101 hg w4 hbox hb; have BK101 := Aside0.mk (hbox); have GW101 := yg hg HB; have GE101 := yg hg HB; replace HB := yS HB hb; clear hb hbox hg; have hcz5_0 : w4.cell? ⟨gb101, 0, none⟩ = some (.bool a0_0) := (blk_cell BK101.out 0).trans rfl; have hcz5_1 : w4.cell? ⟨gb101, 1, none⟩ = some (.slice A0_1 l0_1.length c0_1) := (blk_cell BK101.out 1).trans rfl; have hcz5_2 : w4.cell? ⟨gb101, 2, none⟩ = some (.slice A0_2 l0_2.length c0_2) := (blk_cell BK101.out 2).trans rfl; have hfz5_0 := blk_frozen BK101.out 0; have hfz5_1 := blk_frozen BK101.out 1; have hfz5_2 := blk_frozen BK101.out 2) | ((with_reducible refine gate_callee (f := 99) rfl ?_); refine zG (some 4) Try.func99 #[.agg #[.bool a0_0, .slice A0_1 l0_1.length c0_1, .slice A0_2 l0_2.length c0_2]] ?_; (with_reducible refine (codewrightref02_Trim.calls k a0_0 _ _ l0_1 _ _ l0_2 t102 t103 t106 _ ?side1 ?side2 ?side3 ?side4 A2.out).mono ?_); (case side1 => exact zC (Kd.C_below HR0_1.out HB.out)); (case side2 => exact HC0_1.out); (case side3 => exact zC (Kd.C_below HR0_2.out HB.out)); (case side4 => exact HC0_2.out); rintro e w6 ⟨v104, v107, rfl, ho0, ho1, hb⟩; refine ⟨_, rfl, ?_⟩; have HO105 := yRl1 ho0 HB GE101; have HO108 := yRl1 ho1 HB GE101; replace BK101 := yK BK101 hb; replace HB := yS1 HB GE101 hb; (try clear hb ho0); (try clear ho1); have hcz7_0 : w6.cell? ⟨gb101, 0, none⟩ = some (.bool a0_0) := (blk_cell BK101.out 0).trans rfl; have hcz7_1 : w6.cell? ⟨gb101, 1, none⟩ = some (.slice A0_1 l0_1.length c0_1) := (blk_cell BK101.out 1).trans rfl; have hcz7_2 : w6.cell? ⟨gb101, 2, none⟩ = some (.slice A0_2 l0_2.length c0_2) := (blk_cell BK101.out 2).trans rfl; have hfz7_0 := blk_frozen BK101.out 0; have hfz7_1 := blk_frozen BK101.out 1; have hfz7_2 := blk_frozen BK101.out 2; obtain ⟨Ao8, co8, rfl⟩ := Kd.R_slice HO105.out; obtain ⟨Ao9, co9, rfl⟩ := Kd.R_slice HO108.out))
   go_ret
   exact ⟨zE, zB1 HB.out GE101.out⟩
 have c3b0 := beq_eq_false_iff_ne.mpr c3
 have c3b1 := bne_iff_ne.mpr c3
 have c3b2 : ¬ (t103 = []) := fun h_ => c3 (by rw [h_]; rfl)
 by_cases c10 : t102 = true
 · subst c10
   rw [if_pos rfl] at H
   obtain rfl := Option.some.inj H
   go_enter Try.func55, Try.ntmps55
   go_wp2_with (first | ((with_reducible refine gate_dst (N := 1) rfl ?_); refine box_event ?hg (N := 1) ?hd (cs := #[.bool a0_0, .slice A0_1 l0_1.length c0_1, .slice A0_2 l0_2.length c0_2]) (t := 60) ?hr ?_; (case hd => rfl); (case hg => rfl); (case hr => first | (go_simp; done) | (go_simp; rfl)); intro gb101 hg w11 hbox hb; have BK101 := Aside0.mk (hbox); have GW101 := yg hg HB; have GE101 := yg hg HB; replace HB := yS HB hb; clear hb hbox hg; have hcz12_0 : w11.cell? ⟨gb101, 0, none⟩ = some (.bool a0_0) := (blk_cell BK101.out 0).trans rfl; have hcz12_1 : w11.cell? ⟨gb101, 1, none⟩ = some (.slice A0_1 l0_1.length c0_1) := (blk_cell BK101.out 1).trans rfl; have hcz12_2 : w11.cell? ⟨gb101, 2, none⟩ = some (.slice A0_2 l0_2.length c0_2) := (blk_cell BK101.out 2).trans rfl; have hfz12_0 := blk_frozen BK101.out 0; have hfz12_1 := blk_frozen BK101.out 1; have hfz12_2 := blk_frozen BK101.out 2) | ((with_reducible refine gate_callee (f := 99) rfl ?_); refine zG (some 4) Try.func99 #[.agg #[.bool a0_0, .slice A0_1 l0_1.length c0_1, .slice A0_2 l0_2.length c0_2]] ?_; (with_reducible refine (codewrightref02_Trim.calls k a0_0 _ _ l0_1 _ _ l0_2 true t103 t106 _ ?side1 ?side2 ?side3 ?side4 A2.out).mono ?_); (case side1 => exact zC (Kd.C_below HR0_1.out HB.out)); (case side2 => exact HC0_1.out); (case side3 => exact zC (Kd.C_below HR0_2.out HB.out)); (case side4 => exact HC0_2.out); rintro e w13 ⟨v104, v107, rfl, ho0, ho1, hb⟩; refine ⟨_, rfl, ?_⟩; have HO105 := yRl1 ho0 HB GE101; have HO108 := yRl1 ho1 HB GE101; replace BK101 := yK BK101 hb; replace HB := yS1 HB GE101 hb; (try clear hb ho0); (try clear ho1); have hcz14_0 : w13.cell? ⟨gb101, 0, none⟩ = some (.bool a0_0) := (blk_cell BK101.out 0).trans rfl; have hcz14_1 : w13.cell? ⟨gb101, 1, none⟩ = some (.slice A0_1 l0_1.length c0_1) := (blk_cell BK101.out 1).trans rfl; have hcz14_2 : w13.cell? ⟨gb101, 2, none⟩ = some (.slice A0_2 l0_2.length c0_2) := (blk_cell BK101.out 2).trans rfl; have hfz14_0 := blk_frozen BK101.out 0; have hfz14_1 := blk_frozen BK101.out 1; have hfz14_2 := blk_frozen BK101.out 2; obtain ⟨Ao15, co15, rfl⟩ := Kd.R_slice HO105.out; obtain ⟨Ao16, co16, rfl⟩ := Kd.R_slice HO108.out))
   go_ret
   exact ⟨zE, zB1 HB.out GE101.out⟩
 replace c10 := Bool.eq_false_iff.mpr c10
 subst c10
 rw [if_neg Bool.false_ne_true] at H
 obtain rfl := Option.some.inj H
 go_enter Try.func55, Try.ntmps55
 go_wp2_with (first | ((with_reducible refine gate_dst (N := 1) rfl ?_); refine box_event ?hg (N := 1) ?hd (cs := #[.bool a0_0, .slice A0_1 l0_1.length c0_1, .slice A0_2 l0_2.length c0_2]) (t := 60) ?hr ?_; (case hd => rfl); (case hg => rfl); (case hr => first | (go_simp; done) | (go_simp; rfl)); intro gb101 hg w17 hbox hb; have BK101 := Aside0.mk (hbox); have GW101 := yg hg HB; have GE101 := yg hg HB; replace HB := yS HB hb; clear hb hbox hg; have hcz18_0 : w17.cell? ⟨gb101, 0, none⟩ = some (.bool a0_0) := (blk_cell BK101.out 0).trans rfl; have hcz18_1 : w17.cell? ⟨gb101, 1, none⟩ = some (.slice A0_1 l0_1.length c0_1) := (blk_cell BK101.out 1).trans rfl; have hcz18_2 : w17.cell? ⟨gb101, 2, none⟩ = some (.slice A0_2 l0_2.length c0_2) := (blk_cell BK101.out 2).trans rfl; have hfz18_0 := blk_frozen BK101.out 0; have hfz18_1 := blk_frozen BK101.out 1; have hfz18_2 := blk_frozen BK101.out 2) | ((with_reducible refine gate_callee (f := 99) rfl ?_); refine zG (some 4) Try.func99 #[.agg #[.bool a0_0, .slice A0_1 l0_1.length c0_1, .slice A0_2 l0_2.length c0_2]] ?_; (with_reducible refine (codewrightref02_Trim.calls k a0_0 _ _ l0_1 _ _ l0_2 false t103 t106 _ ?side1 ?side2 ?side3 ?side4 A2.out).mono ?_); (case side1 => exact zC (Kd.C_below HR0_1.out HB.out)); (case side2 => exact HC0_1.out); (case side3 => exact zC (Kd.C_below HR0_2.out HB.out)); (case side4 => exact HC0_2.out); rintro e w19 ⟨v104, v107, rfl, ho0, ho1, hb⟩; refine ⟨_, rfl, ?_⟩; have HO105 := yRl1 ho0 HB GE101; have HO108 := yRl1 ho1 HB GE101; replace BK101 := yK BK101 hb; replace HB := yS1 HB GE101 hb; (try clear hb ho0); (try clear ho1); have hcz20_0 : w19.cell? ⟨gb101, 0, none⟩ = some (.bool a0_0) := (blk_cell BK101.out 0).trans rfl; have hcz20_1 : w19.cell? ⟨gb101, 1, none⟩ = some (.slice A0_1 l0_1.length c0_1) := (blk_cell BK101.out 1).trans rfl; have hcz20_2 : w19.cell? ⟨gb101, 2, none⟩ = some (.slice A0_2 l0_2.length c0_2) := (blk_cell BK101.out 2).trans rfl; have hfz20_0 := blk_frozen BK101.out 0; have hfz20_1 := blk_frozen BK101.out 1; have hfz20_2 := blk_frozen BK101.out 2; obtain ⟨Ao21, co21, rfl⟩ := Kd.R_slice HO105.out; obtain ⟨Ao22, co22, rfl⟩ := Kd.R_slice HO108.out))
 go_ret
 exact ⟨zE, zB1 HB.out GE101.out⟩
def codewrightlaw24_MacwilliamsOrthogonal.T11 : Bool × List (List Nat × List Nat) := (true, [([], []), ([], []), ([1], [1]), ([], []), ([2, 3], [2, 3]), ([], []), ([5], [5]), ([6], [6]), ([], []), ([7, 8, 4], [7, 8]), ([4, 9, 9], [4, 9]), ([], []), ([], []), ([11, 12, 10], [11, 12]), ([10, 13, 13], [10, 13]), ([0, 14, 14], [0, 14]), ([15, 15, 0, 1, 2, 3, 4, 5, 6, 7, 8, 9, 10, 11, 12, 13, 14, 15], [15])])
def codewrightlaw24_MacwilliamsOrthogonal.B11 : List Nat := [0, 0, 2, 0, 14, 0, 32, 96, 0, 510, 1022, 0, 0, 8190, 16382, 32767, 65535]
theorem codewrightlaw24_MacwilliamsOrthogonal.tab11 : rtab .any (opsOf Try.f11 11) = codewrightlaw24_MacwilliamsOrthogonal.T11 := by kernel_rfl
theorem codewrightlaw24_MacwilliamsOrthogonal.bits11 : waitsOk codewrightlaw24_MacwilliamsOrthogonal.T11.2 codewrightlaw24_MacwilliamsOrthogonal.B11 = true := by kernel_rfl
def codewrightlaw24_MacwilliamsOrthogonal.T14 : Bool × List (List Nat × List Nat) := (true, [([], []), ([], []), ([1], [1]), ([], []), ([3], [3]), ([2, 4], [2, 4]), ([], []), ([6], [6]), ([7], [7]), ([], []), ([9], [9]), ([8, 10, 5], [8, 10]), ([], []), ([12], [12]), ([], []), ([14], [14]), ([13, 15, 11], [13, 15]), ([11, 16, 16], [11, 16]), ([5, 17, 17], [5, 17]), ([0, 18, 18], [0, 18]), ([19, 19, 0, 1, 2, 3, 4, 5, 6, 7, 8, 9, 10, 11, 12, 13, 14, 15, 16, 17, 18, 19], [19])])
def codewrightlaw24_MacwilliamsOrthogonal.B14 : List Nat := [0, 0, 2, 0, 8, 30, 0, 64, 192, 0, 512, 2046, 0, 4096, 0, 16384, 65534, 131070, 262142, 524287, 1048575]
theorem codewrightlaw24_MacwilliamsOrthogonal.tab14 : rtab .any (opsOf Try.f11 14) = codewrightlaw24_MacwilliamsOrthogonal.T14 := by kernel_rfl
theorem codewrightlaw24_MacwilliamsOrthogonal.bits14 : waitsOk codewrightlaw24_MacwilliamsOrthogonal.T14.2 codewrightlaw24_MacwilliamsOrthogonal.B14 = true := by kernel_rfl
set_option maxHeartbeats 8000000 in
set_option maxRecDepth 100000 in
theorem codewrightlaw24_MacwilliamsOrthogonal.calls (k : Nat) (a0 : Int) (a1 : Int) (a2 : Int) (a3 : Int) (r : Bool) (w : World) (h : codewrightlaw24_MacwilliamsOrthogonal.f k a0 a1 a2 a3 = some r) :
    Calls Try.prog 11 #[.int .u8 a0, .int .u8 a1, .int .u8 a2, .int .u8 a3] w fun e w' => e = .returned (.bool r) ∧ Below w.heap.size w w' := by
 have hu60 := Try.underlying60
 have HB := Aside0.mk (Below.refl w.heap.size w)
 have H : (if a0 < 2 then (codewrightlaw24_MacwilliamsOrthogonal.j0 k a0 a1 a2 a3 true) else (if a1 > 16 then (codewrightlaw24_MacwilliamsOrthogonal.j0 k a0 a1 a2 a3 true) else (if a2 > a1 then (codewrightlaw24_MacwilliamsOrthogonal.j0 k a0 a1 a2 a3 true) else (codewrightlaw24_MacwilliamsOrthogonal.j0 k a0 a1 a2 a3 (decide (a3 > a1)))))) = some r := h
 clear h
 have HC5 := Aside0.mk H
 clear H
 go_enter Try.func11, Try.ntmps11
 go_upto_region 1 with (fail)
 go_cut [30] (fun v30 wc => ∃ (kq : Nat) (x30_4 : Bool), v30 = .bool x30_4 ∧ Aside0 (codewrightlaw24_MacwilliamsOrthogonal.j0 kq a0 a1 a2 a3 x30_4 = some r) ∧ Aside0 (kq ≤ k) ∧ Aside0 (Below w.heap.size w wc))
 case first =>
  have H := HC5.out
  clear HC5
  replace H := zi H
  rcases H with ⟨c6, H⟩ | ⟨c6, H⟩
  · have c6b0 := decide_eq_true c6
    clear c6
    (first | rw [c6b0] | (simp only [i64_w, i32_w]; rw [c6b0]) | rw [c6b1] | skip)
    have H' := Aside0.mk H
    clear H
    go_wp2
    go_meet
    case rel => exact ⟨_, (true), zF, H', ⟨zO⟩, ⟨zB HB.out⟩⟩
  have c6b0 := decide_eq_false c6
  clear c6
  (first | rw [c6b0] | (simp only [i64_w, i32_w]; rw [c6b0]) | rw [c6b1] | skip)
  replace H := zi H
  rcases H with ⟨c7, H⟩ | ⟨c7, H⟩
  · have c7b0 : decide (16 < a1) = true := decide_eq_true c7
    clear c7
    have H' := Aside0.mk H
    clear H
    go_wp2
    go_meet
    case rel => exact ⟨_, (true), zF, H', ⟨zO⟩, ⟨zB HB.out⟩⟩
  have c7b0 : decide (16 < a1) = false := decide_eq_false c7
  clear c7
  replace H := zi H
  rcases H with ⟨c8, H⟩ | ⟨c8, H⟩
  · have c8b0 : decide (a1 < a2) = true := decide_eq_true c8
    clear c8
    have H' := Aside0.mk H
    clear H
    go_wp2
    go_meet
    case rel => exact ⟨_, (true), zF, H', ⟨zO⟩, ⟨zB HB.out⟩⟩
  have c8b0 : decide (a1 < a2) = false := decide_eq_false c8
  clear c8
  have H' := Aside0.mk H
  clear H
  go_wp2
  go_meet
  case rel => exact ⟨_, (decide (a3 > a1)), zF, H', ⟨zO⟩, ⟨zB HB.out⟩⟩
 clear HC5
 (try clear c1);(try clear p2);(try clear c6);(try clear c6b0);(try clear c6b1);(try clear c7);(try clear c7b0);(try clear c8);(try clear c8b0)
 obtain ⟨kq, x30_4, rfl, HA, HJ4, HB⟩ := hcut
 cases kq with | zero => exact absurd HA.out (by simp [codewrightlaw24_MacwilliamsOrthogonal.j0]) | succ kj4 => ?_
 have H := HA.out
 clear HA
 simp only [codewrightlaw24_MacwilliamsOrthogonal.j0] at H
 by_cases c9 : x30_4 = true
 · subst c9
   rw [if_pos rfl] at H
   obtain rfl := Option.some.inj H
   go_wp2
   go_ret
   exact ⟨zE, zB HB.out⟩
 replace c9 := Bool.eq_false_iff.mpr c9
 subst c9
 rw [if_neg Bool.false_ne_true] at H
 replace H := zb H
 obtain ⟨⟨t101, t102, t105⟩, A10, H⟩ := H
 dsimp only at H
 have H' := Aside0.mk H
 clear H
 go_wp2_with (first | ((with_reducible refine gate_callee (f := 48) rfl ?_); refine zG (some 31) Try.func48 #[.int .i64 0] ?_; (with_reducible refine (codewrightref02_Int.calls kj4 0 t101 t102 t105 _ A10.out).mono ?_); rintro e w11 ⟨v103, v106, rfl, ho0, ho1, hb⟩; refine ⟨_, rfl, ?_⟩; have HO104 := yRl ho0 HB; have HO107 := yRl ho1 HB; replace HB := yS HB hb; (try clear hb ho0); (try clear ho1)) | ((with_reducible refine gate_dst (N := 9) rfl ?_); refine box_event ?hg (N := 9) ?hd (cs := #[.bool false, .slice none 0 0, .slice none 0 0]) (t := 60) ?hr ?_; (case hd => rfl); (case hg => rfl); (case hr => first | (go_simp; done) | (go_simp; rfl)); intro gb108 hg w12 hbox hb; replace HO104 := yRb HO104 hb; replace HO107 := yRb HO107 hb; have BK108 := Aside0.mk (hbox); have GW108 := yg hg HB; have GE108 := yg hg HB; replace HB := yS HB hb; clear hb hbox hg; have hcz13_0 : w12.cell? ⟨gb108, 0, none⟩ = some (.bool false) := (blk_cell BK108.out 0).trans rfl; have hcz13_1 : w12.cell? ⟨gb108, 1, none⟩ = some (.slice none 0 0) := (blk_cell BK108.out 1).trans rfl; have hcz13_2 : w12.cell? ⟨gb108, 2, none⟩ = some (.slice none 0 0) := (blk_cell BK108.out 2).trans rfl; have hfz13_0 := blk_frozen BK108.out 0; have hfz13_1 := blk_frozen BK108.out 1; have hfz13_2 := blk_frozen BK108.out 2; obtain ⟨Ao14, co14, rfl⟩ := Kd.R_slice HO104.out; obtain ⟨Ao15, co15, rfl⟩ := Kd.R_slice HO107.out))
 go_loopg [10] kj4 (fun kq v10 w' => ∃ (x10_2 : Int) (x109000_2 : Bool) (x109001_2 : List Int) (x109002_2 : List Int) (u109001 : Value) (u109002 : Value), v10 = .int .i64 x10_2 ∧ Aside0 (codewrightlaw24_MacwilliamsOrthogonal.l0 kq a0 a1 a2 a3 x10_2 x109000_2 x109001_2 x109002_2 = some r) ∧ Aside0 (kq ≤ kj4) ∧ Aside0 (Kd.R (Kd.int .u32) 97 w' w.heap.size (fun k_ => some k_ ≠ (u109002 : Value).ownBlock) u109001 x109001_2) ∧ Aside0 (Kd.R (Kd.int .u32) 97 w' w.heap.size (fun k_ => some k_ ≠ (u109001 : Value).ownBlock) u109002 x109002_2) ∧ Aside0 (w'.heap[gb108]? = some (.cells #[.bool x109000_2, u109001, u109002] 60 (0, 0))) ∧ Aside0 (Below w.heap.size w w'))
 case atStart => exact ⟨(0), (t101), (t102), (t105), (.slice Ao14 t102.length co14), (.slice Ao15 t105.length co15), zF, H', ⟨Nat.le_refl _⟩, ⟨by (with_reducible repeat (first | apply Kd.R_alloc | apply Kd.R_drewN | apply Kd.R_drew)); exact yf HO104.out BK108.out (fun _ hk => hk.1)⟩, ⟨by (with_reducible repeat (first | apply Kd.R_alloc | apply Kd.R_drewN | apply Kd.R_drew)); exact yf HO107.out BK108.out (fun _ hk => hk.1)⟩, ⟨by (with_reducible repeat (first | refine blk_drewN ?_ _ | refine blk_drew ?_ | refine blk_alloc ?_ _)); refine blk_put (cs := #[.bool t101, .slice Ao14 t102.length co14, .slice none 0 0]) ?_ 2 _ rfl; (with_reducible repeat (first | refine blk_drewN ?_ _ | refine blk_drew ?_ | refine blk_alloc ?_ _)); refine blk_put (cs := #[.bool t101, .slice none 0 0, .slice none 0 0]) ?_ 1 _ rfl; (with_reducible repeat (first | refine blk_drewN ?_ _ | refine blk_drew ?_ | refine blk_alloc ?_ _)); refine blk_put (cs := #[.bool false, .slice none 0 0, .slice none 0 0]) ?_ 0 _ rfl; (with_reducible repeat (first | refine blk_drewN ?_ _ | refine blk_drew ?_ | refine blk_alloc ?_ _)); exact BK108.out⟩, ⟨zB1 HB.out GE108.out⟩⟩
 clear H'
 (try clear c1);(try clear p2);(try clear c4);(try clear c6);(try clear c6b0);(try clear c6b1);(try clear c7);(try clear c7b0);(try clear c8);(try clear c8b0);(try clear c9);(try clear c11);(try clear hcz13_0);(try clear hcz13_1);(try clear hcz13_2);(try clear hfz13_0);(try clear hfz13_1);(try clear hfz13_2)
 obtain ⟨x10_2, x109000_2, x109001_2, x109002_2, u109001, u109002, rfl, HA, HK2, HO_109001, HO_109002, BK108, HB⟩ := hrel
 cases gk with | zero => exact absurd HA.out (by simp [codewrightlaw24_MacwilliamsOrthogonal.l0]) | succ k2 => ?_
 have H := HA.out
 clear HA
 simp only [codewrightlaw24_MacwilliamsOrthogonal.l0] at H
 replace H := zi H
 rcases H with ⟨c16, H⟩ | ⟨c16, H⟩
 · have c16b0 := decide_eq_true c16
   clear c16
   replace H := zb H
   obtain ⟨⟨t109, t110, t113, t116⟩, A17, H⟩ := H
   dsimp only at H
   replace H := zb H
   obtain ⟨⟨t118, t119, t122, t125⟩, A18, H⟩ := H
   dsimp only at H
   have HC19 := Aside0.mk H
   clear H
   go_upto_region 9 with (first | ((with_reducible refine gate_callee (f := 49) rfl ?_); refine zG (some 46) Try.func49 #[.int .i64 (wrap64 (a0)), .int .i64 (wrap64 (a1)), .int .i64 (wrap64 (a2)), .int .i64 x10_2] ?_; (with_reducible refine (codewrightlaw24_k.calls k2 (wrap64 (a0)) (wrap64 (a1)) (wrap64 (a2)) x10_2 t109 t110 t113 t116 _ A17.out).mono ?_); rintro e w20 ⟨v111, v114, rfl, ho0, ho1, hb⟩; refine ⟨_, rfl, ?_⟩; have HO112 := Aside0.mk (Kd.V_lower (Kd.V_mono (ok' := fun k_ => some k_ ≠ (u109001 : Value).ownBlock ∧ some k_ ≠ (u109002 : Value).ownBlock ∧ k_ ≠ gb108) ho0 (fun k_ hk_ => ⟨(Kd.fresh' (Kd.R_lt (zR HO_109001.out)) k_ hk_), (Kd.fresh' (Kd.R_lt (zR HO_109002.out)) k_ hk_), (Kd.freshB (g := gb108) (o := .cells #[.bool x109000_2, u109001, u109002] 60 (0, 0)) (by (with_reducible repeat (first | refine blk_drewN ?_ _ | refine blk_drew ?_ | refine blk_alloc ?_ _)); exact BK108.out) k_ hk_)⟩)) (below_size (zB1 HB.out GE108.out))); have HO115 := Aside0.mk (Kd.V_lower (Kd.V_mono (ok' := fun k_ => some k_ ≠ (u109001 : Value).ownBlock ∧ some k_ ≠ (u109002 : Value).ownBlock ∧ k_ ≠ gb108) ho1 (fun k_ hk_ => ⟨(Kd.fresh' (Kd.R_lt (zR HO_109001.out)) k_ hk_), (Kd.fresh' (Kd.R_lt (zR HO_109002.out)) k_ hk_), (Kd.freshB (g := gb108) (o := .cells #[.bool x109000_2, u109001, u109002] 60 (0, 0)) (by (with_reducible repeat (first | refine blk_drewN ?_ _ | refine blk_drew ?_ | refine blk_alloc ?_ _)); exact BK108.out) k_ hk_)⟩)) (below_size (zB1 HB.out GE108.out))); replace HO_109001 := yRb HO_109001 hb; replace HO_109002 := yRb HO_109002 hb; replace BK108 := yK BK108 hb; replace HB := yS1 HB GE108 hb; (try clear hb ho0); (try clear ho1)) | ((with_reducible refine gate_dst (N := 11) rfl ?_); refine box_event ?hg (N := 11) ?hd (cs := #[.bool false, .slice none 0 0, .slice none 0 0]) (t := 60) ?hr ?_; (case hd => rfl); (case hg => rfl); (case hr => first | (go_simp; done) | (go_simp; rfl)); intro gb117 hg w21 hbox hb; replace HO_109001 := yRb HO_109001 hb; replace HO_109002 := yRb HO_109002 hb; replace HO112 := yVB HO112 hg hb; replace HO115 := yVB HO115 hg hb; have BK117 := Aside0.mk (hbox); have GW117 := yg1 hg HB GE108; have GE117 := yg1 hg HB GE108; replace HB := yS1 HB GE108 hb; have NB108_117 := ynl hg BK108; have NB117_108 := yng hg BK108; replace BK108 := yK BK108 hb; clear hb hbox hg; have hnb22 := NB117_108.out; have hnc22 := NB108_117.out; have hcz23_0 : w21.cell? ⟨gb117, 0, none⟩ = some (.bool false) := (blk_cell BK117.out 0).trans rfl; have hcz23_1 : w21.cell? ⟨gb117, 1, none⟩ = some (.slice none 0 0) := (blk_cell BK117.out 1).trans rfl; have hcz23_2 : w21.cell? ⟨gb117, 2, none⟩ = some (.slice none 0 0) := (blk_cell BK117.out 2).trans rfl; have hfz23_0 := blk_frozen BK117.out 0; have hfz23_1 := blk_frozen BK117.out 1; have hfz23_2 := blk_frozen BK117.out 2; obtain ⟨Ao24, co24, rfl⟩ := Kd.V_slice HO112.out; obtain ⟨Ao25, co25, rfl⟩ := Kd.V_slice HO115.out) | ((with_reducible refine gate_callee (f := 49) rfl ?_); refine zG (some 57) Try.func49 #[.int .i64 (wrap64 (a0)), .int .i64 (wrap64 (a1)), .int .i64 (wrap64 (a3)), .int .i64 x10_2] ?_; (with_reducible refine (codewrightlaw24_k.calls k2 (wrap64 (a0)) (wrap64 (a1)) (wrap64 (a3)) x10_2 t118 t119 t122 t125 _ A18.out).mono ?_); rintro e w26 ⟨v120, v123, rfl, ho0, ho1, hb⟩; refine ⟨_, rfl, ?_⟩; replace HO112 := Aside0.mk (Kd.V_below (by (with_reducible repeat (first | apply Kd.V_alloc | apply Kd.V_drewN | apply Kd.V_drew)); exact (Kd.V_mono (Kd.V_far (p := ⟨gb117, 2, none⟩) (Kd.V_far (p := ⟨gb117, 1, none⟩) (Kd.V_far (p := ⟨gb117, 0, none⟩) (Kd.V_mono HO112.out (fun k_ hk => (⟨hk, hk.2⟩ : _ ∧ k_ ≠ gb117))) (fun _ hk => hk.2) (.bool t109)) (fun _ hk => hk.2) (.slice Ao24 t110.length co24)) (fun _ hk => hk.2) (.slice Ao25 t113.length co25)) (fun _ h_ => h_.1))) hb); replace HO115 := Aside0.mk (Kd.V_below (by (with_reducible repeat (first | apply Kd.V_alloc | apply Kd.V_drewN | apply Kd.V_drew)); exact (Kd.V_mono (Kd.V_far (p := ⟨gb117, 2, none⟩) (Kd.V_far (p := ⟨gb117, 1, none⟩) (Kd.V_far (p := ⟨gb117, 0, none⟩) (Kd.V_mono HO115.out (fun k_ hk => (⟨hk, hk.2⟩ : _ ∧ k_ ≠ gb117))) (fun _ hk => hk.2) (.bool t109)) (fun _ hk => hk.2) (.slice Ao24 t110.length co24)) (fun _ hk => hk.2) (.slice Ao25 t113.length co25)) (fun _ h_ => h_.1))) hb); have HO121 := Aside0.mk (Kd.V_lower (Kd.V_mono (ok' := fun k_ => some k_ ≠ (u109001 : Value).ownBlock ∧ some k_ ≠ (u109002 : Value).ownBlock ∧ k_ ≠ gb108 ∧ k_ ≠ gb117) ho0 (fun k_ hk_ => ⟨(Kd.fresh' (Kd.R_lt (by (with_reducible repeat (first | apply Kd.R_alloc | apply Kd.R_drewN | apply Kd.R_drew)); exact (yf HO_109001.out BK117.out (fun _ h_ => h_.1)))) k_ hk_), (Kd.fresh' (Kd.R_lt (by (with_reducible repeat (first | apply Kd.R_alloc | apply Kd.R_drewN | apply Kd.R_drew)); exact (yf HO_109002.out BK117.out (fun _ h_ => h_.1)))) k_ hk_), (Kd.freshB (g := gb108) (o := .cells #[.bool x109000_2, u109001, u109002] 60 (0, 0)) (by (with_reducible repeat (first | refine blk_drewN ?_ _ | refine blk_drew ?_ | refine blk_alloc ?_ _)); refine blk_far ?_ NB108_117.out _; (with_reducible repeat (first | refine blk_drewN ?_ _ | refine blk_drew ?_ | refine blk_alloc ?_ _)); refine blk_far ?_ NB108_117.out _; (with_reducible repeat (first | refine blk_drewN ?_ _ | refine blk_drew ?_ | refine blk_alloc ?_ _)); refine blk_far ?_ NB108_117.out _; (with_reducible repeat (first | refine blk_drewN ?_ _ | refine blk_drew ?_ | refine blk_alloc ?_ _)); exact BK108.out) k_ hk_), (Kd.freshB (g := gb117) (o := .cells #[.bool t109, .slice Ao24 t110.length co24, .slice Ao25 t113.length co25] 60 (0, 0)) (by (with_reducible repeat (first | refine blk_drewN ?_ _ | refine blk_drew ?_ | refine blk_alloc ?_ _)); refine blk_put (cs := #[.bool t109, .slice Ao24 t110.length co24, .slice none 0 0]) ?_ 2 _ rfl; (with_reducible repeat (first | refine blk_drewN ?_ _ | refine blk_drew ?_ | refine blk_alloc ?_ _)); refine blk_put (cs := #[.bool t109, .slice none 0 0, .slice none 0 0]) ?_ 1 _ rfl; (with_reducible repeat (first | refine blk_drewN ?_ _ | refine blk_drew ?_ | refine blk_alloc ?_ _)); refine blk_put (cs := #[.bool false, .slice none 0 0, .slice none 0 0]) ?_ 0 _ rfl; (with_reducible repeat (first | refine blk_drewN ?_ _ | refine blk_drew ?_ | refine blk_alloc ?_ _)); exact BK117.out) k_ hk_)⟩)) (below_size (zB2 HB.out GE108.out GE117.out))); have HO124 := Aside0.mk (Kd.V_lower (Kd.V_mono (ok' := fun k_ => some k_ ≠ (u109001 : Value).ownBlock ∧ some k_ ≠ (u109002 : Value).ownBlock ∧ k_ ≠ gb108 ∧ k_ ≠ gb117) ho1 (fun k_ hk_ => ⟨(Kd.fresh' (Kd.R_lt (by (with_reducible repeat (first | apply Kd.R_alloc | apply Kd.R_drewN | apply Kd.R_drew)); exact (yf HO_109001.out BK117.out (fun _ h_ => h_.1)))) k_ hk_), (Kd.fresh' (Kd.R_lt (by (with_reducible repeat (first | apply Kd.R_alloc | apply Kd.R_drewN | apply Kd.R_drew)); exact (yf HO_109002.out BK117.out (fun _ h_ => h_.1)))) k_ hk_), (Kd.freshB (g := gb108) (o := .cells #[.bool x109000_2, u109001, u109002] 60 (0, 0)) (by (with_reducible repeat (first | refine blk_drewN ?_ _ | refine blk_drew ?_ | refine blk_alloc ?_ _)); refine blk_far ?_ NB108_117.out _; (with_reducible repeat (first | refine blk_drewN ?_ _ | refine blk_drew ?_ | refine blk_alloc ?_ _)); refine blk_far ?_ NB108_117.out _; (with_reducible repeat (first | refine blk_drewN ?_ _ | refine blk_drew ?_ | refine blk_alloc ?_ _)); refine blk_far ?_ NB108_117.out _; (with_reducible repeat (first | refine blk_drewN ?_ _ | refine blk_drew ?_ | refine blk_alloc ?_ _)); exact BK108.out) k_ hk_), (Kd.freshB (g := gb117) (o := .cells #[.bool t109, .slice Ao24 t110.length co24, .slice Ao25 t113.length co25] 60 (0, 0)) (by (with_reducible repeat (first | refine blk_drewN ?_ _ | refine blk_drew ?_ | refine blk_alloc ?_ _)); refine blk_put (cs := #[.bool t109, .slice Ao24 t110.length co24, .slice none 0 0]) ?_ 2 _ rfl; (with_reducible repeat (first | refine blk_drewN ?_ _ | refine blk_drew ?_ | refine blk_alloc ?_ _)); refine blk_put (cs := #[.bool t109, .slice none 0 0, .slice none 0 0]) ?_ 1 _ rfl; (with_reducible repeat (first | refine blk_drewN ?_ _ | refine blk_drew ?_ | refine blk_alloc ?_ _)); refine blk_put (cs := #[.bool false, .slice none 0 0, .slice none 0 0]) ?_ 0 _ rfl; (with_reducible repeat (first | refine blk_drewN ?_ _ | refine blk_drew ?_ | refine blk_alloc ?_ _)); exact BK117.out) k_ hk_)⟩)) (below_size (zB2 HB.out GE108.out GE117.out))); replace HO_109001 := Aside0.mk (Kd.R_below (by (with_reducible repeat (first | apply Kd.R_alloc | apply Kd.R_drewN | apply Kd.R_drew)); exact (yf HO_109001.out BK117.out (fun _ h_ => h_.1))) hb); replace HO_109002 := Aside0.mk (Kd.R_below (by (with_reducible repeat (first | apply Kd.R_alloc | apply Kd.R_drewN | apply Kd.R_drew)); exact (yf HO_109002.out BK117.out (fun _ h_ => h_.1))) hb); replace BK108 := Aside0.mk (blk_below (g := gb108) (o := .cells #[.bool x109000_2, u109001, u109002] 60 (0, 0)) (by (with_reducible repeat (first | refine blk_drewN ?_ _ | refine blk_drew ?_ | refine blk_alloc ?_ _)); refine blk_far ?_ NB108_117.out _; (with_reducible repeat (first | refine blk_drewN ?_ _ | refine blk_drew ?_ | refine blk_alloc ?_ _)); refine blk_far ?_ NB108_117.out _; (with_reducible repeat (first | refine blk_drewN ?_ _ | refine blk_drew ?_ | refine blk_alloc ?_ _)); refine blk_far ?_ NB108_117.out _; (with_reducible repeat (first | refine blk_drewN ?_ _ | refine blk_drew ?_ | refine blk_alloc ?_ _)); exact BK108.out) hb); replace BK117 := Aside0.mk (blk_below (g := gb117) (o := .cells #[.bool t109, .slice Ao24 t110.length co24, .slice Ao25 t113.length co25] 60 (0, 0)) (by (with_reducible repeat (first | refine blk_drewN ?_ _ | refine blk_drew ?_ | refine blk_alloc ?_ _)); refine blk_put (cs := #[.bool t109, .slice Ao24 t110.length co24, .slice none 0 0]) ?_ 2 _ rfl; (with_reducible repeat (first | refine blk_drewN ?_ _ | refine blk_drew ?_ | refine blk_alloc ?_ _)); refine blk_put (cs := #[.bool t109, .slice none 0 0, .slice none 0 0]) ?_ 1 _ rfl; (with_reducible repeat (first | refine blk_drewN ?_ _ | refine blk_drew ?_ | refine blk_alloc ?_ _)); refine blk_put (cs := #[.bool false, .slice none 0 0, .slice none 0 0]) ?_ 0 _ rfl; (with_reducible repeat (first | refine blk_drewN ?_ _ | refine blk_drew ?_ | refine blk_alloc ?_ _)); exact BK117.out) hb); replace HB := yS2 HB GE108 GE117 hb; (try clear hb ho0); (try clear ho1)) | ((with_reducible refine gate_dst (N := 13) rfl ?_); refine box_event ?hg (N := 13) ?hd (cs := #[.bool false, .slice none 0 0, .slice none 0 0]) (t := 60) ?hr ?_; (case hd => rfl); (case hg => rfl); (case hr => first | (go_simp; done) | (go_simp; rfl)); intro gb126 hg w27 hbox hb; replace HO_109001 := yRb HO_109001 hb; replace HO_109002 := yRb HO_109002 hb; replace HO112 := yVB HO112 hg hb; replace HO115 := yVB HO115 hg hb; replace HO121 := yVB HO121 hg hb; replace HO124 := yVB HO124 hg hb; have BK126 := Aside0.mk (hbox); have GW126 := yg2 hg HB GE108 GE117; have GE126 := yg2 hg HB GE108 GE117; replace HB := yS2 HB GE108 GE117 hb; have NB108_126 := ynl hg BK108; have NB126_108 := yng hg BK108; replace BK108 := yK BK108 hb; have NB117_126 := ynl hg BK117; have NB126_117 := yng hg BK117; replace BK117 := yK BK117 hb; clear hb hbox hg; have hnb28 := NB126_108.out; have hnc28 := NB108_126.out; have hnb29 := NB126_117.out; have hnc29 := NB117_126.out; have hcz30_0 : w27.cell? ⟨gb126, 0, none⟩ = some (.bool false) := (blk_cell BK126.out 0).trans rfl; have hcz30_1 : w27.cell? ⟨gb126, 1, none⟩ = some (.slice none 0 0) := (blk_cell BK126.out 1).trans rfl; have hcz30_2 : w27.cell? ⟨gb126, 2, none⟩ = some (.slice none 0 0) := (blk_cell BK126.out 2).trans rfl; have hfz30_0 := blk_frozen BK126.out 0; have hfz30_1 := blk_frozen BK126.out 1; have hfz30_2 := blk_frozen BK126.out 2; obtain ⟨Ao31, co31, rfl⟩ := Kd.V_slice HO121.out; obtain ⟨Ao32, co32, rfl⟩ := Kd.V_slice HO124.out))
   (try simp only [Act.put, List.setIfInBounds_toArray, List.set_cons_zero, List.set_cons_succ])
   go_cut [65] (fun v65 wc => ∃ (kq : Nat) (x65_18 : Bool), v65 = .bool x65_18 ∧ Aside0 (codewrightlaw24_MacwilliamsOrthogonal.j2 kq a0 a1 a2 a3 x10_2 x65_18 x109000_2 x109001_2 x109002_2 t109 t110 t113 t118 t119 t122 = some r) ∧ Aside0 (kq ≤ k2) ∧ Aside0 (Kd.R (Kd.int .u32) 97 wc w.heap.size (fun k_ => some k_ ≠ (u109002 : Value).ownBlock) u109001 x109001_2) ∧ Aside0 (Kd.R (Kd.int .u32) 97 wc w.heap.size (fun k_ => some k_ ≠ (u109001 : Value).ownBlock) u109002 x109002_2) ∧ Aside0 (Kd.V (Kd.int .u32) 97 wc w.heap.size (fun k_ => some k_ ≠ (u109001 : Value).ownBlock ∧ some k_ ≠ (u109002 : Value).ownBlock ∧ k_ ≠ gb108 ∧ k_ ≠ gb117 ∧ k_ ≠ gb126) (.slice Ao24 t110.length co24) t110) ∧ Aside0 (Kd.V (Kd.int .u32) 97 wc w.heap.size (fun k_ => some k_ ≠ (u109001 : Value).ownBlock ∧ some k_ ≠ (u109002 : Value).ownBlock ∧ k_ ≠ gb108 ∧ k_ ≠ gb117 ∧ k_ ≠ gb126) (.slice Ao25 t113.length co25) t113) ∧ Aside0 (Kd.V (Kd.int .u32) 97 wc w.heap.size (fun k_ => some k_ ≠ (u109001 : Value).ownBlock ∧ some k_ ≠ (u109002 : Value).ownBlock ∧ k_ ≠ gb108 ∧ k_ ≠ gb117 ∧ k_ ≠ gb126) (.slice Ao31 t119.length co31) t119) ∧ Aside0 (Kd.V (Kd.int .u32) 97 wc w.heap.size (fun k_ => some k_ ≠ (u109001 : Value).ownBlock ∧ some k_ ≠ (u109002 : Value).ownBlock ∧ k_ ≠ gb108 ∧ k_ ≠ gb117 ∧ k_ ≠ gb126) (.slice Ao32 t122.length co32) t122) ∧ Aside0 (wc.heap[gb108]? = some (.cells #[.bool x109000_2, u109001, u109002] 60 (0, 0))) ∧ Aside0 (wc.heap[gb117]? = some (.cells #[.bool t109, (.slice Ao24 t110.length co24), (.slice Ao25 t113.length co25)] 60 (0, 0))) ∧ Aside0 (wc.heap[gb126]? = some (.cells #[.bool t118, (.slice Ao31 t119.length co31), (.slice Ao32 t122.length co32)] 60 (0, 0))) ∧ Aside0 (Below w.heap.size w wc))
   case first =>
    have H := HC19.out
    clear HC19
    by_cases c33 : t116 = true
    · subst c33
      rw [if_pos rfl] at H
      have H' := Aside0.mk H
      clear H
      go_wp2
      go_meet
      case rel => exact ⟨_, (!t125), zF, H', ⟨by have := HJ4.out; have := HK2.out; first | omega | exact Nat.le_refl _⟩, ⟨by (with_reducible repeat (first | apply Kd.R_alloc | apply Kd.R_drewN | apply Kd.R_drew)); exact yf HO_109001.out BK126.out (fun _ hk => hk.1)⟩, ⟨by (with_reducible repeat (first | apply Kd.R_alloc | apply Kd.R_drewN | apply Kd.R_drew)); exact yf HO_109002.out BK126.out (fun _ hk => hk.1)⟩, ⟨by (with_reducible repeat (first | apply Kd.V_alloc | apply Kd.V_drewN | apply Kd.V_drew)); exact Kd.V_mono (Kd.V_far (p := ⟨gb126, 2, none⟩) (Kd.V_far (p := ⟨gb126, 1, none⟩) (Kd.V_far (p := ⟨gb126, 0, none⟩) (Kd.V_mono HO112.out (fun k_ hk => (⟨hk, hk.2⟩ : _ ∧ k_ ≠ gb126))) (fun _ hk => hk.2) (.bool t118)) (fun _ hk => hk.2) (.slice Ao31 t119.length co31)) (fun _ hk => hk.2) (.slice Ao32 t122.length co32)) (fun _ hk => ⟨hk.1.1.1.1, ⟨hk.1.1.1.2.1, ⟨hk.1.1.1.2.2, ⟨hk.1.1.2, hk.1.2⟩⟩⟩⟩)⟩, ⟨by (with_reducible repeat (first | apply Kd.V_alloc | apply Kd.V_drewN | apply Kd.V_drew)); exact Kd.V_mono (Kd.V_far (p := ⟨gb126, 2, none⟩) (Kd.V_far (p := ⟨gb126, 1, none⟩) (Kd.V_far (p := ⟨gb126, 0, none⟩) (Kd.V_mono HO115.out (fun k_ hk => (⟨hk, hk.2⟩ : _ ∧ k_ ≠ gb126))) (fun _ hk => hk.2) (.bool t118)) (fun _ hk => hk.2) (.slice Ao31 t119.length co31)) (fun _ hk => hk.2) (.slice Ao32 t122.length co32)) (fun _ hk => ⟨hk.1.1.1.1, ⟨hk.1.1.1.2.1, ⟨hk.1.1.1.2.2, ⟨hk.1.1.2, hk.1.2⟩⟩⟩⟩)⟩, ⟨by (with_reducible repeat (first | apply Kd.V_alloc | apply Kd.V_drewN | apply Kd.V_drew)); exact Kd.V_mono (Kd.V_far (p := ⟨gb126, 2, none⟩) (Kd.V_far (p := ⟨gb126, 1, none⟩) (Kd.V_far (p := ⟨gb126, 0, none⟩) (Kd.V_mono HO121.out (fun k_ hk => (⟨hk, hk.2⟩ : _ ∧ k_ ≠ gb126))) (fun _ hk => hk.2) (.bool t118)) (fun _ hk => hk.2) (.slice Ao31 t119.length co31)) (fun _ hk => hk.2) (.slice Ao32 t122.length co32)) (fun _ hk => ⟨hk.1.1.1, ⟨hk.1.1.2.1, ⟨hk.1.1.2.2.1, ⟨hk.1.1.2.2.2, hk.1.2⟩⟩⟩⟩)⟩, ⟨by (with_reducible repeat (first | apply Kd.V_alloc | apply Kd.V_drewN | apply Kd.V_drew)); exact Kd.V_mono (Kd.V_far (p := ⟨gb126, 2, none⟩) (Kd.V_far (p := ⟨gb126, 1, none⟩) (Kd.V_far (p := ⟨gb126, 0, none⟩) (Kd.V_mono HO124.out (fun k_ hk => (⟨hk, hk.2⟩ : _ ∧ k_ ≠ gb126))) (fun _ hk => hk.2) (.bool t118)) (fun _ hk => hk.2) (.slice Ao31 t119.length co31)) (fun _ hk => hk.2) (.slice Ao32 t122.length co32)) (fun _ hk => ⟨hk.1.1.1, ⟨hk.1.1.2.1, ⟨hk.1.1.2.2.1, ⟨hk.1.1.2.2.2, hk.1.2⟩⟩⟩⟩)⟩, ⟨by (with_reducible repeat (first | refine blk_drewN ?_ _ | refine blk_drew ?_ | refine blk_alloc ?_ _)); refine blk_far ?_ NB108_126.out _; (with_reducible repeat (first | refine blk_drewN ?_ _ | refine blk_drew ?_ | refine blk_alloc ?_ _)); refine blk_far ?_ NB108_126.out _; (with_reducible repeat (first | refine blk_drewN ?_ _ | refine blk_drew ?_ | refine blk_alloc ?_ _)); refine blk_far ?_ NB108_126.out _; (with_reducible repeat (first | refine blk_drewN ?_ _ | refine blk_drew ?_ | refine blk_alloc ?_ _)); exact BK108.out⟩, ⟨by (with_reducible repeat (first | refine blk_drewN ?_ _ | refine blk_drew ?_ | refine blk_alloc ?_ _)); refine blk_far ?_ NB117_126.out _; (with_reducible repeat (first | refine blk_drewN ?_ _ | refine blk_drew ?_ | refine blk_alloc ?_ _)); refine blk_far ?_ NB117_126.out _; (with_reducible repeat (first | refine blk_drewN ?_ _ | refine blk_drew ?_ | refine blk_alloc ?_ _)); refine blk_far ?_ NB117_126.out _; (with_reducible repeat (first | refine blk_drewN ?_ _ | refine blk_drew ?_ | refine blk_alloc ?_ _)); exact BK117.out⟩, ⟨by (with_reducible repeat (first | refine blk_drewN ?_ _ | refine blk_drew ?_ | refine blk_alloc ?_ _)); refine blk_put (cs := #[.bool t118, .slice Ao31 t119.length co31, .slice none 0 0]) ?_ 2 _ rfl; (with_reducible repeat (first | refine blk_drewN ?_ _ | refine blk_drew ?_ | refine blk_alloc ?_ _)); refine blk_put (cs := #[.bool t118, .slice none 0 0, .slice none 0 0]) ?_ 1 _ rfl; (with_reducible repeat (first | refine blk_drewN ?_ _ | refine blk_drew ?_ | refine blk_alloc ?_ _)); refine blk_put (cs := #[.bool false, .slice none 0 0, .slice none 0 0]) ?_ 0 _ rfl; (with_reducible repeat (first | refine blk_drewN ?_ _ | refine blk_drew ?_ | refine blk_alloc ?_ _)); exact BK126.out⟩, ⟨zB3 HB.out GE108.out GE117.out GE126.out⟩⟩
    replace c33 := Bool.eq_false_iff.mpr c33
    subst c33
    rw [if_neg Bool.false_ne_true] at H
    have H' := Aside0.mk H
    clear H
    go_wp2
    go_meet
    case rel => exact ⟨_, (true), zF, H', ⟨by have := HJ4.out; have := HK2.out; first | omega | exact Nat.le_refl _⟩, ⟨by (with_reducible repeat (first | apply Kd.R_alloc | apply Kd.R_drewN | apply Kd.R_drew)); exact yf HO_109001.out BK126.out (fun _ hk => hk.1)⟩, ⟨by (with_reducible repeat (first | apply Kd.R_alloc | apply Kd.R_drewN | apply Kd.R_drew)); exact yf HO_109002.out BK126.out (fun _ hk => hk.1)⟩, ⟨by (with_reducible repeat (first | apply Kd.V_alloc | apply Kd.V_drewN | apply Kd.V_drew)); exact Kd.V_mono (Kd.V_far (p := ⟨gb126, 2, none⟩) (Kd.V_far (p := ⟨gb126, 1, none⟩) (Kd.V_far (p := ⟨gb126, 0, none⟩) (Kd.V_mono HO112.out (fun k_ hk => (⟨hk, hk.2⟩ : _ ∧ k_ ≠ gb126))) (fun _ hk => hk.2) (.bool t118)) (fun _ hk => hk.2) (.slice Ao31 t119.length co31)) (fun _ hk => hk.2) (.slice Ao32 t122.length co32)) (fun _ hk => ⟨hk.1.1.1.1, ⟨hk.1.1.1.2.1, ⟨hk.1.1.1.2.2, ⟨hk.1.1.2, hk.1.2⟩⟩⟩⟩)⟩, ⟨by (with_reducible repeat (first | apply Kd.V_alloc | apply Kd.V_drewN | apply Kd.V_drew)); exact Kd.V_mono (Kd.V_far (p := ⟨gb126, 2, none⟩) (Kd.V_far (p := ⟨gb126, 1, none⟩) (Kd.V_far (p := ⟨gb126, 0, none⟩) (Kd.V_mono HO115.out (fun k_ hk => (⟨hk, hk.2⟩ : _ ∧ k_ ≠ gb126))) (fun _ hk => hk.2) (.bool t118)) (fun _ hk => hk.2) (.slice Ao31 t119.length co31)) (fun _ hk => hk.2) (.slice Ao32 t122.length co32)) (fun _ hk => ⟨hk.1.1.1.1, ⟨hk.1.1.1.2.1, ⟨hk.1.1.1.2.2, ⟨hk.1.1.2, hk.1.2⟩⟩⟩⟩)⟩, ⟨by (with_reducible repeat (first | apply Kd.V_alloc | apply Kd.V_drewN | apply Kd.V_drew)); exact Kd.V_mono (Kd.V_far (p := ⟨gb126, 2, none⟩) (Kd.V_far (p := ⟨gb126, 1, none⟩) (Kd.V_far (p := ⟨gb126, 0, none⟩) (Kd.V_mono HO121.out (fun k_ hk => (⟨hk, hk.2⟩ : _ ∧ k_ ≠ gb126))) (fun _ hk => hk.2) (.bool t118)) (fun _ hk => hk.2) (.slice Ao31 t119.length co31)) (fun _ hk => hk.2) (.slice Ao32 t122.length co32)) (fun _ hk => ⟨hk.1.1.1, ⟨hk.1.1.2.1, ⟨hk.1.1.2.2.1, ⟨hk.1.1.2.2.2, hk.1.2⟩⟩⟩⟩)⟩, ⟨by (with_reducible repeat (first | apply Kd.V_alloc | apply Kd.V_drewN | apply Kd.V_drew)); exact Kd.V_mono (Kd.V_far (p := ⟨gb126, 2, none⟩) (Kd.V_far (p := ⟨gb126, 1, none⟩) (Kd.V_far (p := ⟨gb126, 0, none⟩) (Kd.V_mono HO124.out (fun k_ hk => (⟨hk, hk.2⟩ : _ ∧ k_ ≠ gb126))) (fun _ hk => hk.2) (.bool t118)) (fun _ hk => hk.2) (.slice Ao31 t119.length co31)) (fun _ hk => hk.2) (.slice Ao32 t122.length co32)) (fun _ hk => ⟨hk.1.1.1, ⟨hk.1.1.2.1, ⟨hk.1.1.2.2.1, ⟨hk.1.1.2.2.2, hk.1.2⟩⟩⟩⟩)⟩, ⟨by (with_reducible repeat (first | refine blk_drewN ?_ _ | refine blk_drew ?_ | refine blk_alloc ?_ _)); refine blk_far ?_ NB108_126.out _; (with_reducible repeat (first | refine blk_drewN ?_ _ | refine blk_drew ?_ | refine blk_alloc ?_ _)); refine blk_far ?_ NB108_126.out _; (with_reducible repeat (first | refine blk_drewN ?_ _ | refine blk_drew ?_ | refine blk_alloc ?_ _)); refine blk_far ?_ NB108_126.out _; (with_reducible repeat (first | refine blk_drewN ?_ _ | refine blk_drew ?_ | refine blk_alloc ?_ _)); exact BK108.out⟩, ⟨by (with_reducible repeat (first | refine blk_drewN ?_ _ | refine blk_drew ?_ | refine blk_alloc ?_ _)); refine blk_far ?_ NB117_126.out _; (with_reducible repeat (first | refine blk_drewN ?_ _ | refine blk_drew ?_ | refine blk_alloc ?_ _)); refine blk_far ?_ NB117_126.out _; (with_reducible repeat (first | refine blk_drewN ?_ _ | refine blk_drew ?_ | refine blk_alloc ?_ _)); refine blk_far ?_ NB117_126.out _; (with_reducible repeat (first | refine blk_drewN ?_ _ | refine blk_drew ?_ | refine blk_alloc ?_ _)); exact BK117.out⟩, ⟨by (with_reducible repeat (first | refine blk_drewN ?_ _ | refine blk_drew ?_ | refine blk_alloc ?_ _)); refine blk_put (cs := #[.bool t118, .slice Ao31 t119.length co31, .slice none 0 0]) ?_ 2 _ rfl; (with_reducible repeat (first | refine blk_drewN ?_ _ | refine blk_drew ?_ | refine blk_alloc ?_ _)); refine blk_put (cs := #[.bool t118, .slice none 0 0, .slice none 0 0]) ?_ 1 _ rfl; (with_reducible repeat (first | refine blk_drewN ?_ _ | refine blk_drew ?_ | refine blk_alloc ?_ _)); refine blk_put (cs := #[.bool false, .slice none 0 0, .slice none 0 0]) ?_ 0 _ rfl; (with_reducible repeat (first | refine blk_drewN ?_ _ | refine blk_drew ?_ | refine blk_alloc ?_ _)); exact BK126.out⟩, ⟨zB3 HB.out GE108.out GE117.out GE126.out⟩⟩
   clear HC19
   (try clear c1);(try clear c2);(try clear p2);(try clear c3);(try clear c4);(try clear c6);(try clear c6b0);(try clear c6b1);(try clear p6);(try clear c7);(try clear c7b0);(try clear c8);(try clear c8b0);(try clear c9);(try clear c11);(try clear c16);(try clear c16b0);(try clear c22);(try clear c28);(try clear c29);(try clear c33);(try clear hcz13_0);(try clear hcz13_1);(try clear hcz13_2);(try clear hcz23_0);(try clear hcz23_1);(try clear hcz23_2);(try clear hcz30_0);(try clear hcz30_1);(try clear hcz30_2);(try clear hfz13_0);(try clear hfz13_1);(try clear hfz13_2);(try clear hfz23_0);(try clear hfz23_1);(try clear hfz23_2);(try clear hfz30_0);(try clear hfz30_1);(try clear hfz30_2)
   obtain ⟨kq, x65_18, rfl, HA, HJ18, HO_109001, HO_109002, HO_118001, HO_118002, HO_127001, HO_127002, BK108, BK117, BK126, HB⟩ := hcut
   cases kq with | zero => exact absurd HA.out (by simp [codewrightlaw24_MacwilliamsOrthogonal.j2]) | succ kj18 => ?_
   have H := HA.out
   clear HA
   simp only [codewrightlaw24_MacwilliamsOrthogonal.j2] at H
   by_cases c34 : x65_18 = true
   · subst c34
     rw [if_pos rfl] at H
     obtain rfl := Option.some.inj H
     go_wp2
     go_ret
     exact ⟨zE, zB3 HB.out GE108.out GE117.out GE126.out⟩
   replace c34 := Bool.eq_false_iff.mpr c34
   subst c34
   rw [if_neg Bool.false_ne_true] at H
   replace H := zb H
   obtain ⟨⟨t127, t128, t131⟩, A35, H⟩ := H
   dsimp only at H
   replace H := zb H
   obtain ⟨⟨t134, t135, t138⟩, A36, H⟩ := H
   dsimp only at H
   replace H := zb H
   obtain ⟨⟨t141, t142, t145⟩, A37, H⟩ := H
   dsimp only at H
   replace H := zb H
   obtain ⟨⟨t148, t149, t152⟩, A38, H⟩ := H
   dsimp only at H
   replace H := zb H
   obtain ⟨⟨t155, t156, t159⟩, A39, H⟩ := H
   dsimp only at H
   replace H := zb H
   obtain ⟨⟨t162, t163, t166⟩, A40, H⟩ := H
   dsimp only at H
   have H' := Aside0.mk H
   clear H
   try go_wp2
   replace HO_109001 := Aside0.mk (Kd.R_drew HO_109001.out)
   replace HO_109002 := Aside0.mk (Kd.R_drew HO_109002.out)
   replace HO_118001 := Aside0.mk (Kd.V_drew HO_118001.out)
   replace HO_118002 := Aside0.mk (Kd.V_drew HO_118002.out)
   replace HO_127001 := Aside0.mk (Kd.V_drew HO_127001.out)
   replace HO_127002 := Aside0.mk (Kd.V_drew HO_127002.out)
   replace BK108 := Aside0.mk (blk_drew BK108.out)
   replace BK117 := Aside0.mk (blk_drew BK117.out)
   replace BK126 := Aside0.mk (blk_drew BK126.out)
   replace HB := Aside0.mk (below_drew1 HB.out)
   refine start_ (n := 17) (S := fun w' => w'.cell? ⟨gb108, 0, none⟩ = some (.bool x109000_2) ∧ w'.cell? ⟨gb108, 1, none⟩ = some (u109001) ∧ w'.cell? ⟨gb108, 2, none⟩ = some (u109002) ∧ w'.cell? ⟨gb117, 0, none⟩ = some (.bool t109) ∧ w'.cell? ⟨gb117, 1, none⟩ = some (.slice Ao24 t110.length co24) ∧ w'.cell? ⟨gb117, 2, none⟩ = some (.slice Ao25 t113.length co25) ∧ w'.cell? ⟨gb126, 0, none⟩ = some (.bool t118) ∧ w'.cell? ⟨gb126, 1, none⟩ = some (.slice Ao31 t119.length co31) ∧ w'.cell? ⟨gb126, 2, none⟩ = some (.slice Ao32 t122.length co32)) (ds := [16]) #[false, false, false, false, false, false, false, false, false, false, false, false, false, false, false, false, false] (by kernel_rfl) rfl rfl ⟨(blk_cell BK108.out 0).trans rfl, (blk_cell BK108.out 1).trans rfl, (blk_cell BK108.out 2).trans rfl, (blk_cell BK117.out 0).trans rfl, (blk_cell BK117.out 1).trans rfl, (blk_cell BK117.out 2).trans rfl, (blk_cell BK126.out 0).trans rfl, (blk_cell BK126.out 1).trans rfl, (blk_cell BK126.out 2).trans rfl⟩ (fun hHeld => ?_); refine with_tabW codewrightlaw24_MacwilliamsOrthogonal.tab11 codewrightlaw24_MacwilliamsOrthogonal.bits11 (fun HT_ HW_ => ?_)
   generalize wc.drew = w41 at HO_109001 HO_109002 HO_118001 HO_118002 HO_127001 HO_127002 BK108 BK117 BK126 HB hHeld ⊢
   refine zp (i := 1) (N := some 67) HT_ ?_
   refine zp (i := 2) (N := some 68) HT_ ?_
   refine zp (i := 3) (N := some 69) HT_ ?_
   refine zp (i := 5) (N := some 71) HT_ ?_
   refine zp (i := 6) (N := some 72) HT_ ?_
   refine zp (i := 7) (N := some 73) HT_ ?_
   refine zp (i := 8) (N := some 74) HT_ ?_
   refine take_ (i := 0) (N := some 66) (v := ?_) (a' := ?_) #[true, true, true, true, false, true, true, true, true, false, false, false, false, false, false, false, false] rfl rfl (take_ofW HT_.out HW_.out (by kernel_rfl)) (fun _ _ _ h => h) (Or.inl ⟨by rfl, ?_⟩) hHeld ?_ ?_
   rotate_left
   · rintro w' ⟨s0, s1, s2, s3, s4, s5, s6, s7, s8⟩
     go_simp
     with_reducible rfl
   rotate_left
   · simp only [Act.put, List.setIfInBounds_toArray, List.set_cons_zero, List.set_cons_succ, i64_w, i32_w]
     rfl
   refine take_ (i := 11) (N := some 77) (v := ?_) (a' := ?_) #[true, true, true, true, false, true, true, true, true, false, false, true, false, false, false, false, false] rfl rfl (take_ofW HT_.out HW_.out (by kernel_rfl)) (fun _ _ _ h => h) (Or.inl ⟨by rfl, ?_⟩) hHeld ?_ ?_
   rotate_left
   · rintro w' ⟨s0, s1, s2, s3, s4, s5, s6, s7, s8⟩
     go_simp
     with_reducible rfl
   rotate_left
   · simp only [Act.put, List.setIfInBounds_toArray, List.set_cons_zero, List.set_cons_succ, i64_w, i32_w]
     rfl
   refine take_ (i := 12) (N := some 78) (v := ?_) (a' := ?_) #[true, true, true, true, false, true, true, true, true, false, false, true, true, false, false, false, false] rfl rfl (take_ofW HT_.out HW_.out (by kernel_rfl)) (fun _ _ _ h => h) (Or.inl ⟨by rfl, ?_⟩) hHeld ?_ ?_
   rotate_left
   · rintro w' ⟨s0, s1, s2, s3, s4, s5, s6, s7, s8⟩
     go_simp
     with_reducible rfl
   rotate_left
   · simp only [Act.put, List.setIfInBounds_toArray, List.set_cons_zero, List.set_cons_succ, i64_w, i32_w]
     rfl
   refine one_ (i := 4) (N := some 70) #[true, true, true, true, true, true, true, true, true, false, false, true, true, false, false, false, false] rfl rfl (one_of HT_.out (by kernel_rfl)) (by decide) (fun K hK => ?_)
   refine goes_ Try.func53 (by kernel_rfl) rfl #[.int .i64 (wrap64 (a1)), .int .i64 x10_2] (by rfl) rfl rfl (by (try simp only [List.map_toArray, List.map_cons, List.map_nil]); first | done | rfl | (simp only [List.length_drop, List.length_take]; rfl)) ?_
   with_reducible refine (codewrightlaw24_choose.calls kj18 (wrap64 (a1)) x10_2 t127 t128 t131 _ A35.out).mono ?_
   rintro e w42 ⟨v129, v132, rfl, ho0, ho1, hb⟩
   refine ⟨_, rfl, ?_⟩
   replace HO_118001 := yVt HO_118001 hb ho0 ho1
   replace HO_118002 := yVt HO_118002 hb ho0 ho1
   replace HO_127001 := yVt HO_127001 hb ho0 ho1
   replace HO_127002 := yVt HO_127002 hb ho0 ho1
   replace ho0 := yn ho0 HO_109001
   replace ho0 := yn ho0 HO_109002
   have HO130 := yRl3 ho0 HB GE108 GE117 GE126
   replace ho1 := yn ho1 HO_109001
   replace ho1 := yn ho1 HO_109002
   have HO133 := yRl3 ho1 HB GE108 GE117 GE126
   replace HO_109001 := yRt HO_109001 hb ho0 ho1
   replace HO_109002 := yRt HO_109002 hb ho0 ho1
   replace BK108 := yK BK108 hb
   replace BK117 := yK BK117 hb
   replace BK126 := yK BK126 hb
   replace HB := yS3 HB GE108 GE117 GE126 hb
   (try clear hb)
   (try clear hb2)
   (try clear hk)
   (try clear hi)
   (try clear ho0)
   (try clear ho1)
   refine hK.out _ _ ⟨(blk_cell BK108.out 0).trans rfl, (blk_cell BK108.out 1).trans rfl, (blk_cell BK108.out 2).trans rfl, (blk_cell BK117.out 0).trans rfl, (blk_cell BK117.out 1).trans rfl, (blk_cell BK117.out 2).trans rfl, (blk_cell BK126.out 0).trans rfl, (blk_cell BK126.out 1).trans rfl, (blk_cell BK126.out 2).trans rfl⟩ (fun hHeld => ?_)
   clear hK K
   refine norm_ (a' := ?_) ?_ ?_
   rotate_left
   · show Act.put _ (some 70) _ = _
     simp only [Act.put, List.setIfInBounds_toArray, List.set_cons_zero, List.set_cons_succ, i64_w, i32_w]
     rfl
   refine one_ (i := 9) (N := some 75) #[true, true, true, true, true, true, true, true, true, true, false, true, true, false, false, false, false] rfl rfl (one_of HT_.out (by kernel_rfl)) (by decide) (fun K hK => ?_)
   refine goes_ Try.func54 (by kernel_rfl) rfl #[.int .i64 (wrap64 ((wrap64 (a0)) - 1)), .int .i64 x10_2] (by rfl) rfl rfl (by (try simp only [List.map_toArray, List.map_cons, List.map_nil]); first | done | rfl | (simp only [List.length_drop, List.length_take]; rfl)) ?_
   with_reducible refine (codewrightlaw24_pow.calls kj18 (wrap64 ((wrap64 (a0)) - 1)) x10_2 t134 t135 t138 _ A36.out).mono ?_
   rintro e w43 ⟨v136, v139, rfl, ho0, ho1, hb⟩
   refine ⟨_, rfl, ?_⟩
   replace HO_118001 := yVt HO_118001 hb ho0 ho1
   replace HO_118002 := yVt HO_118002 hb ho0 ho1
   replace HO_127001 := yVt HO_127001 hb ho0 ho1
   replace HO_127002 := yVt HO_127002 hb ho0 ho1
   replace ho0 := yn ho0 HO_109001
   replace ho0 := yn ho0 HO_109002
   replace ho0 := yn ho0 HO130
   replace ho0 := yn ho0 HO133
   have HO137 := yRl3 ho0 HB GE108 GE117 GE126
   replace ho1 := yn ho1 HO_109001
   replace ho1 := yn ho1 HO_109002
   replace ho1 := yn ho1 HO130
   replace ho1 := yn ho1 HO133
   have HO140 := yRl3 ho1 HB GE108 GE117 GE126
   replace HO_109001 := yRt HO_109001 hb ho0 ho1
   replace HO_109002 := yRt HO_109002 hb ho0 ho1
   replace HO130 := yRt HO130 hb ho0 ho1
   replace HO133 := yRt HO133 hb ho0 ho1
   replace BK108 := yK BK108 hb
   replace BK117 := yK BK117 hb
   replace BK126 := yK BK126 hb
   replace HB := yS3 HB GE108 GE117 GE126 hb
   (try clear hb)
   (try clear hb2)
   (try clear hk)
   (try clear hi)
   (try clear ho0)
   (try clear ho1)
   obtain ⟨Ao44, co44, eo44⟩ := Kd.R_slice HO130.out
   (first | subst eo44 | (injection eo44 with f1_ f2_ f3_; have f4_ := f1_.symm; have f5_ := f3_.symm; clear f1_ f2_ f3_; subst f4_; subst f5_))
   obtain ⟨Ao45, co45, eo45⟩ := Kd.R_slice HO133.out
   (first | subst eo45 | (injection eo45 with f1_ f2_ f3_; have f4_ := f1_.symm; have f5_ := f3_.symm; clear f1_ f2_ f3_; subst f4_; subst f5_))
   obtain ⟨Ao46, co46, eo46⟩ := Kd.R_slice HO137.out
   (first | subst eo46 | (injection eo46 with f1_ f2_ f3_; have f4_ := f1_.symm; have f5_ := f3_.symm; clear f1_ f2_ f3_; subst f4_; subst f5_))
   obtain ⟨Ao47, co47, eo47⟩ := Kd.R_slice HO140.out
   (first | subst eo47 | (injection eo47 with f1_ f2_ f3_; have f4_ := f1_.symm; have f5_ := f3_.symm; clear f1_ f2_ f3_; subst f4_; subst f5_))
   refine hK.out _ _ ⟨(blk_cell BK108.out 0).trans rfl, (blk_cell BK108.out 1).trans rfl, (blk_cell BK108.out 2).trans rfl, (blk_cell BK117.out 0).trans rfl, (blk_cell BK117.out 1).trans rfl, (blk_cell BK117.out 2).trans rfl, (blk_cell BK126.out 0).trans rfl, (blk_cell BK126.out 1).trans rfl, (blk_cell BK126.out 2).trans rfl⟩ (fun hHeld => ?_)
   clear hK K
   refine norm_ (a' := ?_) ?_ ?_
   rotate_left
   · show Act.put _ (some 75) _ = _
     simp only [Act.put, List.setIfInBounds_toArray, List.set_cons_zero, List.set_cons_succ, i64_w, i32_w]
     rfl
   refine one_ (i := 10) (N := some 76) #[true, true, true, true, true, true, true, true, true, true, true, true, true, false, false, false, false] rfl rfl (one_of HT_.out (by kernel_rfl)) (by decide) (fun K hK => ?_)
   refine goes_ Try.func51 (by kernel_rfl) rfl #[.agg #[.bool t127, .slice Ao44 t128.length co44, .slice Ao45 t131.length co45], .agg #[.bool t134, .slice Ao46 t135.length co46, .slice Ao47 t138.length co47]] (by rfl) rfl rfl (by (try simp only [List.map_toArray, List.map_cons, List.map_nil]); first | done | rfl | (simp only [List.length_drop, List.length_take]; rfl)) ?_
   with_reducible refine (codewrightref02_Mul.calls kj18 t127 _ _ t128 _ _ t131 t134 _ _ t135 _ _ t138 t141 t142 t145 _ ?side1 ?side2 ?side3 ?side4 ?side5 ?side6 ?side7 ?side8 A37.out).mono ?_
   (case side1 => exact zC (Kd.R_reads' HO130.out).2.2)
   (case side2 => exact (Kd.R_reads' HO130.out).2.1)
   (case side3 => exact zC (Kd.R_reads' HO133.out).2.2)
   (case side4 => exact (Kd.R_reads' HO133.out).2.1)
   (case side5 => exact zC (Kd.R_reads' HO137.out).2.2)
   (case side6 => exact (Kd.R_reads' HO137.out).2.1)
   (case side7 => exact zC (Kd.R_reads' HO140.out).2.2)
   (case side8 => exact (Kd.R_reads' HO140.out).2.1)
   rintro e w48 ⟨v143, v146, rfl, ho0, ho1, hb⟩
   refine ⟨_, rfl, ?_⟩
   replace HO_118001 := yVt HO_118001 hb ho0 ho1
   replace HO_118002 := yVt HO_118002 hb ho0 ho1
   replace HO_127001 := yVt HO_127001 hb ho0 ho1
   replace HO_127002 := yVt HO_127002 hb ho0 ho1
   replace ho0 := yn ho0 HO_109001
   replace ho0 := yn ho0 HO_109002
   replace ho0 := yn ho0 HO130
   replace ho0 := yn ho0 HO133
   replace ho0 := yn ho0 HO137
   replace ho0 := yn ho0 HO140
   have HO144 := yRl3 ho0 HB GE108 GE117 GE126
   replace ho1 := yn ho1 HO_109001
   replace ho1 := yn ho1 HO_109002
   replace ho1 := yn ho1 HO130
   replace ho1 := yn ho1 HO133
   replace ho1 := yn ho1 HO137
   replace ho1 := yn ho1 HO140
   have HO147 := yRl3 ho1 HB GE108 GE117 GE126
   replace HO_109001 := yRt HO_109001 hb ho0 ho1
   replace HO_109002 := yRt HO_109002 hb ho0 ho1
   replace HO130 := yRt HO130 hb ho0 ho1
   replace HO133 := yRt HO133 hb ho0 ho1
   replace HO137 := yRt HO137 hb ho0 ho1
   replace HO140 := yRt HO140 hb ho0 ho1
   replace BK108 := yK BK108 hb
   replace BK117 := yK BK117 hb
   replace BK126 := yK BK126 hb
   replace HB := yS3 HB GE108 GE117 GE126 hb
   (try clear hb)
   (try clear hb2)
   (try clear hk)
   (try clear hi)
   (try clear ho0)
   (try clear ho1)
   refine hK.out _ _ ⟨(blk_cell BK108.out 0).trans rfl, (blk_cell BK108.out 1).trans rfl, (blk_cell BK108.out 2).trans rfl, (blk_cell BK117.out 0).trans rfl, (blk_cell BK117.out 1).trans rfl, (blk_cell BK117.out 2).trans rfl, (blk_cell BK126.out 0).trans rfl, (blk_cell BK126.out 1).trans rfl, (blk_cell BK126.out 2).trans rfl⟩ (fun hHeld => ?_)
   clear hK K
   refine norm_ (a' := ?_) ?_ ?_
   rotate_left
   · show Act.put _ (some 76) _ = _
     simp only [Act.put, List.setIfInBounds_toArray, List.set_cons_zero, List.set_cons_succ, i64_w, i32_w]
     rfl
   refine one_ (i := 13) (N := some 79) #[true, true, true, true, true, true, true, true, true, true, true, true, true, true, false, false, false] rfl rfl (one_of HT_.out (by kernel_rfl)) (by decide) (fun K hK => ?_)
   refine goes_ Try.func51 (by kernel_rfl) rfl #[.agg #[.bool t109, .slice Ao24 t110.length co24, .slice Ao25 t113.length co25], .agg #[.bool t118, .slice Ao31 t119.length co31, .slice Ao32 t122.length co32]] (by rfl) rfl rfl (by (try simp only [List.map_toArray, List.map_cons, List.map_nil]); first | done | rfl | (simp only [List.length_drop, List.length_take]; rfl)) ?_
   with_reducible refine (codewrightref02_Mul.calls kj18 t109 _ _ t110 _ _ t113 t118 _ _ t119 _ _ t122 t148 t149 t152 _ ?side1 ?side2 ?side3 ?side4 ?side5 ?side6 ?side7 ?side8 A38.out).mono ?_
   (case side1 => exact zC (Kd.V_reads' HO_118001.out).2.2)
   (case side2 => exact (Kd.V_reads' HO_118001.out).2.1)
   (case side3 => exact zC (Kd.V_reads' HO_118002.out).2.2)
   (case side4 => exact (Kd.V_reads' HO_118002.out).2.1)
   (case side5 => exact zC (Kd.V_reads' HO_127001.out).2.2)
   (case side6 => exact (Kd.V_reads' HO_127001.out).2.1)
   (case side7 => exact zC (Kd.V_reads' HO_127002.out).2.2)
   (case side8 => exact (Kd.V_reads' HO_127002.out).2.1)
   rintro e w49 ⟨v150, v153, rfl, ho0, ho1, hb⟩
   refine ⟨_, rfl, ?_⟩
   replace HO_118001 := yVt HO_118001 hb ho0 ho1
   replace HO_118002 := yVt HO_118002 hb ho0 ho1
   replace HO_127001 := yVt HO_127001 hb ho0 ho1
   replace HO_127002 := yVt HO_127002 hb ho0 ho1
   replace ho0 := yn ho0 HO_109001
   replace ho0 := yn ho0 HO_109002
   replace ho0 := yn ho0 HO130
   replace ho0 := yn ho0 HO133
   replace ho0 := yn ho0 HO137
   replace ho0 := yn ho0 HO140
   replace ho0 := yn ho0 HO144
   replace ho0 := yn ho0 HO147
   have HO151 := yRl3 ho0 HB GE108 GE117 GE126
   replace ho1 := yn ho1 HO_109001
   replace ho1 := yn ho1 HO_109002
   replace ho1 := yn ho1 HO130
   replace ho1 := yn ho1 HO133
   replace ho1 := yn ho1 HO137
   replace ho1 := yn ho1 HO140
   replace ho1 := yn ho1 HO144
   replace ho1 := yn ho1 HO147
   have HO154 := yRl3 ho1 HB GE108 GE117 GE126
   replace HO_109001 := yRt HO_109001 hb ho0 ho1
   replace HO_109002 := yRt HO_109002 hb ho0 ho1
   replace HO130 := yRt HO130 hb ho0 ho1
   replace HO133 := yRt HO133 hb ho0 ho1
   replace HO137 := yRt HO137 hb ho0 ho1
   replace HO140 := yRt HO140 hb ho0 ho1
   replace HO144 := yRt HO144 hb ho0 ho1
   replace HO147 := yRt HO147 hb ho0 ho1
   replace BK108 := yK BK108 hb
   replace BK117 := yK BK117 hb
   replace BK126 := yK BK126 hb
   replace HB := yS3 HB GE108 GE117 GE126 hb
   (try clear hb)
   (try clear hb2)
   (try clear hk)
   (try clear hi)
   (try clear ho0)
   (try clear ho1)
   obtain ⟨Ao50, co50, eo50⟩ := Kd.R_slice HO144.out
   (first | subst eo50 | (injection eo50 with f1_ f2_ f3_; have f4_ := f1_.symm; have f5_ := f3_.symm; clear f1_ f2_ f3_; subst f4_; subst f5_))
   obtain ⟨Ao51, co51, eo51⟩ := Kd.R_slice HO147.out
   (first | subst eo51 | (injection eo51 with f1_ f2_ f3_; have f4_ := f1_.symm; have f5_ := f3_.symm; clear f1_ f2_ f3_; subst f4_; subst f5_))
   obtain ⟨Ao52, co52, eo52⟩ := Kd.R_slice HO151.out
   (first | subst eo52 | (injection eo52 with f1_ f2_ f3_; have f4_ := f1_.symm; have f5_ := f3_.symm; clear f1_ f2_ f3_; subst f4_; subst f5_))
   obtain ⟨Ao53, co53, eo53⟩ := Kd.R_slice HO154.out
   (first | subst eo53 | (injection eo53 with f1_ f2_ f3_; have f4_ := f1_.symm; have f5_ := f3_.symm; clear f1_ f2_ f3_; subst f4_; subst f5_))
   refine hK.out _ _ ⟨(blk_cell BK108.out 0).trans rfl, (blk_cell BK108.out 1).trans rfl, (blk_cell BK108.out 2).trans rfl, (blk_cell BK117.out 0).trans rfl, (blk_cell BK117.out 1).trans rfl, (blk_cell BK117.out 2).trans rfl, (blk_cell BK126.out 0).trans rfl, (blk_cell BK126.out 1).trans rfl, (blk_cell BK126.out 2).trans rfl⟩ (fun hHeld => ?_)
   clear hK K
   refine norm_ (a' := ?_) ?_ ?_
   rotate_left
   · show Act.put _ (some 79) _ = _
     simp only [Act.put, List.setIfInBounds_toArray, List.set_cons_zero, List.set_cons_succ, i64_w, i32_w]
     rfl
   refine one_ (i := 14) (N := some 80) #[true, true, true, true, true, true, true, true, true, true, true, true, true, true, true, false, false] rfl rfl (one_of HT_.out (by kernel_rfl)) (by decide) (fun K hK => ?_)
   refine goes_ Try.func51 (by kernel_rfl) rfl #[.agg #[.bool t141, .slice Ao50 t142.length co50, .slice Ao51 t145.length co51], .agg #[.bool t148, .slice Ao52 t149.length co52, .slice Ao53 t152.length co53]] (by rfl) rfl rfl (by (try simp only [List.map_toArray, List.map_cons, List.map_nil]); first | done | rfl | (simp only [List.length_drop, List.length_take]; rfl)) ?_
   with_reducible refine (codewrightref02_Mul.calls kj18 t141 _ _ t142 _ _ t145 t148 _ _ t149 _ _ t152 t155 t156 t159 _ ?side1 ?side2 ?side3 ?side4 ?side5 ?side6 ?side7 ?side8 A39.out).mono ?_
   (case side1 => exact zC (Kd.R_reads' HO144.out).2.2)
   (case side2 => exact (Kd.R_reads' HO144.out).2.1)
   (case side3 => exact zC (Kd.R_reads' HO147.out).2.2)
   (case side4 => exact (Kd.R_reads' HO147.out).2.1)
   (case side5 => exact zC (Kd.R_reads' HO151.out).2.2)
   (case side6 => exact (Kd.R_reads' HO151.out).2.1)
   (case side7 => exact zC (Kd.R_reads' HO154.out).2.2)
   (case side8 => exact (Kd.R_reads' HO154.out).2.1)
   rintro e w54 ⟨v157, v160, rfl, ho0, ho1, hb⟩
   refine ⟨_, rfl, ?_⟩
   replace HO_118001 := yVt HO_118001 hb ho0 ho1
   replace HO_118002 := yVt HO_118002 hb ho0 ho1
   replace HO_127001 := yVt HO_127001 hb ho0 ho1
   replace HO_127002 := yVt HO_127002 hb ho0 ho1
   replace ho0 := yn ho0 HO_109001
   replace ho0 := yn ho0 HO_109002
   replace ho0 := yn ho0 HO130
   replace ho0 := yn ho0 HO133
   replace ho0 := yn ho0 HO137
   replace ho0 := yn ho0 HO140
   replace ho0 := yn ho0 HO144
   replace ho0 := yn ho0 HO147
   replace ho0 := yn ho0 HO151
   replace ho0 := yn ho0 HO154
   have HO158 := yRl3 ho0 HB GE108 GE117 GE126
   replace ho1 := yn ho1 HO_109001
   replace ho1 := yn ho1 HO_109002
   replace ho1 := yn ho1 HO130
   replace ho1 := yn ho1 HO133
   replace ho1 := yn ho1 HO137
   replace ho1 := yn ho1 HO140
   replace ho1 := yn ho1 HO144
   replace ho1 := yn ho1 HO147
   replace ho1 := yn ho1 HO151
   replace ho1 := yn ho1 HO154
   have HO161 := yRl3 ho1 HB GE108 GE117 GE126
   replace HO_109001 := yRt HO_109001 hb ho0 ho1
   replace HO_109002 := yRt HO_109002 hb ho0 ho1
   replace HO130 := yRt HO130 hb ho0 ho1
   replace HO133 := yRt HO133 hb ho0 ho1
   replace HO137 := yRt HO137 hb ho0 ho1
   replace HO140 := yRt HO140 hb ho0 ho1
   replace HO144 := yRt HO144 hb ho0 ho1
   replace HO147 := yRt HO147 hb ho0 ho1
   replace HO151 := yRt HO151 hb ho0 ho1
   replace HO154 := yRt HO154 hb ho0 ho1
   replace BK108 := yK BK108 hb
   replace BK117 := yK BK117 hb
   replace BK126 := yK BK126 hb
   replace HB := yS3 HB GE108 GE117 GE126 hb
   (try clear hb)
   (try clear hb2)
   (try clear hk)
   (try clear hi)
   (try clear ho0)
   (try clear ho1)
   obtain ⟨Ao55, co55, eo55⟩ := Kd.R_slice HO_109001.out
   (first | subst eo55 | (injection eo55 with f1_ f2_ f3_; have f4_ := f1_.symm; have f5_ := f3_.symm; clear f1_ f2_ f3_; subst f4_; subst f5_))
   obtain ⟨Ao56, co56, eo56⟩ := Kd.R_slice HO_109002.out
   (first | subst eo56 | (injection eo56 with f1_ f2_ f3_; have f4_ := f1_.symm; have f5_ := f3_.symm; clear f1_ f2_ f3_; subst f4_; subst f5_))
   obtain ⟨Ao57, co57, eo57⟩ := Kd.R_slice HO158.out
   (first | subst eo57 | (injection eo57 with f1_ f2_ f3_; have f4_ := f1_.symm; have f5_ := f3_.symm; clear f1_ f2_ f3_; subst f4_; subst f5_))
   obtain ⟨Ao58, co58, eo58⟩ := Kd.R_slice HO161.out
   (first | subst eo58 | (injection eo58 with f1_ f2_ f3_; have f4_ := f1_.symm; have f5_ := f3_.symm; clear f1_ f2_ f3_; subst f4_; subst f5_))
   refine hK.out _ _ ⟨(blk_cell BK108.out 0).trans rfl, (blk_cell BK108.out 1).trans rfl, (blk_cell BK108.out 2).trans rfl, (blk_cell BK117.out 0).trans rfl, (blk_cell BK117.out 1).trans rfl, (blk_cell BK117.out 2).trans rfl, (blk_cell BK126.out 0).trans rfl, (blk_cell BK126.out 1).trans rfl, (blk_cell BK126.out 2).trans rfl⟩ (fun hHeld => ?_)
   clear hK K
   refine norm_ (a' := ?_) ?_ ?_
   rotate_left
   · show Act.put _ (some 80) _ = _
     simp only [Act.put, List.setIfInBounds_toArray, List.set_cons_zero, List.set_cons_succ, i64_w, i32_w]
     rfl
   refine one_ (i := 15) (N := some 81) #[true, true, true, true, true, true, true, true, true, true, true, true, true, true, true, true, false] rfl rfl (one_of HT_.out (by kernel_rfl)) (by decide) (fun K hK => ?_)
   refine goes_ Try.func50 (by kernel_rfl) rfl #[.agg #[.bool x109000_2, .slice Ao55 x109001_2.length co55, .slice Ao56 x109002_2.length co56], .agg #[.bool t155, .slice Ao57 t156.length co57, .slice Ao58 t159.length co58]] (by rfl) rfl rfl (by (try simp only [List.map_toArray, List.map_cons, List.map_nil]); first | done | rfl | (simp only [List.length_drop, List.length_take]; rfl)) ?_
   with_reducible refine (codewrightref02_Add.calls kj18 x109000_2 _ _ x109001_2 _ _ x109002_2 t155 _ _ t156 _ _ t159 t162 t163 t166 _ ?side1 ?side2 ?side3 ?side4 ?side5 ?side6 ?side7 ?side8 A40.out).mono ?_
   (case side1 => exact zC (Kd.R_reads' HO_109001.out).2.2)
   (case side2 => exact (Kd.R_reads' HO_109001.out).2.1)
   (case side3 => exact zC (Kd.R_reads' HO_109002.out).2.2)
   (case side4 => exact (Kd.R_reads' HO_109002.out).2.1)
   (case side5 => exact zC (Kd.R_reads' HO158.out).2.2)
   (case side6 => exact (Kd.R_reads' HO158.out).2.1)
   (case side7 => exact zC (Kd.R_reads' HO161.out).2.2)
   (case side8 => exact (Kd.R_reads' HO161.out).2.1)
   rintro e w59 ⟨v164, v167, rfl, ho0, ho1, hb⟩
   refine ⟨_, rfl, ?_⟩
   replace HO_118001 := yVt HO_118001 hb ho0 ho1
   replace HO_118002 := yVt HO_118002 hb ho0 ho1
   replace HO_127001 := yVt HO_127001 hb ho0 ho1
   replace HO_127002 := yVt HO_127002 hb ho0 ho1
   replace ho0 := yn ho0 HO_109001
   replace ho0 := yn ho0 HO_109002
   replace ho0 := yn ho0 HO130
   replace ho0 := yn ho0 HO133
   replace ho0 := yn ho0 HO137
   replace ho0 := yn ho0 HO140
   replace ho0 := yn ho0 HO144
   replace ho0 := yn ho0 HO147
   replace ho0 := yn ho0 HO151
   replace ho0 := yn ho0 HO154
   replace ho0 := yn ho0 HO158
   replace ho0 := yn ho0 HO161
   have HO165 := yRl3 ho0 HB GE108 GE117 GE126
   replace ho1 := yn ho1 HO_109001
   replace ho1 := yn ho1 HO_109002
   replace ho1 := yn ho1 HO130
   replace ho1 := yn ho1 HO133
   replace ho1 := yn ho1 HO137
   replace ho1 := yn ho1 HO140
   replace ho1 := yn ho1 HO144
   replace ho1 := yn ho1 HO147
   replace ho1 := yn ho1 HO151
   replace ho1 := yn ho1 HO154
   replace ho1 := yn ho1 HO158
   replace ho1 := yn ho1 HO161
   have HO168 := yRl3 ho1 HB GE108 GE117 GE126
   replace HO_109001 := yRt HO_109001 hb ho0 ho1
   replace HO_109002 := yRt HO_109002 hb ho0 ho1
   replace HO130 := yRt HO130 hb ho0 ho1
   replace HO133 := yRt HO133 hb ho0 ho1
   replace HO137 := yRt HO137 hb ho0 ho1
   replace HO140 := yRt HO140 hb ho0 ho1
   replace HO144 := yRt HO144 hb ho0 ho1
   replace HO147 := yRt HO147 hb ho0 ho1
   replace HO151 := yRt HO151 hb ho0 ho1
   replace HO154 := yRt HO154 hb ho0 ho1
   replace HO158 := yRt HO158 hb ho0 ho1
   replace HO161 := yRt HO161 hb ho0 ho1
   replace BK108 := yK BK108 hb
   replace BK117 := yK BK117 hb
   replace BK126 := yK BK126 hb
   replace HB := yS3 HB GE108 GE117 GE126 hb
   (try clear hb)
   (try clear hb2)
   (try clear hk)
   (try clear hi)
   (try clear ho0)
   (try clear ho1)
   obtain ⟨Ao61, co61, eo61⟩ := Kd.R_slice HO165.out
   (first | subst eo61 | (injection eo61 with f1_ f2_ f3_; have f4_ := f1_.symm; have f5_ := f3_.symm; clear f1_ f2_ f3_; subst f4_; subst f5_))
   obtain ⟨Ao63, co63, eo63⟩ := Kd.R_slice HO168.out
   (first | subst eo63 | (injection eo63 with f1_ f2_ f3_; have f4_ := f1_.symm; have f5_ := f3_.symm; clear f1_ f2_ f3_; subst f4_; subst f5_))
   refine hK.out _ _ ⟨(blk_cell BK108.out 0).trans rfl, (blk_cell BK108.out 1).trans rfl, (blk_cell BK108.out 2).trans rfl, (blk_cell BK117.out 0).trans rfl, (blk_cell BK117.out 1).trans rfl, (blk_cell BK117.out 2).trans rfl, (blk_cell BK126.out 0).trans rfl, (blk_cell BK126.out 1).trans rfl, (blk_cell BK126.out 2).trans rfl⟩ (fun hHeld => ?_)
   clear hK K
   refine norm_ (a' := ?_) ?_ ?_
   rotate_left
   · show Act.put _ (some 81) _ = _
     simp only [Act.put, List.setIfInBounds_toArray, List.set_cons_zero, List.set_cons_succ, i64_w, i32_w]
     rfl
   refine last_ (i := 16) (N := none) #[true, true, true, true, true, true, true, true, true, true, true, true, true, true, true, true, true] rfl rfl (one_of HT_.out (by kernel_rfl)) (by decide) (fun K hK => ?_)
   have hs60 : w59.cell? ⟨gb108, 0, none⟩ = some (.bool x109000_2) := (blk_cell BK108.out 0).trans rfl
   have hfs60 := blk_frozen BK108.out 0
   have hns60_1 := NB117_108.out
   have hns60_2 := NB126_108.out
   have hms60_1 := NB108_117.out
   have hms60_2 := NB108_126.out
   have hs62 : w59.cell? ⟨gb108, 1, none⟩ = some (.slice Ao55 x109001_2.length co55) := (blk_cell BK108.out 1).trans rfl
   have hfs62 := blk_frozen BK108.out 1
   have hns62_1 := NB117_108.out
   have hns62_2 := NB126_108.out
   have hms62_1 := NB108_117.out
   have hms62_2 := NB108_126.out
   have hs64 : w59.cell? ⟨gb108, 2, none⟩ = some (.slice Ao56 x109002_2.length co56) := (blk_cell BK108.out 2).trans rfl
   have hfs64 := blk_frozen BK108.out 2
   have hns64_1 := NB117_108.out
   have hns64_2 := NB126_108.out
   have hms64_1 := NB108_117.out
   have hms64_2 := NB108_126.out
   refine skip_ (w1 := ?_) (by rfl) rfl ?_ ?_
   rotate_left
   · go_simp
     rfl
   refine hK.out _ _ ?_
   clear hK K
   refine done_ (done_of HT_.out (by kernel_rfl)) ?_
   try go_wp2
   go_roundg kj18
   case measure => have := HJ4.out; have := HK2.out; have := HJ18.out; omega
   case rel => exact ⟨(wrap64 (x10_2 + 1)), (t162), (t163), (t166), (.slice Ao61 t163.length co61), (.slice Ao63 t166.length co63), zF, H', ⟨by have := HJ4.out; have := HK2.out; have := HJ18.out; omega⟩, ⟨by (with_reducible repeat (first | apply Kd.R_alloc | apply Kd.R_drewN | apply Kd.R_drew)); exact yf HO165.out BK108.out (fun _ hk => hk.1.1.1.1.1.1.1.1.1.1.1.1.1)⟩, ⟨by (with_reducible repeat (first | apply Kd.R_alloc | apply Kd.R_drewN | apply Kd.R_drew)); exact yf HO168.out BK108.out (fun _ hk => hk.1.1.1.1.1.1.1.1.1.1.1.1.1)⟩, ⟨by (with_reducible repeat (first | refine blk_drewN ?_ _ | refine blk_drew ?_ | refine blk_alloc ?_ _)); refine blk_put (cs := #[.bool t162, .slice Ao61 t163.length co61, .slice Ao56 x109002_2.length co56]) ?_ 2 _ rfl; (with_reducible repeat (first | refine blk_drewN ?_ _ | refine blk_drew ?_ | refine blk_alloc ?_ _)); refine blk_put (cs := #[.bool t162, .slice Ao55 x109001_2.length co55, .slice Ao56 x109002_2.length co56]) ?_ 1 _ rfl; (with_reducible repeat (first | refine blk_drewN ?_ _ | refine blk_drew ?_ | refine blk_alloc ?_ _)); refine blk_put (cs := #[.bool x109000_2, .slice Ao55 x109001_2.length co55, .slice Ao56 x109002_2.length co56]) ?_ 0 _ rfl; (with_reducible repeat (first | refine blk_drewN ?_ _ | refine blk_drew ?_ | refine blk_alloc ?_ _)); exact BK108.out⟩, ⟨zB3 HB.out GE108.out GE117.out GE126.out⟩⟩
 have c16b0 := decide_eq_false c16
 clear c16
 replace H := zi H
 rcases H with ⟨c65, H⟩ | ⟨c65, H⟩
 · have c65b0 := beq_iff_eq.mpr c65
   have c65b1 := bne_eq_false_iff_eq.mpr c65
   clear c65
   replace H := zb H
   obtain ⟨⟨t170, t171, t174⟩, A66, H⟩ := H
   dsimp only at H
   replace H := zb H
   obtain ⟨⟨t177, t178, t181⟩, A67, H⟩ := H
   dsimp only at H
   replace H := zb H
   obtain ⟨⟨t184, t185, t188⟩, A68, H⟩ := H
   dsimp only at H
   replace H := zb H
   obtain ⟨⟨t191, t192, t195⟩, A69, H⟩ := H
   dsimp only at H
   replace H := zb H
   obtain ⟨⟨t198, t199, t202⟩, A70, H⟩ := H
   dsimp only at H
   replace H := zb H
   obtain ⟨t205, A71, H⟩ := H
   obtain rfl := Option.some.inj H
   try go_wp2
   replace HO_109001 := Aside0.mk (Kd.R_drew HO_109001.out)
   replace HO_109002 := Aside0.mk (Kd.R_drew HO_109002.out)
   replace BK108 := Aside0.mk (blk_drew BK108.out)
   replace HB := Aside0.mk (below_drew1 HB.out)
   refine start_ (n := 21) (S := fun w' => w'.cell? ⟨gb108, 0, none⟩ = some (.bool x109000_2) ∧ w'.cell? ⟨gb108, 1, none⟩ = some (u109001) ∧ w'.cell? ⟨gb108, 2, none⟩ = some (u109002)) (ds := []) #[false, false, false, false, false, false, false, false, false, false, false, false, false, false, false, false, false, false, false, false, false] (by kernel_rfl) rfl rfl ⟨(blk_cell BK108.out 0).trans rfl, (blk_cell BK108.out 1).trans rfl, (blk_cell BK108.out 2).trans rfl⟩ (fun hHeld => ?_); refine with_tabW codewrightlaw24_MacwilliamsOrthogonal.tab14 codewrightlaw24_MacwilliamsOrthogonal.bits14 (fun HT_ HW_ => ?_)
   generalize wr.drew = w72 at HO_109001 HO_109002 BK108 HB hHeld ⊢
   refine zp (i := 1) (N := some 89) HT_ ?_
   refine zp (i := 2) (N := some 90) HT_ ?_
   refine zp (i := 3) (N := some 91) HT_ ?_
   refine zp (i := 4) (N := some 92) HT_ ?_
   refine zp (i := 6) (N := some 94) HT_ ?_
   refine zp (i := 7) (N := some 95) HT_ ?_
   refine zp (i := 8) (N := some 96) HT_ ?_
   refine zp (i := 9) (N := some 97) HT_ ?_
   refine zp (i := 10) (N := some 98) HT_ ?_
   refine zp (i := 12) (N := some 100) HT_ ?_
   refine zp (i := 13) (N := some 101) HT_ ?_
   refine zp (i := 14) (N := some 102) HT_ ?_
   refine zp (i := 15) (N := some 103) HT_ ?_
   refine take_ (i := 0) (N := some 88) (v := ?_) (a' := ?_) #[true, true, true, true, true, false, true, true, true, true, true, false, true, true, true, true, false, false, false, false, false] rfl rfl (take_ofW HT_.out HW_.out (by kernel_rfl)) (fun _ _ _ h => h) (Or.inl ⟨by rfl, ?_⟩) hHeld ?_ ?_
   rotate_left
   · rintro w' ⟨s0, s1, s2⟩
     go_simp
     with_reducible rfl
   rotate_left
   · simp only [Act.put, List.setIfInBounds_toArray, List.set_cons_zero, List.set_cons_succ, i64_w, i32_w]
     rfl
   refine one_ (i := 5) (N := some 93) #[true, true, true, true, true, true, true, true, true, true, true, false, true, true, true, true, false, false, false, false, false] rfl rfl (one_of HT_.out (by kernel_rfl)) (by decide) (fun K hK => ?_)
   refine goes_ Try.func54 (by kernel_rfl) rfl #[.int .i64 (wrap64 (a0)), .int .i64 (wrap64 (a1))] (by rfl) rfl rfl (by (try simp only [List.map_toArray, List.map_cons, List.map_nil]); first | done | rfl | (simp only [List.length_drop, List.length_take]; rfl)) ?_
   with_reducible refine (codewrightlaw24_pow.calls k2 (wrap64 (a0)) (wrap64 (a1)) t170 t171 t174 _ A66.out).mono ?_
   rintro e w73 ⟨v172, v175, rfl, ho0, ho1, hb⟩
   refine ⟨_, rfl, ?_⟩
   replace ho0 := yn ho0 HO_109001
   replace ho0 := yn ho0 HO_109002
   have HO173 := yRl1 ho0 HB GE108
   replace ho1 := yn ho1 HO_109001
   replace ho1 := yn ho1 HO_109002
   have HO176 := yRl1 ho1 HB GE108
   replace HO_109001 := yRt HO_109001 hb ho0 ho1
   replace HO_109002 := yRt HO_109002 hb ho0 ho1
   replace BK108 := yK BK108 hb
   replace HB := yS1 HB GE108 hb
   (try clear hb)
   (try clear hb2)
   (try clear hk)
   (try clear hi)
   (try clear ho0)
   (try clear ho1)
   refine hK.out _ _ ⟨(blk_cell BK108.out 0).trans rfl, (blk_cell BK108.out 1).trans rfl, (blk_cell BK108.out 2).trans rfl⟩ (fun hHeld => ?_)
   clear hK K
   refine norm_ (a' := ?_) ?_ ?_
   rotate_left
   · show Act.put _ (some 93) _ = _
     simp only [Act.put, List.setIfInBounds_toArray, List.set_cons_zero, List.set_cons_succ, i64_w, i32_w]
     rfl
   refine one_ (i := 11) (N := some 99) #[true, true, true, true, true, true, true, true, true, true, true, true, true, true, true, true, false, false, false, false, false] rfl rfl (one_of HT_.out (by kernel_rfl)) (by decide) (fun K hK => ?_)
   refine goes_ Try.func54 (by kernel_rfl) rfl #[.int .i64 (wrap64 ((wrap64 (a0)) - 1)), .int .i64 (wrap64 (a2))] (by rfl) rfl rfl (by (try simp only [List.map_toArray, List.map_cons, List.map_nil]); first | done | rfl | (simp only [List.length_drop, List.length_take]; rfl)) ?_
   with_reducible refine (codewrightlaw24_pow.calls k2 (wrap64 ((wrap64 (a0)) - 1)) (wrap64 (a2)) t177 t178 t181 _ A67.out).mono ?_
   rintro e w74 ⟨v179, v182, rfl, ho0, ho1, hb⟩
   refine ⟨_, rfl, ?_⟩
   replace ho0 := yn ho0 HO_109001
   replace ho0 := yn ho0 HO_109002
   replace ho0 := yn ho0 HO173
   replace ho0 := yn ho0 HO176
   have HO180 := yRl1 ho0 HB GE108
   replace ho1 := yn ho1 HO_109001
   replace ho1 := yn ho1 HO_109002
   replace ho1 := yn ho1 HO173
   replace ho1 := yn ho1 HO176
   have HO183 := yRl1 ho1 HB GE108
   replace HO_109001 := yRt HO_109001 hb ho0 ho1
   replace HO_109002 := yRt HO_109002 hb ho0 ho1
   replace HO173 := yRt HO173 hb ho0 ho1
   replace HO176 := yRt HO176 hb ho0 ho1
   replace BK108 := yK BK108 hb
   replace HB := yS1 HB GE108 hb
   (try clear hb)
   (try clear hb2)
   (try clear hk)
   (try clear hi)
   (try clear ho0)
   (try clear ho1)
   refine hK.out _ _ ⟨(blk_cell BK108.out 0).trans rfl, (blk_cell BK108.out 1).trans rfl, (blk_cell BK108.out 2).trans rfl⟩ (fun hHeld => ?_)
   clear hK K
   refine norm_ (a' := ?_) ?_ ?_
   rotate_left
   · show Act.put _ (some 99) _ = _
     simp only [Act.put, List.setIfInBounds_toArray, List.set_cons_zero, List.set_cons_succ, i64_w, i32_w]
     rfl
   refine one_ (i := 16) (N := some 104) #[true, true, true, true, true, true, true, true, true, true, true, true, true, true, true, true, true, false, false, false, false] rfl rfl (one_of HT_.out (by kernel_rfl)) (by decide) (fun K hK => ?_)
   refine goes_ Try.func53 (by kernel_rfl) rfl #[.int .i64 (wrap64 (a1)), .int .i64 (wrap64 (a2))] (by rfl) rfl rfl (by (try simp only [List.map_toArray, List.map_cons, List.map_nil]); first | done | rfl | (simp only [List.length_drop, List.length_take]; rfl)) ?_
   with_reducible refine (codewrightlaw24_choose.calls k2 (wrap64 (a1)) (wrap64 (a2)) t184 t185 t188 _ A68.out).mono ?_
   rintro e w75 ⟨v186, v189, rfl, ho0, ho1, hb⟩
   refine ⟨_, rfl, ?_⟩
   replace ho0 := yn ho0 HO_109001
   replace ho0 := yn ho0 HO_109002
   replace ho0 := yn ho0 HO173
   replace ho0 := yn ho0 HO176
   replace ho0 := yn ho0 HO180
   replace ho0 := yn ho0 HO183
   have HO187 := yRl1 ho0 HB GE108
   replace ho1 := yn ho1 HO_109001
   replace ho1 := yn ho1 HO_109002
   replace ho1 := yn ho1 HO173
   replace ho1 := yn ho1 HO176
   replace ho1 := yn ho1 HO180
   replace ho1 := yn ho1 HO183
   have HO190 := yRl1 ho1 HB GE108
   replace HO_109001 := yRt HO_109001 hb ho0 ho1
   replace HO_109002 := yRt HO_109002 hb ho0 ho1
   replace HO173 := yRt HO173 hb ho0 ho1
   replace HO176 := yRt HO176 hb ho0 ho1
   replace HO180 := yRt HO180 hb ho0 ho1
   replace HO183 := yRt HO183 hb ho0 ho1
   replace BK108 := yK BK108 hb
   replace HB := yS1 HB GE108 hb
   (try clear hb)
   (try clear hb2)
   (try clear hk)
   (try clear hi)
   (try clear ho0)
   (try clear ho1)
   obtain ⟨Ao76, co76, eo76⟩ := Kd.R_slice HO180.out
   (first | subst eo76 | (injection eo76 with f1_ f2_ f3_; have f4_ := f1_.symm; have f5_ := f3_.symm; clear f1_ f2_ f3_; subst f4_; subst f5_))
   obtain ⟨Ao77, co77, eo77⟩ := Kd.R_slice HO183.out
   (first | subst eo77 | (injection eo77 with f1_ f2_ f3_; have f4_ := f1_.symm; have f5_ := f3_.symm; clear f1_ f2_ f3_; subst f4_; subst f5_))
   obtain ⟨Ao78, co78, eo78⟩ := Kd.R_slice HO187.out
   (first | subst eo78 | (injection eo78 with f1_ f2_ f3_; have f4_ := f1_.symm; have f5_ := f3_.symm; clear f1_ f2_ f3_; subst f4_; subst f5_))
   obtain ⟨Ao79, co79, eo79⟩ := Kd.R_slice HO190.out
   (first | subst eo79 | (injection eo79 with f1_ f2_ f3_; have f4_ := f1_.symm; have f5_ := f3_.symm; clear f1_ f2_ f3_; subst f4_; subst f5_))
   refine hK.out _ _ ⟨(blk_cell BK108.out 0).trans rfl, (blk_cell BK108.out 1).trans rfl, (blk_cell BK108.out 2).trans rfl⟩ (fun hHeld => ?_)
   clear hK K
   refine norm_ (a' := ?_) ?_ ?_
   rotate_left
   · show Act.put _ (some 104) _ = _
     simp only [Act.put, List.setIfInBounds_toArray, List.set_cons_zero, List.set_cons_succ, i64_w, i32_w]
     rfl
   refine one_ (i := 17) (N := some 105) #[true, true, true, true, true, true, true, true, true, true, true, true, true, true, true, true, true, true, false, false, false] rfl rfl (one_of HT_.out (by kernel_rfl)) (by decide) (fun K hK => ?_)
   refine goes_ Try.func51 (by kernel_rfl) rfl #[.agg #[.bool t177, .slice Ao76 t178.length co76, .slice Ao77 t181.length co77], .agg #[.bool t184, .slice Ao78 t185.length co78, .slice Ao79 t188.length co79]] (by rfl) rfl rfl (by (try simp only [List.map_toArray, List.map_cons, List.map_nil]); first | done | rfl | (simp only [List.length_drop, List.length_take]; rfl)) ?_
   with_reducible refine (codewrightref02_Mul.calls k2 t177 _ _ t178 _ _ t181 t184 _ _ t185 _ _ t188 t191 t192 t195 _ ?side1 ?side2 ?side3 ?side4 ?side5 ?side6 ?side7 ?side8 A69.out).mono ?_
   (case side1 => exact zC (Kd.R_reads' HO180.out).2.2)
   (case side2 => exact (Kd.R_reads' HO180.out).2.1)
   (case side3 => exact zC (Kd.R_reads' HO183.out).2.2)
   (case side4 => exact (Kd.R_reads' HO183.out).2.1)
   (case side5 => exact zC (Kd.R_reads' HO187.out).2.2)
   (case side6 => exact (Kd.R_reads' HO187.out).2.1)
   (case side7 => exact zC (Kd.R_reads' HO190.out).2.2)
   (case side8 => exact (Kd.R_reads' HO190.out).2.1)
   rintro e w80 ⟨v193, v196, rfl, ho0, ho1, hb⟩
   refine ⟨_, rfl, ?_⟩
   replace ho0 := yn ho0 HO_109001
   replace ho0 := yn ho0 HO_109002
   replace ho0 := yn ho0 HO173
   replace ho0 := yn ho0 HO176
   replace ho0 := yn ho0 HO180
   replace ho0 := yn ho0 HO183
   replace ho0 := yn ho0 HO187
   replace ho0 := yn ho0 HO190
   have HO194 := yRl1 ho0 HB GE108
   replace ho1 := yn ho1 HO_109001
   replace ho1 := yn ho1 HO_109002
   replace ho1 := yn ho1 HO173
   replace ho1 := yn ho1 HO176
   replace ho1 := yn ho1 HO180
   replace ho1 := yn ho1 HO183
   replace ho1 := yn ho1 HO187
   replace ho1 := yn ho1 HO190
   have HO197 := yRl1 ho1 HB GE108
   replace HO_109001 := yRt HO_109001 hb ho0 ho1
   replace HO_109002 := yRt HO_109002 hb ho0 ho1
   replace HO173 := yRt HO173 hb ho0 ho1
   replace HO176 := yRt HO176 hb ho0 ho1
   replace HO180 := yRt HO180 hb ho0 ho1
   replace HO183 := yRt HO183 hb ho0 ho1
   replace HO187 := yRt HO187 hb ho0 ho1
   replace HO190 := yRt HO190 hb ho0 ho1
   replace BK108 := yK BK108 hb
   replace HB := yS1 HB GE108 hb
   (try clear hb)
   (try clear hb2)
   (try clear hk)
   (try clear hi)
   (try clear ho0)
   (try clear ho1)
   obtain ⟨Ao81, co81, eo81⟩ := Kd.R_slice HO173.out
   (first | subst eo81 | (injection eo81 with f1_ f2_ f3_; have f4_ := f1_.symm; have f5_ := f3_.symm; clear f1_ f2_ f3_; subst f4_; subst f5_))
   obtain ⟨Ao82, co82, eo82⟩ := Kd.R_slice HO176.out
   (first | subst eo82 | (injection eo82 with f1_ f2_ f3_; have f4_ := f1_.symm; have f5_ := f3_.symm; clear f1_ f2_ f3_; subst f4_; subst f5_))
   obtain ⟨Ao83, co83, eo83⟩ := Kd.R_slice HO194.out
   (first | subst eo83 | (injection eo83 with f1_ f2_ f3_; have f4_ := f1_.symm; have f5_ := f3_.symm; clear f1_ f2_ f3_; subst f4_; subst f5_))
   obtain ⟨Ao84, co84, eo84⟩ := Kd.R_slice HO197.out
   (first | subst eo84 | (injection eo84 with f1_ f2_ f3_; have f4_ := f1_.symm; have f5_ := f3_.symm; clear f1_ f2_ f3_; subst f4_; subst f5_))
   refine hK.out _ _ ⟨(blk_cell BK108.out 0).trans rfl, (blk_cell BK108.out 1).trans rfl, (blk_cell BK108.out 2).trans rfl⟩ (fun hHeld => ?_)
   clear hK K
   refine norm_ (a' := ?_) ?_ ?_
   rotate_left
   · show Act.put _ (some 105) _ = _
     simp only [Act.put, List.setIfInBounds_toArray, List.set_cons_zero, List.set_cons_succ, i64_w, i32_w]
     rfl
   refine one_ (i := 18) (N := some 106) #[true, true, true, true, true, true, true, true, true, true, true, true, true, true, true, true, true, true, true, false, false] rfl rfl (one_of HT_.out (by kernel_rfl)) (by decide) (fun K hK => ?_)
   refine goes_ Try.func51 (by kernel_rfl) rfl #[.agg #[.bool t170, .slice Ao81 t171.length co81, .slice Ao82 t174.length co82], .agg #[.bool t191, .slice Ao83 t192.length co83, .slice Ao84 t195.length co84]] (by rfl) rfl rfl (by (try simp only [List.map_toArray, List.map_cons, List.map_nil]); first | done | rfl | (simp only [List.length_drop, List.length_take]; rfl)) ?_
   with_reducible refine (codewrightref02_Mul.calls k2 t170 _ _ t171 _ _ t174 t191 _ _ t192 _ _ t195 t198 t199 t202 _ ?side1 ?side2 ?side3 ?side4 ?side5 ?side6 ?side7 ?side8 A70.out).mono ?_
   (case side1 => exact zC (Kd.R_reads' HO173.out).2.2)
   (case side2 => exact (Kd.R_reads' HO173.out).2.1)
   (case side3 => exact zC (Kd.R_reads' HO176.out).2.2)
   (case side4 => exact (Kd.R_reads' HO176.out).2.1)
   (case side5 => exact zC (Kd.R_reads' HO194.out).2.2)
   (case side6 => exact (Kd.R_reads' HO194.out).2.1)
   (case side7 => exact zC (Kd.R_reads' HO197.out).2.2)
   (case side8 => exact (Kd.R_reads' HO197.out).2.1)
   rintro e w85 ⟨v200, v203, rfl, ho0, ho1, hb⟩
   refine ⟨_, rfl, ?_⟩
   replace ho0 := yn ho0 HO_109001
   replace ho0 := yn ho0 HO_109002
   replace ho0 := yn ho0 HO173
   replace ho0 := yn ho0 HO176
   replace ho0 := yn ho0 HO180
   replace ho0 := yn ho0 HO183
   replace ho0 := yn ho0 HO187
   replace ho0 := yn ho0 HO190
   replace ho0 := yn ho0 HO194
   replace ho0 := yn ho0 HO197
   have HO201 := yRl1 ho0 HB GE108
   replace ho1 := yn ho1 HO_109001
   replace ho1 := yn ho1 HO_109002
   replace ho1 := yn ho1 HO173
   replace ho1 := yn ho1 HO176
   replace ho1 := yn ho1 HO180
   replace ho1 := yn ho1 HO183
   replace ho1 := yn ho1 HO187
   replace ho1 := yn ho1 HO190
   replace ho1 := yn ho1 HO194
   replace ho1 := yn ho1 HO197
   have HO204 := yRl1 ho1 HB GE108
   replace HO_109001 := yRt HO_109001 hb ho0 ho1
   replace HO_109002 := yRt HO_109002 hb ho0 ho1
   replace HO173 := yRt HO173 hb ho0 ho1
   replace HO176 := yRt HO176 hb ho0 ho1
   replace HO180 := yRt HO180 hb ho0 ho1
   replace HO183 := yRt HO183 hb ho0 ho1
   replace HO187 := yRt HO187 hb ho0 ho1
   replace HO190 := yRt HO190 hb ho0 ho1
   replace HO194 := yRt HO194 hb ho0 ho1
   replace HO197 := yRt HO197 hb ho0 ho1
   replace BK108 := yK BK108 hb
   replace HB := yS1 HB GE108 hb
   (try clear hb)
   (try clear hb2)
   (try clear hk)
   (try clear hi)
   (try clear ho0)
   (try clear ho1)
   obtain ⟨Ao86, co86, eo86⟩ := Kd.R_slice HO_109001.out
   (first | subst eo86 | (injection eo86 with f1_ f2_ f3_; have f4_ := f1_.symm; have f5_ := f3_.symm; clear f1_ f2_ f3_; subst f4_; subst f5_))
   obtain ⟨Ao87, co87, eo87⟩ := Kd.R_slice HO_109002.out
   (first | subst eo87 | (injection eo87 with f1_ f2_ f3_; have f4_ := f1_.symm; have f5_ := f3_.symm; clear f1_ f2_ f3_; subst f4_; subst f5_))
   obtain ⟨Ao88, co88, eo88⟩ := Kd.R_slice HO201.out
   (first | subst eo88 | (injection eo88 with f1_ f2_ f3_; have f4_ := f1_.symm; have f5_ := f3_.symm; clear f1_ f2_ f3_; subst f4_; subst f5_))
   obtain ⟨Ao89, co89, eo89⟩ := Kd.R_slice HO204.out
   (first | subst eo89 | (injection eo89 with f1_ f2_ f3_; have f4_ := f1_.symm; have f5_ := f3_.symm; clear f1_ f2_ f3_; subst f4_; subst f5_))
   refine hK.out _ _ ⟨(blk_cell BK108.out 0).trans rfl, (blk_cell BK108.out 1).trans rfl, (blk_cell BK108.out 2).trans rfl⟩ (fun hHeld => ?_)
   clear hK K
   refine norm_ (a' := ?_) ?_ ?_
   rotate_left
   · show Act.put _ (some 106) _ = _
     simp only [Act.put, List.setIfInBounds_toArray, List.set_cons_zero, List.set_cons_succ, i64_w, i32_w]
     rfl
   refine one_ (i := 19) (N := some 107) #[true, true, true, true, true, true, true, true, true, true, true, true, true, true, true, true, true, true, true, true, false] rfl rfl (one_of HT_.out (by kernel_rfl)) (by decide) (fun K hK => ?_)
   refine goes_ Try.func45 (by kernel_rfl) rfl #[.agg #[.bool x109000_2, .slice Ao86 x109001_2.length co86, .slice Ao87 x109002_2.length co87], .agg #[.bool t198, .slice Ao88 t199.length co88, .slice Ao89 t202.length co89]] (by rfl) rfl rfl (by (try simp only [List.map_toArray, List.map_cons, List.map_nil]); first | done | rfl | (simp only [List.length_drop, List.length_take]; rfl)) ?_
   with_reducible refine (codewrightref02_Same.calls k2 x109000_2 _ _ x109001_2 _ _ x109002_2 t198 _ _ t199 _ _ t202 t205 _ ?side1 ?side2 ?side3 ?side4 ?side5 ?side6 ?side7 ?side8 A71.out).mono ?_
   (case side1 => exact zC (Kd.R_reads' HO_109001.out).2.2)
   (case side2 => exact (Kd.R_reads' HO_109001.out).2.1)
   (case side3 => exact zC (Kd.R_reads' HO_109002.out).2.2)
   (case side4 => exact (Kd.R_reads' HO_109002.out).2.1)
   (case side5 => exact zC (Kd.R_reads' HO201.out).2.2)
   (case side6 => exact (Kd.R_reads' HO201.out).2.1)
   (case side7 => exact zC (Kd.R_reads' HO204.out).2.2)
   (case side8 => exact (Kd.R_reads' HO204.out).2.1)
   rintro e w90 ⟨rfl, hb⟩
   refine ⟨_, rfl, ?_⟩
   replace HO_109001 := yRb HO_109001 hb
   replace HO_109002 := yRb HO_109002 hb
   replace HO173 := yRb HO173 hb
   replace HO176 := yRb HO176 hb
   replace HO180 := yRb HO180 hb
   replace HO183 := yRb HO183 hb
   replace HO187 := yRb HO187 hb
   replace HO190 := yRb HO190 hb
   replace HO194 := yRb HO194 hb
   replace HO197 := yRb HO197 hb
   replace HO201 := yRb HO201 hb
   replace HO204 := yRb HO204 hb
   replace BK108 := yK BK108 hb
   replace HB := yS1 HB GE108 hb
   (try clear hb)
   (try clear hb2)
   (try clear hk)
   (try clear hi)
   refine hK.out _ _ ⟨(blk_cell BK108.out 0).trans rfl, (blk_cell BK108.out 1).trans rfl, (blk_cell BK108.out 2).trans rfl⟩ (fun hHeld => ?_)
   clear hK K
   refine norm_ (a' := ?_) ?_ ?_
   rotate_left
   · show Act.put _ (some 107) _ = _
     simp only [Act.put, List.setIfInBounds_toArray, List.set_cons_zero, List.set_cons_succ, i64_w, i32_w]
     rfl
   refine zp (i := 20) (N := some 8) HT_ ?_
   refine done_ (done_of HT_.out (by kernel_rfl)) ?_
   try go_wp2
   go_ret
   exact ⟨zE, zB1 HB.out GE108.out⟩
 have c65b0 := beq_eq_false_iff_ne.mpr c65
 have c65b1 := bne_iff_ne.mpr c65
 replace H := zb H
 obtain ⟨t169, A91, H⟩ := H
 obtain rfl := Option.some.inj H
 have hcz92_0 : wr.cell? ⟨gb108, 0, none⟩ = some (.bool x109000_2) := (blk_cell BK108.out 0).trans rfl
 have hcz92_1 : wr.cell? ⟨gb108, 1, none⟩ = some (u109001) := (blk_cell BK108.out 1).trans rfl
 have hcz92_2 : wr.cell? ⟨gb108, 2, none⟩ = some (u109002) := (blk_cell BK108.out 2).trans rfl
 have hfz92_0 := blk_frozen BK108.out 0
 have hfz92_1 := blk_frozen BK108.out 1
 have hfz92_2 := blk_frozen BK108.out 2
 obtain ⟨Ao93, co93, rfl⟩ := Kd.R_slice HO_109001.out
 obtain ⟨Ao94, co94, rfl⟩ := Kd.R_slice HO_109002.out
 go_wp2_with (first | ((with_reducible refine gate_callee (f := 55) rfl ?_); refine zG (some 86) Try.func55 #[.agg #[.bool x109000_2, .slice Ao93 x109001_2.length co93, .slice Ao94 x109002_2.length co94]] ?_; (with_reducible refine (codewrightref02_Sign.calls k2 x109000_2 _ _ x109001_2 _ _ x109002_2 t169 _ ?side1 ?side2 ?side3 ?side4 A91.out).mono ?_); (case side1 => exact zC (Kd.R_reads' HO_109001.out).2.2); (case side2 => exact (Kd.R_reads' HO_109001.out).2.1); (case side3 => exact zC (Kd.R_reads' HO_109002.out).2.2); (case side4 => exact (Kd.R_reads' HO_109002.out).2.1); rintro e w95 ⟨rfl, hb⟩; refine ⟨_, rfl, ?_⟩; replace HO_109001 := yRb HO_109001 hb; replace HO_109002 := yRb HO_109002 hb; replace BK108 := yK BK108 hb; replace HB := yS1 HB GE108 hb; (try clear hb); (try clear hb2); (try clear hk); (try clear hi)))
 go_ret
 exact ⟨zE, zB1 HB.out GE108.out⟩
def codewrightlaw24_MacwilliamsOrthogonal.Pure : Prop := ∀ (a0 : Int) (a1 : Int) (a2 : Int) (a3 : Int), (Lit.int .u8 a0).wf = true → (Lit.int .u8 a1).wf = true → (Lit.int .u8 a2).wf = true → (Lit.int .u8 a3).wf = true → ∃ k, codewrightlaw24_MacwilliamsOrthogonal.f k a0 a1 a2 a3 = some true
theorem codewrightlaw24_MacwilliamsOrthogonal.walk (P : codewrightlaw24_MacwilliamsOrthogonal.Pure) (a0 : Int) (a1 : Int) (a2 : Int) (a3 : Int) (w : World) (w0 : (Lit.int .u8 a0).wf = true) (w1 : (Lit.int .u8 a1).wf = true) (w2 : (Lit.int .u8 a2).wf = true) (w3 : (Lit.int .u8 a3).wf = true) :
    Calls Try.prog 11 #[.int .u8 a0, .int .u8 a1, .int .u8 a2, .int .u8 a3] w fun e w' => e = .returned (.bool true) ∧ Below w.heap.size w w' := by
  obtain ⟨k, h⟩ := P a0 a1 a2 a3 w0 w1 w2 w3
  refine (codewrightlaw24_MacwilliamsOrthogonal.calls k a0 a1 a2 a3 true w h).mono ?_
  rintro e w' ⟨rfl, hd⟩
  exact ⟨rfl, hd⟩
end Go.Proofs.Ytifkbghnmhineaa.PAll
section
set_option linter.unusedVariables false
set_option linter.unusedSimpArgs false
namespace Mw
open Go Go.RowKit Go.Proofs.YtifkbghnmhineaaW.PrintWords
def Ev {α : Type} (g : Nat → Option α) (r : α) : Prop := ∃ K, ∀ k, K ≤ k → g k = some r
theorem Ev.some {α : Type} (r : α) : Ev (fun _ => some r) r := ⟨0, fun _ _ => rfl⟩
theorem Ev.succ {α : Type} {g : Nat → Option α} {r : α} (h : Ev (fun k => g (k + 1)) r) : Ev g r := by
  obtain ⟨K, h⟩ := h
  refine ⟨K + 1, fun k hk => ?_⟩
  obtain ⟨m, rfl⟩ : ∃ m, k = m + 1 := ⟨k - 1, by omega⟩
  exact h m (by omega)
theorem Ev.bind {α β : Type} {g : Nat → Option α} {f : Nat → α → Option β} {a : α} {r : β} (hg : Ev g a) (hf : Ev (fun k => f k a) r) : Ev (fun k => (g k).bind (f k)) r := by
  obtain ⟨K, hg⟩ := hg
  obtain ⟨L, hf⟩ := hf
  refine ⟨K + L, fun k hk => ?_⟩
  show (g k).bind (f k) = _
  rw [hg k (by omega)]
  exact hf k (by omega)
theorem Ev.cast {α : Type} {g : Nat → Option α} {r s : α} (h : Ev g r) (e : r = s) : Ev g s := e ▸ h
theorem Ev.get {α : Type} {g : Nat → Option α} {r : α} (h : Ev g r) : ∃ k, g k = Option.some r := by
  obtain ⟨K, h⟩ := h
  exact ⟨K, h K (Nat.le_refl K)⟩
theorem w64 {x : Int} (h0 : -9223372036854775808 ≤ x) (h1 : x ≤ 9223372036854775807) : wrap64 x = x := by unfold wrap64; omega
theorem wn {x : Int} {n : Nat} (h : x = (n : Int)) (hn : n < 9223372036854775808) : wrap64 x = (n : Int) := by subst h; exact w64 (by omega) (by omega)
theorem u64w {x : Int} (h0 : 0 ≤ x) (h1 : x < 18446744073709551616) : IntKind.u64.wrap x = x := by
  simp [IntKind.wrap, IntKind.bits, IntKind.signed]; omega
theorem u64m (x : Int) : IntKind.u64.wrap x = x % 18446744073709551616 := by
  simp [IntKind.wrap, IntKind.bits, IntKind.signed]
def bp : Nat → Nat
  | 0 => 1
  | n + 1 => 4294967296 * bp n
theorem bp_pos : ∀ n, 0 < bp n
  | 0 => by decide
  | n + 1 => by have := bp_pos n; simp only [bp]; omega
theorem bp_mono : ∀ {m n : Nat}, m ≤ n → bp m ≤ bp n := by
  intro m n h
  induction n with
  | zero => have : m = 0 := by omega
            subst this; exact Nat.le_refl _
  | succ n ih =>
    by_cases e : m = n + 1
    · subst e; exact Nat.le_refl _
    · have := ih (by omega); simp only [bp]; omega
theorem bp_add : ∀ (m n : Nat), bp (m + n) = bp m * bp n
  | m, 0 => by simp [bp]
  | m, n + 1 => by rw [← Nat.add_assoc, bp, bp, bp_add m n, Nat.mul_left_comm]
def lv : List Int → Int
  | [] => 0
  | a :: l => a + 4294967296 * lv l
def Lm (l : List Int) : Prop := ∀ x ∈ l, 0 ≤ x ∧ x < 4294967296
def dg (n : Nat) : List Int := if n = 0 then [] else ((n % 4294967296 : Nat) : Int) :: dg (n / 4294967296)
termination_by n
decreasing_by omega
theorem dg_zero : dg 0 = [] := by rw [dg]; rfl
theorem dg_pos {n : Nat} (h : n ≠ 0) : dg n = ((n % 4294967296 : Nat) : Int) :: dg (n / 4294967296) := by rw [dg, if_neg h]
theorem lv_dg : ∀ n : Nat, lv (dg n) = n := by
  intro n
  induction n using Nat.strongRecOn with
  | _ n ih =>
    by_cases h : n = 0
    · subst h; rw [dg_zero]; rfl
    · rw [dg_pos h, lv, ih _ (by omega)]; omega
theorem lm_nil : Lm [] := by intro x hx; simp at hx
theorem lm_cons {a : Int} {l : List Int} : Lm (a :: l) ↔ (0 ≤ a ∧ a < 4294967296) ∧ Lm l := by
  constructor
  · intro h; exact ⟨h a (by simp), fun x hx => h x (by simp [hx])⟩
  · intro h x hx
    exact (List.mem_cons.mp hx).elim (fun e => e ▸ h.1) (fun e => h.2 x e)
theorem lm_dg : ∀ n : Nat, Lm (dg n) := by
  intro n
  induction n using Nat.strongRecOn with
  | _ n ih =>
    by_cases h : n = 0
    · subst h; rw [dg_zero]; exact lm_nil
    · rw [dg_pos h, lm_cons]; exact ⟨by omega, ih _ (by omega)⟩
theorem lv_nonneg : ∀ {l : List Int}, Lm l → 0 ≤ lv l
  | [], _ => Int.le_refl 0
  | a :: l, h => by have := lv_nonneg (lm_cons.mp h).2; have := (lm_cons.mp h).1; simp only [lv]; omega
theorem lv_lt : ∀ {l : List Int}, Lm l → lv l < bp l.length
  | [], _ => by simp [lv, bp]
  | a :: l, h => by
    have h1 := lv_lt (lm_cons.mp h).2
    have h2 := (lm_cons.mp h).1
    simp only [lv, List.length_cons, bp]
    omega
theorem lv_append : ∀ (l m : List Int), lv (l ++ m) = lv l + (bp l.length : Int) * lv m
  | [], m => by simp [lv, bp]
  | a :: l, m => by
    simp only [List.cons_append, lv, List.length_cons, bp, Int.natCast_mul]
    rw [lv_append l m, Int.mul_add, Int.mul_assoc]
    omega
theorem lv_rep : ∀ n : Nat, lv (List.replicate n 0) = 0
  | 0 => rfl
  | n + 1 => by rw [List.replicate_succ, lv, lv_rep n]; rfl
theorem lm_rep (n : Nat) : Lm (List.replicate n 0) := by
  intro x hx; rw [(List.mem_replicate.mp hx).2]; omega
theorem dg_lv : ∀ {l : List Int}, Lm l → (∀ h : l ≠ [], l.getLast h ≠ 0) → dg (lv l).toNat = l
  | [], _, _ => by simp only [lv]; exact dg_zero
  | a :: l, h, hl => by
    have h1 := lm_cons.mp h
    have h0 := lv_nonneg h1.2
    have ih : l ≠ [] → dg (lv l).toNat = l := fun hne => dg_lv h1.2 (fun hh => by
      have := hl (by simp)
      rwa [List.getLast_cons hh] at this)
    by_cases hne : l = []
    · subst hne
      have ha := hl (by simp)
      simp only [List.getLast_singleton] at ha
      simp only [lv]
      rw [dg_pos (by omega), show (a + 4294967296 * 0).toNat / 4294967296 = 0 by omega, dg_zero]
      congr 1
      omega
    · have ih := ih hne
      have hpos : lv l ≠ 0 := by
        intro e
        rw [e] at ih
        rw [show (0 : Int).toNat = 0 from rfl, dg_zero] at ih
        exact hne ih.symm
      simp only [lv]
      rw [dg_pos (by omega), show (a + 4294967296 * lv l).toNat / 4294967296 = (lv l).toNat by omega, ih]
      congr 1
      omega
theorem dg_last : ∀ (n : Nat) (h : dg n ≠ []), (dg n).getLast h ≠ 0 := by
  intro n
  induction n using Nat.strongRecOn with
  | _ n ih =>
    intro h
    by_cases h0 : n = 0
    · subst h0; exact absurd dg_zero h
    · have e := dg_pos h0
      by_cases hd : n / 4294967296 = 0
      · rw [hd, dg_zero] at e
        simp only [e, List.getLast_singleton]
        omega
      · have hne : dg (n / 4294967296) ≠ [] := by rw [dg_pos hd]; simp
        have := ih (n / 4294967296) (by omega) hne
        simp only [e]
        rw [List.getLast_cons hne]
        exact this
theorem dg_inj {m n : Nat} (h : dg m = dg n) : m = n := by
  have := lv_dg m
  rw [h, lv_dg] at this
  omega
theorem dg_len_le {n m : Nat} (h : n < bp m) : (dg n).length ≤ m := by
  induction m generalizing n with
  | zero => have : n = 0 := by simp only [bp] at h; omega
            subst this; rw [dg_zero]; simp
  | succ m ih =>
    by_cases h0 : n = 0
    · subst h0; rw [dg_zero]; simp
    · rw [dg_pos h0, List.length_cons]
      have := ih (n := n / 4294967296) (by simp only [bp] at h; omega)
      omega
theorem dg_lt_len (n : Nat) : n < bp (dg n).length := by
  have h := lv_lt (lm_dg n)
  rw [lv_dg] at h
  omega
theorem dg_len_zero {n : Nat} : (dg n).length = 0 ↔ n = 0 := by
  constructor
  · intro h
    by_cases h0 : n = 0
    · exact h0
    · rw [dg_pos h0] at h; simp at h
  · intro h; subst h; rw [dg_zero]; rfl
theorem dg_len_mono {m n : Nat} (h : m ≤ n) : (dg m).length ≤ (dg n).length := dg_len_le (Nat.lt_of_le_of_lt h (dg_lt_len n))
theorem dg_small {n : Nat} (h0 : n ≠ 0) (h : n < 4294967296) : dg n = [(n : Int)] := by
  rw [dg_pos h0, show n / 4294967296 = 0 by omega, dg_zero, show n % 4294967296 = n by omega]
theorem dg_one : dg 1 = [1] := dg_small (by decide) (by decide)
theorem lv_le_of_len {l : List Int} (h : Lm l) {m : Nat} (hm : l.length ≤ m) : (lv l).toNat < bp m := by
  have h1 := lv_lt h
  have h2 := bp_mono hm
  have h3 := lv_nonneg h
  omega
theorem rd_lt {l : List Int} {i : Nat} (h : i < l.length) : rd l (i : Int) = l[i] := by
  unfold rd
  simp [List.getD_eq_getElem?_getD, h]
theorem rd_ge {l : List Int} {i : Nat} (h : l.length ≤ i) : rd l (i : Int) = 0 := by
  unfold rd
  simp [List.getD_eq_getElem?_getD, h]
theorem rd_lm {l : List Int} (hl : Lm l) (i : Int) : 0 ≤ rd l i ∧ rd l i < 4294967296 := by
  unfold rd
  rw [List.getD_eq_getElem?_getD]
  by_cases h : i.toNat < l.length
  · rw [List.getElem?_eq_getElem h]
    exact hl _ (List.getElem_mem h)
  · rw [List.getElem?_eq_none (by omega)]; simp
theorem take_succ_rd {l : List Int} {i : Nat} (h : i < l.length) : l.take (i + 1) = l.take i ++ [rd l (i : Int)] := by
  rw [List.take_succ_eq_append_getElem h, rd_lt h]
theorem lv_take_succ {l : List Int} {i : Nat} (h : i < l.length) : lv (l.take (i + 1)) = lv (l.take i) + (bp i : Int) * rd l (i : Int) := by
  rw [take_succ_rd h, lv_append, List.length_take, Nat.min_eq_left (by omega)]
  simp [lv]
theorem lv_set : ∀ {l : List Int} {i : Nat} (v : Int), i < l.length → lv (l.set i v) = lv l + (bp i : Int) * (v - rd l (i : Int))
  | [], i, v, h => by simp at h
  | a :: l, 0, v, _ => by
    rw [show ((0 : Nat) : Int) = ((0 : Nat) : Int) from rfl, rd_lt (by simp)]
    simp only [List.set_cons_zero, lv, List.getElem_cons_zero, bp]; omega
  | a :: l, i + 1, v, h => by
    have h' : i < l.length := by simpa using h
    have ih := lv_set v h'
    rw [rd_lt h'] at ih
    rw [rd_lt h]
    simp only [List.set_cons_succ, lv, List.getElem_cons_succ, bp, Int.natCast_mul]
    rw [ih, Int.mul_add, Int.mul_assoc]
    omega
theorem lm_set {l : List Int} {i : Nat} {v : Int} (h : Lm l) (h0 : 0 ≤ v) (h1 : v < 4294967296) : Lm (l.set i v) := by
  intro x hx
  rcases List.mem_or_eq_of_mem_set hx with e | e
  · exact h x e
  · subst e; exact ⟨h0, h1⟩
theorem rd_set_ne {l : List Int} {i j : Nat} (v : Int) (h : i ≠ j) : rd (l.set i v) (j : Int) = rd l (j : Int) := by
  unfold rd
  simp [List.getD_eq_getElem?_getD, h]
theorem lm_take {l : List Int} (h : Lm l) (n : Nat) : Lm (l.take n) := fun x hx => h x (List.mem_of_mem_take hx)
theorem lm_append {l m : List Int} (h1 : Lm l) (h2 : Lm m) : Lm (l ++ m) := by
  intro x hx
  rcases List.mem_append.mp hx with e | e
  · exact h1 x e
  · exact h2 x e
theorem dg_take {l : List Int} (h : Lm l) {n : Nat} (hn : n ≤ l.length) (hz : ∀ i : Nat, n ≤ i → i < l.length → rd l (i : Int) = 0) (hl : n = 0 ∨ rd l ((n - 1 : Nat) : Int) ≠ 0) :
    l.take n = dg (lv l).toNat := by
  have hv : lv l = lv (l.take n) := by
    have : ∀ m : Nat, n + m ≤ l.length → lv (l.take (n + m)) = lv (l.take n) := by
      intro m
      induction m with
      | zero => intro _; rfl
      | succ m ih =>
        intro hm
        rw [← Nat.add_assoc, lv_take_succ (by omega), hz (n + m) (by omega) (by omega), ih (by omega)]; simp
    have := this (l.length - n) (by omega)
    rw [show n + (l.length - n) = l.length by omega, List.take_of_length_le (Nat.le_refl _)] at this
    exact this
  rw [hv]
  symm
  refine dg_lv (lm_take h n) (fun hne => ?_)
  rcases hl with e | e
  · subst e; simp at hne
  · rw [List.getLast_eq_getElem]
    simp only [List.length_take, Nat.min_eq_left hn]
    have hp : n ≠ 0 := by intro e0; subst e0; simp at hne
    rw [List.getElem_take]
    rw [rd_lt (by omega)] at e
    exact e
theorem lv_nil : lv [] = 0 := rfl
theorem lv_cons (a : Int) (l : List Int) : lv (a :: l) = a + 4294967296 * lv l := rfl
theorem bp_zero : bp 0 = 1 := rfl
theorem bp_succ (n : Nat) : bp (n + 1) = 4294967296 * bp n := rfl
attribute [irreducible] lv bp
end Mw
end
section
set_option linter.unusedVariables false
set_option linter.unusedSimpArgs false
namespace Mw
open Go Go.RowKit Go.Proofs.YtifkbghnmhineaaW.PrintWords Go.Proofs.YtifkbghnmhineaaW.PrintLast Go.Proofs.YtifkbghnmhineaaW.PrintMore Go.Proofs.Ytifkbghnmhineaa.PAll
theorem short_loop {l : List Int} (hl : Lm l) (hlen : l.length < 1099511627776) : ∀ n : Nat, n ≤ l.length → (∀ i : Nat, n ≤ i → i < l.length → rd l (i : Int) = 0) →
    Ev (fun k => nat_short.l0 k l (n : Int)) (dg (lv l).toNat) := by
  intro n
  induction n with
  | zero =>
    intro hn hz
    refine Ev.succ ?_
    simp only [nat_short.l0, if_neg (show ¬ ((0 : Nat) : Int) > 0 by omega), if_pos (show (0 : Int) ≤ ((0 : Nat) : Int) by omega), if_pos (show ((0 : Nat) : Int) ≤ (l.length : Int) by omega)]
    refine Ev.cast (Ev.some _) ?_
    rw [show (((0 : Nat) : Int)).toNat = 0 from rfl]
    exact dg_take hl hn hz (.inl rfl)
  | succ n ih =>
    intro hn hz
    refine Ev.succ ?_
    have e : wrap64 (((n + 1 : Nat) : Int) - 1) = (n : Int) := by rw [w64 (by omega) (by omega)]; omega
    by_cases h : rd l (n : Int) = 0
    · simp only [nat_short.l0, e, if_pos (show ((n + 1 : Nat) : Int) > 0 by omega), if_pos (show (0 : Int) ≤ (n : Int) by omega), if_pos (show (n : Int) < (l.length : Int) by omega), if_pos h]
      exact ih (by omega) (fun i h1 h2 => by
        by_cases e2 : i = n
        · subst e2; exact h
        · exact hz i (by omega) h2)
    · simp only [nat_short.l0, e, if_pos (show ((n + 1 : Nat) : Int) > 0 by omega), if_pos (show (0 : Int) ≤ (n : Int) by omega), if_pos (show (n : Int) < (l.length : Int) by omega), if_neg h, if_pos (show (0 : Int) ≤ ((n + 1 : Nat) : Int) by omega), if_pos (show ((n + 1 : Nat) : Int) ≤ (l.length : Int) by omega)]
      refine Ev.cast (Ev.some _) ?_
      rw [show (((n + 1 : Nat) : Int)).toNat = n + 1 by omega]
      exact dg_take hl hn hz (.inr h)
theorem short_ev {l : List Int} (hl : Lm l) (hlen : l.length < 1099511627776) : Ev (fun k => nat_short.f k l) (dg (lv l).toNat) := by
  simp only [nat_short.f]
  exact short_loop hl hlen l.length (Nat.le_refl _) (fun i h1 h2 => by omega)
theorem dg_len_of {l : List Int} (hl : Lm l) : (dg (lv l).toNat).length ≤ l.length := dg_len_le (lv_le_of_len hl (Nat.le_refl _))
theorem trim_ev {l : List Int} (hl : Lm l) (hlen : l.length < 1099511627776) : Ev (fun k => nat_Trim.f k l) (dg (lv l).toNat) := by
  simp only [nat_Trim.f]
  refine Ev.bind (short_ev hl hlen) ?_
  have := dg_len_of hl
  simp only [List.length_nil, List.nil_append, if_pos (show 0 + (dg (lv l).toNat).length < 35184372088832 by omega)]
  exact Ev.some _
theorem of_ev {n : Nat} (hn : n < 18446744073709551616) : Ev (fun k => nat_Of.f k (n : Int)) (dg n) := by
  simp only [nat_Of.f]
  have hl : Lm [(n : Int) % 4294967296, ((n : Int) / 4294967296) % 4294967296] := by
    rw [lm_cons, lm_cons]
    exact ⟨by omega, by omega, lm_nil⟩
  refine Ev.bind (trim_ev hl (by simp)) ?_
  refine Ev.cast (Ev.some _) ?_
  congr 1
  simp only [lv_cons, lv_nil]
  omega
theorem plus_loop {a b : List Int} (ha : Lm a) (hb : Lm b) (hab : b.length ≤ a.length) (hlen : a.length < 549755813888) : ∀ (d : Nat) (i : Nat) (o : List Int) (c : Int), i + d = a.length → o.length = a.length + 1 → Lm o →
    0 ≤ c → c ≤ 1 → (∀ j : Nat, i ≤ j → rd o (j : Int) = 0) → Aside0 (lv o + (bp i : Int) * c = lv (a.take i) + lv (b.take i)) →
    Ev (fun k => nat_plus.l0 k a b o c (a.length : Int) (i : Int)) (dg (lv a + lv b).toNat) := by
  intro d
  induction d with
  | zero =>
    intro i o c hi ho hol hc0 hc1 hz hv
    have hi : i = a.length := by omega
    subst hi
    refine Ev.succ ?_
    simp only [nat_plus.l0, if_neg (show ¬ ((a.length : Nat) : Int) < (a.length : Int) by omega), if_pos (show (0 : Int) ≤ (a.length : Int) by omega), if_pos (show (a.length : Int) < (o.length : Int) by omega)]
    have hs : Lm (o.set ((a.length : Int) : Int).toNat (c % 4294967296)) := lm_set hol (by omega) (by omega)
    refine Ev.bind (short_ev hs (by rw [List.length_set]; omega)) ?_
    refine Ev.cast (Ev.some _) ?_
    congr 2
    rw [Int.toNat_natCast, lv_set _ (by omega), hz _ (Nat.le_refl _), show c % 4294967296 = c by omega, Int.sub_zero, hv.out, List.take_of_length_le (Nat.le_refl _), List.take_of_length_le hab]
  | succ d ih =>
    intro i o c hi ho hol hc0 hc1 hz hv
    have hia : i < a.length := by omega
    refine Ev.succ ?_
    have ra := rd_lm ha (i : Int)
    have rb := rd_lm hb (i : Int)
    have e1 : wrap64 ((i : Int) + 1) = ((i + 1 : Nat) : Int) := by rw [w64 (by omega) (by omega)]; omega
    have step : ∀ s : Int, 0 ≤ s → s ≤ 8589934591 → s = rd a (i : Int) + c + rd b (i : Int) →
        Ev (fun k => nat_plus.l0 k a b (o.set ((i : Int)).toNat (s % 4294967296)) (s / 4294967296) (a.length : Int) ((i + 1 : Nat) : Int)) (dg (lv a + lv b).toNat) := by
      intro s hs0 hs1 hs
      refine ih (i + 1) _ _ (by omega) (by rw [List.length_set]; exact ho) (lm_set hol (by omega) (by omega)) (by omega) (by omega) (fun j hj => ?_) ?_
      · rw [Int.toNat_natCast, rd_set_ne _ (by omega)]; exact hz j (by omega)
      · refine ⟨?_⟩
        rw [Int.toNat_natCast, lv_set _ (by omega), hz i (Nat.le_refl _), lv_take_succ hia]
        have hbt : lv (b.take (i + 1)) = lv (b.take i) + (bp i : Int) * rd b (i : Int) := by
          by_cases hib : i < b.length
          · exact lv_take_succ hib
          · rw [rd_ge (by omega), List.take_of_length_le (by omega), List.take_of_length_le (by omega)]; simp
        rw [hbt]
        have hdiv : s % 4294967296 + 4294967296 * (s / 4294967296) = rd a (i : Int) + c + rd b (i : Int) := by omega
        have hm := congrArg (fun z => (bp i : Int) * z) hdiv
        simp only [Int.mul_add] at hm
        rw [Int.mul_left_comm] at hm
        rw [Int.sub_zero, bp_succ, Int.natCast_mul, Int.mul_assoc]
        have hv := hv.out
        clear ih hz hdiv hs hs0 hs1 ra rb e1 hc0 hc1
        omega
    by_cases hib : i < b.length
    · have e2 : IntKind.u64.wrap (IntKind.u64.wrap (IntKind.u64.wrap (rd a (i : Int)) + c) + IntKind.u64.wrap (rd b (i : Int))) = rd a (i : Int) + c + rd b (i : Int) := by
        rw [u64w ra.1 (by omega), u64w rb.1 (by omega), u64w (x := rd a (i : Int) + c) (by omega) (by omega), u64w (x := rd a (i : Int) + c + rd b (i : Int)) (by omega) (by omega)]
      simp only [nat_plus.l0, e1, e2, if_pos (show (i : Int) < (a.length : Int) by omega), if_pos (show (0 : Int) ≤ (i : Int) by omega), if_pos (show (i : Int) < (b.length : Int) by omega), if_pos (show (i : Int) < (o.length : Int) by omega)]
      exact step (rd a (i : Int) + c + rd b (i : Int)) (by omega) (by omega) rfl
    · have e2 : IntKind.u64.wrap (IntKind.u64.wrap (rd a (i : Int)) + c) = rd a (i : Int) + c := by
        rw [u64w ra.1 (by omega), u64w (x := rd a (i : Int) + c) (by omega) (by omega)]
      simp only [nat_plus.l0, e1, e2, if_pos (show (i : Int) < (a.length : Int) by omega), if_pos (show (0 : Int) ≤ (i : Int) by omega), if_neg (show ¬ (i : Int) < (b.length : Int) by omega), if_pos (show (i : Int) < (o.length : Int) by omega)]
      exact step (rd a (i : Int) + c) (by omega) (by omega) (by rw [rd_ge (l := b) (by omega)]; omega)
theorem plus_long {a b : List Int} (ha : Lm a) (hb : Lm b) (hab : b.length ≤ a.length) (hlen : a.length < 549755813888) : Ev (fun k => nat_plus.j0 k a b) (dg (lv a + lv b).toNat) := by
  refine Ev.succ ?_
  have e1 : wrap64 ((a.length : Int) + 1) = ((a.length + 1 : Nat) : Int) := by rw [w64 (by omega) (by omega)]; omega
  simp only [nat_plus.j0, e1, Int.toNat_natCast, if_pos (show (0 : Int) ≤ ((a.length + 1 : Nat) : Int) by omega), if_pos (show a.length + 1 ≤ 70368744177664 by omega)]
  exact plus_loop ha hb hab hlen a.length 0 _ 0 (by omega) (by simp) (lm_rep _) (by omega) (by omega) (fun j _ => by
    by_cases h : j < a.length + 1
    · rw [rd_lt (by simpa using h)]; simp
    · exact rd_ge (by simp; omega)) ⟨by rw [lv_rep]; simp [lv_nil]⟩
theorem plus_ev {a b : List Int} (ha : Lm a) (hb : Lm b) (h1 : a.length < 549755813888) (h2 : b.length < 549755813888) : Ev (fun k => nat_plus.f k a b) (dg (lv a + lv b).toNat) := by
  simp only [nat_plus.f]
  by_cases h : (a.length : Int) < (b.length : Int)
  · simp only [if_pos h]
    rw [Int.add_comm]
    exact plus_long hb ha (by omega) h2
  · simp only [if_neg h]
    exact plus_long ha hb (by omega) h1
def lsum : List (List Int) → Int
  | [] => 0
  | a :: l => lv a + lsum l
def Lms (l : List (List Int)) : Prop := ∀ x ∈ l, Lm x ∧ x.length < 1073741824
theorem rd3_lt {l : List (List Int)} {i : Nat} (h : i < l.length) : rd_L3 l (i : Int) = l[i] := by
  unfold rd_L3
  simp [List.getD_eq_getElem?_getD, h]
theorem lsum_take {l : List (List Int)} {i : Nat} (h : i < l.length) : lsum (l.take (i + 1)) = lsum (l.take i) + lv l[i] := by
  have app : ∀ (a b : List (List Int)), lsum (a ++ b) = lsum a + lsum b := by
    intro a
    induction a with
    | nil => intro b; simp [lsum]
    | cons x a ih => intro b; simp only [List.cons_append, lsum]; rw [ih]; omega
  rw [List.take_succ_eq_append_getElem h, app]
  simp [lsum]
theorem lv_dg_toNat {x : Int} (h : 0 ≤ x) : lv (dg x.toNat) = x := by rw [lv_dg]; omega
theorem add_loop {l : List (List Int)} (hl : Lms l) (hlen : l.length < 1073741824) : ∀ (d i : Nat) (s : List Int), i + d = l.length → Lm s → s.length ≤ 1073741824 + i → lv s = lsum (l.take i) →
    Ev (fun k => nat_Add.l0 k s l (l.length : Int) (i : Int)) (dg (lsum l).toNat) := by
  intro d
  induction d with
  | zero =>
    intro i s hi hs hsl hv
    have hi : i = l.length := by omega
    subst hi
    refine Ev.succ ?_
    simp only [nat_Add.l0, if_neg (show ¬ ((l.length : Nat) : Int) < (l.length : Int) by omega)]
    refine Ev.bind (trim_ev hs (by omega)) ?_
    refine Ev.cast (Ev.some _) ?_
    rw [hv, List.take_of_length_le (Nat.le_refl _)]
  | succ d ih =>
    intro i s hi hs hsl hv
    have hil : i < l.length := by omega
    have hx := hl l[i] (List.getElem_mem hil)
    refine Ev.succ ?_
    have e1 : wrap64 ((i : Int) + 1) = ((i + 1 : Nat) : Int) := by rw [w64 (by omega) (by omega)]; omega
    simp only [nat_Add.l0, e1, rd3_lt hil, if_pos (show (i : Int) < (l.length : Int) by omega), if_pos (show (0 : Int) ≤ (i : Int) by omega)]
    refine Ev.bind (short_ev hx.1 (by omega)) ?_
    have h2 := dg_len_of hx.1
    refine Ev.bind (plus_ev hs (lm_dg _) (by omega) (by omega)) ?_
    have h3 : 0 ≤ lv s := lv_nonneg hs
    have h4 : 0 ≤ lv l[i] := lv_nonneg hx.1
    refine ih (i + 1) _ (by omega) (lm_dg _) ?_ ?_
    · rw [lv_dg_toNat h4]
      have h5 := lv_le_of_len hs hsl
      have h6 := lv_le_of_len hx.1 (m := 1073741824 + i) (by omega)
      refine dg_len_le ?_
      rw [show 1073741824 + (i + 1) = (1073741824 + i) + 1 by omega, bp_succ]
      generalize bp (1073741824 + i) = p at *
      omega
    · rw [lv_dg_toNat h4, lv_dg_toNat (by omega), hv, lsum_take hil]
theorem add_ev {l : List (List Int)} (hl : Lms l) (hlen : l.length < 1073741824) : Ev (fun k => nat_Add.f k l) (dg (lsum l).toNat) := by
  simp only [nat_Add.f]
  exact add_loop hl hlen l.length 0 [] (by omega) lm_nil (by simp) (by simp [lv_nil, lsum])
theorem add2_ev {a b : Nat} (ha : (dg a).length < 1073741824) (hb : (dg b).length < 1073741824) : Ev (fun k => nat_Add.f k [dg a, dg b]) (dg (a + b)) := by
  refine Ev.cast (add_ev (l := [dg a, dg b]) (fun x hx => ?_) (by simp)) ?_
  · rcases List.mem_cons.mp hx with e | e
    · exact e ▸ ⟨lm_dg a, ha⟩
    · rw [List.mem_singleton.mp e]; exact ⟨lm_dg b, hb⟩
  · congr 1
    simp only [lsum, lv_dg]
    omega
end Mw
end
section
namespace Mw
def sm : Nat → (Nat → Int) → Int
  | 0, _ => 0
  | n + 1, f => sm n f + f n
theorem sm_congr {n : Nat} {f g : Nat → Int} (h : ∀ i, i < n → f i = g i) : sm n f = sm n g := by
  induction n with
  | zero => rfl
  | succ n ih => simp only [sm]; rw [ih (fun i hi => h i (by omega)), h n (by omega)]
theorem sm_zero {n : Nat} {f : Nat → Int} (h : ∀ i, i < n → f i = 0) : sm n f = 0 := by
  induction n with
  | zero => rfl
  | succ n ih => simp only [sm]; rw [ih (fun i hi => h i (by omega)), h n (by omega)]; rfl
theorem sm_add (n : Nat) (f g : Nat → Int) : sm n (fun i => f i + g i) = sm n f + sm n g := by
  induction n with
  | zero => rfl
  | succ n ih => simp only [sm]; rw [ih]; omega
theorem sm_sub (n : Nat) (f g : Nat → Int) : sm n (fun i => f i - g i) = sm n f - sm n g := by
  induction n with
  | zero => rfl
  | succ n ih => simp only [sm]; rw [ih]; omega
theorem sm_mul (n : Nat) (c : Int) (f : Nat → Int) : sm n (fun i => c * f i) = c * sm n f := by
  induction n with
  | zero => simp [sm]
  | succ n ih => simp only [sm]; rw [ih, Int.mul_add]
theorem sm_mul_right (n : Nat) (c : Int) (f : Nat → Int) : sm n (fun i => f i * c) = sm n f * c := by
  induction n with
  | zero => simp [sm]
  | succ n ih => simp only [sm]; rw [ih, Int.add_mul]
theorem sm_head (n : Nat) (f : Nat → Int) : sm (n + 1) f = f 0 + sm n (fun i => f (i + 1)) := by
  induction n with
  | zero => simp [sm]
  | succ n ih => rw [sm, ih]; simp only [sm]; omega
theorem sm_swap (m n : Nat) (f : Nat → Nat → Int) : sm m (fun i => sm n (fun j => f i j)) = sm n (fun j => sm m (fun i => f i j)) := by
  induction m with
  | zero => simp only [sm]; exact (sm_zero (fun _ _ => rfl)).symm
  | succ m ih => simp only [sm]; rw [ih, sm_add]
theorem sm_single {n a : Nat} {f : Nat → Int} (ha : a < n) (h : ∀ i, i < n → i ≠ a → f i = 0) : sm n f = f a := by
  induction n with
  | zero => omega
  | succ n ih =>
    simp only [sm]
    by_cases e : a = n
    · subst e; rw [sm_zero (fun i hi => h i (by omega) (by omega))]; omega
    · rw [ih (by omega) (fun i hi hne => h i (by omega) hne), h n (by omega) (by omega)]; omega
theorem sm_more {m n : Nat} (h : m ≤ n) {f : Nat → Int} (hf : ∀ i, m ≤ i → f i = 0) : sm n f = sm m f := by
  induction n with
  | zero => have : m = 0 := by omega
            subst this; rfl
  | succ n ih =>
    by_cases e : m = n + 1
    · subst e; rfl
    · simp only [sm]; rw [ih (by omega), hf n (by omega)]; omega
theorem poly_zero : ∀ (n : Nat) (c : Nat → Int), (∀ z : Int, z ≠ 0 → sm n (fun i => c i * z ^ i) = 0) → ∀ i, i < n → c i = 0 := by
  intro n
  induction n with
  | zero => intro c _ i hi; omega
  | succ n ih =>
    intro c h
    have step : ∀ z : Int, c 0 + z * sm n (fun i => c (i + 1) * z ^ i) = sm (n + 1) (fun i => c i * z ^ i) := by
      intro z
      rw [sm_head, ← sm_mul]
      have : sm n (fun i => z * (c (i + 1) * z ^ i)) = sm n (fun i => c (i + 1) * z ^ (i + 1)) := sm_congr (fun i _ => by rw [Int.pow_succ]; grind)
      rw [this]; simp
    have h0 : c 0 = 0 := by
      have hsq : 0 ≤ c 0 * c 0 := by
        rcases Int.le_total 0 (c 0) with g | g
        · exact Int.mul_nonneg g g
        · exact Int.mul_nonneg_of_nonpos_of_nonpos g g
      have hz := h (c 0 * c 0 + 1) (by omega)
      rw [← step] at hz
      have hd : (c 0 * c 0 + 1) ∣ c 0 := ⟨-(sm n (fun i => c (i + 1) * (c 0 * c 0 + 1) ^ i)), by grind⟩
      refine Decidable.byContradiction fun hne => ?_
      have hle := Int.natAbs_dvd_natAbs.mpr hd
      have hpos : 0 < (c 0).natAbs := by omega
      have hle2 := Nat.le_of_dvd hpos hle
      have h1 : (c 0 * c 0 + 1).natAbs = (c 0).natAbs * (c 0).natAbs + 1 := by
        have e : c 0 * c 0 = (((c 0).natAbs * (c 0).natAbs : Nat) : Int) := by
          rw [Int.natCast_mul, ← Int.natAbs_mul_self' (c 0)]
        rw [e]; omega
      rw [h1] at hle2
      have : (c 0).natAbs * 1 ≤ (c 0).natAbs * (c 0).natAbs := Nat.mul_le_mul_left _ hpos
      omega
    have hrest := ih (fun i => c (i + 1)) (by
      intro z hz
      have := h z hz
      rw [← step, h0, Int.zero_add] at this
      rcases Int.mul_eq_zero.mp this with e | e
      · exact absurd e hz
      · exact e)
    intro i hi
    cases i with
    | zero => exact h0
    | succ i => exact hrest i (by omega)
theorem poly_eq {n : Nat} {c d : Nat → Int} (h : ∀ z : Int, sm n (fun i => c i * z ^ i) = sm n (fun i => d i * z ^ i)) : ∀ i, i < n → c i = d i := by
  intro i hi
  have := poly_zero n (fun i => c i - d i) (by
    intro z _
    have e : sm n (fun i => (c i - d i) * z ^ i) = sm n (fun i => c i * z ^ i - d i * z ^ i) := sm_congr (fun i _ => by rw [Int.sub_mul])
    rw [e, sm_sub, h z]; omega) i hi
  have this : c i - d i = 0 := this
  omega
def bin : Nat → Nat → Nat
  | _, 0 => 1
  | 0, _ + 1 => 0
  | n + 1, k + 1 => bin n k + bin n (k + 1)
theorem bin_zero (n : Nat) : bin n 0 = 1 := by cases n <;> rfl
theorem bin_succ (n k : Nat) : bin (n + 1) (k + 1) = bin n k + bin n (k + 1) := rfl
theorem bin_above : ∀ {n k : Nat}, n < k → bin n k = 0
  | 0, 0, h => by omega
  | 0, _ + 1, _ => rfl
  | n + 1, 0, h => by omega
  | n + 1, k + 1, h => by rw [bin_succ, bin_above (n := n) (k := k) (by omega), bin_above (n := n) (k := k + 1) (by omega)]
theorem bin_self (n : Nat) : bin n n = 1 := by
  induction n with
  | zero => rfl
  | succ n ih => rw [bin_succ, ih, bin_above (by omega)]
theorem bin_one (n : Nat) : bin n 1 = n := by
  induction n with
  | zero => rfl
  | succ n ih => rw [bin_succ, ih, bin_zero]; omega
theorem bin_step : ∀ (n k : Nat), (k + 1) * bin n (k + 1) = (n - k) * bin n k
  | 0, k => by rw [bin_above (by omega)]; simp
  | n + 1, 0 => by rw [bin_one, bin_zero]; omega
  | n + 1, k + 1 => by
    rw [bin_succ, bin_succ]
    have h1 := bin_step n k
    have h2 := bin_step n (k + 1)
    by_cases hk : k + 1 ≤ n
    · obtain ⟨m, rfl⟩ : ∃ m, n = m + (k + 1) := ⟨n - (k + 1), by omega⟩
      rw [show m + (k + 1) - k = m + 1 by omega] at h1
      rw [show m + (k + 1) - (k + 1) = m by omega] at h2
      rw [show m + (k + 1) + 1 - (k + 1) = m + 1 by omega]
      grind
    · by_cases hk2 : k = n
      · subst hk2
        rw [bin_above (n := k) (k := k + 1 + 1) (by omega), bin_above (n := k) (k := k + 1) (by omega)]; simp
      · rw [bin_above (n := n) (k := k + 1 + 1) (by omega), bin_above (n := n) (k := k + 1) (by omega), bin_above (n := n) (k := k) (by omega)]; simp
theorem bin_symm : ∀ {n k : Nat}, k ≤ n → bin n (n - k) = bin n k
  | 0, k, h => by have : k = 0 := by omega
                  subst this; rfl
  | n + 1, 0, _ => by rw [Nat.sub_zero, bin_self, bin_zero]
  | n + 1, k + 1, h => by
    rw [Nat.add_sub_add_right]
    by_cases e : k = n
    · subst e; rw [Nat.sub_self, bin_zero, bin_self]
    · obtain ⟨m, hm⟩ : ∃ m, n - k = m + 1 := ⟨n - k - 1, by omega⟩
      rw [hm, bin_succ, bin_succ]
      have h1 := bin_symm (n := n) (k := k) (by omega)
      have h2 := bin_symm (n := n) (k := k + 1) (by omega)
      rw [hm] at h1
      rw [show n - (k + 1) = m by omega] at h2
      omega
theorem bin_two : ∀ (n a b : Nat), bin n a * bin (n - a) b = bin n b * bin (n - b) a
  | 0, a, b => by
    simp only [Nat.zero_sub]
    rw [Nat.mul_comm]
  | n + 1, 0, b => by rw [bin_zero, bin_zero]; simp
  | n + 1, a + 1, 0 => by rw [bin_zero, bin_zero]; simp
  | n + 1, a + 1, b + 1 => by
    have h1 := bin_two n a (b + 1)
    have h2 := bin_two n (a + 1) b
    have h3 := bin_two n (a + 1) (b + 1)
    rw [Nat.add_sub_add_right, Nat.add_sub_add_right]
    by_cases ha : a + 1 ≤ n
    · by_cases hb : b + 1 ≤ n
      · have ea : bin (n - a) (b + 1) = bin (n - (a + 1)) b + bin (n - (a + 1)) (b + 1) := by
          rw [show n - a = (n - (a + 1)) + 1 by omega, bin_succ]
        have eb : bin (n - b) (a + 1) = bin (n - (b + 1)) a + bin (n - (b + 1)) (a + 1) := by
          rw [show n - b = (n - (b + 1)) + 1 by omega, bin_succ]
        rw [bin_succ n a, bin_succ n b, Nat.add_mul, Nat.add_mul, h1, ea, eb]
        rw [Nat.mul_add, Nat.mul_add, h2, h3, eb]
        simp only [Nat.mul_add]
        omega
      · have e1 : bin (n - a) (b + 1) = 0 := bin_above (by omega)
        rw [e1, Nat.mul_zero]
        by_cases e : b = n
        · subst e; rw [Nat.sub_self]; rfl
        · rw [bin_above (n := n + 1) (k := b + 1) (by omega), Nat.zero_mul]
    · by_cases e : a = n
      · subst e
        rw [Nat.sub_self]
        by_cases hb : b = a
        · subst hb; rw [Nat.sub_self]
        · rw [show bin 0 (b + 1) = 0 from rfl, bin_above (n := a - b) (k := a + 1) (by omega)]; simp
      · rw [bin_above (n := n + 1) (k := a + 1) (by omega), bin_above (n := n - b) (k := a + 1) (by omega)]; simp
def kr (g : Int) : Nat → Nat → Nat → Int
  | 0, 0, 0 => 1
  | 0, 0, _ + 1 => 0
  | a + 1, 0, 0 => kr g a 0 0
  | a + 1, 0, k + 1 => kr g a 0 (k + 1) + g * kr g a 0 k
  | a, b + 1, 0 => kr g a b 0
  | a, b + 1, k + 1 => kr g a b (k + 1) - kr g a b k
theorem kr_b0 (g : Int) (a b : Nat) : kr g a (b + 1) 0 = kr g a b 0 := by cases a <;> simp [kr]
theorem kr_b (g : Int) (a b k : Nat) : kr g a (b + 1) (k + 1) = kr g a b (k + 1) - kr g a b k := by cases a <;> simp [kr]
theorem kr_zero (g : Int) (a b : Nat) : kr g a b 0 = 1 := by
  induction b with
  | zero => induction a with
    | zero => simp [kr]
    | succ a ih => simp [kr, ih]
  | succ b ih => rw [kr_b0, ih]
theorem kr_a (g : Int) (a b k : Nat) : kr g (a + 1) b (k + 1) = kr g a b (k + 1) + g * kr g a b k := by
  induction b generalizing k with
  | zero => simp [kr]
  | succ b ih =>
    rw [kr_b, kr_b, ih]
    cases k with
    | zero => rw [kr_zero, kr_zero, kr_zero]; omega
    | succ k => rw [ih, kr_b]; grind
theorem kr_above (g : Int) : ∀ (a b k : Nat), a + b < k → kr g a b k = 0 := by
  intro a
  induction a with
  | zero =>
    intro b
    induction b with
    | zero => intro k h; cases k with
      | zero => omega
      | succ k => simp [kr]
    | succ b ih => intro k h; cases k with
      | zero => omega
      | succ k => rw [kr_b, ih _ (by omega), ih _ (by omega)]; rfl
  | succ a ih => intro b k h; cases k with
    | zero => omega
    | succ k => rw [kr_a, ih _ _ (by omega), ih _ _ (by omega)]; simp
theorem kr_first (g : Int) (a k : Nat) : kr g a 0 k = (bin a k : Int) * g ^ k := by
  induction a generalizing k with
  | zero => cases k with
    | zero => simp [kr, bin]
    | succ k => simp [kr, bin]
  | succ a ih => cases k with
    | zero => simp [kr_zero, bin_zero]
    | succ k => rw [kr_a, ih, ih, bin_succ, Int.pow_succ, Int.natCast_add]; grind
theorem kr_row (g : Int) (a b k : Nat) : kr g a (b + 1) (k + 1) = kr g (a + 1) b (k + 1) - kr g (a + 1) b k - g * kr g a (b + 1) k := by
  have h := kr_a g a (b + 1) k
  rw [kr_b] at h
  omega
def krF (g : Int) (a b k : Nat) : Int := sm (k + 1) (fun j => (-1) ^ j * (g ^ (k - j) * ((bin b j : Int) * (bin a (k - j) : Int))))
theorem kr_formula (g : Int) (a b k : Nat) : kr g a b k = krF g a b k := by
  induction b generalizing k with
  | zero =>
    rw [kr_first, krF]
    rw [sm_single (a := 0) (by omega)]
    · simp [bin_zero]; grind
    · intro i _ hne
      obtain ⟨m, rfl⟩ : ∃ m, i = m + 1 := ⟨i - 1, by omega⟩
      simp [bin]
  | succ b ih =>
    cases k with
    | zero => rw [kr_zero]; simp [krF, sm, bin_zero]
    | succ k =>
      rw [kr_b, ih, ih, krF, krF, krF]
      rw [sm_head (k + 1) (fun j => (-1) ^ j * (g ^ (k + 1 - j) * ((bin (b + 1) j : Int) * (bin a (k + 1 - j) : Int))))]
      rw [sm_head (k + 1) (fun j => (-1) ^ j * (g ^ (k + 1 - j) * ((bin b j : Int) * (bin a (k + 1 - j) : Int))))]
      simp only [bin_zero, Nat.add_sub_add_right]
      rw [Int.add_sub_assoc]
      congr 1
      rw [← sm_sub]
      refine sm_congr fun i hi => ?_
      rw [bin_succ, Int.natCast_add, Int.pow_succ]
      grind
theorem kr_gen (g : Int) (a b : Nat) (u w : Int) : sm (a + b + 1) (fun i => kr g a b i * u ^ (a + b - i) * w ^ i) = (u + g * w) ^ a * (u - w) ^ b := by
  have shift : ∀ (m : Nat) (c : Nat → Int) (s : Int) (d : Nat → Int), d 0 = c 0 → (∀ k, d (k + 1) = c (k + 1) + s * c k) → (∀ k, m < k → c k = 0) →
      sm (m + 2) (fun i => d i * u ^ (m + 1 - i) * w ^ i) = (u + s * w) * sm (m + 1) (fun i => c i * u ^ (m - i) * w ^ i) := by
    intro m c s d h0 h1 h2
    have e1 : u * sm (m + 1) (fun i => c i * u ^ (m - i) * w ^ i) = sm (m + 2) (fun i => c i * u ^ (m + 1 - i) * w ^ i) := by
      rw [← sm_mul, sm.eq_def (m + 2)]
      simp only []
      rw [h2 (m + 1) (by omega)]
      simp only [Int.zero_mul, Int.add_zero]
      refine sm_congr fun i hi => ?_
      rw [show m + 1 - i = (m - i) + 1 by omega, Int.pow_succ]; grind
    have e2 : s * w * sm (m + 1) (fun i => c i * u ^ (m - i) * w ^ i) = sm (m + 1) (fun i => s * c i * u ^ (m + 1 - (i + 1)) * w ^ (i + 1)) := by
      rw [← sm_mul]
      refine sm_congr fun i hi => ?_
      rw [Nat.add_sub_add_right, Int.pow_succ]; grind
    rw [Int.add_mul, e1, e2, sm_head (m + 1), sm_head (m + 1), Int.add_assoc, ← sm_add, h0]
    congr 1
    refine sm_congr fun i _ => ?_
    rw [h1]; grind
  induction b with
  | zero =>
    induction a with
    | zero => simp [sm, kr]
    | succ a ih =>
      have := shift (a + 0) (kr g a 0) g (kr g (a + 1) 0) (by rw [kr_zero, kr_zero]) (fun k => kr_a g a 0 k) (fun k hk => kr_above g a 0 k hk)
      rw [show a + 1 + 0 + 1 = a + 0 + 2 by omega, show a + 1 + 0 = a + 0 + 1 by omega, this, ih]
      grind
  | succ b ih =>
    have := shift (a + b) (kr g a b) (-1) (kr g a (b + 1)) (by rw [kr_zero, kr_zero]) (fun k => by rw [kr_b]; omega) (fun k hk => kr_above g a b k hk)
    rw [show a + (b + 1) + 1 = a + b + 2 by omega, show a + (b + 1) = a + b + 1 by omega, this, ih]
    grind
theorem kr_gen1 (g : Int) (a b : Nat) (z : Int) : sm (a + b + 1) (fun i => kr g a b i * z ^ i) = (1 + g * z) ^ a * (1 - z) ^ b := by
  rw [← kr_gen g a b 1 z]
  refine sm_congr fun i _ => ?_
  rw [Int.one_pow, Int.mul_one]
theorem kr_invert (g : Int) (n r s : Nat) (hr : r ≤ n) (hs : s ≤ n) :
    sm (n + 1) (fun i => kr g (n - r) r i * kr g (n - i) i s) = if r = s then (g + 1) ^ n else 0 := by
  have h : ∀ z : Int, sm (n + 1) (fun s => sm (n + 1) (fun i => kr g (n - r) r i * kr g (n - i) i s) * z ^ s) = sm (n + 1) (fun s => (if r = s then (g + 1) ^ n else 0) * z ^ s) := by
    intro z
    have e1 : sm (n + 1) (fun s => sm (n + 1) (fun i => kr g (n - r) r i * kr g (n - i) i s) * z ^ s) =
        sm (n + 1) (fun i => kr g (n - r) r i * (1 + g * z) ^ (n - i) * (1 - z) ^ i) := by
      have : ∀ s, s < n + 1 → sm (n + 1) (fun i => kr g (n - r) r i * kr g (n - i) i s) * z ^ s = sm (n + 1) (fun i => kr g (n - r) r i * kr g (n - i) i s * z ^ s) := by
        intro s _; rw [sm_mul_right]
      rw [sm_congr this, sm_swap]
      refine sm_congr fun i hi => ?_
      rw [Int.mul_assoc (kr g (n - r) r i), ← kr_gen1, show n - i + i = n by omega, ← sm_mul]
      refine sm_congr fun j _ => ?_
      rw [Int.mul_assoc]
    rw [e1]
    have e2 := kr_gen g (n - r) r (1 + g * z) (1 - z)
    rw [show n - r + r = n by omega] at e2
    rw [e2, sm_single (a := r) (by omega)]
    · rw [if_pos rfl, show 1 + g * z + g * (1 - z) = g + 1 by grind, show 1 + g * z - (1 - z) = (g + 1) * z by grind, Int.mul_pow, ← Int.mul_assoc, ← Int.pow_add, show n - r + r = n by omega]
    · intro i _ hne; rw [if_neg (fun e => hne e.symm)]; simp
  exact poly_eq h s (by omega)
theorem kr_recip (g : Int) (n i s : Nat) (hi : i ≤ n) (hs : s ≤ n) :
    kr g (n - i) i s * (g ^ i * (bin n i : Int)) = kr g (n - s) s i * (g ^ s * (bin n s : Int)) := by
  rw [kr_formula, kr_formula, krF, krF]
  have ext : ∀ (x y : Nat), x ≤ n → y ≤ n → sm (y + 1) (fun j => (-1) ^ j * (g ^ (y - j) * ((bin x j : Int) * (bin (n - x) (y - j) : Int)))) * (g ^ x * (bin n x : Int)) =
      sm (n + 1) (fun j => if j ≤ x ∧ j ≤ y then (-1) ^ j * (g ^ (x + y - j) * ((bin n x : Int) * (bin x j : Int) * (bin (n - x) (y - j) : Int))) else 0) := by
    intro x y hx hy
    rw [← sm_mul_right]
    rw [sm_more (m := y + 1) (n := n + 1) (by omega) (f := fun j => if j ≤ x ∧ j ≤ y then _ else 0) (fun j hj => if_neg (by omega))]
    refine sm_congr fun j hj => ?_
    by_cases h : j ≤ x
    · rw [if_pos ⟨h, by omega⟩, show x + y - j = (y - j) + x by omega, Int.pow_add]; grind
    · rw [if_neg (by omega), bin_above (by omega)]; simp
  rw [ext i s hi hs, ext s i hs hi]
  refine sm_congr fun j _ => ?_
  by_cases h : j ≤ i ∧ j ≤ s
  · rw [if_pos h, if_pos ⟨h.2, h.1⟩, Nat.add_comm s i]
    congr 2
    have key : ∀ (x y : Nat), x ≤ n → y ≤ n → j ≤ x → j ≤ y → bin n x * bin x j * bin (n - x) (y - j) = bin n j * (bin (n - j) (x - j) * bin (n - j - (x - j)) (y - j)) := by
      intro x y hx hy h1 h2
      have a1 := bin_two n j (x - j)
      have a2 := bin_two n (n - x) j
      rw [bin_symm hx, show n - (n - x) = x by omega] at a2
      have a3 : bin (n - j) (n - x) = bin (n - j) (x - j) := by
        rw [← bin_symm (n := n - j) (k := x - j) (by omega)]; congr 1; omega
      rw [a2, a3, show n - j - (x - j) = n - x by omega, Nat.mul_assoc]
    have k1 := key i s hi hs h.1 h.2
    have k2 := key s i hs hi h.2 h.1
    have k3 := bin_two (n - j) (i - j) (s - j)
    have : bin n i * bin i j * bin (n - i) (s - j) = bin n s * bin s j * bin (n - s) (i - j) := by rw [k1, k2, k3]
    have c := congrArg (fun x : Nat => (x : Int)) this
    simpa [Int.natCast_mul] using c
  · rw [if_neg h, if_neg (fun e => h ⟨e.2, e.1⟩)]
theorem kr_orth (g : Int) (n r s : Nat) (hr : r ≤ n) (hs : s ≤ n) :
    sm (n + 1) (fun i => (bin n i : Int) * g ^ i * (kr g (n - i) i r * kr g (n - i) i s)) = if r = s then (g + 1) ^ n * (g ^ r * (bin n r : Int)) else 0 := by
  have e : sm (n + 1) (fun i => (bin n i : Int) * g ^ i * (kr g (n - i) i r * kr g (n - i) i s)) = sm (n + 1) (fun i => kr g (n - r) r i * kr g (n - i) i s * (g ^ r * (bin n r : Int))) := by
    refine sm_congr fun i hi => ?_
    have := kr_recip g n i r (by omega) hr
    grind
  rw [e, sm_mul_right, kr_invert g n r s hr hs]
  by_cases h : r = s
  · rw [if_pos h, if_pos h]
  · rw [if_neg h, if_neg h]; simp
end Mw
end
