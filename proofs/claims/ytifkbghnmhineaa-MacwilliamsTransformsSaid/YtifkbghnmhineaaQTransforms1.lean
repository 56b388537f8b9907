/- What functions of the program do and come to, for the statement MacwilliamsTransforms, part 1. Conditions: as each theorem says. -/
import Derived.Test.YtifkbghnmhineaaQTransforms0

namespace Go.Proofs.Ytifkbghnmhineaa.PAll
open Go.RowKit Go.Proofs.YtifkbghnmhineaaW.PrintWords Go.Proofs.YtifkbghnmhineaaW.PrintLast Go.Proofs.YtifkbghnmhineaaW.PrintMore
attribute [local go_sem] max2_int min2_int max_two min_two max_three min_three max_four min_four
set_option linter.unusedVariables false
set_option linter.unusedSimpArgs false
set_option maxHeartbeats 8000000 in
set_option maxRecDepth 100000 in
theorem r1_Trim.calls (k : Nat) (A0 : Option Addr) (c0 : Nat) (l0 : List Int) (r : List Int) (w : World) (hr0 : Kd.C (Kd.int .u32) w A0 l0.length l0) (hc0 : l0.length ≤ c0) (h : r1_Trim.f k l0 = some r) :
    Calls Try.prog 75 #[.slice A0 l0.length c0] w fun e w' => ∃ v0_ : Value, e = .returned (v0_) ∧ Kd.R (Kd.int .u32) 97 w' w.heap.size (fun _ => True) v0_ r ∧ Below w.heap.size w w' := by
 have HR0 := zk hr0
 have HC0 := zk hc0
 clear hr0 hc0
 have HB := zk (Below.refl w.heap.size w)
 have H := h
 clear h
 unfold r1_Trim.f at H
 have H' := zk H
 clear H
 go_enter Try.func75, Try.ntmps75
 go_wp2
 go_loopg [3] k (fun kq v3 w' => ∃ (x3_1 : Int), v3 = .int .i64 x3_1 ∧ Aside0 (r1_Trim.l0 kq l0 x3_1 = some r) ∧ Aside0 (kq ≤ k) ∧ Aside0 (Below w.heap.size w w'))
 case atStart => exact ⟨((l0.length : Int)), zF, H', ⟨Nat.le_refl _⟩, ⟨zB HB.out⟩⟩
 clear H'
 obtain ⟨x3_1, rfl, HA, HK1, HB⟩ := hrel
 cases gk with | zero => exact absurd HA.out (by simp [r1_Trim.l0]) | succ k1 => ?_
 have H := HA.out
 clear HA
 simp only [r1_Trim.l0] at H
 replace H := zi H
 rcases H with ⟨c2, H⟩ | ⟨c2, H⟩
 · have c2b0 : decide (0 < x3_1) = true := decide_eq_true c2
   clear c2
   obtain ⟨ji3, hji3⟩ : ∃ j_ : Int, (wrap64 (x3_1 - 1)) = j_ := ⟨_, rfl⟩
   replace H : (if 0 ≤ (ji3) then (if (ji3) < (l0.length : Int) then (if (rd l0 (ji3)) = 0 then (r1_Trim.l0 k1 l0 ji3) else ((some (([] : List Int) : List Int)).bind fun ya2 => (if 0 ≤ x3_1 then (if x3_1 ≤ (l0.length : Int) then (if ya2.length + (l0.take (x3_1 : Int).toNat).length < 35184372088832 then (some (ya2 ++ (l0.take (x3_1 : Int).toNat))) else (none)) else (none)) else (none)))) else (none)) else (none)) = some r := by first | (rw [hji3] at H; exact H) | (simp only [hji3] at H ⊢; exact H)
   have hji3w : (IntKind.i64.wrap (x3_1 - 1)) = ji3 := (i64_w _).trans hji3
   replace H := zgd H
   obtain ⟨c4b0, H⟩ := H
   replace H := zgd H
   obtain ⟨c5b0, H⟩ := H
   replace H := zi H
   rcases H with ⟨c6, H⟩ | ⟨c6, H⟩
   · have c6b0 := beq_iff_eq.mpr c6
     have c6b1 := bne_eq_false_iff_eq.mpr c6
     clear c6
     have H' := zk H
     clear H
     have pa1 : 0 ≤ ((ji3) : Int) := zd
     have qa1 : (ji3) < (l0.length : Int) := zd
     obtain ⟨ada1, ea1, hxa1_0⟩ := Kd.at_int HR0.out (ji3) pa1 qa1
     cases ea1
     replace hxa1_0 := (HB.out.cell (World.block_lt_of_cell? w _ hxa1_0)).trans hxa1_0
     replace pa1 := eq_true pa1
     replace qa1 := eq_true qa1
     go_wp2
     go_roundg k1
     case measure => have := HK1.out; omega
     case rel => exact ⟨(ji3), (by first | rfl | (simp; done) | (simp only [← hji3] <;> (first | rfl | simp)) | (simp [*]; done)), H', ⟨zo1 HK1⟩, ⟨zB HB.out⟩⟩
   have c6b0 := beq_eq_false_iff_ne.mpr c6
   have c6b1 := bne_iff_ne.mpr c6
   obtain ⟨ya2, hya2⟩ : ∃ y_ : List Int, y_ = (([] : List Int)) := ⟨_, rfl⟩
   replace H : (if 0 ≤ x3_1 then (if x3_1 ≤ (l0.length : Int) then (if ya2.length + (l0.take (x3_1 : Int).toNat).length < 35184372088832 then (some (ya2 ++ (l0.take (x3_1 : Int).toNat))) else (none)) else (none)) else (none)) = some r := zY hya2 H
   have Nya2 := zk hya2
   clear hya2
   replace H := zg H
   obtain ⟨c7, H⟩ := H
   have c7b0 := eq_true c7
   have c7b1 := decide_eq_true c7
   clear c7
   replace H := zg H
   obtain ⟨c8, H⟩ := H
   have c8b0 := eq_true c8
   have c8b1 := decide_eq_true c8
   clear c8
   replace H := zg H
   obtain ⟨c9, H⟩ := H
   have LMc9 := zk c9
   clear c9
   obtain ⟨ya6, hya6⟩ : ∃ y_ : List Int, y_ = (ya2 ++ (l0.take (x3_1 : Int).toNat)) := ⟨_, rfl⟩
   replace H : (some ya6) = some r := zY hya6 H
   have Nya6 := zk hya6
   clear hya6
   obtain rfl := Option.some.inj H
   have pa1 : 0 ≤ ((ji3) : Int) := zd
   have qa1 : (ji3) < (l0.length : Int) := zd
   obtain ⟨ada1, ea1, hxa1_0⟩ := Kd.at_int HR0.out (ji3) pa1 qa1
   cases ea1
   replace hxa1_0 := (HB.out.cell (World.block_lt_of_cell? w _ hxa1_0)).trans hxa1_0
   replace pa1 := eq_true pa1
   replace qa1 := eq_true qa1
   go_wp2_with (first | ((with_reducible refine gate_dst (N := 18) rfl ?_); refine Kd.R_lit (Kd.int .u32) _ 97 ?hg (N := 18) ?hd (xs := ([] : List Int)) (inner := []) (ok := fun _ => True) (okp := fun _ => True) ?hr ?hp (fun _ hk => hk) trivial (Below.refl _ _) (Nat.le_refl _) (by simp) ?_; (case hd => rfl); (case hg => rfl); (case hr => first | (go_simp; done) | (go_simp; rfl)); (case hp => exact (Reps.none _ _)); intro va3 w10 ho11 hb hg_ hnew_; clear hg_ hnew_; (first | rw [← Nya2.out] at ho11 | (simp only [Int.reduceToNat] at ho11; rw [← Nya2.out] at ho11)); have HOa4 := yRl ho11 HB; replace HB := yS HB hb; clear hb ho11; obtain ⟨i012, hi012, _, hsz12, _⟩ := info_parts info97; obtain ⟨hcut12, hA12, hC12⟩ := print_take_of (P := Try.prog) (Value.int .u32) 0 29 97 .i64 Try.underlying29 hi012 hsz12 (some ada1) c0 l0 x3_1 zd zd HC0.out; have HRa5 := zk (Kd.C_of_reads (h1 := fun _ => rfl) (hA12 _ (Kd.reads_of_C HR0.out))); have HCa5 := zk hC12; clear hA12 hC12 hi012 hsz12) | ((with_reducible refine gate_builtin (b := .append) (xs := #[.tmp 18, .tmp 21]) rfl ?_); at_builtin; refine Kd.R_append_rows (Kd.int .u32) (w0 := w) w.heap.size rfl (.tmp 18) (.tmp 21) 29 97 (.int .u32 0) 4 rfl Try.underlying29 info97 rfl (by decide) (by omega) va3 ya2 (l0.take (x3_1 : Int).toNat) _ _ _ (fun _ => True) (fun _ => False) rfl rfl ?aO ?aR (fun _ _ h => h) (fun _ h => h.elim) ?aF ?aB ?aS ?aL ?_; (case aR => first | (have hz_ : (l0.take (x3_1 : Int).toNat).length = x3_1.toNat := (by rw [List.length_take]; have h_ : (x3_1 : Int) ≤ (l0.length : Int) := zd; omega); refine Eq.mp (congrArg (fun n_ => Kd.C _ _ _ n_ _) hz_) ?_; repeat (first | exact (Kd.C_below HRa5.out HB.out) | (with_reducible refine Kd.C_alloc ?_ _) | (with_reducible refine Kd.C_drewN ?_ _) | (with_reducible refine Kd.C_drew ?_))) | (rw [← show (l0.take (x3_1 : Int).toNat).length = x3_1.toNat from (by rw [List.length_take]; have h_ : (x3_1 : Int) ≤ (l0.length : Int) := zd; omega)]; repeat (first | exact (Kd.C_below HRa5.out HB.out) | (with_reducible refine Kd.C_alloc ?_ _) | (with_reducible refine Kd.C_drewN ?_ _) | (with_reducible refine Kd.C_drew ?_))) | (repeat (first | exact (Kd.C_below HRa5.out HB.out) | (with_reducible refine Kd.C_alloc ?_ _) | (with_reducible refine Kd.C_drewN ?_ _) | (with_reducible refine Kd.C_drew ?_)))); (case aB => exact (zB HB.out)); (case aF => exact (fun _ _ => trivial)); (case aO => exact (zR HOa4.out)); (case aS => exact (below_size (zB HB.out))); (case aL => have := LMc9.out; have hlx_ := (show (l0.take (x3_1 : Int).toNat).length = x3_1.toNat from (by rw [List.length_take]; have h_ : (x3_1 : Int) ≤ (l0.length : Int) := zd; omega)); omega); intro va7 w13 ho hb hg hat; rw [← Nya6.out] at ho; replace HB := zk (hb); have HOa8 := zk (ho); clear HOa4; clear ho hb hg hat))
   go_ret
   exact ⟨_, by first | rfl | (simp [errW_none, errW_some] <;> rfl) | (simp only [← hji3]; first | rfl | (simp [errW_none, errW_some] <;> rfl)) | (simp [*, errW_none, errW_some] <;> rfl), zR HOa8.out, zB HB.out⟩
 have c2b0 : decide (0 < x3_1) = false := decide_eq_false c2
 clear c2
 obtain ⟨ya9, hya9⟩ : ∃ y_ : List Int, y_ = (([] : List Int)) := ⟨_, rfl⟩
 replace H : (if 0 ≤ x3_1 then (if x3_1 ≤ (l0.length : Int) then (if ya9.length + (l0.take (x3_1 : Int).toNat).length < 35184372088832 then (some (ya9 ++ (l0.take (x3_1 : Int).toNat))) else (none)) else (none)) else (none)) = some r := zY hya9 H
 have Nya9 := zk hya9
 clear hya9
 replace H := zg H
 obtain ⟨c14, H⟩ := H
 have c14b0 := eq_true c14
 have c14b1 := decide_eq_true c14
 clear c14
 replace H := zg H
 obtain ⟨c15, H⟩ := H
 have c15b0 := eq_true c15
 have c15b1 := decide_eq_true c15
 clear c15
 replace H := zg H
 obtain ⟨c16, H⟩ := H
 have LMc16 := zk c16
 clear c16
 obtain ⟨yb3, hyb3⟩ : ∃ y_ : List Int, y_ = (ya9 ++ (l0.take (x3_1 : Int).toNat)) := ⟨_, rfl⟩
 replace H : (some yb3) = some r := zY hyb3 H
 have Nyb3 := zk hyb3
 clear hyb3
 obtain rfl := Option.some.inj H
 go_wp2_with (first | ((with_reducible refine gate_dst (N := 18) rfl ?_); refine Kd.R_lit (Kd.int .u32) _ 97 ?hg (N := 18) ?hd (xs := ([] : List Int)) (inner := []) (ok := fun _ => True) (okp := fun _ => True) ?hr ?hp (fun _ hk => hk) trivial (Below.refl _ _) (Nat.le_refl _) (by simp) ?_; (case hd => rfl); (case hg => rfl); (case hr => first | (go_simp; done) | (go_simp; rfl)); (case hp => exact (Reps.none _ _)); intro vb0 w17 ho18 hb hg_ hnew_; clear hg_ hnew_; (first | rw [← Nya9.out] at ho18 | (simp only [Int.reduceToNat] at ho18; rw [← Nya9.out] at ho18)); have HOb1 := yRl ho18 HB; replace HB := yS HB hb; clear hb ho18; obtain ⟨i019, hi019, _, hsz19, _⟩ := info_parts info97; obtain ⟨hcut19, hA19, hC19⟩ := print_take_of (P := Try.prog) (Value.int .u32) 0 29 97 .i64 Try.underlying29 hi019 hsz19 A0 c0 l0 x3_1 zd zd HC0.out; have HRb2 := zk (Kd.C_of_reads (h1 := fun _ => rfl) (hA19 _ (Kd.reads_of_C HR0.out))); have HCb2 := zk hC19; clear hA19 hC19 hi019 hsz19) | ((with_reducible refine gate_builtin (b := .append) (xs := #[.tmp 18, .tmp 21]) rfl ?_); at_builtin; refine Kd.R_append_rows (Kd.int .u32) (w0 := w) w.heap.size rfl (.tmp 18) (.tmp 21) 29 97 (.int .u32 0) 4 rfl Try.underlying29 info97 rfl (by decide) (by omega) vb0 ya9 (l0.take (x3_1 : Int).toNat) _ _ _ (fun _ => True) (fun _ => False) rfl rfl ?aO ?aR (fun _ _ h => h) (fun _ h => h.elim) ?aF ?aB ?aS ?aL ?_; (case aR => first | (have hz_ : (l0.take (x3_1 : Int).toNat).length = x3_1.toNat := (by rw [List.length_take]; have h_ : (x3_1 : Int) ≤ (l0.length : Int) := zd; omega); refine Eq.mp (congrArg (fun n_ => Kd.C _ _ _ n_ _) hz_) ?_; repeat (first | exact (Kd.C_below HRb2.out HB.out) | (with_reducible refine Kd.C_alloc ?_ _) | (with_reducible refine Kd.C_drewN ?_ _) | (with_reducible refine Kd.C_drew ?_))) | (rw [← show (l0.take (x3_1 : Int).toNat).length = x3_1.toNat from (by rw [List.length_take]; have h_ : (x3_1 : Int) ≤ (l0.length : Int) := zd; omega)]; repeat (first | exact (Kd.C_below HRb2.out HB.out) | (with_reducible refine Kd.C_alloc ?_ _) | (with_reducible refine Kd.C_drewN ?_ _) | (with_reducible refine Kd.C_drew ?_))) | (repeat (first | exact (Kd.C_below HRb2.out HB.out) | (with_reducible refine Kd.C_alloc ?_ _) | (with_reducible refine Kd.C_drewN ?_ _) | (with_reducible refine Kd.C_drew ?_)))); (case aB => exact (zB HB.out)); (case aF => exact (fun _ _ => trivial)); (case aO => exact (zR HOb1.out)); (case aS => exact (below_size (zB HB.out))); (case aL => have := LMc16.out; have hlx_ := (show (l0.take (x3_1 : Int).toNat).length = x3_1.toNat from (by rw [List.length_take]; have h_ : (x3_1 : Int) ≤ (l0.length : Int) := zd; omega)); omega); intro vb4 w20 ho hb hg hat; rw [← Nyb3.out] at ho; replace HB := zk (hb); have HOb5 := zk (ho); clear HOb1; clear ho hb hg hat))
 go_ret
 exact ⟨_, zE, zR HOb5.out, zB HB.out⟩
set_option maxHeartbeats 8000000 in
set_option maxRecDepth 100000 in
theorem r1_Zero.calls (k : Nat) (A0 : Option Addr) (c0 : Nat) (l0 : List Int) (r : Bool) (w : World) (hr0 : Kd.C (Kd.int .u32) w A0 l0.length l0) (hc0 : l0.length ≤ c0) (h : r1_Zero.f k l0 = some r) :
    Calls Try.prog 27 #[.slice A0 l0.length c0] w fun e w' => e = .returned (.bool r) ∧ Below w.heap.size w w' := by
 have HR0 := zk hr0
 have HC0 := zk hc0
 clear hr0 hc0
 have HB := zk (Below.refl w.heap.size w)
 have H := h
 clear h
 unfold r1_Zero.f at H
 replace H := zb H
 obtain ⟨ta1, A2, H⟩ := H
 obtain rfl := Option.some.inj H
 go_enter Try.func27, Try.ntmps27
 go_wp2_with (first | ((with_reducible refine gC 75 ?_); refine zG (some 4) Try.func75 #[.slice A0 l0.length c0] ?_; (with_reducible refine (r1_Trim.calls k _ _ l0 ta1 _ ?side1 ?side2 A2.out).mono ?_); (case side1 => exact zC HR0.out); (case side2 => exact HC0.out); rintro e w3 ⟨va2, rfl, ho0, hb⟩; refine ⟨_, rfl, ?_⟩; have HOa3 := yRl ho0 HB; replace HB := yS HB hb; (try clear hb ho0); obtain ⟨Ao4, co4, rfl⟩ := Kd.R_slice HOa3.out))
 go_ret
 exact ⟨zE, zB HB.out⟩
set_option maxHeartbeats 8000000 in
set_option maxRecDepth 100000 in
theorem r1_Bits.calls (k : Nat) (A0 : Option Addr) (c0 : Nat) (l0 : List Int) (r : Int) (w : World) (hr0 : Kd.C (Kd.int .u32) w A0 l0.length l0) (hc0 : l0.length ≤ c0) (h : r1_Bits.f k l0 = some r) :
    Calls Try.prog 76 #[.slice A0 l0.length c0] w fun e w' => e = .returned (.int .i64 r) ∧ Below w.heap.size w w' := by
 have HR0 := zk hr0
 have HC0 := zk hc0
 clear hr0 hc0
 have HB := zk (Below.refl w.heap.size w)
 have H := h
 clear h
 unfold r1_Bits.f at H
 replace H := zb H
 obtain ⟨ta1, A2, H⟩ := H
 replace H := zi H
 rcases H with ⟨c3, H⟩ | ⟨c3, H⟩
 · have c3b0 := beq_iff_eq.mpr c3
   have c3b1 := bne_eq_false_iff_eq.mpr c3
   clear c3
   obtain rfl := Option.some.inj H
   go_enter Try.func76, Try.ntmps76
   go_wp2_with (first | ((with_reducible refine gC 75 ?_); refine zG (some 6) Try.func75 #[.slice A0 l0.length c0] ?_; (with_reducible refine (r1_Trim.calls k _ _ l0 ta1 _ ?side1 ?side2 A2.out).mono ?_); (case side1 => exact zC HR0.out); (case side2 => exact HC0.out); rintro e w4 ⟨va2, rfl, ho0, hb⟩; refine ⟨_, rfl, ?_⟩; have HOa3 := yRl ho0 HB; replace HB := yS HB hb; (try clear hb ho0); obtain ⟨Ao5, co5, rfl⟩ := Kd.R_slice HOa3.out))
   go_ret
   exact ⟨zE, zB HB.out⟩
 have c3b0 := beq_eq_false_iff_ne.mpr c3
 have c3b1 := bne_iff_ne.mpr c3
 have c3b2 : ¬ (ta1 = []) := fun h_ => c3 (by rw [h_]; rfl)
 obtain ⟨ji6, hji6⟩ : ∃ j_ : Int, (wrap64 ((ta1.length : Int) - 1)) = j_ := ⟨_, rfl⟩
 replace H : (if 0 ≤ (ji6) then (if (ji6) < (ta1.length : Int) then (r1_Bits.l0 k (wrap64 (32 * (ji6))) (rd ta1 (ji6))) else (none)) else (none)) = some r := by first | (rw [hji6] at H; exact H) | (simp only [hji6] at H ⊢; exact H)
 (try rw [hji6] at A2)
 have hji6w : (IntKind.i64.wrap ((ta1.length : Int) - 1)) = ji6 := (i64_w _).trans hji6
 replace H := zgd H
 obtain ⟨c7b0, H⟩ := H
 replace H := zgd H
 obtain ⟨c8b0, H⟩ := H
 have H' := zk H
 clear H
 go_enter Try.func76, Try.ntmps76
 go_wp2_with (first | ((with_reducible refine gC 75 ?_); refine zG (some 6) Try.func75 #[.slice A0 l0.length c0] ?_; (with_reducible refine (r1_Trim.calls k _ _ l0 ta1 _ ?side1 ?side2 A2.out).mono ?_); (case side1 => exact zC HR0.out); (case side2 => exact HC0.out); rintro e w9 ⟨va2, rfl, ho0, hb⟩; refine ⟨_, rfl, ?_⟩; have HOa3 := yRl ho0 HB; replace HB := yS HB hb; (try clear hb ho0); obtain ⟨Ao10, co10, rfl⟩ := Kd.R_slice HOa3.out; have pa4 : 0 ≤ ((ji6) : Int) := zd; have qa4 : (ji6) < (ta1.length : Int) := zd; obtain ⟨ada4, ea4, hxa4_0⟩ := Kd.at_int (Kd.R_reads' HOa3.out).2.2 (ji6) pa4 qa4; cases ea4; replace pa4 := eq_true pa4; replace qa4 := eq_true qa4))
 go_loopg [3, 4] k (fun kq v3 v4 w' => ∃ (x3_1 : Int) (x4_1 : Int), v3 = .int .i64 x3_1 ∧ v4 = .int .u32 x4_1 ∧ Aside0 (r1_Bits.l0 kq x3_1 x4_1 = some r) ∧ Aside0 (kq ≤ k) ∧ Aside0 (Below w.heap.size w w'))
 case atStart => exact ⟨(wrap64 (32 * (ji6))), (rd ta1 (ji6)), (by first | rfl | (simp; done) | (simp only [← hji6] <;> (first | rfl | simp)) | (simp [*]; done)), (by first | rfl | (simp; done) | (simp only [← hji6] <;> (first | rfl | simp)) | (simp [*]; done)), H', ⟨Nat.le_refl _⟩, ⟨zB HB.out⟩⟩
 clear H'
 (try clear c3);(try clear c3b0);(try clear c3b1);(try clear c3b2);(try clear c7b0);(try clear c8b0);(try clear hxa4_0);(try clear pa4);(try clear qa4)
 obtain ⟨x3_1, x4_1, rfl, rfl, HA, HK1, HB⟩ := hrel
 cases gk with | zero => exact absurd HA.out (by simp [r1_Bits.l0]) | succ k1 => ?_
 have H := HA.out
 clear HA
 simp only [r1_Bits.l0] at H
 replace H := zi H
 rcases H with ⟨c11, H⟩ | ⟨c11, H⟩
 · have c11b0 : decide (0 < x4_1) = true := decide_eq_true c11
   clear c11
   have H' := zk H
   clear H
   go_wp2
   go_roundg k1
   case measure => have := HK1.out; omega
   case rel => exact ⟨(wrap64 (x3_1 + 1)), ((Int.tdiv x4_1 2) % 4294967296), zF, zF, H', ⟨zo1 HK1⟩, ⟨zB HB.out⟩⟩
 have c11b0 : decide (0 < x4_1) = false := decide_eq_false c11
 clear c11
 obtain rfl := Option.some.inj H
 go_wp2
 go_ret
 exact ⟨by first | rfl | (simp [errW_none, errW_some] <;> rfl) | (simp only [← hji6]; first | rfl | (simp [errW_none, errW_some] <;> rfl)) | (simp [*, errW_none, errW_some] <;> rfl), zB HB.out⟩
set_option maxHeartbeats 8000000 in
set_option maxRecDepth 100000 in
theorem r1_limb.calls (A0 : Option Addr) (c0 : Nat) (l0 : List Int) (a1 : Int) (r : Int) (w : World) (hr0 : Kd.C (Kd.int .u32) w A0 l0.length l0) (hc0 : l0.length ≤ c0) (h : r1_limb.f l0 a1 = some r) :
    Calls Try.prog 119 #[.slice A0 l0.length c0, .int .i64 a1] w fun e w' => e = .returned (.int .u64 r) ∧ Drawn0 w w' := by
 have HR0 := zk hr0
 have HC0 := zk hc0
 clear hr0 hc0
 have H := h
 clear h
 unfold r1_limb.f at H
 replace H := zid H
 rcases H with ⟨c3b0, H⟩ | ⟨c3b0, H⟩
 · replace H := zgd H
   obtain ⟨c4b0, H⟩ := H
   obtain rfl := Option.some.inj H
   have pa1 : 0 ≤ (a1 : Int) := zd
   have qa1 : a1 < (l0.length : Int) := zd
   obtain ⟨ada1, ea1, hxa1_0⟩ := Kd.at_int HR0.out a1 pa1 qa1
   cases ea1
   replace pa1 := eq_true pa1
   replace qa1 := eq_true qa1
   go_enter Try.func119, Try.ntmps119
   go_wp2
   go_ret
   exact ⟨zF, by repeat (first | exact Drawn0.refl _ | apply Drawn0.step)⟩
 obtain rfl := Option.some.inj H
 go_enter Try.func119, Try.ntmps119
 go_wp2
 go_ret
 exact ⟨zF, by repeat (first | exact Drawn0.refl _ | apply Drawn0.step)⟩
set_option maxHeartbeats 8000000 in
set_option maxRecDepth 100000 in
theorem r1_Cmp.calls (k : Nat) (A0 : Option Addr) (c0 : Nat) (l0 : List Int) (A1 : Option Addr) (c1 : Nat) (l1 : List Int) (r : Int) (w : World) (hr0 : Kd.C (Kd.int .u32) w A0 l0.length l0) (hc0 : l0.length ≤ c0) (hr1 : Kd.C (Kd.int .u32) w A1 l1.length l1) (hc1 : l1.length ≤ c1) (h : r1_Cmp.f k l0 l1 = some r) :
    Calls Try.prog 77 #[.slice A0 l0.length c0, .slice A1 l1.length c1] w fun e w' => e = .returned (.int .i64 r) ∧ Below w.heap.size w w' := by
 have HR0 := zk hr0
 have HC0 := zk hc0
 clear hr0 hc0
 have HR1 := zk hr1
 have HC1 := zk hc1
 clear hr1 hc1
 have HB := zk (Below.refl w.heap.size w)
 have H := h
 clear h
 unfold r1_Cmp.f at H
 obtain ⟨ji3, hji3⟩ : ∃ j_ : Int, (mx (l0.length : Int) (l1.length : Int)) = j_ := ⟨_, rfl⟩
 replace H : (r1_Cmp.l0 k l0 l1 (wrap64 ((ji3) - 1))) = some r := by first | (rw [hji3] at H; exact H) | (simp only [hji3] at H ⊢; exact H)
 (try (have hji3l : 0 ≤ ji3 := by (rw [← hji3]; unfold mx; (repeat' split) <;> omega)))
 (try (have hji3m : 0 ≤ ji3 := by omega))
 have hji3_ : (if (l0.length : Int) < (l1.length : Int) then (l1.length : Int) else (l0.length : Int)) = ji3 := hji3
 have hji3n : (if l0.length < l1.length then (l1.length : Int) else (l0.length : Int)) = ji3 := by rw [← hji3_]; simp only [Int.ofNat_lt]
 have H' := zk H
 clear H
 go_enter Try.func77, Try.ntmps77
 go_wp2
 go_loopg [5] k (fun kq v5 w' => ∃ (x5_1 : Int), v5 = .int .i64 x5_1 ∧ Aside0 (r1_Cmp.l0 kq l0 l1 x5_1 = some r) ∧ Aside0 (kq ≤ k) ∧ Aside0 (Below w.heap.size w w'))
 case atStart => exact ⟨(wrap64 ((ji3) - 1)), (by first | rfl | (simp; done) | (simp only [← hji3] <;> (first | rfl | simp)) | (simp [*]; done)), H', ⟨Nat.le_refl _⟩, ⟨zB HB.out⟩⟩
 clear H'
 obtain ⟨x5_1, rfl, HA, HK1, HB⟩ := hrel
 cases gk with | zero => exact absurd HA.out (by simp [r1_Cmp.l0]) | succ k1 => ?_
 have H := HA.out
 clear HA
 simp only [r1_Cmp.l0] at H
 replace H := zi H
 rcases H with ⟨c4, H⟩ | ⟨c4, H⟩
 · have c4b0 : decide (0 ≤ x5_1) = true := decide_eq_true c4
   clear c4
   replace H := zb H
   obtain ⟨ta1, A5, H⟩ := H
   replace H := zb H
   obtain ⟨ta2, A6, H⟩ := H
   replace H := zid H
   rcases H with ⟨c7b0, H⟩ | ⟨c7b0, H⟩
   · obtain rfl := Option.some.inj H
     go_wp2_with (first | ((with_reducible refine gC 119 ?_); refine zG (some 18) Try.func119 #[.slice A0 l0.length c0, .int .i64 x5_1] ?_; (with_reducible refine (r1_limb.calls _ _ l0 x5_1 ta1 _ ?side1 ?side2 A5.out).mono ?_); (case side1 => exact zC (Kd.C_below HR0.out HB.out)); (case side2 => exact HC0.out); rintro e w' ⟨rfl, ⟨nd, rfl⟩⟩; refine ⟨_, rfl, ?_⟩) | ((with_reducible refine gC 119 ?_); refine zG (some 21) Try.func119 #[.slice A1 l1.length c1, .int .i64 x5_1] ?_; (with_reducible refine (r1_limb.calls _ _ l1 x5_1 ta2 _ ?side1 ?side2 A6.out).mono ?_); (case side1 => exact zC (Kd.C_below HR1.out (zB HB.out))); (case side2 => exact HC1.out); rintro e w' ⟨rfl, ⟨nd, rfl⟩⟩; refine ⟨_, rfl, ?_⟩))
     go_ret
     exact ⟨by first | rfl | (simp [errW_none, errW_some] <;> rfl) | (simp only [← hji3]; first | rfl | (simp [errW_none, errW_some] <;> rfl)) | (simp [*, errW_none, errW_some] <;> rfl), zB HB.out⟩
   replace H := zb H
   obtain ⟨ta3, A8, H⟩ := H
   replace H := zb H
   obtain ⟨ta4, A9, H⟩ := H
   replace H := zi H
   rcases H with ⟨c10, H⟩ | ⟨c10, H⟩
   · have c10b0 : decide (ta4 < ta3) = true := decide_eq_true c10
     clear c10
     obtain rfl := Option.some.inj H
     go_wp2_with (first | ((with_reducible refine gC 119 ?_); refine zG (some 18) Try.func119 #[.slice A0 l0.length c0, .int .i64 x5_1] ?_; (with_reducible refine (r1_limb.calls _ _ l0 x5_1 ta1 _ ?side1 ?side2 A5.out).mono ?_); (case side1 => exact zC (Kd.C_below HR0.out HB.out)); (case side2 => exact HC0.out); rintro e w' ⟨rfl, ⟨nd, rfl⟩⟩; refine ⟨_, rfl, ?_⟩) | ((with_reducible refine gC 119 ?_); refine zG (some 21) Try.func119 #[.slice A1 l1.length c1, .int .i64 x5_1] ?_; (with_reducible refine (r1_limb.calls _ _ l1 x5_1 ta2 _ ?side1 ?side2 A6.out).mono ?_); (case side1 => exact zC (Kd.C_below HR1.out (zB HB.out))); (case side2 => exact HC1.out); rintro e w' ⟨rfl, ⟨nd, rfl⟩⟩; refine ⟨_, rfl, ?_⟩) | ((with_reducible refine gC 119 ?_); refine zG (some 25) Try.func119 #[.slice A0 l0.length c0, .int .i64 x5_1] ?_; (with_reducible refine (r1_limb.calls _ _ l0 x5_1 ta3 _ ?side1 ?side2 A8.out).mono ?_); (case side1 => exact zC (Kd.C_below HR0.out (zB HB.out))); (case side2 => exact HC0.out); rintro e w' ⟨rfl, ⟨nd, rfl⟩⟩; refine ⟨_, rfl, ?_⟩) | ((with_reducible refine gC 119 ?_); refine zG (some 28) Try.func119 #[.slice A1 l1.length c1, .int .i64 x5_1] ?_; (with_reducible refine (r1_limb.calls _ _ l1 x5_1 ta4 _ ?side1 ?side2 A9.out).mono ?_); (case side1 => exact zC (Kd.C_below HR1.out (zB HB.out))); (case side2 => exact HC1.out); rintro e w' ⟨rfl, ⟨nd, rfl⟩⟩; refine ⟨_, rfl, ?_⟩))
     go_ret
     exact ⟨by first | rfl | (simp [errW_none, errW_some] <;> rfl) | (simp only [← hji3]; first | rfl | (simp [errW_none, errW_some] <;> rfl)) | (simp [*, errW_none, errW_some] <;> rfl), zB HB.out⟩
   have c10b0 : decide (ta4 < ta3) = false := decide_eq_false c10
   clear c10
   have H' := zk H
   clear H
   go_wp2_with (first | ((with_reducible refine gC 119 ?_); refine zG (some 18) Try.func119 #[.slice A0 l0.length c0, .int .i64 x5_1] ?_; (with_reducible refine (r1_limb.calls _ _ l0 x5_1 ta1 _ ?side1 ?side2 A5.out).mono ?_); (case side1 => exact zC (Kd.C_below HR0.out HB.out)); (case side2 => exact HC0.out); rintro e w' ⟨rfl, ⟨nd, rfl⟩⟩; refine ⟨_, rfl, ?_⟩) | ((with_reducible refine gC 119 ?_); refine zG (some 21) Try.func119 #[.slice A1 l1.length c1, .int .i64 x5_1] ?_; (with_reducible refine (r1_limb.calls _ _ l1 x5_1 ta2 _ ?side1 ?side2 A6.out).mono ?_); (case side1 => exact zC (Kd.C_below HR1.out (zB HB.out))); (case side2 => exact HC1.out); rintro e w' ⟨rfl, ⟨nd, rfl⟩⟩; refine ⟨_, rfl, ?_⟩) | ((with_reducible refine gC 119 ?_); refine zG (some 25) Try.func119 #[.slice A0 l0.length c0, .int .i64 x5_1] ?_; (with_reducible refine (r1_limb.calls _ _ l0 x5_1 ta3 _ ?side1 ?side2 A8.out).mono ?_); (case side1 => exact zC (Kd.C_below HR0.out (zB HB.out))); (case side2 => exact HC0.out); rintro e w' ⟨rfl, ⟨nd, rfl⟩⟩; refine ⟨_, rfl, ?_⟩) | ((with_reducible refine gC 119 ?_); refine zG (some 28) Try.func119 #[.slice A1 l1.length c1, .int .i64 x5_1] ?_; (with_reducible refine (r1_limb.calls _ _ l1 x5_1 ta4 _ ?side1 ?side2 A9.out).mono ?_); (case side1 => exact zC (Kd.C_below HR1.out (zB HB.out))); (case side2 => exact HC1.out); rintro e w' ⟨rfl, ⟨nd, rfl⟩⟩; refine ⟨_, rfl, ?_⟩))
   go_roundg k1
   case measure => have := HK1.out; omega
   case rel => exact ⟨(wrap64 (x5_1 - 1)), zF, H', ⟨zo1 HK1⟩, ⟨zB HB.out⟩⟩
 have c4b0 : decide (0 ≤ x5_1) = false := decide_eq_false c4
 clear c4
 obtain rfl := Option.some.inj H
 go_wp2
 go_ret
 exact ⟨by first | rfl | (simp [errW_none, errW_some] <;> rfl) | (simp only [← hji3]; first | rfl | (simp [errW_none, errW_some] <;> rfl)) | (simp [*, errW_none, errW_some] <;> rfl), zB HB.out⟩
set_option maxHeartbeats 8000000 in
set_option maxRecDepth 100000 in
theorem r1_Add.calls (k : Nat) (A0 : Option Addr) (c0 : Nat) (l0 : List Int) (A1 : Option Addr) (c1 : Nat) (l1 : List Int) (r : List Int) (w : World) (hr0 : Kd.C (Kd.int .u32) w A0 l0.length l0) (hc0 : l0.length ≤ c0) (hr1 : Kd.C (Kd.int .u32) w A1 l1.length l1) (hc1 : l1.length ≤ c1) (h : r1_Add.f k l0 l1 = some r) :
    Calls Try.prog 86 #[.slice A0 l0.length c0, .slice A1 l1.length c1] w fun e w' => ∃ v0_ : Value, e = .returned (v0_) ∧ Kd.R (Kd.int .u32) 97 w' w.heap.size (fun _ => True) v0_ r ∧ Below w.heap.size w w' := by
 have HR0 := zk hr0
 have HC0 := zk hc0
 clear hr0 hc0
 have HR1 := zk hr1
 have HC1 := zk hc1
 clear hr1 hc1
 have HB := zk (Below.refl w.heap.size w)
 have H := h
 clear h
 unfold r1_Add.f at H
 have H' := zk H
 clear H
 go_enter Try.func86, Try.ntmps86
 go_wp2
 go_loopg [5, 6, 7] k (fun kq v5 v6 v7 w' => ∃ (x5_1 : List Int) (x6_1 : Int) (x7_1 : Int), v6 = .int .u64 x6_1 ∧ v7 = .int .i64 x7_1 ∧ Aside0 (r1_Add.l0 kq l0 l1 x5_1 x6_1 x7_1 = some r) ∧ Aside0 (kq ≤ k) ∧ Aside0 (Kd.R (Kd.int .u32) 97 w' w.heap.size (fun _ => True) v5 x5_1) ∧ Aside0 (Below w.heap.size w w'))
 case atStart => exact ⟨(([] : List Int)), (0), (0), zF, zF, H', ⟨Nat.le_refl _⟩, ⟨z0⟩, ⟨zB HB.out⟩⟩
 clear H'
 obtain ⟨x5_1, x6_1, x7_1, rfl, rfl, HA, HK1, HO_5, HB⟩ := hrel
 cases gk with | zero => exact absurd HA.out (by simp [r1_Add.l0]) | succ k1 => ?_
 have H := HA.out
 clear HA
 simp only [r1_Add.l0] at H
 have HC3 := zk H
 clear H
 go_upto_region 4 with (fail)
 go_cut [22] (fun v22 wc => ∃ (kq : Nat) (x22_2 : Bool), v22 = .bool x22_2 ∧ Aside0 (r1_Add.j1 kq l0 l1 x5_1 x6_1 x7_1 x22_2 = some r) ∧ Aside0 (kq ≤ k1) ∧ Aside0 (Kd.R (Kd.int .u32) 97 wc w.heap.size (fun _ => True) u5 x5_1) ∧ Aside0 (Below w.heap.size w wc))
 case first =>
  have H := HC3.out
  clear HC3
  replace H := zid H
  rcases H with ⟨c4b0, H⟩ | ⟨c4b0, H⟩
  · (first | rw [c4b0] | (simp only [i64_w, i32_w]; rw [c4b0]) | rw [c4b1] | skip)
    have H' := zk H
    clear H
    go_wp2
    go_meet
    case rel => exact ⟨_, (true), zF, H', ⟨by have := HK1.out; first | omega | exact Nat.le_refl _⟩, ⟨zR HO_5.out⟩, ⟨zB HB.out⟩⟩
  (first | rw [c4b0] | (simp only [i64_w, i32_w]; rw [c4b0]) | rw [c4b1] | skip)
  replace H := zid H
  rcases H with ⟨c5b0, H⟩ | ⟨c5b0, H⟩
  · have H' := zk H
    clear H
    go_wp2
    go_meet
    case rel => exact ⟨_, (true), zF, H', ⟨by have := HK1.out; first | omega | exact Nat.le_refl _⟩, ⟨zR HO_5.out⟩, ⟨zB HB.out⟩⟩
  have H' := zk H
  clear H
  go_wp2
  go_meet
  case rel => exact ⟨_, (decide (x6_1 > 0)), zF, H', ⟨by have := HK1.out; first | omega | exact Nat.le_refl _⟩, ⟨zR HO_5.out⟩, ⟨zB HB.out⟩⟩
 clear HC3
 (try clear c4b0);(try clear c5b0)
 obtain ⟨kq, x22_2, rfl, HA, HJ2, HO_5, HB⟩ := hcut
 cases kq with | zero => exact absurd HA.out (by simp [r1_Add.j1]) | succ kj2 => ?_
 have H := HA.out
 clear HA
 simp only [r1_Add.j1] at H
 by_cases c6 : x22_2 = true
 · subst c6
   rw [if_pos rfl] at H
   replace H := zb H
   obtain ⟨ta1, A7, H⟩ := H
   replace H := zb H
   obtain ⟨ta2, A8, H⟩ := H
   replace H := zg H
   obtain ⟨c9, H⟩ := H
   have LMc9 := zk c9
   clear c9
   obtain ⟨ya3, hya3⟩ : ∃ y_ : List Int, y_ = (x5_1 ++ [(Int.tmod (IntKind.u64.wrap ((IntKind.u64.wrap (ta1 + ta2)) + x6_1)) 4294967296) % 4294967296]) := ⟨_, rfl⟩
   replace H : (r1_Add.l0 kj2 l0 l1 ya3 (IntKind.u64.wrap (Int.tdiv (IntKind.u64.wrap ((IntKind.u64.wrap (ta1 + ta2)) + x6_1)) 4294967296)) (wrap64 (x7_1 + 1))) = some r := zY hya3 H
   have Nya3 := zk hya3
   clear hya3
   have H' := zk H
   clear H
   go_wp2_with (first | ((with_reducible refine gC 119 ?_); refine zG (some 27) Try.func119 #[.slice A0 l0.length c0, .int .i64 x7_1] ?_; (with_reducible refine (r1_limb.calls _ _ l0 x7_1 ta1 _ ?side1 ?side2 A7.out).mono ?_); (case side1 => exact zC (Kd.C_below HR0.out HB.out)); (case side2 => exact HC0.out); rintro e w' ⟨rfl, ⟨nd, rfl⟩⟩; refine ⟨_, rfl, ?_⟩) | ((with_reducible refine gC 119 ?_); refine zG (some 30) Try.func119 #[.slice A1 l1.length c1, .int .i64 x7_1] ?_; (with_reducible refine (r1_limb.calls _ _ l1 x7_1 ta2 _ ?side1 ?side2 A8.out).mono ?_); (case side1 => exact zC (Kd.C_below HR1.out (zB HB.out))); (case side2 => exact HC1.out); rintro e w' ⟨rfl, ⟨nd, rfl⟩⟩; refine ⟨_, rfl, ?_⟩) | ((with_reducible refine gate_builtin (b := .append) (xs := #[.tmp 34, .tmp 38]) rfl ?_); (try (refine gate_guard (by rfl) ?_; dsimp only)); at_builtin; refine Kd.R_append (Kd.int .u32) (w0 := w) w.heap.size rfl (.tmp 34) (.tmp 38) 29 97 (.int .u32 0) 4 rfl Try.underlying29 info97 rfl (by decide) (by omega) u5 x5_1 ((Int.tmod (IntKind.u64.wrap ((IntKind.u64.wrap (ta1 + ta2)) + x6_1)) 4294967296) % 4294967296) [.int .u32 ((Int.tmod (IntKind.u64.wrap ((IntKind.u64.wrap (ta1 + ta2)) + x6_1)) 4294967296) % 4294967296)] (fun _ => True) (fun _ => False) rfl rfl ?aP (fun _ hk => hk.elim) ?aF ?aO ?aB ?aS ?aL ?_; (case aP => exact rfl); (case aB => exact (zB HB.out)); (case aF => exact (fun _ _ => trivial)); (case aO => exact (zR HO_5.out)); (case aS => exact (below_size (zB HB.out))); (case aL => have := LMc9.out; omega); intro va4 w10 ho hb hg hat; rw [← Nya3.out] at ho; replace HB := zk (hb); have HOa5 := zk (ho); clear HO_5; clear ho hb hg hat))
   go_roundg kj2
   case measure => have := HK1.out; have := HJ2.out; omega
   case rel => exact ⟨(ya3), (IntKind.u64.wrap (Int.tdiv (IntKind.u64.wrap ((IntKind.u64.wrap (ta1 + ta2)) + x6_1)) 4294967296)), (wrap64 (x7_1 + 1)), zF, zF, H', ⟨zo2 HK1 HJ2⟩, ⟨zR HOa5.out⟩, ⟨zB HB.out⟩⟩
 replace c6 := Bool.eq_false_iff.mpr c6
 subst c6
 rw [if_neg Bool.false_ne_true] at H
 replace H := zb H
 obtain ⟨ta6, A11, H⟩ := H
 obtain rfl := Option.some.inj H
 obtain ⟨Ao12, co12, rfl⟩ := Kd.R_slice HO_5.out
 go_wp2_with (first | ((with_reducible refine gC 75 ?_); refine zG (some 43) Try.func75 #[.slice Ao12 x5_1.length co12] ?_; (with_reducible refine (r1_Trim.calls kj2 _ _ x5_1 ta6 _ ?side1 ?side2 A11.out).mono ?_); (case side1 => exact zC (Kd.R_reads' HO_5.out).2.2); (case side2 => exact (Kd.R_reads' HO_5.out).2.1); rintro e w13 ⟨va7, rfl, ho0, hb⟩; refine ⟨_, rfl, ?_⟩; replace ho0 := yn ho0 HO_5; have HOa8 := yRl ho0 HB; replace HO_5 := yRe HO_5 ho0 hb; replace HB := yS HB hb; (try clear hb ho0)))
 go_ret
 exact ⟨_, zE, by (with_reducible repeat (first | apply Kd.R_alloc | apply Kd.R_drewN | apply Kd.R_drew)); exact Kd.R_mono HOa8.out (fun _ hk => trivial), zB HB.out⟩
set_option maxHeartbeats 8000000 in
set_option maxRecDepth 100000 in
theorem r1_Sub.calls (k : Nat) (A0 : Option Addr) (c0 : Nat) (l0 : List Int) (A1 : Option Addr) (c1 : Nat) (l1 : List Int) (r : List Int) (w : World) (hr0 : Kd.C (Kd.int .u32) w A0 l0.length l0) (hc0 : l0.length ≤ c0) (hr1 : Kd.C (Kd.int .u32) w A1 l1.length l1) (hc1 : l1.length ≤ c1) (h : r1_Sub.f k l0 l1 = some r) :
    Calls Try.prog 100 #[.slice A0 l0.length c0, .slice A1 l1.length c1] w fun e w' => ∃ v0_ : Value, e = .returned (v0_) ∧ Kd.R (Kd.int .u32) 97 w' w.heap.size (fun _ => True) v0_ r ∧ Below w.heap.size w w' := by
 have HR0 := zk hr0
 have HC0 := zk hc0
 clear hr0 hc0
 have HR1 := zk hr1
 have HC1 := zk hc1
 clear hr1 hc1
 have HB := zk (Below.refl w.heap.size w)
 have H := h
 clear h
 unfold r1_Sub.f at H
 have H' := zk H
 clear H
 go_enter Try.func100, Try.ntmps100
 go_wp2
 go_loopg [5, 6, 7] k (fun kq v5 v6 v7 w' => ∃ (x5_1 : List Int) (x6_1 : Int) (x7_1 : Int), v6 = .int .u64 x6_1 ∧ v7 = .int .i64 x7_1 ∧ Aside0 (r1_Sub.l0 kq l0 l1 x5_1 x6_1 x7_1 = some r) ∧ Aside0 (kq ≤ k) ∧ Aside0 (Kd.R (Kd.int .u32) 97 w' w.heap.size (fun _ => True) v5 x5_1) ∧ Aside0 (Below w.heap.size w w'))
 case atStart => exact ⟨(([] : List Int)), (0), (0), zF, zF, H', ⟨Nat.le_refl _⟩, ⟨z0⟩, ⟨zB HB.out⟩⟩
 clear H'
 obtain ⟨x5_1, x6_1, x7_1, rfl, rfl, HA, HK1, HO_5, HB⟩ := hrel
 cases gk with | zero => exact absurd HA.out (by simp [r1_Sub.l0]) | succ k1 => ?_
 have H := HA.out
 clear HA
 simp only [r1_Sub.l0] at H
 replace H := zid H
 rcases H with ⟨c3b0, H⟩ | ⟨c3b0, H⟩
 · replace H := zb H
   obtain ⟨ta1, A4, H⟩ := H
   replace H := zb H
   obtain ⟨ta2, A5, H⟩ := H
   replace H := zg H
   obtain ⟨c6, H⟩ := H
   have LMc6 := zk c6
   clear c6
   obtain ⟨ya3, hya3⟩ : ∃ y_ : List Int, y_ = (x5_1 ++ [(Int.tmod (IntKind.u64.wrap ((IntKind.u64.wrap ((IntKind.u64.wrap (ta1 + 4294967296)) - ta2)) - x6_1)) 4294967296) % 4294967296]) := ⟨_, rfl⟩
   replace H : (r1_Sub.l0 k1 l0 l1 ya3 (IntKind.u64.wrap (1 - (IntKind.u64.wrap (Int.tdiv (IntKind.u64.wrap ((IntKind.u64.wrap ((IntKind.u64.wrap (ta1 + 4294967296)) - ta2)) - x6_1)) 4294967296)))) (wrap64 (x7_1 + 1))) = some r := zY hya3 H
   have Nya3 := zk hya3
   clear hya3
   have H' := zk H
   clear H
   go_wp2_with (first | ((with_reducible refine gC 119 ?_); refine zG (some 17) Try.func119 #[.slice A0 l0.length c0, .int .i64 x7_1] ?_; (with_reducible refine (r1_limb.calls _ _ l0 x7_1 ta1 _ ?side1 ?side2 A4.out).mono ?_); (case side1 => exact zC (Kd.C_below HR0.out HB.out)); (case side2 => exact HC0.out); rintro e w' ⟨rfl, ⟨nd, rfl⟩⟩; refine ⟨_, rfl, ?_⟩) | ((with_reducible refine gC 119 ?_); refine zG (some 21) Try.func119 #[.slice A1 l1.length c1, .int .i64 x7_1] ?_; (with_reducible refine (r1_limb.calls _ _ l1 x7_1 ta2 _ ?side1 ?side2 A5.out).mono ?_); (case side1 => exact zC (Kd.C_below HR1.out (zB HB.out))); (case side2 => exact HC1.out); rintro e w' ⟨rfl, ⟨nd, rfl⟩⟩; refine ⟨_, rfl, ?_⟩) | ((with_reducible refine gate_builtin (b := .append) (xs := #[.tmp 25, .tmp 29]) rfl ?_); at_builtin; refine Kd.R_append (Kd.int .u32) (w0 := w) w.heap.size rfl (.tmp 25) (.tmp 29) 29 97 (.int .u32 0) 4 rfl Try.underlying29 info97 rfl (by decide) (by omega) u5 x5_1 ((Int.tmod (IntKind.u64.wrap ((IntKind.u64.wrap ((IntKind.u64.wrap (ta1 + 4294967296)) - ta2)) - x6_1)) 4294967296) % 4294967296) [.int .u32 ((Int.tmod (IntKind.u64.wrap ((IntKind.u64.wrap ((IntKind.u64.wrap (ta1 + 4294967296)) - ta2)) - x6_1)) 4294967296) % 4294967296)] (fun _ => True) (fun _ => False) rfl rfl ?aP (fun _ hk => hk.elim) ?aF ?aO ?aB ?aS ?aL ?_; (case aP => exact rfl); (case aB => exact (zB HB.out)); (case aF => exact (fun _ _ => trivial)); (case aO => exact (zR HO_5.out)); (case aS => exact (below_size (zB HB.out))); (case aL => have := LMc6.out; omega); intro va4 w7 ho hb hg hat; rw [← Nya3.out] at ho; replace HB := zk (hb); have HOa5 := zk (ho); clear HO_5; clear ho hb hg hat))
   go_roundg k1
   case measure => have := HK1.out; omega
   case rel => exact ⟨(ya3), (IntKind.u64.wrap (1 - (IntKind.u64.wrap (Int.tdiv (IntKind.u64.wrap ((IntKind.u64.wrap ((IntKind.u64.wrap (ta1 + 4294967296)) - ta2)) - x6_1)) 4294967296)))), (wrap64 (x7_1 + 1)), zF, zF, H', ⟨zo1 HK1⟩, ⟨zR HOa5.out⟩, ⟨zB HB.out⟩⟩
 replace H := zb H
 obtain ⟨ta6, A8, H⟩ := H
 obtain rfl := Option.some.inj H
 obtain ⟨Ao9, co9, rfl⟩ := Kd.R_slice HO_5.out
 go_wp2_with (first | ((with_reducible refine gC 75 ?_); refine zG (some 35) Try.func75 #[.slice Ao9 x5_1.length co9] ?_; (with_reducible refine (r1_Trim.calls k1 _ _ x5_1 ta6 _ ?side1 ?side2 A8.out).mono ?_); (case side1 => exact zC (Kd.R_reads' HO_5.out).2.2); (case side2 => exact (Kd.R_reads' HO_5.out).2.1); rintro e w10 ⟨va7, rfl, ho0, hb⟩; refine ⟨_, rfl, ?_⟩; replace ho0 := yn ho0 HO_5; have HOa8 := yRl ho0 HB; replace HO_5 := yRe HO_5 ho0 hb; replace HB := yS HB hb; (try clear hb ho0)))
 go_ret
 exact ⟨_, zE, by (with_reducible repeat (first | apply Kd.R_alloc | apply Kd.R_drewN | apply Kd.R_drew)); exact Kd.R_mono HOa8.out (fun _ hk => trivial), zB HB.out⟩
set_option maxHeartbeats 8000000 in
set_option maxRecDepth 100000 in
theorem r1_shift.calls (k : Nat) (A0 : Option Addr) (c0 : Nat) (l0 : List Int) (a1 : Int) (r : List Int) (w : World) (hr0 : Kd.C (Kd.int .u32) w A0 l0.length l0) (hc0 : l0.length ≤ c0) (h : r1_shift.f k l0 a1 = some r) :
    Calls Try.prog 136 #[.slice A0 l0.length c0, .int .i64 a1] w fun e w' => ∃ v0_ : Value, e = .returned (v0_) ∧ Kd.R (Kd.int .u32) 97 w' w.heap.size (fun _ => True) v0_ r ∧ Below w.heap.size w w' := by
 have HR0 := zk hr0
 have HC0 := zk hc0
 clear hr0 hc0
 have HB := zk (Below.refl w.heap.size w)
 have H := h
 clear h
 unfold r1_shift.f at H
 obtain ⟨ji3, hji3⟩ : ∃ j_ : Int, (wrap64 (Int.tdiv a1 32)) = j_ := ⟨_, rfl⟩
 replace H : (if 0 ≤ (ji3) then (if (ji3 : Int).toNat ≤ 70368744177664 then (r1_shift.l0 k l0 a1 (List.replicate (ji3 : Int).toNat 0) 0 0) else (none)) else (none)) = some r := by first | (rw [hji3] at H; exact H) | (simp only [hji3] at H ⊢; exact H)
 have hji3w : (IntKind.i64.wrap (Int.tdiv a1 32)) = ji3 := (i64_w _).trans hji3
 replace H := zg H
 obtain ⟨c4, H⟩ := H
 have c4b0 := eq_true c4
 have c4b1 := decide_eq_true c4
 clear c4
 replace H := zg H
 obtain ⟨c5, H⟩ := H
 have c5b0 := eq_true c5
 have c5b1 := decide_eq_true c5
 clear c5
 obtain ⟨ya1, hya1⟩ : ∃ y_ : List Int, y_ = (List.replicate (ji3 : Int).toNat 0) := ⟨_, rfl⟩
 replace H : (r1_shift.l0 k l0 a1 ya1 0 0) = some r := zY hya1 H
 have Nya1 := zk hya1
 clear hya1
 have H' := zk H
 clear H
 go_enter Try.func136, Try.ntmps136
 go_wp2_with (first | ((with_reducible refine gate_dst (N := 11) rfl ?_); refine Kd.R_make (Kd.int .u32) _ 97 rfl (N := 11) rfl 29 _ _ rfl ji3 rfl rfl Try.underlying29 (.int .u32 0) 4 info97 rfl (by decide) (by omega) 0 (ok := fun _ => True) (okp := fun _ => True) rfl (fun _ hk => hk) trivial zd (Nat.le_trans (Nat.mul_le_mul_right _ (zd : ji3.toNat ≤ 70368744177664)) (by omega)) (Below.refl _ _) (Nat.le_refl _) ?_; intro va2 w6 ho7 hb hg_ hnew_; clear hg_ hnew_; (first | rw [← Nya1.out] at ho7 | (simp only [Int.reduceToNat] at ho7; rw [← Nya1.out] at ho7)); have HOa3 := yRl ho7 HB; replace HB := yS HB hb; clear hb ho7))
 go_loopg [5, 6, 7] k (fun kq v5 v6 v7 w' => ∃ (x5_1 : List Int) (x6_1 : Int) (x7_1 : Int), v6 = .int .u64 x6_1 ∧ v7 = .int .i64 x7_1 ∧ Aside0 (r1_shift.l0 kq l0 a1 x5_1 x6_1 x7_1 = some r) ∧ Aside0 (kq ≤ k) ∧ Aside0 (Kd.R (Kd.int .u32) 97 w' w.heap.size (fun _ => True) v5 x5_1) ∧ Aside0 (Below w.heap.size w w'))
 case atStart => exact ⟨(ya1), (0), (0), zF, zF, H', ⟨Nat.le_refl _⟩, ⟨zR HOa3.out⟩, ⟨zB HB.out⟩⟩
 clear H'
 (try clear c4);(try clear c4b0);(try clear c4b1);(try clear c5);(try clear c5b0);(try clear c5b1)
 obtain ⟨x5_1, x6_1, x7_1, rfl, rfl, HA, HK1, HO_5, HB⟩ := hrel
 cases gk with | zero => exact absurd HA.out (by simp [r1_shift.l0]) | succ k1 => ?_
 have H := HA.out
 clear HA
 simp only [r1_shift.l0] at H
 replace H := zid H
 rcases H with ⟨c8b0, H⟩ | ⟨c8b0, H⟩
 · replace H := zgd H
   obtain ⟨c9b0, H⟩ := H
   obtain ⟨ji10, hji10⟩ : ∃ j_ : Int, (Int.tmod a1 32) = j_ := ⟨_, rfl⟩
   replace H : (if 0 ≤ (ji10) then (if x5_1.length < 35184372088832 then (r1_shift.l0 k1 l0 a1 (x5_1 ++ [(Int.tmod (IntKind.u64.wrap ((shl .u64 (IntKind.u64.wrap (rd l0 x7_1)) (ji10)) + x6_1)) 4294967296) % 4294967296]) (IntKind.u64.wrap (Int.tdiv (IntKind.u64.wrap ((shl .u64 (IntKind.u64.wrap (rd l0 x7_1)) (ji10)) + x6_1)) 4294967296)) (wrap64 (x7_1 + 1))) else (none)) else (none)) = some r := by first | (rw [hji10] at H; exact H) | (simp only [hji10] at H ⊢; exact H)
   replace H := zg H
   obtain ⟨c11, H⟩ := H
   have c11b0 := eq_true c11
   have c11b1 := decide_eq_true c11
   clear c11
   obtain ⟨ji12, hji12⟩ : ∃ j_ : Int, (shl .u64 (IntKind.u64.wrap (rd l0 x7_1)) (ji10)) = j_ := ⟨_, rfl⟩
   replace H : (if x5_1.length < 35184372088832 then (r1_shift.l0 k1 l0 a1 (x5_1 ++ [(Int.tmod (IntKind.u64.wrap ((ji12) + x6_1)) 4294967296) % 4294967296]) (IntKind.u64.wrap (Int.tdiv (IntKind.u64.wrap ((ji12) + x6_1)) 4294967296)) (wrap64 (x7_1 + 1))) else (none)) = some r := by first | (rw [hji12] at H; exact H) | (simp only [hji12] at H ⊢; exact H)
   have hji12_ : (IntKind.u64.wrap ((IntKind.u64.wrap (rd l0 x7_1)) * 2 ^ min (ji10).toNat 64)) = ji12 := hji12
   have hji12z : (ji10) ≤ 64 → (IntKind.u64.wrap ((IntKind.u64.wrap (rd l0 x7_1)) * 2 ^ (ji10).toNat)) = ji12 := shl_small hji12
   replace H := zg H
   obtain ⟨c13, H⟩ := H
   have LMc13 := zk c13
   clear c13
   obtain ⟨ya5, hya5⟩ : ∃ y_ : List Int, y_ = (x5_1 ++ [(Int.tmod (IntKind.u64.wrap ((ji12) + x6_1)) 4294967296) % 4294967296]) := ⟨_, rfl⟩
   replace H : (r1_shift.l0 k1 l0 a1 ya5 (IntKind.u64.wrap (Int.tdiv (IntKind.u64.wrap ((ji12) + x6_1)) 4294967296)) (wrap64 (x7_1 + 1))) = some r := zY hya5 H
   have Nya5 := zk hya5
   clear hya5
   have H' := zk H
   clear H
   have pa4 : 0 ≤ (x7_1 : Int) := zd
   have qa4 : x7_1 < (l0.length : Int) := zd
   obtain ⟨ada4, ea4, hxa4_0⟩ := Kd.at_int HR0.out x7_1 pa4 qa4
   cases ea4
   replace hxa4_0 := (HB.out.cell (World.block_lt_of_cell? w _ hxa4_0)).trans hxa4_0
   replace pa4 := eq_true pa4
   replace qa4 := eq_true qa4
   go_wp2_with (first | ((with_reducible refine gate_builtin (b := .append) (xs := #[.tmp 28, .tmp 32]) rfl ?_); at_builtin; refine Kd.R_append (Kd.int .u32) (w0 := w) w.heap.size rfl (.tmp 28) (.tmp 32) 29 97 (.int .u32 0) 4 rfl Try.underlying29 info97 rfl (by decide) (by omega) u5 x5_1 ((Int.tmod (IntKind.u64.wrap ((ji12) + x6_1)) 4294967296) % 4294967296) [.int .u32 ((Int.tmod (IntKind.u64.wrap ((ji12) + x6_1)) 4294967296) % 4294967296)] (fun _ => True) (fun _ => False) rfl rfl ?aP (fun _ hk => hk.elim) ?aF ?aO ?aB ?aS ?aL ?_; (case aP => exact rfl); (case aB => exact (zB HB.out)); (case aF => exact (fun _ _ => trivial)); (case aO => exact (zR HO_5.out)); (case aS => exact (below_size (zB HB.out))); (case aL => have := LMc13.out; omega); intro va6 w14 ho hb hg hat; rw [← Nya5.out] at ho; replace HB := zk (hb); have HOa7 := zk (ho); clear HO_5; clear ho hb hg hat))
   go_roundg k1
   case measure => have := HK1.out; omega
   case rel => exact ⟨(ya5), (IntKind.u64.wrap (Int.tdiv (IntKind.u64.wrap ((ji12) + x6_1)) 4294967296)), (wrap64 (x7_1 + 1)), (by first | rfl | (simp; done) | (simp only [← hji12] <;> (first | rfl | simp)) | (simp [*]; done)), zF, H', ⟨zo1 HK1⟩, ⟨zR HOa7.out⟩, ⟨zB HB.out⟩⟩
 replace H := zg H
 obtain ⟨c15, H⟩ := H
 have LMc15 := zk c15
 clear c15
 obtain ⟨ya8, hya8⟩ : ∃ y_ : List Int, y_ = (x5_1 ++ [(x6_1) % 4294967296]) := ⟨_, rfl⟩
 replace H : ((r1_Trim.f k1 ya8).bind fun tb1 => (some tb1)) = some r := zY hya8 H
 have Nya8 := zk hya8
 clear hya8
 replace H := zb H
 obtain ⟨tb1, A16, H⟩ := H
 obtain rfl := Option.some.inj H
 go_wp2_with (first | ((with_reducible refine gate_builtin (b := .append) (xs := #[.tmp 36, .tmp 39]) rfl ?_); at_builtin; refine Kd.R_append (Kd.int .u32) (w0 := w) w.heap.size rfl (.tmp 36) (.tmp 39) 29 97 (.int .u32 0) 4 rfl Try.underlying29 info97 rfl (by decide) (by omega) u5 x5_1 ((x6_1) % 4294967296) [.int .u32 ((x6_1) % 4294967296)] (fun _ => True) (fun _ => False) rfl rfl ?aP (fun _ hk => hk.elim) ?aF ?aO ?aB ?aS ?aL ?_; (case aP => exact rfl); (case aB => exact (zB HB.out)); (case aF => exact (fun _ _ => trivial)); (case aO => exact (zR HO_5.out)); (case aS => exact (below_size (zB HB.out))); (case aL => have := LMc15.out; omega); intro va9 w17 ho hb hg hat; rw [← Nya8.out] at ho; replace HB := zk (hb); have HOb0 := zk (ho); clear HO_5; clear ho hb hg hat; obtain ⟨Ao18, co18, rfl⟩ := Kd.R_slice HOb0.out) | ((with_reducible refine gC 75 ?_); refine zG (some 41) Try.func75 #[.slice Ao18 ya8.length co18] ?_; (with_reducible refine (r1_Trim.calls k1 _ _ ya8 tb1 _ ?side1 ?side2 A16.out).mono ?_); (case side1 => exact zC (Kd.R_reads' HOb0.out).2.2); (case side2 => exact (Kd.R_reads' HOb0.out).2.1); rintro e w19 ⟨vb2, rfl, ho0, hb⟩; refine ⟨_, rfl, ?_⟩; replace ho0 := yn ho0 HOb0; have HOb3 := yRl ho0 HB; replace HOb0 := yRe HOb0 ho0 hb; replace HB := yS HB hb; (try clear hb ho0)))
 go_ret
 exact ⟨_, by first | rfl | (simp [errW_none, errW_some] <;> rfl) | (simp only [← hji3]; first | rfl | (simp [errW_none, errW_some] <;> rfl)) | (simp [*, errW_none, errW_some] <;> rfl), by (with_reducible repeat (first | apply Kd.R_alloc | apply Kd.R_drewN | apply Kd.R_drew)); exact Kd.R_mono HOb3.out (fun _ hk => trivial), zB HB.out⟩
set_option maxHeartbeats 8000000 in
set_option maxRecDepth 100000 in
theorem r1_DivMod.calls (k : Nat) (A0 : Option Addr) (c0 : Nat) (l0 : List Int) (A1 : Option Addr) (c1 : Nat) (l1 : List Int) (r1 : List Int) (r2 : List Int) (w : World) (hr0 : Kd.C (Kd.int .u32) w A0 l0.length l0) (hc0 : l0.length ≤ c0) (hr1 : Kd.C (Kd.int .u32) w A1 l1.length l1) (hc1 : l1.length ≤ c1) (h : r1_DivMod.f k l0 l1 = some (r1, r2)) :
    Calls Try.prog 123 #[.slice A0 l0.length c0, .slice A1 l1.length c1] w fun e w' => ∃ v0_ v1_ : Value, e = .returned (.tuple #[v0_, v1_]) ∧ Kd.R (Kd.int .u32) 97 w' w.heap.size (fun k_ => some k_ ≠ (v1_ : Value).ownBlock) v0_ r1 ∧ Kd.R (Kd.int .u32) 97 w' w.heap.size (fun k_ => some k_ ≠ (v0_ : Value).ownBlock) v1_ r2 ∧ Below w.heap.size w w' := by
 have HR0 := zk hr0
 have HC0 := zk hc0
 clear hr0 hc0
 have HR1 := zk hr1
 have HC1 := zk hc1
 clear hr1 hc1
 have HB := zk (Below.refl w.heap.size w)
 have H := h
 clear h
 unfold r1_DivMod.f at H
 replace H := zb H
 obtain ⟨ta1, A3, H⟩ := H
 replace H := zb H
 obtain ⟨ta4, A4, H⟩ := H
 replace H := zb H
 obtain ⟨ta5, A5, H⟩ := H
 have H' := zk H
 clear H
 go_enter Try.func123, Try.ntmps123
 go_wp2_with (first | ((with_reducible refine gC 75 ?_); refine zG (some 10) Try.func75 #[.slice A0 l0.length c0] ?_; (with_reducible refine (r1_Trim.calls k _ _ l0 ta1 _ ?side1 ?side2 A3.out).mono ?_); (case side1 => exact zC HR0.out); (case side2 => exact HC0.out); rintro e w6 ⟨va2, rfl, ho0, hb⟩; refine ⟨_, rfl, ?_⟩; have HOa3 := yRl ho0 HB; replace HB := yS HB hb; (try clear hb ho0)) | ((with_reducible refine gC 76 ?_); refine zG (some 12) Try.func76 #[.slice A0 l0.length c0] ?_; (with_reducible refine (r1_Bits.calls k _ _ l0 ta4 _ ?side1 ?side2 A4.out).mono ?_); (case side1 => exact zC (Kd.C_below HR0.out HB.out)); (case side2 => exact HC0.out); rintro e w7 ⟨rfl, hb⟩; refine ⟨_, rfl, ?_⟩; replace HOa3 := yRb HOa3 hb; replace HB := yS HB hb; (try clear hb); (try clear hb2); (try clear hk); (try clear hi)) | ((with_reducible refine gC 76 ?_); refine zG (some 14) Try.func76 #[.slice A1 l1.length c1] ?_; (with_reducible refine (r1_Bits.calls k _ _ l1 ta5 _ ?side1 ?side2 A5.out).mono ?_); (case side1 => exact zC (Kd.C_below HR1.out HB.out)); (case side2 => exact HC1.out); rintro e w8 ⟨rfl, hb⟩; refine ⟨_, rfl, ?_⟩; replace HOa3 := yRb HOa3 hb; replace HB := yS HB hb; (try clear hb); (try clear hb2); (try clear hk); (try clear hi)))
 go_loopg [4, 5, 7] k (fun kq v4 v5 v7 w' => ∃ (x4_1 : List Int) (x5_1 : List Int) (x7_1 : Int), v7 = .int .i64 x7_1 ∧ Aside0 (r1_DivMod.l0 kq l1 x4_1 x5_1 x7_1 = some (r1, r2)) ∧ Aside0 (kq ≤ k) ∧ Aside0 (Kd.R (Kd.int .u32) 97 w' w.heap.size (fun k_ => some k_ ≠ (v5 : Value).ownBlock) v4 x4_1) ∧ Aside0 (Kd.R (Kd.int .u32) 97 w' w.heap.size (fun k_ => some k_ ≠ (v4 : Value).ownBlock) v5 x5_1) ∧ Aside0 (Below w.heap.size w w'))
 case atStart => exact ⟨(([] : List Int)), (ta1), (wrap64 (ta4 - ta5)), zF, H', ⟨Nat.le_refl _⟩, ⟨z0⟩, ⟨by (with_reducible repeat (first | apply Kd.R_alloc | apply Kd.R_drewN | apply Kd.R_drew)); exact Kd.R_mono HOa3.out (fun _ hk => (by simp [Value.ownBlock]))⟩, ⟨zB HB.out⟩⟩
 clear H'
 obtain ⟨x4_1, x5_1, x7_1, rfl, HA, HK1, HO_4, HO_5, HB⟩ := hrel
 cases gk with | zero => exact absurd HA.out (by simp [r1_DivMod.l0]) | succ k1 => ?_
 have H := HA.out
 clear HA
 simp only [r1_DivMod.l0] at H
 replace H := zi H
 rcases H with ⟨c9, H⟩ | ⟨c9, H⟩
 · have c9b0 : decide (0 ≤ x7_1) = true := decide_eq_true c9
   clear c9
   replace H := zb H
   obtain ⟨ta9, A10, H⟩ := H
   replace H := zb H
   obtain ⟨tb2, A11, H⟩ := H
   replace H := zi H
   rcases H with ⟨c12, H⟩ | ⟨c12, H⟩
   · have c12b0 : decide (0 ≤ tb2) = true := decide_eq_true c12
     clear c12
     replace H := zb H
     obtain ⟨tb3, A13, H⟩ := H
     obtain ⟨yb6, hyb6⟩ : ∃ y_ : List Int, y_ = (([1] : List Int)) := ⟨_, rfl⟩
     replace H : ((r1_shift.f k1 yb6 x7_1).bind fun tb9 => ((r1_Add.f k1 x4_1 tb9).bind fun tc2 => (r1_DivMod.l0 k1 l1 tc2 tb3 (wrap64 (x7_1 - 1))))) = some (r1, r2) := zY hyb6 H
     have Nyb6 := zk hyb6
     clear hyb6
     replace H := zb H
     obtain ⟨tb9, A14, H⟩ := H
     replace H := zb H
     obtain ⟨tc2, A15, H⟩ := H
     have H' := zk H
     clear H
     go_wp2_with (first | ((with_reducible refine gC 136 ?_); refine zG (some 23) Try.func136 #[.slice A1 l1.length c1, .int .i64 x7_1] ?_; (with_reducible refine (r1_shift.calls k1 _ _ l1 x7_1 ta9 _ ?side1 ?side2 A10.out).mono ?_); (case side1 => exact zC (Kd.C_below HR1.out HB.out)); (case side2 => exact HC1.out); rintro e w16 ⟨vb0, rfl, ho0, hb⟩; refine ⟨_, rfl, ?_⟩; replace ho0 := yn ho0 HO_4; replace ho0 := yn ho0 HO_5; have HOb1 := yRl ho0 HB; replace HO_4 := yRe HO_4 ho0 hb; replace HO_5 := yRe HO_5 ho0 hb; replace HB := yS HB hb; (try clear hb ho0); obtain ⟨Ao17, co17, rfl⟩ := Kd.R_slice HO_5.out; obtain ⟨Ao18, co18, rfl⟩ := Kd.R_slice HOb1.out) | ((with_reducible refine gC 77 ?_); refine zG (some 26) Try.func77 #[.slice Ao17 x5_1.length co17, .slice Ao18 ta9.length co18] ?_; (with_reducible refine (r1_Cmp.calls k1 _ _ x5_1 _ _ ta9 tb2 _ ?side1 ?side2 ?side3 ?side4 A11.out).mono ?_); (case side1 => exact zC (Kd.R_reads' HO_5.out).2.2); (case side2 => exact (Kd.R_reads' HO_5.out).2.1); (case side3 => exact zC (Kd.R_reads' HOb1.out).2.2); (case side4 => exact (Kd.R_reads' HOb1.out).2.1); rintro e w19 ⟨rfl, hb⟩; refine ⟨_, rfl, ?_⟩; replace HO_4 := yRb HO_4 hb; replace HO_5 := yRb HO_5 hb; replace HOb1 := yRb HOb1 hb; replace HB := yS HB hb; (try clear hb); (try clear hb2); (try clear hk); (try clear hi)) | ((with_reducible refine gC 100 ?_); refine zG (some 30) Try.func100 #[.slice Ao17 x5_1.length co17, .slice Ao18 ta9.length co18] ?_; (with_reducible refine (r1_Sub.calls k1 _ _ x5_1 _ _ ta9 tb3 _ ?side1 ?side2 ?side3 ?side4 A13.out).mono ?_); (case side1 => exact zC (Kd.R_reads' HO_5.out).2.2); (case side2 => exact (Kd.R_reads' HO_5.out).2.1); (case side3 => exact zC (Kd.R_reads' HOb1.out).2.2); (case side4 => exact (Kd.R_reads' HOb1.out).2.1); rintro e w20 ⟨vb4, rfl, ho0, hb⟩; refine ⟨_, rfl, ?_⟩; replace ho0 := yn ho0 HO_4; replace ho0 := yn ho0 HO_5; replace ho0 := yn ho0 HOb1; have HOb5 := yRl ho0 HB; replace HO_4 := yRe HO_4 ho0 hb; replace HO_5 := yRe HO_5 ho0 hb; replace HOb1 := yRe HOb1 ho0 hb; replace HB := yS HB hb; (try clear hb ho0)) | ((with_reducible refine gate_dst (N := 32) rfl ?_); refine Kd.R_lit (Kd.int .u32) _ 97 ?hg (N := 32) ?hd (xs := ([1] : List Int)) (inner := [.int .u32 1]) (ok := fun _ => True) (okp := fun _ => True) ?hr ?hp (fun _ hk => hk) trivial (Below.refl _ _) (Nat.le_refl _) (by simp) ?_; (case hd => rfl); (case hg => rfl); (case hr => first | (go_simp; done) | (go_simp; rfl)); (case hp => exact (Reps.one (show Kd.M (Kd.int .u32) _ _ _ 1 [.int .u32 1] from rfl) (Reps.none _ _))); intro vb7 w21 ho22 hb hg_ hnew_; clear hg_ hnew_; (first | rw [← Nyb6.out] at ho22 | (simp only [Int.reduceToNat] at ho22; rw [← Nyb6.out] at ho22)); replace ho22 := yn ho22 HO_4; replace ho22 := yn ho22 HO_5; replace ho22 := yn ho22 HOb1; replace ho22 := yn ho22 HOb5; have HOb8 := yRl ho22 HB; replace HO_4 := yRe HO_4 ho22 hb; replace HO_5 := yRe HO_5 ho22 hb; replace HOb1 := yRe HOb1 ho22 hb; replace HOb5 := yRe HOb5 ho22 hb; replace HB := yS HB hb; clear hb ho22; obtain ⟨Ao23, co23, rfl⟩ := Kd.R_slice HOb8.out) | ((with_reducible refine gC 136 ?_); refine zG (some 34) Try.func136 #[.slice Ao23 yb6.length co23, .int .i64 x7_1] ?_; (with_reducible refine (r1_shift.calls k1 _ _ yb6 x7_1 tb9 _ ?side1 ?side2 A14.out).mono ?_); (case side1 => exact zC (Kd.R_reads' HOb8.out).2.2); (case side2 => exact (Kd.R_reads' HOb8.out).2.1); rintro e w24 ⟨vc0, rfl, ho0, hb⟩; refine ⟨_, rfl, ?_⟩; replace ho0 := yn ho0 HO_4; replace ho0 := yn ho0 HO_5; replace ho0 := yn ho0 HOb1; replace ho0 := yn ho0 HOb5; replace ho0 := yn ho0 HOb8; have HOc1 := yRl ho0 HB; replace HO_4 := yRe HO_4 ho0 hb; replace HO_5 := yRe HO_5 ho0 hb; replace HOb1 := yRe HOb1 ho0 hb; replace HOb5 := yRe HOb5 ho0 hb; replace HOb8 := yRe HOb8 ho0 hb; replace HB := yS HB hb; (try clear hb ho0); obtain ⟨Ao25, co25, rfl⟩ := Kd.R_slice HO_4.out; obtain ⟨Ao26, co26, rfl⟩ := Kd.R_slice HOc1.out) | ((with_reducible refine gC 86 ?_); refine zG (some 35) Try.func86 #[.slice Ao25 x4_1.length co25, .slice Ao26 tb9.length co26] ?_; (with_reducible refine (r1_Add.calls k1 _ _ x4_1 _ _ tb9 tc2 _ ?side1 ?side2 ?side3 ?side4 A15.out).mono ?_); (case side1 => exact zC (Kd.R_reads' HO_4.out).2.2); (case side2 => exact (Kd.R_reads' HO_4.out).2.1); (case side3 => exact zC (Kd.R_reads' HOc1.out).2.2); (case side4 => exact (Kd.R_reads' HOc1.out).2.1); rintro e w27 ⟨vc3, rfl, ho0, hb⟩; refine ⟨_, rfl, ?_⟩; replace ho0 := yn ho0 HO_4; replace ho0 := yn ho0 HO_5; replace ho0 := yn ho0 HOb1; replace ho0 := yn ho0 HOb5; replace ho0 := yn ho0 HOb8; replace ho0 := yn ho0 HOc1; have HOc4 := yRl ho0 HB; replace HO_4 := yRe HO_4 ho0 hb; replace HO_5 := yRe HO_5 ho0 hb; replace HOb1 := yRe HOb1 ho0 hb; replace HOb5 := yRe HOb5 ho0 hb; replace HOb8 := yRe HOb8 ho0 hb; replace HOc1 := yRe HOc1 ho0 hb; replace HB := yS HB hb; (try clear hb ho0)))
     go_roundg k1
     case measure => have := HK1.out; omega
     case rel => exact ⟨(tc2), (tb3), (wrap64 (x7_1 - 1)), zF, H', ⟨zo1 HK1⟩, ⟨by (with_reducible repeat (first | apply Kd.R_alloc | apply Kd.R_drewN | apply Kd.R_drew)); exact Kd.R_mono HOc4.out (fun _ hk => hk.1.1.2)⟩, ⟨by (with_reducible repeat (first | apply Kd.R_alloc | apply Kd.R_drewN | apply Kd.R_drew)); exact Kd.R_mono HOb5.out (fun _ hk => hk.2)⟩, ⟨zB HB.out⟩⟩
   have c12b0 : decide (0 ≤ tb2) = false := decide_eq_false c12
   clear c12
   have H' := zk H
   clear H
   go_wp2_with (first | ((with_reducible refine gC 136 ?_); refine zG (some 23) Try.func136 #[.slice A1 l1.length c1, .int .i64 x7_1] ?_; (with_reducible refine (r1_shift.calls k1 _ _ l1 x7_1 ta9 _ ?side1 ?side2 A10.out).mono ?_); (case side1 => exact zC (Kd.C_below HR1.out HB.out)); (case side2 => exact HC1.out); rintro e w28 ⟨vb0, rfl, ho0, hb⟩; refine ⟨_, rfl, ?_⟩; replace ho0 := yn ho0 HO_4; replace ho0 := yn ho0 HO_5; have HOb1 := yRl ho0 HB; replace HO_4 := yRe HO_4 ho0 hb; replace HO_5 := yRe HO_5 ho0 hb; replace HB := yS HB hb; (try clear hb ho0); obtain ⟨Ao29, co29, rfl⟩ := Kd.R_slice HO_5.out; obtain ⟨Ao30, co30, rfl⟩ := Kd.R_slice HOb1.out) | ((with_reducible refine gC 77 ?_); refine zG (some 26) Try.func77 #[.slice Ao29 x5_1.length co29, .slice Ao30 ta9.length co30] ?_; (with_reducible refine (r1_Cmp.calls k1 _ _ x5_1 _ _ ta9 tb2 _ ?side1 ?side2 ?side3 ?side4 A11.out).mono ?_); (case side1 => exact zC (Kd.R_reads' HO_5.out).2.2); (case side2 => exact (Kd.R_reads' HO_5.out).2.1); (case side3 => exact zC (Kd.R_reads' HOb1.out).2.2); (case side4 => exact (Kd.R_reads' HOb1.out).2.1); rintro e w31 ⟨rfl, hb⟩; refine ⟨_, rfl, ?_⟩; replace HO_4 := yRb HO_4 hb; replace HO_5 := yRb HO_5 hb; replace HOb1 := yRb HOb1 hb; replace HB := yS HB hb; (try clear hb); (try clear hb2); (try clear hk); (try clear hi)))
   go_roundg k1
   case measure => have := HK1.out; omega
   case rel => exact ⟨(x4_1), (x5_1), (wrap64 (x7_1 - 1)), zF, H', ⟨zo1 HK1⟩, ⟨by (with_reducible repeat (first | apply Kd.R_alloc | apply Kd.R_drewN | apply Kd.R_drew)); exact Kd.R_mono HO_4.out (fun _ hk => hk.1)⟩, ⟨by (with_reducible repeat (first | apply Kd.R_alloc | apply Kd.R_drewN | apply Kd.R_drew)); exact Kd.R_mono HO_5.out (fun _ hk => hk.1)⟩, ⟨zB HB.out⟩⟩
 have c9b0 : decide (0 ≤ x7_1) = false := decide_eq_false c9
 clear c9
 replace H := zb H
 obtain ⟨ta6, A32, H⟩ := H
 simp only [Option.some.injEq, Prod.mk.injEq] at H
 obtain ⟨rfl, rfl⟩ := H
 obtain ⟨Ao33, co33, rfl⟩ := Kd.R_slice HO_4.out
 go_wp2_with (first | ((with_reducible refine gC 75 ?_); refine zG (some 37) Try.func75 #[.slice Ao33 x4_1.length co33] ?_; (with_reducible refine (r1_Trim.calls k1 _ _ x4_1 ta6 _ ?side1 ?side2 A32.out).mono ?_); (case side1 => exact zC (Kd.R_reads' HO_4.out).2.2); (case side2 => exact (Kd.R_reads' HO_4.out).2.1); rintro e w34 ⟨va7, rfl, ho0, hb⟩; refine ⟨_, rfl, ?_⟩; replace ho0 := yn ho0 HO_4; replace ho0 := yn ho0 HO_5; have HOa8 := yRl ho0 HB; replace HO_4 := yRe HO_4 ho0 hb; replace HO_5 := yRe HO_5 ho0 hb; replace HB := yS HB hb; (try clear hb ho0)))
 go_ret2
 exact ⟨_, _, zE, by (with_reducible repeat (first | apply Kd.R_alloc | apply Kd.R_drewN | apply Kd.R_drew)); exact Kd.R_mono HOa8.out (fun _ hk => hk.2), by (with_reducible repeat (first | apply Kd.R_alloc | apply Kd.R_drewN | apply Kd.R_drew)); exact Kd.R_mono HO_5.out (fun _ hk => hk.2), zB HB.out⟩
set_option maxHeartbeats 8000000 in
set_option maxRecDepth 100000 in
theorem r1_Gcd.calls (k : Nat) (P0_ : Nat → Prop) (A0 : Option Addr) (c0 : Nat) (l0 : List Int) (P1_ : Nat → Prop) (A1 : Option Addr) (c1 : Nat) (l1 : List Int) (r : List Int) (w : World) (hs0 : Kd.V (Kd.int .u32) 97 w w.heap.size (fun k_ => P0_ k_) (.slice A0 l0.length c0) l0) (hs1 : Kd.V (Kd.int .u32) 97 w w.heap.size (fun k_ => P1_ k_) (.slice A1 l1.length c1) l1) (h : r1_Gcd.f k l0 l1 = some r) :
    Calls Try.prog 122 #[.slice A0 l0.length c0, .slice A1 l1.length c1] w fun e w' => ∃ v0_ : Value, e = .returned (v0_) ∧ Kd.R (Kd.int .u32) 97 w' w.heap.size (fun k_ => (w.heap.size ≤ k_)) v0_ r ∧ Below w.heap.size w w' := by
 have HO0 := zk (show Kd.V (Kd.int .u32) 97 w w.heap.size (fun k_ => ((P0_ k_ ∨ P1_ k_) ∨ w.heap.size ≤ k_)) (.slice A0 l0.length c0) l0 from Kd.V_mono hs0 (fun k_ hk => .inl (.inl hk)))
 have HO1 := zk (show Kd.V (Kd.int .u32) 97 w w.heap.size (fun k_ => ((P0_ k_ ∨ P1_ k_) ∨ w.heap.size ≤ k_)) (.slice A1 l1.length c1) l1 from Kd.V_mono hs1 (fun k_ hk => .inl (.inr hk)))
 have HB := zk (Below.refl w.heap.size w)
 have H := h
 clear h
 unfold r1_Gcd.f at H
 have H' := zk H
 clear H
 go_enter Try.func122, Try.ntmps122
 go_wp2
 go_loopg [0, 1] k (fun kq v0 v1 w' => ∃ (x0_1 : List Int) (x1_1 : List Int), Aside0 (r1_Gcd.l0 kq x0_1 x1_1 = some r) ∧ Aside0 (kq ≤ k) ∧ Aside0 (Kd.V (Kd.int .u32) 97 w' w.heap.size (fun k_ => ((P0_ k_ ∨ P1_ k_) ∨ w.heap.size ≤ k_)) v0 x0_1) ∧ Aside0 (Kd.V (Kd.int .u32) 97 w' w.heap.size (fun k_ => ((P0_ k_ ∨ P1_ k_) ∨ w.heap.size ≤ k_)) v1 x1_1) ∧ Aside0 (Below w.heap.size w w'))
 case atStart => exact ⟨(l0), (l1), H', ⟨Nat.le_refl _⟩, ⟨zV HO0.out⟩, ⟨zV HO1.out⟩, ⟨zB HB.out⟩⟩
 clear H'
 obtain ⟨x0_1, x1_1, HA, HK1, HO_0, HO_1, HB⟩ := hrel
 cases gk with | zero => exact absurd HA.out (by simp [r1_Gcd.l0]) | succ k1 => ?_
 have H := HA.out
 clear HA
 simp only [r1_Gcd.l0] at H
 replace H := zb H
 obtain ⟨ta1, A3, H⟩ := H
 by_cases c4 : ta1 = true
 · subst c4
   rw [if_pos rfl] at H
   replace H := zb H
   obtain ⟨ta2, A5, H⟩ := H
   obtain rfl := Option.some.inj H
   obtain ⟨Ao6, co6, rfl⟩ := Kd.V_slice HO_1.out
   go_wp2_with (first | ((with_reducible refine gC 27 ?_); refine zG (some 8) Try.func27 #[.slice Ao6 x1_1.length co6] ?_; (with_reducible refine (r1_Zero.calls k1 _ _ x1_1 true _ ?side1 ?side2 A3.out).mono ?_); (case side1 => exact zC (Kd.V_reads' HO_1.out).2.2); (case side2 => exact (Kd.V_reads' HO_1.out).2.1); rintro e w7 ⟨rfl, hb⟩; refine ⟨_, rfl, ?_⟩; replace HO_0 := yVb HO_0 hb; replace HO_1 := yVb HO_1 hb; replace HB := yS HB hb; (try clear hb); (try clear hb2); (try clear hk); (try clear hi); obtain ⟨Ao8, co8, rfl⟩ := Kd.V_slice HO_0.out) | ((with_reducible refine gC 75 ?_); refine zG (some 19) Try.func75 #[.slice Ao8 x0_1.length co8] ?_; (with_reducible refine (r1_Trim.calls k1 _ _ x0_1 ta2 _ ?side1 ?side2 A5.out).mono ?_); (case side1 => exact zC (Kd.V_reads' HO_0.out).2.2); (case side2 => exact (Kd.V_reads' HO_0.out).2.1); rintro e w9 ⟨va3, rfl, ho0, hb⟩; refine ⟨_, rfl, ?_⟩; replace HO_0 := yVe HO_0 ho0 hb; replace HO_1 := yVe HO_1 ho0 hb; replace ho0 := Kd.R_newM (M := fun k_ => (w.heap.size ≤ k_)) ho0 (below_size (zB HB.out)) (fun k_ h_ => h_); have HOa4 := yRl ho0 HB; replace HB := yS HB hb; (try clear hb ho0)))
   go_ret
   exact ⟨_, zE, by (with_reducible repeat (first | apply Kd.R_alloc | apply Kd.R_drewN | apply Kd.R_drew)); exact Kd.R_mono HOa4.out (fun _ hk => hk.1), zB HB.out⟩
 replace c4 := Bool.eq_false_iff.mpr c4
 subst c4
 rw [if_neg Bool.false_ne_true] at H
 replace H := zb H
 obtain ⟨⟨ta5, ta6⟩, A10, H⟩ := H
 dsimp only at H
 have H' := zk H
 clear H
 obtain ⟨Ao11, co11, rfl⟩ := Kd.V_slice HO_1.out
 go_wp2_with (first | ((with_reducible refine gC 27 ?_); refine zG (some 8) Try.func27 #[.slice Ao11 x1_1.length co11] ?_; (with_reducible refine (r1_Zero.calls k1 _ _ x1_1 false _ ?side1 ?side2 A3.out).mono ?_); (case side1 => exact zC (Kd.V_reads' HO_1.out).2.2); (case side2 => exact (Kd.V_reads' HO_1.out).2.1); rintro e w12 ⟨rfl, hb⟩; refine ⟨_, rfl, ?_⟩; replace HO_0 := yVb HO_0 hb; replace HO_1 := yVb HO_1 hb; replace HB := yS HB hb; (try clear hb); (try clear hb2); (try clear hk); (try clear hi); obtain ⟨Ao13, co13, rfl⟩ := Kd.V_slice HO_0.out) | ((with_reducible refine gC 123 ?_); refine zG (some 13) Try.func123 #[.slice Ao13 x0_1.length co13, .slice Ao11 x1_1.length co11] ?_; (with_reducible refine (r1_DivMod.calls k1 _ _ x0_1 _ _ x1_1 ta5 ta6 _ ?side1 ?side2 ?side3 ?side4 A10.out).mono ?_); (case side1 => exact zC (Kd.V_reads' HO_0.out).2.2); (case side2 => exact (Kd.V_reads' HO_0.out).2.1); (case side3 => exact zC (Kd.V_reads' HO_1.out).2.2); (case side4 => exact (Kd.V_reads' HO_1.out).2.1); rintro e w14 ⟨va7, va9, rfl, ho0, ho1, hb⟩; refine ⟨_, rfl, ?_⟩; replace HO_0 := yVt HO_0 hb ho0 ho1; replace HO_1 := yVt HO_1 hb ho0 ho1; replace ho0 := Kd.R_newM (M := fun k_ => (w.heap.size ≤ k_)) ho0 (below_size (zB HB.out)) (fun k_ h_ => h_); have HOa8 := yRl ho0 HB; replace ho1 := Kd.R_newM (M := fun k_ => (w.heap.size ≤ k_)) ho1 (below_size (zB HB.out)) (fun k_ h_ => h_); have HOb0 := yRl ho1 HB; replace HB := yS HB hb; (try clear hb ho0); (try clear ho1)))
 go_roundg k1
 case measure => have := HK1.out; omega
 case rel => exact ⟨(x1_1), (ta6), H', ⟨zo1 HK1⟩, ⟨by (with_reducible repeat (first | apply Kd.V_alloc | apply Kd.V_drewN | apply Kd.V_drew)); exact Kd.V_mono HO_1.out (fun _ hk => hk.1.1)⟩, ⟨Kd.V_mono (Kd.R_V (by (with_reducible repeat (first | apply Kd.R_alloc | apply Kd.R_drewN | apply Kd.R_drew)); exact Kd.R_mono HOb0.out (fun _ hk => hk.1))) (fun k_ hk => by first | exact ⟨(.inr (hk.1)), hk.2⟩ | exact (.inr (hk)))⟩, ⟨zB HB.out⟩⟩
set_option maxHeartbeats 8000000 in
set_option maxRecDepth 100000 in
theorem r2_Make.calls (k : Nat) (a0 : Bool) (A1 : Option Addr) (c1 : Nat) (l1 : List Int) (A2 : Option Addr) (c2 : Nat) (l2 : List Int) (r1 : Bool) (r2 : List Int) (r3 : List Int) (w : World) (hr1 : Kd.C (Kd.int .u32) w A1 l1.length l1) (hc1 : l1.length ≤ c1) (hr2 : Kd.C (Kd.int .u32) w A2 l2.length l2) (hc2 : l2.length ≤ c2) (h : r2_Make.f k a0 l1 l2 = some (r1, r2, r3)) :
    Calls Try.prog 90 #[.bool a0, .slice A1 l1.length c1, .slice A2 l2.length c2] w fun e w' => ∃ v1_ v2_ : Value, e = .returned (.agg #[.bool r1, v1_, v2_]) ∧ Kd.R (Kd.int .u32) 97 w' w.heap.size (fun k_ => some k_ ≠ (v2_ : Value).ownBlock) v1_ r2 ∧ Kd.R (Kd.int .u32) 97 w' w.heap.size (fun k_ => some k_ ≠ (v1_ : Value).ownBlock) v2_ r3 ∧ Below w.heap.size w w' := by
 have hu60 := Try.underlying60
 have HR1 := zk hr1
 have HC1 := zk hc1
 clear hr1 hc1
 have HR2 := zk hr2
 have HC2 := zk hc2
 clear hr2 hc2
 have HB := zk (Below.refl w.heap.size w)
 have H := h
 clear h
 unfold r2_Make.f at H
 have HC4 := zk H
 clear H
 go_enter Try.func90, Try.ntmps90
 go_upto_region 1 with (first | ((with_reducible refine gate_dst (N := 6) rfl ?_); refine box_event ?hg (N := 6) ?hd (cs := #[.bool false, .slice none 0 0, .slice none 0 0]) (t := 60) ?hr ?_; (case hd => rfl); (case hg => rfl); (case hr => first | (go_simp; done) | (go_simp; rfl)); intro gba1 hg w5 hbox hb; have BKa1 := zk (hbox); have GWa1 := yg hg HB; have GEa1 := yg hg HB; replace HB := yS HB hb; clear hb hbox hg))
 (try simp only [Act.put, List.setIfInBounds_toArray, List.set_cons_zero, List.set_cons_succ])
 go_cut [17] (fun v17 wc => ∃ (kq : Nat) (x17_3 : Bool), v17 = .bool x17_3 ∧ Aside0 (r2_Make.j0 kq a0 l1 l2 x17_3 = some (r1, r2, r3)) ∧ Aside0 (kq ≤ k) ∧ Aside0 (wc.heap[gba1]? = some (.cells #[.bool false, (.slice none 0 0), (.slice none 0 0)] 60 (0, 0))) ∧ Aside0 (Below w.heap.size w wc))
 case first =>
  have H := HC4.out
  clear HC4
  replace H := zb H
  obtain ⟨ta2, A6, H⟩ := H
  by_cases c7 : ta2 = true
  · subst c7
    rw [if_pos rfl] at H
    have H' := zk H
    clear H
    go_wp2_with (first | ((with_reducible refine gC 27 ?_); refine zG (some 13) Try.func27 #[.slice A1 l1.length c1] ?_; (with_reducible refine (r1_Zero.calls k _ _ l1 true _ ?side1 ?side2 A6.out).mono ?_); (case side1 => exact zC (Kd.C_below HR1.out HB.out)); (case side2 => exact HC1.out); rintro e w8 ⟨rfl, hb⟩; refine ⟨_, rfl, ?_⟩; replace BKa1 := yK BKa1 hb; replace HB := yS1 HB GEa1 hb; (try clear hb); (try clear hb2); (try clear hk); (try clear hi)))
    go_meet
    case rel => exact ⟨_, (true), zF, H', ⟨zO⟩, ⟨by (with_reducible repeat (first | refine blk_drewN ?_ _ | refine blk_drew ?_ | refine blk_alloc ?_ _)); exact BKa1.out⟩, ⟨zB1 HB.out GEa1.out⟩⟩
  replace c7 := Bool.eq_false_iff.mpr c7
  subst c7
  rw [if_neg Bool.false_ne_true] at H
  replace H := zb H
  obtain ⟨ta3, A9, H⟩ := H
  have H' := zk H
  clear H
  go_wp2_with (first | ((with_reducible refine gC 27 ?_); refine zG (some 13) Try.func27 #[.slice A1 l1.length c1] ?_; (with_reducible refine (r1_Zero.calls k _ _ l1 false _ ?side1 ?side2 A6.out).mono ?_); (case side1 => exact zC (Kd.C_below HR1.out HB.out)); (case side2 => exact HC1.out); rintro e w10 ⟨rfl, hb⟩; refine ⟨_, rfl, ?_⟩; replace BKa1 := yK BKa1 hb; replace HB := yS1 HB GEa1 hb; (try clear hb); (try clear hb2); (try clear hk); (try clear hi)) | (go_at_call 27; (with_reducible refine (r1_Zero.calls k _ _ l2 ta3 _ ?side1 ?side2 A9.out).mono ?_); (case side1 => exact zC (Kd.C_below HR2.out HB.out)); (case side2 => exact HC2.out); rintro e w11 ⟨rfl, hb⟩; replace BKa1 := yK BKa1 hb; replace HB := yS1 HB GEa1 hb; (try clear hb); (try clear hb2); (try clear hk); (try clear hi)))
  go_meet
  case rel => exact ⟨_, (ta3), zF, H', ⟨zO⟩, ⟨by (with_reducible repeat (first | refine blk_drewN ?_ _ | refine blk_drew ?_ | refine blk_alloc ?_ _)); exact BKa1.out⟩, ⟨zB1 HB.out GEa1.out⟩⟩
 clear HC4
 (try clear c7)
 obtain ⟨kq, x17_3, rfl, HA, HJ3, BKa1, HB⟩ := hcut
 cases kq with | zero => exact absurd HA.out (by simp [r2_Make.j0]) | succ kj3 => ?_
 have H := HA.out
 clear HA
 simp only [r2_Make.j0] at H
 by_cases c12 : x17_3 = true
 · subst c12
   rw [if_pos rfl] at H
   obtain ⟨ya4, hya4⟩ : ∃ y_ : List Int, y_ = (([] : List Int)) := ⟨_, rfl⟩
   replace H : (some (false, ya4, (([1] : List Int)))) = some (r1, r2, r3) := zY hya4 H
   have Nya4 := zk hya4
   clear hya4
   obtain ⟨ya7, hya7⟩ : ∃ y_ : List Int, y_ = (([1] : List Int)) := ⟨_, rfl⟩
   replace H : (some (false, ya4, ya7)) = some (r1, r2, r3) := zY hya7 H
   have Nya7 := zk hya7
   clear hya7
   simp only [Option.some.injEq, Prod.mk.injEq] at H
   obtain ⟨rfl, rfl, rfl⟩ := H
   go_wp2_with (first | ((with_reducible refine gate_dst (N := 18) rfl ?_); refine Kd.R_lit (Kd.int .u32) _ 97 ?hg (N := 18) ?hd (xs := ([] : List Int)) (inner := []) (ok := fun _ => True) (okp := fun _ => True) ?hr ?hp (fun _ hk => hk) trivial (Below.refl _ _) (Nat.le_refl _) (by simp) ?_; (case hd => rfl); (case hg => rfl); (case hr => first | (go_simp; done) | (go_simp; rfl)); (case hp => exact (Reps.none _ _)); intro va5 w13 ho14 hb hg_ hnew_; clear hg_ hnew_; (first | rw [← Nya4.out] at ho14 | (simp only [Int.reduceToNat] at ho14; rw [← Nya4.out] at ho14)); have HOa6 := yRl1 ho14 HB GEa1; replace BKa1 := yK BKa1 hb; replace HB := yS1 HB GEa1 hb; clear hb ho14) | ((with_reducible refine gate_dst (N := 19) rfl ?_); refine Kd.R_lit (Kd.int .u32) _ 97 ?hg (N := 19) ?hd (xs := ([1] : List Int)) (inner := [.int .u32 1]) (ok := fun _ => True) (okp := fun _ => True) ?hr ?hp (fun _ hk => hk) trivial (Below.refl _ _) (Nat.le_refl _) (by simp) ?_; (case hd => rfl); (case hg => rfl); (case hr => first | (go_simp; done) | (go_simp; rfl)); (case hp => exact (Reps.one (show Kd.M (Kd.int .u32) _ _ _ 1 [.int .u32 1] from rfl) (Reps.none _ _))); intro va8 w15 ho16 hb hg_ hnew_; clear hg_ hnew_; (first | rw [← Nya7.out] at ho16 | (simp only [Int.reduceToNat] at ho16; rw [← Nya7.out] at ho16)); replace ho16 := yn ho16 HOa6; have HOa9 := yRl1 ho16 HB GEa1; replace HOa6 := yRe HOa6 ho16 hb; replace BKa1 := yK BKa1 hb; replace HB := yS1 HB GEa1 hb; clear hb ho16; obtain ⟨Ao17, co17, rfl⟩ := Kd.R_slice HOa9.out; obtain ⟨Ao18, co18, rfl⟩ := Kd.R_slice HOa6.out; obtain ⟨hcz19_0, hcz19_1, hcz19_2, hfz19_0, hfz19_1, hfz19_2⟩ := zz3 BKa1))
   refine bodyPost_ret (results_cell_row rfl _ _ gba1 60 #[.bool false, .slice Ao18 ya4.length co18, .slice Ao17 ya7.length co17] (0, 0) _ rfl (zP3 BKa1.out) Try.underlying60 rfl (by kernel_rfl)) rfl ?_
   exact ⟨_, _, zE, by (with_reducible repeat (first | apply Kd.R_alloc | apply Kd.R_drewN | apply Kd.R_drew)); exact yf HOa6.out BKa1.out (fun _ hk => hk.1.2), by (with_reducible repeat (first | apply Kd.R_alloc | apply Kd.R_drewN | apply Kd.R_drew)); exact yf HOa9.out BKa1.out (fun _ hk => hk.1.2), zB1 HB.out GEa1.out⟩
 replace c12 := Bool.eq_false_iff.mpr c12
 subst c12
 rw [if_neg Bool.false_ne_true] at H
 replace H := zb H
 obtain ⟨tb0, A20, H⟩ := H
 replace H := zb H
 obtain ⟨⟨tb3, tb4⟩, A21, H⟩ := H
 dsimp only at H
 replace H := zb H
 obtain ⟨⟨tb9, tc0⟩, A22, H⟩ := H
 dsimp only at H
 simp only [Option.some.injEq, Prod.mk.injEq] at H
 obtain ⟨rfl, rfl, rfl⟩ := H
 go_wp2_with (first | ((with_reducible refine gC 122 ?_); refine zG (some 23) Try.func122 #[.slice A1 l1.length c1, .slice A2 l2.length c2] ?_; (with_reducible refine (r1_Gcd.calls kj3 (fun k_ => k_ < w.heap.size) _ _ l1 (fun k_ => k_ < w.heap.size) _ _ l2 tb0 _ ?side1 ?side2 A20.out).mono ?_); (case side1 => exact Kd.V_mk HC1.out (Kd.F_below (Kd.C_F (Kd.heap_int .u32) HR1.out) (zB1 HB.out GEa1.out))); (case side2 => exact Kd.V_mk HC2.out (Kd.F_below (Kd.C_F (Kd.heap_int .u32) HR2.out) (zB1 HB.out GEa1.out))); rintro e w23 ⟨vb1, rfl, ho0, hb⟩; refine ⟨_, rfl, ?_⟩; replace ho0 := yt ho0; have HOb2 := yRl1 ho0 HB GEa1; replace BKa1 := yK BKa1 hb; replace HB := yS1 HB GEa1 hb; (try clear hb ho0); obtain ⟨Ao24, co24, rfl⟩ := Kd.R_slice HOb2.out) | ((with_reducible refine gC 123 ?_); refine zG (some 27) Try.func123 #[.slice A1 l1.length c1, .slice Ao24 tb0.length co24] ?_; (with_reducible refine (r1_DivMod.calls kj3 _ _ l1 _ _ tb0 tb3 tb4 _ ?side1 ?side2 ?side3 ?side4 A21.out).mono ?_); (case side1 => exact zC (Kd.C_below HR1.out HB.out)); (case side2 => exact HC1.out); (case side3 => exact zC (Kd.R_reads' HOb2.out).2.2); (case side4 => exact (Kd.R_reads' HOb2.out).2.1); rintro e w25 ⟨vb5, vb7, rfl, ho0, ho1, hb⟩; refine ⟨_, rfl, ?_⟩; replace ho0 := yn ho0 HOb2; have HOb6 := yRl1 ho0 HB GEa1; replace ho1 := yn ho1 HOb2; have HOb8 := yRl1 ho1 HB GEa1; replace HOb2 := yRt HOb2 hb ho0 ho1; replace BKa1 := yK BKa1 hb; replace HB := yS1 HB GEa1 hb; (try clear hb ho0); (try clear ho1)) | ((with_reducible refine gC 123 ?_); refine zG (some 33) Try.func123 #[.slice A2 l2.length c2, .slice Ao24 tb0.length co24] ?_; (with_reducible refine (r1_DivMod.calls kj3 _ _ l2 _ _ tb0 tb9 tc0 _ ?side1 ?side2 ?side3 ?side4 A22.out).mono ?_); (case side1 => exact zC (Kd.C_below HR2.out HB.out)); (case side2 => exact HC2.out); (case side3 => exact zC (Kd.R_reads' HOb2.out).2.2); (case side4 => exact (Kd.R_reads' HOb2.out).2.1); rintro e w26 ⟨vc1, vc3, rfl, ho0, ho1, hb⟩; refine ⟨_, rfl, ?_⟩; replace ho0 := yn ho0 HOb2; replace ho0 := yn ho0 HOb6; replace ho0 := yn ho0 HOb8; have HOc2 := yRl1 ho0 HB GEa1; replace ho1 := yn ho1 HOb2; replace ho1 := yn ho1 HOb6; replace ho1 := yn ho1 HOb8; have HOc4 := yRl1 ho1 HB GEa1; replace HOb2 := yRt HOb2 hb ho0 ho1; replace HOb6 := yRt HOb6 hb ho0 ho1; replace HOb8 := yRt HOb8 hb ho0 ho1; replace BKa1 := yK BKa1 hb; replace HB := yS1 HB GEa1 hb; (try clear hb ho0); (try clear ho1); obtain ⟨Ao27, co27, rfl⟩ := Kd.R_slice HOc2.out; obtain ⟨Ao28, co28, rfl⟩ := Kd.R_slice HOb6.out; obtain ⟨hcz29_0, hcz29_1, hcz29_2, hfz29_0, hfz29_1, hfz29_2⟩ := zz3 BKa1))
 refine bodyPost_ret (results_cell_row rfl _ _ gba1 60 #[.bool a0, .slice Ao28 tb3.length co28, .slice Ao27 tb9.length co27] (0, 0) _ rfl (zP3 BKa1.out) Try.underlying60 rfl (by kernel_rfl)) rfl ?_
 exact ⟨_, _, zE, by (with_reducible repeat (first | apply Kd.R_alloc | apply Kd.R_drewN | apply Kd.R_drew)); exact yf HOb6.out BKa1.out (fun _ hk => hk.1.1.2), by (with_reducible repeat (first | apply Kd.R_alloc | apply Kd.R_drewN | apply Kd.R_drew)); exact yf HOc2.out BKa1.out (fun _ hk => hk.1.1.2), zB1 HB.out GEa1.out⟩
set_option maxHeartbeats 8000000 in
set_option maxRecDepth 100000 in
theorem r1_Of.calls (k : Nat) (a0 : Int) (r : List Int) (w : World) (h : r1_Of.f k a0 = some r) :
    Calls Try.prog 23 #[.int .u64 a0] w fun e w' => ∃ v0_ : Value, e = .returned (v0_) ∧ Kd.R (Kd.int .u32) 97 w' w.heap.size (fun _ => True) v0_ r ∧ Below w.heap.size w w' := by
 have HB := zk (Below.refl w.heap.size w)
 have H := h
 clear h
 unfold r1_Of.f at H
 obtain ⟨ya1, hya1⟩ : ∃ y_ : List Int, y_ = (([(Int.tmod a0 4294967296) % 4294967296, (IntKind.u64.wrap (Int.tdiv a0 4294967296)) % 4294967296] : List Int)) := ⟨_, rfl⟩
 replace H : ((r1_Trim.f k ya1).bind fun ta4 => (some ta4)) = some r := zY hya1 H
 have Nya1 := zk hya1
 clear hya1
 replace H := zb H
 obtain ⟨ta4, A2, H⟩ := H
 obtain rfl := Option.some.inj H
 go_enter Try.func23, Try.ntmps23
 go_wp2_with (first | ((with_reducible refine gate_dst (N := 9) rfl ?_); refine Kd.R_lit (Kd.int .u32) _ 97 ?hg (N := 9) ?hd (xs := ([(Int.tmod a0 4294967296) % 4294967296, (IntKind.u64.wrap (Int.tdiv a0 4294967296)) % 4294967296] : List Int)) (inner := [.int .u32 ((Int.tmod a0 4294967296) % 4294967296), .int .u32 ((IntKind.u64.wrap (Int.tdiv a0 4294967296)) % 4294967296)]) (ok := fun _ => True) (okp := fun _ => True) ?hr ?hp (fun _ hk => hk) trivial (Below.refl _ _) (Nat.le_refl _) (by simp) ?_; (case hd => rfl); (case hg => rfl); (case hr => first | (go_simp; done) | (go_simp; rfl)); (case hp => exact (Reps.one (show Kd.M (Kd.int .u32) _ _ _ ((Int.tmod a0 4294967296) % 4294967296) [.int .u32 ((Int.tmod a0 4294967296) % 4294967296)] from rfl) (Reps.one (show Kd.M (Kd.int .u32) _ _ _ ((IntKind.u64.wrap (Int.tdiv a0 4294967296)) % 4294967296) [.int .u32 ((IntKind.u64.wrap (Int.tdiv a0 4294967296)) % 4294967296)] from rfl) (Reps.none _ _)))); intro va2 w3 ho4 hb hg_ hnew_; clear hg_ hnew_; (first | rw [← Nya1.out] at ho4 | (simp only [Int.reduceToNat] at ho4; rw [← Nya1.out] at ho4)); have HOa3 := yRl ho4 HB; replace HB := yS HB hb; clear hb ho4; obtain ⟨Ao5, co5, rfl⟩ := Kd.R_slice HOa3.out) | ((with_reducible refine gC 75 ?_); refine zG (some 10) Try.func75 #[.slice Ao5 ya1.length co5] ?_; (with_reducible refine (r1_Trim.calls k _ _ ya1 ta4 _ ?side1 ?side2 A2.out).mono ?_); (case side1 => exact zC (Kd.R_reads' HOa3.out).2.2); (case side2 => exact (Kd.R_reads' HOa3.out).2.1); rintro e w6 ⟨va5, rfl, ho0, hb⟩; refine ⟨_, rfl, ?_⟩; replace ho0 := yn ho0 HOa3; have HOa6 := yRl ho0 HB; replace HOa3 := yRe HOa3 ho0 hb; replace HB := yS HB hb; (try clear hb ho0)))
 go_ret
 exact ⟨_, zE, by (with_reducible repeat (first | apply Kd.R_alloc | apply Kd.R_drewN | apply Kd.R_drew)); exact Kd.R_mono HOa6.out (fun _ hk => trivial), zB HB.out⟩
set_option maxHeartbeats 8000000 in
set_option maxRecDepth 100000 in
theorem r2_abs.calls (k : Nat) (a0 : Int) (r : List Int) (w : World) (h : r2_abs.f k a0 = some r) :
    Calls Try.prog 127 #[.int .i64 a0] w fun e w' => ∃ v0_ : Value, e = .returned (v0_) ∧ Kd.R (Kd.int .u32) 97 w' w.heap.size (fun _ => True) v0_ r ∧ Below w.heap.size w w' := by
 have HB := zk (Below.refl w.heap.size w)
 have H := h
 clear h
 unfold r2_abs.f at H
 replace H := zid H
 rcases H with ⟨c2b0, H⟩ | ⟨c2b0, H⟩
 · replace H := zb H
   obtain ⟨ta1, A3, H⟩ := H
   obtain ⟨ya4, hya4⟩ : ∃ y_ : List Int, y_ = (([1] : List Int)) := ⟨_, rfl⟩
   replace H : ((r1_Add.f k ta1 ya4).bind fun ta7 => (some ta7)) = some r := zY hya4 H
   have Nya4 := zk hya4
   clear hya4
   replace H := zb H
   obtain ⟨ta7, A4, H⟩ := H
   obtain rfl := Option.some.inj H
   go_enter Try.func127, Try.ntmps127
   go_wp2_with (first | ((with_reducible refine gC 23 ?_); refine zG (some 9) Try.func23 #[.int .u64 (IntKind.u64.wrap (wrap64 (-(wrap64 (a0 + 1)))))] ?_; (with_reducible refine (r1_Of.calls k (IntKind.u64.wrap (wrap64 (-(wrap64 (a0 + 1))))) ta1 _ A3.out).mono ?_); rintro e w5 ⟨va2, rfl, ho0, hb⟩; refine ⟨_, rfl, ?_⟩; have HOa3 := yRl ho0 HB; replace HB := yS HB hb; (try clear hb ho0)) | ((with_reducible refine gate_dst (N := 10) rfl ?_); refine Kd.R_lit (Kd.int .u32) _ 97 ?hg (N := 10) ?hd (xs := ([1] : List Int)) (inner := [.int .u32 1]) (ok := fun _ => True) (okp := fun _ => True) ?hr ?hp (fun _ hk => hk) trivial (Below.refl _ _) (Nat.le_refl _) (by simp) ?_; (case hd => rfl); (case hg => rfl); (case hr => first | (go_simp; done) | (go_simp; rfl)); (case hp => exact (Reps.one (show Kd.M (Kd.int .u32) _ _ _ 1 [.int .u32 1] from rfl) (Reps.none _ _))); intro va5 w6 ho7 hb hg_ hnew_; clear hg_ hnew_; (first | rw [← Nya4.out] at ho7 | (simp only [Int.reduceToNat] at ho7; rw [← Nya4.out] at ho7)); replace ho7 := yn ho7 HOa3; have HOa6 := yRl ho7 HB; replace HOa3 := yRe HOa3 ho7 hb; replace HB := yS HB hb; clear hb ho7; obtain ⟨Ao8, co8, rfl⟩ := Kd.R_slice HOa3.out; obtain ⟨Ao9, co9, rfl⟩ := Kd.R_slice HOa6.out) | ((with_reducible refine gC 86 ?_); refine zG (some 11) Try.func86 #[.slice Ao8 ta1.length co8, .slice Ao9 ya4.length co9] ?_; (with_reducible refine (r1_Add.calls k _ _ ta1 _ _ ya4 ta7 _ ?side1 ?side2 ?side3 ?side4 A4.out).mono ?_); (case side1 => exact zC (Kd.R_reads' HOa3.out).2.2); (case side2 => exact (Kd.R_reads' HOa3.out).2.1); (case side3 => exact zC (Kd.R_reads' HOa6.out).2.2); (case side4 => exact (Kd.R_reads' HOa6.out).2.1); rintro e w10 ⟨va8, rfl, ho0, hb⟩; refine ⟨_, rfl, ?_⟩; replace ho0 := yn ho0 HOa3; replace ho0 := yn ho0 HOa6; have HOa9 := yRl ho0 HB; replace HOa3 := yRe HOa3 ho0 hb; replace HOa6 := yRe HOa6 ho0 hb; replace HB := yS HB hb; (try clear hb ho0)))
   go_ret
   exact ⟨_, zE, by (with_reducible repeat (first | apply Kd.R_alloc | apply Kd.R_drewN | apply Kd.R_drew)); exact Kd.R_mono HOa9.out (fun _ hk => trivial), zB HB.out⟩
 replace H := zb H
 obtain ⟨tb0, A11, H⟩ := H
 obtain rfl := Option.some.inj H
 go_enter Try.func127, Try.ntmps127
 go_wp2_with (first | ((with_reducible refine gC 23 ?_); refine zG (some 14) Try.func23 #[.int .u64 (IntKind.u64.wrap (a0))] ?_; (with_reducible refine (r1_Of.calls k (IntKind.u64.wrap (a0)) tb0 _ A11.out).mono ?_); rintro e w12 ⟨vb1, rfl, ho0, hb⟩; refine ⟨_, rfl, ?_⟩; have HOb2 := yRl ho0 HB; replace HB := yS HB hb; (try clear hb ho0)))
 go_ret
 exact ⟨_, zE, zR HOb2.out, zB HB.out⟩
set_option maxHeartbeats 8000000 in
set_option maxRecDepth 100000 in
theorem r2_Of.calls (k : Nat) (a0 : Int) (a1 : Int) (r1 : Bool) (r2 : List Int) (r3 : List Int) (w : World) (h : r2_Of.f k a0 a1 = some (r1, r2, r3)) :
    Calls Try.prog 97 #[.int .i64 a0, .int .i64 a1] w fun e w' => ∃ v1_ v2_ : Value, e = .returned (.agg #[.bool r1, v1_, v2_]) ∧ Kd.R (Kd.int .u32) 97 w' w.heap.size (fun k_ => some k_ ≠ (v2_ : Value).ownBlock) v1_ r2 ∧ Kd.R (Kd.int .u32) 97 w' w.heap.size (fun k_ => some k_ ≠ (v1_ : Value).ownBlock) v2_ r3 ∧ Below w.heap.size w w' := by
 have hu60 := Try.underlying60
 have HB := zk (Below.refl w.heap.size w)
 have H := h
 clear h
 unfold r2_Of.f at H
 replace H := zb H
 obtain ⟨ta2, A3, H⟩ := H
 replace H := zb H
 obtain ⟨ta5, A4, H⟩ := H
 replace H := zb H
 obtain ⟨⟨ta8, ta9, tb2⟩, A5, H⟩ := H
 dsimp only at H
 simp only [Option.some.injEq, Prod.mk.injEq] at H
 obtain ⟨rfl, rfl, rfl⟩ := H
 go_enter Try.func97, Try.ntmps97
 go_wp2_with (first | ((with_reducible refine gate_dst (N := 4) rfl ?_); refine box_event ?hg (N := 4) ?hd (cs := #[.bool false, .slice none 0 0, .slice none 0 0]) (t := 60) ?hr ?_; (case hd => rfl); (case hg => rfl); (case hr => first | (go_simp; done) | (go_simp; rfl)); intro gba1 hg w6 hbox hb; have BKa1 := zk (hbox); have GWa1 := yg hg HB; have GEa1 := yg hg HB; replace HB := yS HB hb; clear hb hbox hg) | ((with_reducible refine gC 127 ?_); refine zG (some 11) Try.func127 #[.int .i64 a0] ?_; (with_reducible refine (r2_abs.calls k a0 ta2 _ A3.out).mono ?_); rintro e w7 ⟨va3, rfl, ho0, hb⟩; refine ⟨_, rfl, ?_⟩; have HOa4 := yRl1 ho0 HB GEa1; replace BKa1 := yK BKa1 hb; replace HB := yS1 HB GEa1 hb; (try clear hb ho0)) | ((with_reducible refine gC 127 ?_); refine zG (some 13) Try.func127 #[.int .i64 a1] ?_; (with_reducible refine (r2_abs.calls k a1 ta5 _ A4.out).mono ?_); rintro e w8 ⟨va6, rfl, ho0, hb⟩; refine ⟨_, rfl, ?_⟩; replace ho0 := yn ho0 HOa4; have HOa7 := yRl1 ho0 HB GEa1; replace HOa4 := yRe HOa4 ho0 hb; replace BKa1 := yK BKa1 hb; replace HB := yS1 HB GEa1 hb; (try clear hb ho0); obtain ⟨Ao9, co9, rfl⟩ := Kd.R_slice HOa4.out; obtain ⟨Ao10, co10, rfl⟩ := Kd.R_slice HOa7.out) | ((with_reducible refine gC 90 ?_); refine zG (some 14) Try.func90 #[.bool ((decide (a0 < 0)) != (decide (a1 < 0))), .slice Ao9 ta2.length co9, .slice Ao10 ta5.length co10] ?_; (with_reducible refine (r2_Make.calls k ((decide (a0 < 0)) != (decide (a1 < 0))) _ _ ta2 _ _ ta5 ta8 ta9 tb2 _ ?side1 ?side2 ?side3 ?side4 A5.out).mono ?_); (case side1 => exact zC (Kd.R_reads' HOa4.out).2.2); (case side2 => exact (Kd.R_reads' HOa4.out).2.1); (case side3 => exact zC (Kd.R_reads' HOa7.out).2.2); (case side4 => exact (Kd.R_reads' HOa7.out).2.1); rintro e w11 ⟨vb0, vb3, rfl, ho0, ho1, hb⟩; refine ⟨_, rfl, ?_⟩; replace ho0 := yn ho0 HOa4; replace ho0 := yn ho0 HOa7; have HOb1 := yRl1 ho0 HB GEa1; replace ho1 := yn ho1 HOa4; replace ho1 := yn ho1 HOa7; have HOb4 := yRl1 ho1 HB GEa1; replace HOa4 := yRt HOa4 hb ho0 ho1; replace HOa7 := yRt HOa7 hb ho0 ho1; replace BKa1 := yK BKa1 hb; replace HB := yS1 HB GEa1 hb; (try clear hb ho0); (try clear ho1); obtain ⟨hcz12_0, hcz12_1, hcz12_2, hfz12_0, hfz12_1, hfz12_2⟩ := zz3 BKa1; obtain ⟨Ao13, co13, rfl⟩ := Kd.R_slice HOb1.out; obtain ⟨Ao14, co14, rfl⟩ := Kd.R_slice HOb4.out))
 refine bodyPost_ret (results_cell_row rfl _ _ gba1 60 #[.bool ta8, .slice Ao13 ta9.length co13, .slice Ao14 tb2.length co14] (0, 0) _ rfl (zP3 BKa1.out) Try.underlying60 rfl (by kernel_rfl)) rfl ?_
 exact ⟨_, _, zE, by (with_reducible repeat (first | apply Kd.R_alloc | apply Kd.R_drewN | apply Kd.R_drew)); exact yf HOb1.out BKa1.out (fun _ hk => hk.1.1.1), by (with_reducible repeat (first | apply Kd.R_alloc | apply Kd.R_drewN | apply Kd.R_drew)); exact yf HOb4.out BKa1.out (fun _ hk => hk.1.1.1), zB1 HB.out GEa1.out⟩
set_option maxHeartbeats 8000000 in
set_option maxRecDepth 100000 in
theorem r2_Int.calls (k : Nat) (a0 : Int) (r1 : Bool) (r2 : List Int) (r3 : List Int) (w : World) (h : r2_Int.f k a0 = some (r1, r2, r3)) :
    Calls Try.prog 48 #[.int .i64 a0] w fun e w' => ∃ v1_ v2_ : Value, e = .returned (.agg #[.bool r1, v1_, v2_]) ∧ Kd.R (Kd.int .u32) 97 w' w.heap.size (fun k_ => some k_ ≠ (v2_ : Value).ownBlock) v1_ r2 ∧ Kd.R (Kd.int .u32) 97 w' w.heap.size (fun k_ => some k_ ≠ (v1_ : Value).ownBlock) v2_ r3 ∧ Below w.heap.size w w' := by
 have hu60 := Try.underlying60
 have HB := zk (Below.refl w.heap.size w)
 have H := h
 clear h
 unfold r2_Int.f at H
 replace H := zb H
 obtain ⟨⟨ta2, ta3, ta6⟩, A2, H⟩ := H
 dsimp only at H
 simp only [Option.some.injEq, Prod.mk.injEq] at H
 obtain ⟨rfl, rfl, rfl⟩ := H
 go_enter Try.func48, Try.ntmps48
 go_wp2_with (first | ((with_reducible refine gate_dst (N := 2) rfl ?_); refine box_event ?hg (N := 2) ?hd (cs := #[.bool false, .slice none 0 0, .slice none 0 0]) (t := 60) ?hr ?_; (case hd => rfl); (case hg => rfl); (case hr => first | (go_simp; done) | (go_simp; rfl)); intro gba1 hg w3 hbox hb; have BKa1 := zk (hbox); have GWa1 := yg hg HB; have GEa1 := yg hg HB; replace HB := yS HB hb; clear hb hbox hg) | ((with_reducible refine gC 97 ?_); refine zG (some 4) Try.func97 #[.int .i64 a0, .int .i64 1] ?_; (with_reducible refine (r2_Of.calls k a0 1 ta2 ta3 ta6 _ A2.out).mono ?_); rintro e w4 ⟨va4, va7, rfl, ho0, ho1, hb⟩; refine ⟨_, rfl, ?_⟩; have HOa5 := yRl1 ho0 HB GEa1; have HOa8 := yRl1 ho1 HB GEa1; replace BKa1 := yK BKa1 hb; replace HB := yS1 HB GEa1 hb; (try clear hb ho0); (try clear ho1); obtain ⟨hcz5_0, hcz5_1, hcz5_2, hfz5_0, hfz5_1, hfz5_2⟩ := zz3 BKa1; obtain ⟨Ao6, co6, rfl⟩ := Kd.R_slice HOa5.out; obtain ⟨Ao7, co7, rfl⟩ := Kd.R_slice HOa8.out))
 refine bodyPost_ret (results_cell_row rfl _ _ gba1 60 #[.bool ta2, .slice Ao6 ta3.length co6, .slice Ao7 ta6.length co7] (0, 0) _ rfl (zP3 BKa1.out) Try.underlying60 rfl (by kernel_rfl)) rfl ?_
 exact ⟨_, _, zE, by (with_reducible repeat (first | apply Kd.R_alloc | apply Kd.R_drewN | apply Kd.R_drew)); exact yf HOa5.out BKa1.out (fun _ hk => hk.1), by (with_reducible repeat (first | apply Kd.R_alloc | apply Kd.R_drewN | apply Kd.R_drew)); exact yf HOa8.out BKa1.out (fun _ hk => hk.1), zB1 HB.out GEa1.out⟩
set_option maxHeartbeats 8000000 in
set_option maxRecDepth 100000 in
theorem r1_Mul.calls (k : Nat) (A0 : Option Addr) (c0 : Nat) (l0 : List Int) (A1 : Option Addr) (c1 : Nat) (l1 : List Int) (r : List Int) (w : World) (hr0 : Kd.C (Kd.int .u32) w A0 l0.length l0) (hc0 : l0.length ≤ c0) (hr1 : Kd.C (Kd.int .u32) w A1 l1.length l1) (hc1 : l1.length ≤ c1) (h : r1_Mul.f k l0 l1 = some r) :
    Calls Try.prog 26 #[.slice A0 l0.length c0, .slice A1 l1.length c1] w fun e w' => ∃ v0_ : Value, e = .returned (v0_) ∧ Kd.R (Kd.int .u32) 97 w' w.heap.size (fun _ => True) v0_ r ∧ Below w.heap.size w w' := by
 have HR0 := zk hr0
 have HC0 := zk hc0
 clear hr0 hc0
 have HR1 := zk hr1
 have HC1 := zk hc1
 clear hr1 hc1
 have HB := zk (Below.refl w.heap.size w)
 have H := h
 clear h
 unfold r1_Mul.f at H
 obtain ⟨ji3, hji3⟩ : ∃ j_ : Int, (wrap64 ((l0.length : Int) + (l1.length : Int))) = j_ := ⟨_, rfl⟩
 replace H : (if 0 ≤ (ji3) then (if (ji3 : Int).toNat ≤ 70368744177664 then (r1_Mul.l0 k l0 l1 (List.replicate (ji3 : Int).toNat 0) 0) else (none)) else (none)) = some r := by first | (rw [hji3] at H; exact H) | (simp only [hji3] at H ⊢; exact H)
 have hji3w : (IntKind.i64.wrap ((l0.length : Int) + (l1.length : Int))) = ji3 := (i64_w _).trans hji3
 replace H := zg H
 obtain ⟨c4, H⟩ := H
 have c4b0 := eq_true c4
 have c4b1 := decide_eq_true c4
 clear c4
 replace H := zg H
 obtain ⟨c5, H⟩ := H
 have c5b0 := eq_true c5
 have c5b1 := decide_eq_true c5
 clear c5
 obtain ⟨ya1, hya1⟩ : ∃ y_ : List Int, y_ = (List.replicate (ji3 : Int).toNat 0) := ⟨_, rfl⟩
 replace H : (r1_Mul.l0 k l0 l1 ya1 0) = some r := zY hya1 H
 have Nya1 := zk hya1
 clear hya1
 have H' := zk H
 clear H
 go_enter Try.func26, Try.ntmps26
 go_wp2_with (first | ((with_reducible refine gate_dst (N := 15) rfl ?_); refine Kd.R_make (Kd.int .u32) _ 97 rfl (N := 15) rfl 29 _ _ rfl ji3 rfl rfl Try.underlying29 (.int .u32 0) 4 info97 rfl (by decide) (by omega) 0 (ok := fun _ => True) (okp := fun _ => True) rfl (fun _ hk => hk) trivial zd (Nat.le_trans (Nat.mul_le_mul_right _ (zd : ji3.toNat ≤ 70368744177664)) (by omega)) (Below.refl _ _) (Nat.le_refl _) ?_; intro va2 w6 ho7 hb hg_ hnew_; clear hg_ hnew_; (first | rw [← Nya1.out] at ho7 | (simp only [Int.reduceToNat] at ho7; rw [← Nya1.out] at ho7)); have HOa3 := yRl ho7 HB; replace HB := yS HB hb; clear hb ho7))
 repeat (go_quiet (first | ((with_reducible refine gate_dst (N := 15) rfl ?_); refine Kd.R_make (Kd.int .u32) _ 97 rfl (N := 15) rfl 29 _ _ rfl ji3 rfl rfl Try.underlying29 (.int .u32 0) 4 info97 rfl (by decide) (by omega) 0 (ok := fun _ => True) (okp := fun _ => True) rfl (fun _ hk => hk) trivial zd (Nat.le_trans (Nat.mul_le_mul_right _ (zd : ji3.toNat ≤ 70368744177664)) (by omega)) (Below.refl _ _) (Nat.le_refl _) ?_; intro va2 w6 ho7 hb hg_ hnew_; clear hg_ hnew_; (first | rw [← Nya1.out] at ho7 | (simp only [Int.reduceToNat] at ho7; rw [← Nya1.out] at ho7)); have HOa3 := yRl ho7 HB; replace HB := yS HB hb; clear hb ho7)); try go_wp2_with (first | ((with_reducible refine gate_dst (N := 15) rfl ?_); refine Kd.R_make (Kd.int .u32) _ 97 rfl (N := 15) rfl 29 _ _ rfl ji3 rfl rfl Try.underlying29 (.int .u32 0) 4 info97 rfl (by decide) (by omega) 0 (ok := fun _ => True) (okp := fun _ => True) rfl (fun _ hk => hk) trivial zd (Nat.le_trans (Nat.mul_le_mul_right _ (zd : ji3.toNat ≤ 70368744177664)) (by omega)) (Below.refl _ _) (Nat.le_refl _) ?_; intro va2 w6 ho7 hb hg_ hnew_; clear hg_ hnew_; (first | rw [← Nya1.out] at ho7 | (simp only [Int.reduceToNat] at ho7; rw [← Nya1.out] at ho7)); have n0_ := yRl ho7 HB; have n1_ := yS HB hb; clear HB; have HOa3 := n0_; have HB := n1_; clear n0_ n1_; clear hb ho7)))
 go_loopg [6] k (fun kq v6 w' => ∃ (x5_1 : List Int) (x6_1 : Int), v6 = .int .i64 x6_1 ∧ Aside0 (r1_Mul.l0 kq l0 l1 x5_1 x6_1 = some r) ∧ Aside0 (kq ≤ k) ∧ Aside0 (Kd.R (Kd.int .u32) 97 w' w.heap.size (fun _ => True) va2 x5_1) ∧ Aside0 (Below w.heap.size w w'))
 case atStart => exact ⟨(ya1), (0), zF, H', ⟨Nat.le_refl _⟩, ⟨zR HOa3.out⟩, ⟨zB HB.out⟩⟩
 clear H'
 (try clear c4);(try clear c4b0);(try clear c4b1);(try clear c5);(try clear c5b0);(try clear c5b1)
 obtain ⟨x5_1, x6_1, rfl, HA, HK1, HO_5, HB⟩ := hrel
 cases gk with | zero => exact absurd HA.out (by simp [r1_Mul.l0]) | succ k1 => ?_
 have H := HA.out
 clear HA
 simp only [r1_Mul.l0] at H
 replace H := zid H
 rcases H with ⟨c8b0, H⟩ | ⟨c8b0, H⟩
 · have H' := zk H
   clear H
   go_wp2
   repeat (go_quiet (fail); try go_wp2)
   go_loopg [7, 8] k1 (fun kq v7 v8 w' => ∃ (x5_2 : List Int) (x7_2 : Int) (x8_2 : Int), v7 = .int .u64 x7_2 ∧ v8 = .int .i64 x8_2 ∧ Aside0 (r1_Mul.l1 kq l0 l1 x5_2 x6_1 x7_2 x8_2 = some r) ∧ Aside0 (kq ≤ k1) ∧ Aside0 (Kd.R (Kd.int .u32) 97 w' w.heap.size (fun _ => True) va2 x5_2) ∧ Aside0 (Below w.heap.size w w'))
   case atStart => exact ⟨(x5_1), (0), (0), zF, zF, H', ⟨Nat.le_refl _⟩, ⟨zR HO_5.out⟩, ⟨zB HB.out⟩⟩
   clear H'
   (try clear c4);(try clear c4b0);(try clear c4b1);(try clear c5);(try clear c5b0);(try clear c5b1);(try clear c8b0)
   obtain ⟨x5_2, x7_2, x8_2, rfl, rfl, HA, HK2, HO_5, HB⟩ := hrel
   cases gk with | zero => exact absurd HA.out (by simp [r1_Mul.l1]) | succ k2 => ?_
   have H := HA.out
   clear HA
   simp only [r1_Mul.l1] at H
   replace H := zid H
   rcases H with ⟨c9b0, H⟩ | ⟨c9b0, H⟩
   · replace H := zgd H
     obtain ⟨c10b0, H⟩ := H
     replace H := zgd H
     obtain ⟨c11b0, H⟩ := H
     replace H := zgd H
     obtain ⟨c12b0, H⟩ := H
     obtain ⟨ji13, hji13⟩ : ∃ j_ : Int, (wrap64 (x6_1 + x8_2)) = j_ := ⟨_, rfl⟩
     replace H : (if 0 ≤ (ji13) then (if (ji13) < (x5_2.length : Int) then (r1_Mul.l1 k2 l0 l1 (x5_2.set ((ji13) : Int).toNat ((Int.tmod (IntKind.u64.wrap ((IntKind.u64.wrap ((IntKind.u64.wrap ((IntKind.u64.wrap (rd l0 x6_1)) * (IntKind.u64.wrap (rd l1 x8_2)))) + (IntKind.u64.wrap (rd x5_2 (ji13))))) + x7_2)) 4294967296) % 4294967296)) x6_1 (IntKind.u64.wrap (Int.tdiv (IntKind.u64.wrap ((IntKind.u64.wrap ((IntKind.u64.wrap ((IntKind.u64.wrap (rd l0 x6_1)) * (IntKind.u64.wrap (rd l1 x8_2)))) + (IntKind.u64.wrap (rd x5_2 (ji13))))) + x7_2)) 4294967296)) (wrap64 (x8_2 + 1))) else (none)) else (none)) = some r := by first | (rw [hji13] at H; exact H) | (simp only [hji13] at H ⊢; exact H)
     have hji13w : (IntKind.i64.wrap (x6_1 + x8_2)) = ji13 := (i64_w _).trans hji13
     replace H := zgd H
     obtain ⟨c14b0, H⟩ := H
     replace H := zgd H
     obtain ⟨c15b0, H⟩ := H
     obtain ⟨yb0, hyb0⟩ : ∃ y_ : List Int, y_ = (x5_2.set ((ji13) : Int).toNat ((Int.tmod (IntKind.u64.wrap ((IntKind.u64.wrap ((IntKind.u64.wrap ((IntKind.u64.wrap (rd l0 x6_1)) * (IntKind.u64.wrap (rd l1 x8_2)))) + (IntKind.u64.wrap (rd x5_2 (ji13))))) + x7_2)) 4294967296) % 4294967296)) := ⟨_, rfl⟩
     replace H : (r1_Mul.l1 k2 l0 l1 yb0 x6_1 (IntKind.u64.wrap (Int.tdiv (IntKind.u64.wrap ((IntKind.u64.wrap ((IntKind.u64.wrap ((IntKind.u64.wrap (rd l0 x6_1)) * (IntKind.u64.wrap (rd l1 x8_2)))) + (IntKind.u64.wrap (rd x5_2 (ji13))))) + x7_2)) 4294967296)) (wrap64 (x8_2 + 1))) = some r := zY hyb0 H
     have Nyb0 := zk hyb0
     clear hyb0
     have H' := zk H
     clear H
     have pa7 : 0 ≤ (x6_1 : Int) := zd
     have qa7 : x6_1 < (l0.length : Int) := zd
     obtain ⟨ada7, ea7, hxa7_0⟩ := Kd.at_int HR0.out x6_1 pa7 qa7
     cases ea7
     replace hxa7_0 := (HB.out.cell (World.block_lt_of_cell? w _ hxa7_0)).trans hxa7_0
     replace pa7 := eq_true pa7
     replace qa7 := eq_true qa7
     have pa8 : 0 ≤ (x8_2 : Int) := zd
     have qa8 : x8_2 < (l1.length : Int) := zd
     obtain ⟨ada8, ea8, hxa8_0⟩ := Kd.at_int HR1.out x8_2 pa8 qa8
     cases ea8
     replace hxa8_0 := (HB.out.cell (World.block_lt_of_cell? w _ hxa8_0)).trans hxa8_0
     replace pa8 := eq_true pa8
     replace qa8 := eq_true qa8
     obtain ⟨Ao17, co17, rfl⟩ := Kd.R_slice HO_5.out
     have pa9 : 0 ≤ ((ji13) : Int) := zd
     have qa9 : (ji13) < (x5_2.length : Int) := zd
     obtain ⟨ada9, ea9, hxa9_0⟩ := Kd.at_int (Kd.R_reads' HO_5.out).2.2 (ji13) pa9 qa9
     cases ea9
     replace pa9 := eq_true pa9
     replace qa9 := eq_true qa9
     have p16 : 0 ≤ ((ji13) : Int) := zd
     have q16 : ((ji13) : Int) < ((x5_2.length : Int) : Int) := zd
     obtain ⟨go16, co16, eo16, gb16, gl16, cl16, HG16⟩ := Kd.R_form HO_5.out (by omega)
     (first | cases eo16 | (injection eo16 with ea_ en_ ec_; (first | subst ea_ | (injection ea_ with ea_; subst ea_)); subst ec_; clear en_))
     have GB16 := zk gb16
     have GG16 := zk HG16
     clear gb16 gl16 HG16
     (first | simp only [add_plain] at hxa9_0 | skip)
     obtain ⟨hx16_0, hf16_0⟩ := Kd.R_celln 0 HO_5.out ((ji13) : Int) p16 q16
     replace p16 := eq_true p16
     replace q16 := eq_true q16
     obtain ⟨hy18_, hz18_⟩ := Kd.R_celln 0 HO_5.out ((ji13) : Int) zd zd
     have HP18 := Kd.R_putg HO_5.out ((ji13) : Int) ((Int.tmod (IntKind.u64.wrap ((IntKind.u64.wrap ((IntKind.u64.wrap ((IntKind.u64.wrap (rd l0 x6_1)) * (IntKind.u64.wrap (rd l1 x8_2)))) + (IntKind.u64.wrap (rd x5_2 (ji13))))) + x7_2)) 4294967296) % 4294967296)
     go_wp2_with (first | ((with_reducible refine gate_store (t := 97) (p := 56) rfl ?_); (try (rw [drewN_self wr]; generalize hq_ : World.drewN wr _ = wr; have n0_ := zk (Kd.R_at hq_ HO_5.out); have n1_ := zk (below_at hq_ HB.out); clear hq_ HO_5 HB; have HO_5 := n0_; have HB := n1_; clear n0_ n1_; (try (obtain ⟨hy18_, hz18_⟩ := Kd.R_celln 0 HO_5.out ((ji13) : Int) zd zd)); (try (have HP18 := Kd.R_putg HO_5.out ((ji13) : Int) ((Int.tmod (IntKind.u64.wrap ((IntKind.u64.wrap ((IntKind.u64.wrap ((IntKind.u64.wrap (rd l0 x6_1)) * (IntKind.u64.wrap (rd l1 x8_2)))) + (IntKind.u64.wrap (rd x5_2 (ji13))))) + x7_2)) 4294967296) % 4294967296))))); refine store_event (t := 97) (p := 56) (v := ?vo_w19) (w1 := (wr.setCell ⟨go16, ((ji13) : Int).toNat, none⟩ (.int .u32 ((Int.tmod (IntKind.u64.wrap ((IntKind.u64.wrap ((IntKind.u64.wrap ((IntKind.u64.wrap (rd l0 x6_1)) * (IntKind.u64.wrap (rd l1 x8_2)))) + (IntKind.u64.wrap (rd x5_2 (ji13))))) + x7_2)) 4294967296) % 4294967296)))) ?hg ?ho ?hn ?hr ?_; (case ho => rfl); (case hg => rfl); (case hn => rfl); (case hr => first | (go_simp; done) | (go_simp; rfl)); intro w19 hw; have hg : wr.grownBy w19 (some go16) := (by rw [hw]; exact HP18.2); have hp_ : Kd.R (Kd.int .u32) 97 w19 w.heap.size (fun _ => True) (.slice (some ⟨go16, 0, none⟩) x5_2.length co17) yb0 := (by rw [hw, Nyb0.out]; exact HP18.1); clear HP18; replace HO_5 := zk (hp_); replace HB := zk ((by rw [hw]; exact below_set (HB.out) GB16.out : Below w.heap.size w w19)); clear hg hw hp_))
     repeat (go_quiet (first | ((with_reducible refine gate_store (t := 97) (p := 56) rfl ?_); (try (rw [drewN_self wr]; generalize hq_ : World.drewN wr _ = wr; have n0_ := zk (Kd.R_at hq_ HO_5.out); have n1_ := zk (below_at hq_ HB.out); clear hq_ HO_5 HB; have HO_5 := n0_; have HB := n1_; clear n0_ n1_; (try (obtain ⟨hy18_, hz18_⟩ := Kd.R_celln 0 HO_5.out ((ji13) : Int) zd zd)); (try (have HP18 := Kd.R_putg HO_5.out ((ji13) : Int) ((Int.tmod (IntKind.u64.wrap ((IntKind.u64.wrap ((IntKind.u64.wrap ((IntKind.u64.wrap (rd l0 x6_1)) * (IntKind.u64.wrap (rd l1 x8_2)))) + (IntKind.u64.wrap (rd x5_2 (ji13))))) + x7_2)) 4294967296) % 4294967296))))); refine store_event (t := 97) (p := 56) (v := ?vo_w19) (w1 := (wr.setCell ⟨go16, ((ji13) : Int).toNat, none⟩ (.int .u32 ((Int.tmod (IntKind.u64.wrap ((IntKind.u64.wrap ((IntKind.u64.wrap ((IntKind.u64.wrap (rd l0 x6_1)) * (IntKind.u64.wrap (rd l1 x8_2)))) + (IntKind.u64.wrap (rd x5_2 (ji13))))) + x7_2)) 4294967296) % 4294967296)))) ?hg ?ho ?hn ?hr ?_; (case ho => rfl); (case hg => rfl); (case hn => rfl); (case hr => first | (go_simp; done) | (go_simp; rfl)); intro w19 hw; have hg : wr.grownBy w19 (some go16) := (by rw [hw]; exact HP18.2); have hp_ : Kd.R (Kd.int .u32) 97 w19 w.heap.size (fun _ => True) (.slice (some ⟨go16, 0, none⟩) x5_2.length co17) yb0 := (by rw [hw, Nyb0.out]; exact HP18.1); clear HP18; replace HO_5 := zk (hp_); replace HB := zk ((by rw [hw]; exact below_set (HB.out) GB16.out : Below w.heap.size w w19)); clear hg hw hp_)); try go_wp2_with (first | ((with_reducible refine gate_store (t := 97) (p := 56) rfl ?_); (try (rw [drewN_self wr]; generalize hq_ : World.drewN wr _ = wr; have n0_ := zk (Kd.R_at hq_ HO_5.out); have n1_ := zk (below_at hq_ HB.out); clear hq_ HO_5 HB; have HO_5 := n0_; have HB := n1_; clear n0_ n1_; (try (obtain ⟨hy18_, hz18_⟩ := Kd.R_celln 0 HO_5.out ((ji13) : Int) zd zd)); (try (have HP18 := Kd.R_putg HO_5.out ((ji13) : Int) ((Int.tmod (IntKind.u64.wrap ((IntKind.u64.wrap ((IntKind.u64.wrap ((IntKind.u64.wrap (rd l0 x6_1)) * (IntKind.u64.wrap (rd l1 x8_2)))) + (IntKind.u64.wrap (rd x5_2 (ji13))))) + x7_2)) 4294967296) % 4294967296))))); refine store_event (t := 97) (p := 56) (v := ?vo_w19) (w1 := (wr.setCell ⟨go16, ((ji13) : Int).toNat, none⟩ (.int .u32 ((Int.tmod (IntKind.u64.wrap ((IntKind.u64.wrap ((IntKind.u64.wrap ((IntKind.u64.wrap (rd l0 x6_1)) * (IntKind.u64.wrap (rd l1 x8_2)))) + (IntKind.u64.wrap (rd x5_2 (ji13))))) + x7_2)) 4294967296) % 4294967296)))) ?hg ?ho ?hn ?hr ?_; (case ho => rfl); (case hg => rfl); (case hn => rfl); (case hr => first | (go_simp; done) | (go_simp; rfl)); intro w19 hw; have hg : wr.grownBy w19 (some go16) := (by rw [hw]; exact HP18.2); have hp_ : Kd.R (Kd.int .u32) 97 w19 w.heap.size (fun _ => True) (.slice (some ⟨go16, 0, none⟩) x5_2.length co17) yb0 := (by rw [hw, Nyb0.out]; exact HP18.1); clear HP18; have n0_ := zk (hp_); have n1_ := zk ((by rw [hw]; exact below_set (HB.out) GB16.out : Below w.heap.size w w19)); clear HO_5; clear HB; have HO_5 := n0_; have HB := n1_; clear n0_ n1_; clear hg hw hp_)))
     go_roundg k2
     case measure => have := HK1.out; have := HK2.out; omega
     case rel => exact ⟨(yb0), (IntKind.u64.wrap (Int.tdiv (IntKind.u64.wrap ((IntKind.u64.wrap ((IntKind.u64.wrap ((IntKind.u64.wrap (rd l0 x6_1)) * (IntKind.u64.wrap (rd l1 x8_2)))) + (IntKind.u64.wrap (rd x5_2 (ji13))))) + x7_2)) 4294967296)), (wrap64 (x8_2 + 1)), (by first | rfl | (simp; done) | (simp only [← hji13] <;> (first | rfl | simp)) | (simp [*]; done)), zF, H', ⟨zo2 HK1 HK2⟩, ⟨zR HO_5.out⟩, ⟨zB HB.out⟩⟩
   obtain ⟨ji20, hji20⟩ : ∃ j_ : Int, (wrap64 (x6_1 + (l1.length : Int))) = j_ := ⟨_, rfl⟩
   replace H : (if 0 ≤ (ji20) then (if (ji20) < (x5_2.length : Int) then (r1_Mul.l0 k2 l0 l1 (x5_2.set ((ji20) : Int).toNat ((x7_2) % 4294967296)) (wrap64 (x6_1 + 1))) else (none)) else (none)) = some r := by first | (rw [hji20] at H; exact H) | (simp only [hji20] at H ⊢; exact H)
   have hji20w : (IntKind.i64.wrap (x6_1 + (l1.length : Int))) = ji20 := (i64_w _).trans hji20
   replace H := zgd H
   obtain ⟨c21b0, H⟩ := H
   replace H := zgd H
   obtain ⟨c22b0, H⟩ := H
   obtain ⟨yb1, hyb1⟩ : ∃ y_ : List Int, y_ = (x5_2.set ((ji20) : Int).toNat ((x7_2) % 4294967296)) := ⟨_, rfl⟩
   replace H : (r1_Mul.l0 k2 l0 l1 yb1 (wrap64 (x6_1 + 1))) = some r := zY hyb1 H
   have Nyb1 := zk hyb1
   clear hyb1
   have H' := zk H
   clear H
   have p23 : 0 ≤ ((ji20) : Int) := zd
   have q23 : ((ji20) : Int) < ((x5_2.length : Int) : Int) := zd
   obtain ⟨go23, co23, eo23, gb23, gl23, cl23, HG23⟩ := Kd.R_form HO_5.out (by omega)
   (first | cases eo23 | (injection eo23 with ea_ en_ ec_; (first | subst ea_ | (injection ea_ with ea_; subst ea_)); subst ec_; clear en_))
   have GB23 := zk gb23
   have GG23 := zk HG23
   clear gb23 gl23 HG23
   obtain ⟨hx23_0, hf23_0⟩ := Kd.R_celln 0 HO_5.out ((ji20) : Int) p23 q23
   replace p23 := eq_true p23
   replace q23 := eq_true q23
   obtain ⟨hy24_, hz24_⟩ := Kd.R_celln 0 HO_5.out ((ji20) : Int) zd zd
   have HP24 := Kd.R_putg HO_5.out ((ji20) : Int) ((x7_2) % 4294967296)
   go_wp2_with (first | ((with_reducible refine gate_store (t := 97) (p := 66) rfl ?_); (try (rw [drewN_self wr]; generalize hq_ : World.drewN wr _ = wr; have n0_ := zk (Kd.R_at hq_ HO_5.out); have n1_ := zk (below_at hq_ HB.out); clear hq_ HO_5 HB; have HO_5 := n0_; have HB := n1_; clear n0_ n1_; (try (obtain ⟨hy24_, hz24_⟩ := Kd.R_celln 0 HO_5.out ((ji20) : Int) zd zd)); (try (have HP24 := Kd.R_putg HO_5.out ((ji20) : Int) ((x7_2) % 4294967296))))); refine store_event (t := 97) (p := 66) (v := ?vo_w25) (w1 := (wr.setCell ⟨go23, ((ji20) : Int).toNat, none⟩ (.int .u32 ((x7_2) % 4294967296)))) ?hg ?ho ?hn ?hr ?_; (case ho => rfl); (case hg => rfl); (case hn => rfl); (case hr => first | (go_simp; done) | (go_simp; rfl)); intro w25 hw; have hg : wr.grownBy w25 (some go23) := (by rw [hw]; exact HP24.2); have hp_ : Kd.R (Kd.int .u32) 97 w25 w.heap.size (fun _ => True) (.slice (some ⟨go23, 0, none⟩) x5_2.length co23) yb1 := (by rw [hw, Nyb1.out]; exact HP24.1); clear HP24; replace HO_5 := zk (hp_); replace HB := zk ((by rw [hw]; exact below_set (HB.out) GB23.out : Below w.heap.size w w25)); clear hg hw hp_))
   repeat (go_quiet (first | ((with_reducible refine gate_store (t := 97) (p := 66) rfl ?_); (try (rw [drewN_self wr]; generalize hq_ : World.drewN wr _ = wr; have n0_ := zk (Kd.R_at hq_ HO_5.out); have n1_ := zk (below_at hq_ HB.out); clear hq_ HO_5 HB; have HO_5 := n0_; have HB := n1_; clear n0_ n1_; (try (obtain ⟨hy24_, hz24_⟩ := Kd.R_celln 0 HO_5.out ((ji20) : Int) zd zd)); (try (have HP24 := Kd.R_putg HO_5.out ((ji20) : Int) ((x7_2) % 4294967296))))); refine store_event (t := 97) (p := 66) (v := ?vo_w25) (w1 := (wr.setCell ⟨go23, ((ji20) : Int).toNat, none⟩ (.int .u32 ((x7_2) % 4294967296)))) ?hg ?ho ?hn ?hr ?_; (case ho => rfl); (case hg => rfl); (case hn => rfl); (case hr => first | (go_simp; done) | (go_simp; rfl)); intro w25 hw; have hg : wr.grownBy w25 (some go23) := (by rw [hw]; exact HP24.2); have hp_ : Kd.R (Kd.int .u32) 97 w25 w.heap.size (fun _ => True) (.slice (some ⟨go23, 0, none⟩) x5_2.length co23) yb1 := (by rw [hw, Nyb1.out]; exact HP24.1); clear HP24; replace HO_5 := zk (hp_); replace HB := zk ((by rw [hw]; exact below_set (HB.out) GB23.out : Below w.heap.size w w25)); clear hg hw hp_)); try go_wp2_with (first | ((with_reducible refine gate_store (t := 97) (p := 66) rfl ?_); (try (rw [drewN_self wr]; generalize hq_ : World.drewN wr _ = wr; have n0_ := zk (Kd.R_at hq_ HO_5.out); have n1_ := zk (below_at hq_ HB.out); clear hq_ HO_5 HB; have HO_5 := n0_; have HB := n1_; clear n0_ n1_; (try (obtain ⟨hy24_, hz24_⟩ := Kd.R_celln 0 HO_5.out ((ji20) : Int) zd zd)); (try (have HP24 := Kd.R_putg HO_5.out ((ji20) : Int) ((x7_2) % 4294967296))))); refine store_event (t := 97) (p := 66) (v := ?vo_w25) (w1 := (wr.setCell ⟨go23, ((ji20) : Int).toNat, none⟩ (.int .u32 ((x7_2) % 4294967296)))) ?hg ?ho ?hn ?hr ?_; (case ho => rfl); (case hg => rfl); (case hn => rfl); (case hr => first | (go_simp; done) | (go_simp; rfl)); intro w25 hw; have hg : wr.grownBy w25 (some go23) := (by rw [hw]; exact HP24.2); have hp_ : Kd.R (Kd.int .u32) 97 w25 w.heap.size (fun _ => True) (.slice (some ⟨go23, 0, none⟩) x5_2.length co23) yb1 := (by rw [hw, Nyb1.out]; exact HP24.1); clear HP24; have n0_ := zk (hp_); have n1_ := zk ((by rw [hw]; exact below_set (HB.out) GB23.out : Below w.heap.size w w25)); clear HO_5; clear HB; have HO_5 := n0_; have HB := n1_; clear n0_ n1_; clear hg hw hp_)))
   go_roundg k2
   case measure => have := HK1.out; have := HK2.out; omega
   case rel => exact ⟨(yb1), (wrap64 (x6_1 + 1)), zF, H', ⟨zo2 HK1 HK2⟩, ⟨zR HO_5.out⟩, ⟨zB HB.out⟩⟩
 replace H := zb H
 obtain ⟨ta4, A26, H⟩ := H
 obtain rfl := Option.some.inj H
 obtain ⟨Ao27, co27, rfl⟩ := Kd.R_slice HO_5.out
 go_wp2_with (first | (go_at_call 75; (with_reducible refine (r1_Trim.calls k1 _ _ x5_1 ta4 _ ?side1 ?side2 A26.out).mono ?_); (case side1 => exact zC (Kd.R_reads' HO_5.out).2.2); (case side2 => exact (Kd.R_reads' HO_5.out).2.1); rintro e w28 ⟨va5, rfl, ho0, hb⟩; replace ho0 := yn ho0 HO_5; have HOa6 := yRl ho0 HB; replace HO_5 := yRe HO_5 ho0 hb; replace HB := yS HB hb; (try clear hb ho0)))
 repeat (go_quiet (first | (go_at_call 75; (with_reducible refine (r1_Trim.calls k1 _ _ x5_1 ta4 _ ?side1 ?side2 A26.out).mono ?_); (case side1 => exact zC (Kd.R_reads' HO_5.out).2.2); (case side2 => exact (Kd.R_reads' HO_5.out).2.1); rintro e w28 ⟨va5, rfl, ho0, hb⟩; replace ho0 := yn ho0 HO_5; have HOa6 := yRl ho0 HB; replace HO_5 := yRe HO_5 ho0 hb; replace HB := yS HB hb; (try clear hb ho0))); try go_wp2_with (first | (go_at_call 75; (with_reducible refine (r1_Trim.calls k1 _ _ x5_1 ta4 _ ?side1 ?side2 A26.out).mono ?_); (case side1 => exact zC (Kd.R_reads' HO_5.out).2.2); (case side2 => exact (Kd.R_reads' HO_5.out).2.1); rintro e w28 ⟨va5, rfl, ho0, hb⟩; have n0_ := yRe HO_5 ho0 hb; have n1_ := zk (Kd.R_lower (Kd.R_new' ho0 (Kd.R_lt (zR HO_5.out))) (below_size (zB HB.out))); have n2_ := yS HB hb; clear HO_5; clear HB; have HO_5 := n0_; have HOa6 := n1_; have HB := n2_; clear n0_ n1_ n2_; (try clear hb); (try clear hb2); (try clear hk); (try clear hi); (try clear ho0))))
 go_ret
 exact ⟨_, by first | rfl | (simp [errW_none, errW_some] <;> rfl) | (simp only [← hji3]; first | rfl | (simp [errW_none, errW_some] <;> rfl)) | (simp [*, errW_none, errW_some] <;> rfl), by (with_reducible repeat (first | apply Kd.R_alloc | apply Kd.R_drewN | apply Kd.R_drew)); exact Kd.R_mono HOa6.out (fun _ hk => trivial), zB HB.out⟩
set_option maxHeartbeats 8000000 in
set_option maxRecDepth 100000 in
theorem r2_Trim.calls (k : Nat) (a0_0 : Bool) (A0_1 : Option Addr) (c0_1 : Nat) (l0_1 : List Int) (A0_2 : Option Addr) (c0_2 : Nat) (l0_2 : List Int) (r1 : Bool) (r2 : List Int) (r3 : List Int) (w : World) (hr0_1 : Kd.C (Kd.int .u32) w A0_1 l0_1.length l0_1) (hc0_1 : l0_1.length ≤ c0_1) (hr0_2 : Kd.C (Kd.int .u32) w A0_2 l0_2.length l0_2) (hc0_2 : l0_2.length ≤ c0_2) (h : r2_Trim.f k a0_0 l0_1 l0_2 = some (r1, r2, r3)) :
    Calls Try.prog 99 #[.agg #[.bool a0_0, .slice A0_1 l0_1.length c0_1, .slice A0_2 l0_2.length c0_2]] w fun e w' => ∃ v1_ v2_ : Value, e = .returned (.agg #[.bool r1, v1_, v2_]) ∧ Kd.R (Kd.int .u32) 97 w' w.heap.size (fun k_ => some k_ ≠ (v2_ : Value).ownBlock) v1_ r2 ∧ Kd.R (Kd.int .u32) 97 w' w.heap.size (fun k_ => some k_ ≠ (v1_ : Value).ownBlock) v2_ r3 ∧ Below w.heap.size w w' := by
 have hu60 := Try.underlying60
 have HR0_1 := zk hr0_1
 have HC0_1 := zk hc0_1
 clear hr0_1 hc0_1
 have HR0_2 := zk hr0_2
 have HC0_2 := zk hc0_2
 clear hr0_2 hc0_2
 have HB := zk (Below.refl w.heap.size w)
 have H := h
 clear h
 unfold r2_Trim.f at H
 replace H := zb H
 obtain ⟨⟨ta3, ta4, ta7⟩, A2, H⟩ := H
 dsimp only at H
 simp only [Option.some.injEq, Prod.mk.injEq] at H
 obtain ⟨rfl, rfl, rfl⟩ := H
 go_enter Try.func99, Try.ntmps99
 go_wp2_with (first | ((with_reducible refine gate_dst (N := 1) rfl ?_); refine box_event ?hg (N := 1) ?hd (cs := #[.bool a0_0, .slice A0_1 l0_1.length c0_1, .slice A0_2 l0_2.length c0_2]) (t := 60) ?hr ?_; (case hd => rfl); (case hg => rfl); (case hr => first | (go_simp; done) | (go_simp; rfl)); intro gba1 hg w3 hbox hb; have BKa1 := zk (hbox); have GWa1 := yg hg HB; have GEa1 := yg hg HB; replace HB := yS HB hb; clear hb hbox hg) | ((with_reducible refine gate_dst (N := 2) rfl ?_); refine box_event ?hg (N := 2) ?hd (cs := #[.bool false, .slice none 0 0, .slice none 0 0]) (t := 60) ?hr ?_; (case hd => rfl); (case hg => rfl); (case hr => first | (go_simp; done) | (go_simp; rfl)); intro gba2 hg w4 hbox hb; have BKa2 := zk (hbox); have GWa2 := yg1 hg HB GEa1; have GEa2 := yg1 hg HB GEa1; replace HB := yS1 HB GEa1 hb; have NBa1_102 := ynl hg BKa1; have NBa2_101 := yng hg BKa1; replace BKa1 := yK BKa1 hb; clear hb hbox hg; have hnb5 := NBa1_102.out; have hnc5 := NBa2_101.out; obtain ⟨hcz6_0, hcz6_1, hcz6_2, hfz6_0, hfz6_1, hfz6_2⟩ := zz3 BKa1) | ((with_reducible refine gC 90 ?_); refine zG (some 9) Try.func90 #[.bool a0_0, .slice A0_1 l0_1.length c0_1, .slice A0_2 l0_2.length c0_2] ?_; (with_reducible refine (r2_Make.calls k a0_0 _ _ l0_1 _ _ l0_2 ta3 ta4 ta7 _ ?side1 ?side2 ?side3 ?side4 A2.out).mono ?_); (case side1 => exact zC (Kd.C_below HR0_1.out HB.out)); (case side2 => exact HC0_1.out); (case side3 => exact zC (Kd.C_below HR0_2.out HB.out)); (case side4 => exact HC0_2.out); rintro e w7 ⟨va5, va8, rfl, ho0, ho1, hb⟩; refine ⟨_, rfl, ?_⟩; have HOa6 := yRl2 ho0 HB GEa1 GEa2; have HOa9 := yRl2 ho1 HB GEa1 GEa2; replace BKa1 := yK BKa1 hb; replace BKa2 := yK BKa2 hb; replace HB := yS2 HB GEa1 GEa2 hb; (try clear hb ho0); (try clear ho1); obtain ⟨hcz8_0, hcz8_1, hcz8_2, hfz8_0, hfz8_1, hfz8_2⟩ := zz3 BKa2; obtain ⟨Ao9, co9, rfl⟩ := Kd.R_slice HOa6.out; obtain ⟨Ao10, co10, rfl⟩ := Kd.R_slice HOa9.out))
 refine bodyPost_ret (results_cell_row rfl _ _ gba2 60 #[.bool ta3, .slice Ao9 ta4.length co9, .slice Ao10 ta7.length co10] (0, 0) _ rfl (zP3 BKa2.out) Try.underlying60 rfl (by kernel_rfl)) rfl ?_
 exact ⟨_, _, zE, by (with_reducible repeat (first | apply Kd.R_alloc | apply Kd.R_drewN | apply Kd.R_drew)); exact yf HOa6.out BKa2.out (fun _ hk => hk.1), by (with_reducible repeat (first | apply Kd.R_alloc | apply Kd.R_drewN | apply Kd.R_drew)); exact yf HOa9.out BKa2.out (fun _ hk => hk.1), zB2 HB.out GEa1.out GEa2.out⟩
def r2_Add.T7 : Bool × List (List Nat × List Nat) := (true, [([], []), ([0], [0]), ([], []), ([], []), ([2, 3], [2, 3]), ([], []), ([1, 4, 5, 4], [1, 4, 5]), ([6, 6, 0, 1, 2, 3, 4, 5, 6], [6])])
def r2_Add.B7 : List Nat := [0, 1, 0, 0, 12, 0, 63, 127]
theorem r2_Add.tab7 : rtab .any (opsOf Try.f50 7) = r2_Add.T7 := by kernel_rfl
theorem r2_Add.bits7 : waitsOk r2_Add.T7.2 r2_Add.B7 = true := by kernel_rfl
def r2_Add.T9 : Bool × List (List Nat × List Nat) := (true, [([], []), ([0], [0]), ([], []), ([], []), ([2, 3], [2, 3]), ([], []), ([1, 4, 5, 4], [1, 4, 5]), ([6, 6, 0, 1, 2, 3, 4, 5, 6], [6])])
def r2_Add.B9 : List Nat := [0, 1, 0, 0, 12, 0, 63, 127]
theorem r2_Add.tab9 : rtab .any (opsOf Try.f50 9) = r2_Add.T9 := by kernel_rfl
theorem r2_Add.bits9 : waitsOk r2_Add.T9.2 r2_Add.B9 = true := by kernel_rfl
def r2_Add.T10 : Bool × List (List Nat × List Nat) := (true, [([], []), ([0], [0]), ([], []), ([], []), ([2, 3], [2, 3]), ([], []), ([1, 4, 5, 4], [1, 4, 5]), ([6, 6, 0, 1, 2, 3, 4, 5, 6], [6])])
def r2_Add.B10 : List Nat := [0, 1, 0, 0, 12, 0, 63, 127]
theorem r2_Add.tab10 : rtab .any (opsOf Try.f50 10) = r2_Add.T10 := by kernel_rfl
theorem r2_Add.bits10 : waitsOk r2_Add.T10.2 r2_Add.B10 = true := by kernel_rfl
set_option maxHeartbeats 8000000 in
set_option maxRecDepth 100000 in
theorem r2_Add.calls (k : Nat) (a0_0 : Bool) (A0_1 : Option Addr) (c0_1 : Nat) (l0_1 : List Int) (A0_2 : Option Addr) (c0_2 : Nat) (l0_2 : List Int) (a1_0 : Bool) (A1_1 : Option Addr) (c1_1 : Nat) (l1_1 : List Int) (A1_2 : Option Addr) (c1_2 : Nat) (l1_2 : List Int) (r1 : Bool) (r2 : List Int) (r3 : List Int) (w : World) (hr0_1 : Kd.C (Kd.int .u32) w A0_1 l0_1.length l0_1) (hc0_1 : l0_1.length ≤ c0_1) (hr0_2 : Kd.C (Kd.int .u32) w A0_2 l0_2.length l0_2) (hc0_2 : l0_2.length ≤ c0_2) (hr1_1 : Kd.C (Kd.int .u32) w A1_1 l1_1.length l1_1) (hc1_1 : l1_1.length ≤ c1_1) (hr1_2 : Kd.C (Kd.int .u32) w A1_2 l1_2.length l1_2) (hc1_2 : l1_2.length ≤ c1_2) (h : r2_Add.f k a0_0 l0_1 l0_2 a1_0 l1_1 l1_2 = some (r1, r2, r3)) :
    Calls Try.prog 50 #[.agg #[.bool a0_0, .slice A0_1 l0_1.length c0_1, .slice A0_2 l0_2.length c0_2], .agg #[.bool a1_0, .slice A1_1 l1_1.length c1_1, .slice A1_2 l1_2.length c1_2]] w fun e w' => ∃ v1_ v2_ : Value, e = .returned (.agg #[.bool r1, v1_, v2_]) ∧ Kd.R (Kd.int .u32) 97 w' w.heap.size (fun k_ => some k_ ≠ (v2_ : Value).ownBlock) v1_ r2 ∧ Kd.R (Kd.int .u32) 97 w' w.heap.size (fun k_ => some k_ ≠ (v1_ : Value).ownBlock) v2_ r3 ∧ Below w.heap.size w w' := by
 have hu60 := Try.underlying60
 have HR0_1 := zk hr0_1
 have HC0_1 := zk hc0_1
 clear hr0_1 hc0_1
 have HR0_2 := zk hr0_2
 have HC0_2 := zk hc0_2
 clear hr0_2 hc0_2
 have HR1_1 := zk hr1_1
 have HC1_1 := zk hc1_1
 clear hr1_1 hc1_1
 have HR1_2 := zk hr1_2
 have HC1_2 := zk hc1_2
 clear hr1_2 hc1_2
 have HB := zk (Below.refl w.heap.size w)
 have H := h
 clear h
 unfold r2_Add.f at H
 replace H := zb H
 obtain ⟨⟨ta4, ta5, ta8⟩, A3, H⟩ := H
 dsimp only at H
 replace H := zb H
 obtain ⟨⟨tb1, tb2, tb5⟩, A4, H⟩ := H
 dsimp only at H
 replace H := zb H
 obtain ⟨tb8, A5, H⟩ := H
 replace H := zb H
 obtain ⟨tc1, A6, H⟩ := H
 replace H := zb H
 obtain ⟨tc4, A7, H⟩ := H
 replace H := zi H
 rcases H with ⟨c8, H⟩ | ⟨c8, H⟩
 · have c8b0 : (ta4 == tb1) = true := c8
   (try (have c8b1 : decide (ta4 = tb1) = true := by simpa using c8))
   (try (have c8b2 : (ta4 == tb1) = true := by simpa using c8))
   clear c8
   replace H := zb H
   obtain ⟨tc7, A9, H⟩ := H
   replace H := zb H
   obtain ⟨⟨td0, td1, td4⟩, A10, H⟩ := H
   dsimp only at H
   simp only [Option.some.injEq, Prod.mk.injEq] at H
   obtain ⟨rfl, rfl, rfl⟩ := H
   go_enter Try.func50, Try.ntmps50
   try go_wp2_with (first | ((with_reducible refine gate_dst (N := 2) rfl ?_); refine box_event ?hg (N := 2) ?hd (cs := #[.bool a0_0, .slice A0_1 l0_1.length c0_1, .slice A0_2 l0_2.length c0_2]) (t := 60) ?hr ?_; (case hd => rfl); (case hg => rfl); (case hr => first | (go_simp; done) | (go_simp; rfl)); intro gba1 hg w11 hbox hb; have BKa1 := zk (hbox); have GWa1 := yg hg HB; have GEa1 := yg hg HB; replace HB := yS HB hb; clear hb hbox hg) | ((with_reducible refine gate_dst (N := 3) rfl ?_); refine box_event ?hg (N := 3) ?hd (cs := #[.bool a1_0, .slice A1_1 l1_1.length c1_1, .slice A1_2 l1_2.length c1_2]) (t := 60) ?hr ?_; (case hd => rfl); (case hg => rfl); (case hr => first | (go_simp; done) | (go_simp; rfl)); intro gba2 hg w12 hbox hb; have BKa2 := zk (hbox); have GWa2 := yg1 hg HB GEa1; have GEa2 := yg1 hg HB GEa1; replace HB := yS1 HB GEa1 hb; have NBa1_102 := ynl hg BKa1; have NBa2_101 := yng hg BKa1; replace BKa1 := yK BKa1 hb; clear hb hbox hg) | ((with_reducible refine gate_dst (N := 4) rfl ?_); refine box_event ?hg (N := 4) ?hd (cs := #[.bool false, .slice none 0 0, .slice none 0 0]) (t := 60) ?hr ?_; (case hd => rfl); (case hg => rfl); (case hr => first | (go_simp; done) | (go_simp; rfl)); intro gba3 hg w13 hbox hb; have BKa3 := zk (hbox); have GWa3 := yg2 hg HB GEa1 GEa2; have GEa3 := yg2 hg HB GEa1 GEa2; replace HB := yS2 HB GEa1 GEa2 hb; have NBa1_103 := ynl hg BKa1; have NBa3_101 := yng hg BKa1; replace BKa1 := yK BKa1 hb; have NBa2_103 := ynl hg BKa2; have NBa3_102 := yng hg BKa2; replace BKa2 := yK BKa2 hb; clear hb hbox hg; have hnb14 := NBa1_102.out; have hnc14 := NBa2_101.out; have hnb15 := NBa1_103.out; have hnc15 := NBa3_101.out; obtain ⟨hcz16_0, hcz16_1, hcz16_2, hfz16_0, hfz16_1, hfz16_2⟩ := zz3 BKa1) | ((with_reducible refine gC 99 ?_); refine zG (some 9) Try.func99 #[.agg #[.bool a0_0, .slice A0_1 l0_1.length c0_1, .slice A0_2 l0_2.length c0_2]] ?_; (with_reducible refine (r2_Trim.calls k a0_0 _ _ l0_1 _ _ l0_2 ta4 ta5 ta8 _ ?side1 ?side2 ?side3 ?side4 A3.out).mono ?_); (case side1 => exact zC (Kd.C_below HR0_1.out HB.out)); (case side2 => exact HC0_1.out); (case side3 => exact zC (Kd.C_below HR0_2.out HB.out)); (case side4 => exact HC0_2.out); rintro e w17 ⟨va6, va9, rfl, ho0, ho1, hb⟩; refine ⟨_, rfl, ?_⟩; have HOa7 := yRl3 ho0 HB GEa1 GEa2 GEa3; have HOb0 := yRl3 ho1 HB GEa1 GEa2 GEa3; replace BKa1 := yK BKa1 hb; replace BKa2 := yK BKa2 hb; replace BKa3 := yK BKa3 hb; replace HB := yS3 HB GEa1 GEa2 GEa3 hb; (try clear hb ho0); (try clear ho1); obtain ⟨hcz18_0, hcz18_1, hcz18_2, hfz18_0, hfz18_1, hfz18_2⟩ := zz3 BKa1; obtain ⟨Ao19, co19, rfl⟩ := Kd.R_slice HOa7.out; obtain ⟨Ao20, co20, rfl⟩ := Kd.R_slice HOb0.out; have hnb21 := NBa2_103.out; have hnc21 := NBa3_102.out; obtain ⟨hcz22_0, hcz22_1, hcz22_2, hfz22_0, hfz22_1, hfz22_2⟩ := zz3 BKa2) | ((with_reducible refine gC 99 ?_); refine zG (some 11) Try.func99 #[.agg #[.bool a1_0, .slice A1_1 l1_1.length c1_1, .slice A1_2 l1_2.length c1_2]] ?_; (with_reducible refine (r2_Trim.calls k a1_0 _ _ l1_1 _ _ l1_2 tb1 tb2 tb5 _ ?side1 ?side2 ?side3 ?side4 A4.out).mono ?_); (case side1 => exact Kd.C_below HR1_1.out (zB3 HB.out GEa1.out GEa2.out GEa3.out)); (case side2 => exact HC1_1.out); (case side3 => exact Kd.C_below HR1_2.out (zB3 HB.out GEa1.out GEa2.out GEa3.out)); (case side4 => exact HC1_2.out); rintro e w23 ⟨vb3, vb6, rfl, ho0, ho1, hb⟩; refine ⟨_, rfl, ?_⟩; replace ho0 := ynf ho0 HOa7 BKa1; replace ho0 := ynf ho0 HOb0 BKa1; have HOb4 := yRl3 ho0 HB GEa1 GEa2 GEa3; replace ho1 := ynf ho1 HOa7 BKa1; replace ho1 := ynf ho1 HOb0 BKa1; have HOb7 := yRl3 ho1 HB GEa1 GEa2 GEa3; replace HOa7 := yRtf HOa7 BKa1 hb ho0 ho1; replace HOb0 := yRtf HOb0 BKa1 hb ho0 ho1; replace BKa1 := yP3 BKa1 hb; replace BKa2 := yF3 BKa2 NBa2_101 hb; replace BKa3 := yF3 BKa3 NBa3_101 hb; replace HB := yS3 HB GEa1 GEa2 GEa3 hb; (try clear hb ho0); (try clear ho1); obtain ⟨hcz24_0, hcz24_1, hcz24_2, hfz24_0, hfz24_1, hfz24_2⟩ := zz3 BKa2; obtain ⟨Ao25, co25, rfl⟩ := Kd.R_slice HOb4.out; obtain ⟨Ao26, co26, rfl⟩ := Kd.R_slice HOb7.out; obtain ⟨hcz27_0, hcz27_1, hcz27_2, hfz27_0, hfz27_1, hfz27_2⟩ := zz3 BKa1) | ((with_reducible refine gC 26 ?_); refine zG (some 16) Try.func26 #[.slice Ao19 ta5.length co19, .slice Ao26 tb5.length co26] ?_; (with_reducible refine (r1_Mul.calls k _ _ ta5 _ _ tb5 tb8 _ ?side1 ?side2 ?side3 ?side4 A5.out).mono ?_); (case side1 => refine (Kd.R_reads' (e := 97) (base := w.heap.size) (ok := fun k_ => ((some k_ ≠ (.slice Ao20 ta8.length co20 : Value).ownBlock ∧ some k_ ≠ (.slice Ao25 tb2.length co25 : Value).ownBlock) ∧ some k_ ≠ (.slice Ao26 tb5.length co26 : Value).ownBlock)) (n := ta5.length) (c := co19) ?_).2.2; exact (zf HOa7.out BKa2.out)); (case side2 => exact (Kd.R_reads' HOa7.out).2.1); (case side3 => refine (Kd.R_reads' (e := 97) (base := w.heap.size) (ok := fun k_ => ((some k_ ≠ (.slice Ao25 tb2.length co25 : Value).ownBlock ∧ some k_ ≠ (.slice Ao19 ta5.length co19 : Value).ownBlock) ∧ some k_ ≠ (.slice Ao20 ta8.length co20 : Value).ownBlock)) (n := tb5.length) (c := co26) ?_).2.2; exact (zf HOb7.out BKa2.out)); (case side4 => exact (Kd.R_reads' HOb7.out).2.1); rintro e w28 ⟨vb9, rfl, ho0, hb⟩; refine ⟨_, rfl, ?_⟩; replace ho0 := ynf ho0 HOa7 BKa2; replace ho0 := ynf ho0 HOb0 BKa2; replace ho0 := ynf ho0 HOb4 BKa2; replace ho0 := ynf ho0 HOb7 BKa2; have HOc0 := yRl3 ho0 HB GEa1 GEa2 GEa3; replace HOa7 := yRef HOa7 BKa2 ho0 hb; replace HOb0 := yRef HOb0 BKa2 ho0 hb; replace HOb4 := yRef HOb4 BKa2 ho0 hb; replace HOb7 := yRef HOb7 BKa2 ho0 hb; replace BKa1 := yF3 BKa1 NBa1_102 hb; replace BKa2 := yP3 BKa2 hb; replace BKa3 := yF3 BKa3 NBa3_102 hb; replace HB := yS3 HB GEa1 GEa2 GEa3 hb; (try clear hb ho0); obtain ⟨hcz29_0, hcz29_1, hcz29_2, hfz29_0, hfz29_1, hfz29_2⟩ := zz3 BKa2; obtain ⟨hcz30_0, hcz30_1, hcz30_2, hfz30_0, hfz30_1, hfz30_2⟩ := zz3 BKa1) | ((with_reducible refine gC 26 ?_); refine zG (some 21) Try.func26 #[.slice Ao25 tb2.length co25, .slice Ao20 ta8.length co20] ?_; (with_reducible refine (r1_Mul.calls k _ _ tb2 _ _ ta8 tc1 _ ?side1 ?side2 ?side3 ?side4 A6.out).mono ?_); (case side1 => exact zC (Kd.R_reads' HOb4.out).2.2); (case side2 => exact (Kd.R_reads' HOb4.out).2.1); (case side3 => exact zC (Kd.R_reads' HOb0.out).2.2); (case side4 => exact (Kd.R_reads' HOb0.out).2.1); rintro e w31 ⟨vc2, rfl, ho0, hb⟩; refine ⟨_, rfl, ?_⟩; replace ho0 := yn ho0 HOa7; replace ho0 := yn ho0 HOb0; replace ho0 := yn ho0 HOb4; replace ho0 := yn ho0 HOb7; replace ho0 := yn ho0 HOc0; have HOc3 := yRl3 ho0 HB GEa1 GEa2 GEa3; replace HOa7 := yRe HOa7 ho0 hb; replace HOb0 := yRe HOb0 ho0 hb; replace HOb4 := yRe HOb4 ho0 hb; replace HOb7 := yRe HOb7 ho0 hb; replace HOc0 := yRe HOc0 ho0 hb; replace BKa1 := yK BKa1 hb; replace BKa2 := yK BKa2 hb; replace BKa3 := yK BKa3 hb; replace HB := yS3 HB GEa1 GEa2 GEa3 hb; (try clear hb ho0); obtain ⟨hcz32_0, hcz32_1, hcz32_2, hfz32_0, hfz32_1, hfz32_2⟩ := zz3 BKa1; obtain ⟨hcz33_0, hcz33_1, hcz33_2, hfz33_0, hfz33_1, hfz33_2⟩ := zz3 BKa2) | ((with_reducible refine gC 26 ?_); refine zG (some 26) Try.func26 #[.slice Ao20 ta8.length co20, .slice Ao26 tb5.length co26] ?_; (with_reducible refine (r1_Mul.calls k _ _ ta8 _ _ tb5 tc4 _ ?side1 ?side2 ?side3 ?side4 A7.out).mono ?_); (case side1 => exact zC (Kd.R_reads' HOb0.out).2.2); (case side2 => exact (Kd.R_reads' HOb0.out).2.1); (case side3 => exact zC (Kd.R_reads' HOb7.out).2.2); (case side4 => exact (Kd.R_reads' HOb7.out).2.1); rintro e w34 ⟨vc5, rfl, ho0, hb⟩; refine ⟨_, rfl, ?_⟩; replace ho0 := yn ho0 HOa7; replace ho0 := yn ho0 HOb0; replace ho0 := yn ho0 HOb4; replace ho0 := yn ho0 HOb7; replace ho0 := yn ho0 HOc0; replace ho0 := yn ho0 HOc3; have HOc6 := yRl3 ho0 HB GEa1 GEa2 GEa3; replace HOa7 := yRe HOa7 ho0 hb; replace HOb0 := yRe HOb0 ho0 hb; replace HOb4 := yRe HOb4 ho0 hb; replace HOb7 := yRe HOb7 ho0 hb; replace HOc0 := yRe HOc0 ho0 hb; replace HOc3 := yRe HOc3 ho0 hb; replace BKa1 := yK BKa1 hb; replace BKa2 := yK BKa2 hb; replace BKa3 := yK BKa3 hb; replace HB := yS3 HB GEa1 GEa2 GEa3 hb; (try clear hb ho0); obtain ⟨hcz35_0, hcz35_1, hcz35_2, hfz35_0, hfz35_1, hfz35_2⟩ := zz3 BKa1; obtain ⟨hcz36_0, hcz36_1, hcz36_2, hfz36_0, hfz36_1, hfz36_2⟩ := zz3 BKa2))
   replace HOa7 := zk (Kd.R_drew HOa7.out)
   replace HOb0 := zk (Kd.R_drew HOb0.out)
   replace HOb4 := zk (Kd.R_drew HOb4.out)
   replace HOb7 := zk (Kd.R_drew HOb7.out)
   replace HOc0 := zk (Kd.R_drew HOc0.out)
   replace HOc3 := zk (Kd.R_drew HOc3.out)
   replace HOc6 := zk (Kd.R_drew HOc6.out)
   replace BKa1 := zk (blk_drew BKa1.out)
   replace BKa2 := zk (blk_drew BKa2.out)
   replace BKa3 := zk (blk_drew BKa3.out)
   replace HB := zk (below_drew1 HB.out)
   obtain ⟨Ao38, co38, eo38⟩ := Kd.R_slice HOc0.out
   (first | subst eo38 | (injection eo38 with f1_ f2_ f3_; have f4_ := f1_.symm; have f5_ := f3_.symm; clear f1_ f2_ f3_; subst f4_; subst f5_))
   obtain ⟨Ao39, co39, eo39⟩ := Kd.R_slice HOc3.out
   (first | subst eo39 | (injection eo39 with f1_ f2_ f3_; have f4_ := f1_.symm; have f5_ := f3_.symm; clear f1_ f2_ f3_; subst f4_; subst f5_))
   refine start_ (n := 8) (S := fun w' => w'.cell? ⟨gba1, 0, none⟩ = some (.bool ta4) ∧ w'.cell? ⟨gba1, 1, none⟩ = some (.slice Ao19 ta5.length co19) ∧ w'.cell? ⟨gba1, 2, none⟩ = some (.slice Ao20 ta8.length co20)) (ds := []) #[false, false, false, false, false, false, false, false] (by kernel_rfl) rfl rfl ⟨(blk_cell BKa1.out 0).trans rfl, (blk_cell BKa1.out 1).trans rfl, (blk_cell BKa1.out 2).trans rfl⟩ (fun hHeld => ?_); refine with_tabW r2_Add.tab7 r2_Add.bits7 (fun HT_ HW_ => ?_)
   generalize w34.drew = w37 at HOa7 HOb0 HOb4 HOb7 HOc0 HOc3 HOc6 BKa1 BKa2 BKa3 HB hHeld ⊢
   refine zp (i := 0) (N := some 32) HT_ ?_
   refine zp (i := 2) (N := some 34) HT_ ?_
   refine zp (i := 3) (N := some 35) HT_ ?_
   refine zp (i := 5) (N := some 37) HT_ ?_
   refine take_ (i := 1) (N := some 33) (v := ?_) (a' := ?_) #[true, true, true, true, false, true, false, false] rfl rfl (take_ofW HT_.out HW_.out (by kernel_rfl)) (fun _ _ _ h => h) (Or.inl ⟨by rfl, ?_⟩) hHeld ?_ ?_
   rotate_left
   · rintro w' ⟨s0, s1, s2⟩
     go_simp
     with_reducible rfl
   rotate_left
   · simp only [Act.put, List.setIfInBounds_toArray, List.set_cons_zero, List.set_cons_succ, i64_w, i32_w]
     rfl
   refine one_ (i := 4) (N := some 36) #[true, true, true, true, true, true, false, false] rfl rfl (one_of HT_.out (by kernel_rfl)) (by decide) (fun K hK => ?_)
   refine goes_ Try.func86 (by kernel_rfl) rfl #[.slice Ao38 tb8.length co38, .slice Ao39 tc1.length co39] (by rfl) rfl rfl (by (try simp only [List.map_toArray, List.map_cons, List.map_nil]); first | done | rfl | (simp only [List.length_drop, List.length_take]; rfl)) ?_
   with_reducible refine (r1_Add.calls k _ _ tb8 _ _ tc1 tc7 _ ?side1 ?side2 ?side3 ?side4 A9.out).mono ?_
   (case side1 => exact zC (Kd.R_reads' HOc0.out).2.2)
   (case side2 => exact (Kd.R_reads' HOc0.out).2.1)
   (case side3 => exact zC (Kd.R_reads' HOc3.out).2.2)
   (case side4 => exact (Kd.R_reads' HOc3.out).2.1)
   rintro e w40 ⟨vc8, rfl, ho0, hb⟩
   refine ⟨_, rfl, ?_⟩
   replace ho0 := yn ho0 HOa7
   replace ho0 := yn ho0 HOb0
   replace ho0 := yn ho0 HOb4
   replace ho0 := yn ho0 HOb7
   replace ho0 := yn ho0 HOc0
   replace ho0 := yn ho0 HOc3
   replace ho0 := yn ho0 HOc6
   have HOc9 := yRl3 ho0 HB GEa1 GEa2 GEa3
   replace HOa7 := yRe HOa7 ho0 hb
   replace HOb0 := yRe HOb0 ho0 hb
   replace HOb4 := yRe HOb4 ho0 hb
   replace HOb7 := yRe HOb7 ho0 hb
   replace HOc0 := yRe HOc0 ho0 hb
   replace HOc3 := yRe HOc3 ho0 hb
   replace HOc6 := yRe HOc6 ho0 hb
   replace BKa1 := yK BKa1 hb
   replace BKa2 := yK BKa2 hb
   replace BKa3 := yK BKa3 hb
   replace HB := yS3 HB GEa1 GEa2 GEa3 hb
   (try clear hb)
   (try clear ho0)
   obtain ⟨Ao41, co41, eo41⟩ := Kd.R_slice HOc9.out
   (first | subst eo41 | (injection eo41 with f1_ f2_ f3_; have f4_ := f1_.symm; have f5_ := f3_.symm; clear f1_ f2_ f3_; subst f4_; subst f5_))
   obtain ⟨Ao42, co42, eo42⟩ := Kd.R_slice HOc6.out
   (first | subst eo42 | (injection eo42 with f1_ f2_ f3_; have f4_ := f1_.symm; have f5_ := f3_.symm; clear f1_ f2_ f3_; subst f4_; subst f5_))
   refine hK.out _ _ ⟨(blk_cell BKa1.out 0).trans rfl, (blk_cell BKa1.out 1).trans rfl, (blk_cell BKa1.out 2).trans rfl⟩ (fun hHeld => ?_)
   clear hK K
   refine norm_ (a' := ?_) ?_ ?_
   rotate_left
   · show Act.put _ (some 36) _ = _
     simp only [Act.put, List.setIfInBounds_toArray, List.set_cons_zero, List.set_cons_succ, i64_w, i32_w]
     rfl
   refine one_ (i := 6) (N := some 38) #[true, true, true, true, true, true, true, false] rfl rfl (one_of HT_.out (by kernel_rfl)) (by decide) (fun K hK => ?_)
   refine goes_ Try.func90 (by kernel_rfl) rfl #[.bool ta4, .slice Ao41 tc7.length co41, .slice Ao42 tc4.length co42] (by rfl) rfl rfl (by (try simp only [List.map_toArray, List.map_cons, List.map_nil]); first | done | rfl | (simp only [List.length_drop, List.length_take]; rfl)) ?_
   with_reducible refine (r2_Make.calls k ta4 _ _ tc7 _ _ tc4 td0 td1 td4 _ ?side1 ?side2 ?side3 ?side4 A10.out).mono ?_
   (case side1 => exact zC (Kd.R_reads' HOc9.out).2.2)
   (case side2 => exact (Kd.R_reads' HOc9.out).2.1)
   (case side3 => exact zC (Kd.R_reads' HOc6.out).2.2)
   (case side4 => exact (Kd.R_reads' HOc6.out).2.1)
   rintro e w43 ⟨vd2, vd5, rfl, ho0, ho1, hb⟩
   refine ⟨_, rfl, ?_⟩
   replace ho0 := yn ho0 HOa7
   replace ho0 := yn ho0 HOb0
   replace ho0 := yn ho0 HOb4
   replace ho0 := yn ho0 HOb7
   replace ho0 := yn ho0 HOc0
   replace ho0 := yn ho0 HOc3
   replace ho0 := yn ho0 HOc6
   replace ho0 := yn ho0 HOc9
   have HOd3 := yRl3 ho0 HB GEa1 GEa2 GEa3
   replace ho1 := yn ho1 HOa7
   replace ho1 := yn ho1 HOb0
   replace ho1 := yn ho1 HOb4
   replace ho1 := yn ho1 HOb7
   replace ho1 := yn ho1 HOc0
   replace ho1 := yn ho1 HOc3
   replace ho1 := yn ho1 HOc6
   replace ho1 := yn ho1 HOc9
   have HOd6 := yRl3 ho1 HB GEa1 GEa2 GEa3
   replace HOa7 := yRt HOa7 hb ho0 ho1
   replace HOb0 := yRt HOb0 hb ho0 ho1
   replace HOb4 := yRt HOb4 hb ho0 ho1
   replace HOb7 := yRt HOb7 hb ho0 ho1
   replace HOc0 := yRt HOc0 hb ho0 ho1
   replace HOc3 := yRt HOc3 hb ho0 ho1
   replace HOc6 := yRt HOc6 hb ho0 ho1
   replace HOc9 := yRt HOc9 hb ho0 ho1
   replace BKa1 := yK BKa1 hb
   replace BKa2 := yK BKa2 hb
   replace BKa3 := yK BKa3 hb
   replace HB := yS3 HB GEa1 GEa2 GEa3 hb
   (try clear hb)
   (try clear ho0)
   (try clear ho1)
   obtain ⟨Ao45, co45, eo45⟩ := Kd.R_slice HOd3.out
   (first | subst eo45 | (injection eo45 with f1_ f2_ f3_; have f4_ := f1_.symm; have f5_ := f3_.symm; clear f1_ f2_ f3_; subst f4_; subst f5_))
   obtain ⟨Ao47, co47, eo47⟩ := Kd.R_slice HOd6.out
   (first | subst eo47 | (injection eo47 with f1_ f2_ f3_; have f4_ := f1_.symm; have f5_ := f3_.symm; clear f1_ f2_ f3_; subst f4_; subst f5_))
   refine hK.out _ _ ⟨(blk_cell BKa1.out 0).trans rfl, (blk_cell BKa1.out 1).trans rfl, (blk_cell BKa1.out 2).trans rfl⟩ (fun hHeld => ?_)
   clear hK K
   refine norm_ (a' := ?_) ?_ ?_
   rotate_left
   · show Act.put _ (some 38) _ = _
     simp only [Act.put, List.setIfInBounds_toArray, List.set_cons_zero, List.set_cons_succ, i64_w, i32_w]
     rfl
   refine one_ (i := 7) (N := none) #[true, true, true, true, true, true, true, true] rfl rfl (one_of HT_.out (by kernel_rfl)) (by decide) (fun K hK => ?_)
   have hs44 : w43.cell? ⟨gba3, 0, none⟩ = some (.bool false) := (blk_cell BKa3.out 0).trans rfl
   have hfs44 := blk_frozen BKa3.out 0
   have hns44_0 := NBa1_103.out
   have hns44_1 := NBa2_103.out
   have hms44_0 := NBa3_101.out
   have hms44_1 := NBa3_102.out
   have hs46 : w43.cell? ⟨gba3, 1, none⟩ = some (.slice none 0 0) := (blk_cell BKa3.out 1).trans rfl
   have hfs46 := blk_frozen BKa3.out 1
   have hns46_0 := NBa1_103.out
   have hns46_1 := NBa2_103.out
   have hms46_0 := NBa3_101.out
   have hms46_1 := NBa3_102.out
   have hs48 : w43.cell? ⟨gba3, 2, none⟩ = some (.slice none 0 0) := (blk_cell BKa3.out 2).trans rfl
   have hfs48 := blk_frozen BKa3.out 2
   have hns48_0 := NBa1_103.out
   have hns48_1 := NBa2_103.out
   have hms48_0 := NBa3_101.out
   have hms48_1 := NBa3_102.out
   refine skip_ (w1 := ?_) (by rfl) rfl ?_ ?_
   rotate_left
   · go_simp
     rfl
   refine hK.out _ _ ⟨((cell_far (p := ⟨gba3, _, none⟩) NBa1_103.out _).trans (((cell_far (p := ⟨gba3, _, none⟩) NBa1_103.out _).trans (((cell_far (p := ⟨gba3, _, none⟩) NBa1_103.out _).trans (hHeld.1)))))), ((cell_far (p := ⟨gba3, _, none⟩) NBa1_103.out _).trans (((cell_far (p := ⟨gba3, _, none⟩) NBa1_103.out _).trans (((cell_far (p := ⟨gba3, _, none⟩) NBa1_103.out _).trans (hHeld.2.1)))))), ((cell_far (p := ⟨gba3, _, none⟩) NBa1_103.out _).trans (((cell_far (p := ⟨gba3, _, none⟩) NBa1_103.out _).trans (((cell_far (p := ⟨gba3, _, none⟩) NBa1_103.out _).trans (hHeld.2.2))))))⟩ (fun hHeld => ?_)
   clear hK K
   refine done_ (done_of HT_.out (by kernel_rfl)) ?_
   try go_wp2
   refine bodyPost_ret (results_cell_row rfl _ _ gba3 60 #[.bool td0, .slice Ao45 td1.length co45, .slice Ao47 td4.length co47] (0, 0) _ rfl (zP3 BKa3.out) Try.underlying60 rfl (by kernel_rfl)) rfl ?_
   exact ⟨_, _, zE, by (with_reducible repeat (first | apply Kd.R_alloc | apply Kd.R_drewN | apply Kd.R_drew)); exact yf HOd3.out BKa3.out (fun _ hk => hk.1.1.1.1.1.1.1.1.1), by (with_reducible repeat (first | apply Kd.R_alloc | apply Kd.R_drewN | apply Kd.R_drew)); exact yf HOd6.out BKa3.out (fun _ hk => hk.1.1.1.1.1.1.1.1.1), zB3 HB.out GEa1.out GEa2.out GEa3.out⟩
 have c8b0 : (ta4 == tb1) = false := by simpa using c8
 (try (have c8b1 : decide (ta4 = tb1) = false := by simpa using c8))
 (try (have c8b2 : (ta4 == tb1) = false := by simpa using c8))
 (try (have c8b3 : ¬ (ta4 = tb1) := by simpa using c8))
 clear c8
 replace H := zb H
 obtain ⟨td7, A49, H⟩ := H
 replace H := zi H
 rcases H with ⟨c50, H⟩ | ⟨c50, H⟩
 · have c50b0 : decide (0 ≤ td7) = true := decide_eq_true c50
   clear c50
   replace H := zb H
   obtain ⟨td8, A51, H⟩ := H
   replace H := zb H
   obtain ⟨⟨te1, te2, te5⟩, A52, H⟩ := H
   dsimp only at H
   simp only [Option.some.injEq, Prod.mk.injEq] at H
   obtain ⟨rfl, rfl, rfl⟩ := H
   go_enter Try.func50, Try.ntmps50
   try go_wp2_with (first | ((with_reducible refine gate_dst (N := 2) rfl ?_); refine box_event ?hg (N := 2) ?hd (cs := #[.bool a0_0, .slice A0_1 l0_1.length c0_1, .slice A0_2 l0_2.length c0_2]) (t := 60) ?hr ?_; (case hd => rfl); (case hg => rfl); (case hr => first | (go_simp; done) | (go_simp; rfl)); intro gba1 hg w53 hbox hb; have BKa1 := zk (hbox); have GWa1 := yg hg HB; have GEa1 := yg hg HB; replace HB := yS HB hb; clear hb hbox hg) | ((with_reducible refine gate_dst (N := 3) rfl ?_); refine box_event ?hg (N := 3) ?hd (cs := #[.bool a1_0, .slice A1_1 l1_1.length c1_1, .slice A1_2 l1_2.length c1_2]) (t := 60) ?hr ?_; (case hd => rfl); (case hg => rfl); (case hr => first | (go_simp; done) | (go_simp; rfl)); intro gba2 hg w54 hbox hb; have BKa2 := zk (hbox); have GWa2 := yg1 hg HB GEa1; have GEa2 := yg1 hg HB GEa1; replace HB := yS1 HB GEa1 hb; have NBa1_102 := ynl hg BKa1; have NBa2_101 := yng hg BKa1; replace BKa1 := yK BKa1 hb; clear hb hbox hg) | ((with_reducible refine gate_dst (N := 4) rfl ?_); refine box_event ?hg (N := 4) ?hd (cs := #[.bool false, .slice none 0 0, .slice none 0 0]) (t := 60) ?hr ?_; (case hd => rfl); (case hg => rfl); (case hr => first | (go_simp; done) | (go_simp; rfl)); intro gba3 hg w55 hbox hb; have BKa3 := zk (hbox); have GWa3 := yg2 hg HB GEa1 GEa2; have GEa3 := yg2 hg HB GEa1 GEa2; replace HB := yS2 HB GEa1 GEa2 hb; have NBa1_103 := ynl hg BKa1; have NBa3_101 := yng hg BKa1; replace BKa1 := yK BKa1 hb; have NBa2_103 := ynl hg BKa2; have NBa3_102 := yng hg BKa2; replace BKa2 := yK BKa2 hb; clear hb hbox hg; have hnb56 := NBa1_102.out; have hnc56 := NBa2_101.out; have hnb57 := NBa1_103.out; have hnc57 := NBa3_101.out; obtain ⟨hcz58_0, hcz58_1, hcz58_2, hfz58_0, hfz58_1, hfz58_2⟩ := zz3 BKa1) | ((with_reducible refine gC 99 ?_); refine zG (some 9) Try.func99 #[.agg #[.bool a0_0, .slice A0_1 l0_1.length c0_1, .slice A0_2 l0_2.length c0_2]] ?_; (with_reducible refine (r2_Trim.calls k a0_0 _ _ l0_1 _ _ l0_2 ta4 ta5 ta8 _ ?side1 ?side2 ?side3 ?side4 A3.out).mono ?_); (case side1 => exact zC (Kd.C_below HR0_1.out HB.out)); (case side2 => exact HC0_1.out); (case side3 => exact zC (Kd.C_below HR0_2.out HB.out)); (case side4 => exact HC0_2.out); rintro e w59 ⟨va6, va9, rfl, ho0, ho1, hb⟩; refine ⟨_, rfl, ?_⟩; have HOa7 := yRl3 ho0 HB GEa1 GEa2 GEa3; have HOb0 := yRl3 ho1 HB GEa1 GEa2 GEa3; replace BKa1 := yK BKa1 hb; replace BKa2 := yK BKa2 hb; replace BKa3 := yK BKa3 hb; replace HB := yS3 HB GEa1 GEa2 GEa3 hb; (try clear hb ho0); (try clear ho1); obtain ⟨hcz60_0, hcz60_1, hcz60_2, hfz60_0, hfz60_1, hfz60_2⟩ := zz3 BKa1; obtain ⟨Ao61, co61, rfl⟩ := Kd.R_slice HOa7.out; obtain ⟨Ao62, co62, rfl⟩ := Kd.R_slice HOb0.out; have hnb63 := NBa2_103.out; have hnc63 := NBa3_102.out; obtain ⟨hcz64_0, hcz64_1, hcz64_2, hfz64_0, hfz64_1, hfz64_2⟩ := zz3 BKa2) | ((with_reducible refine gC 99 ?_); refine zG (some 11) Try.func99 #[.agg #[.bool a1_0, .slice A1_1 l1_1.length c1_1, .slice A1_2 l1_2.length c1_2]] ?_; (with_reducible refine (r2_Trim.calls k a1_0 _ _ l1_1 _ _ l1_2 tb1 tb2 tb5 _ ?side1 ?side2 ?side3 ?side4 A4.out).mono ?_); (case side1 => exact Kd.C_below HR1_1.out (zB3 HB.out GEa1.out GEa2.out GEa3.out)); (case side2 => exact HC1_1.out); (case side3 => exact Kd.C_below HR1_2.out (zB3 HB.out GEa1.out GEa2.out GEa3.out)); (case side4 => exact HC1_2.out); rintro e w65 ⟨vb3, vb6, rfl, ho0, ho1, hb⟩; refine ⟨_, rfl, ?_⟩; replace ho0 := ynf ho0 HOa7 BKa1; replace ho0 := ynf ho0 HOb0 BKa1; have HOb4 := yRl3 ho0 HB GEa1 GEa2 GEa3; replace ho1 := ynf ho1 HOa7 BKa1; replace ho1 := ynf ho1 HOb0 BKa1; have HOb7 := yRl3 ho1 HB GEa1 GEa2 GEa3; replace HOa7 := yRtf HOa7 BKa1 hb ho0 ho1; replace HOb0 := yRtf HOb0 BKa1 hb ho0 ho1; replace BKa1 := yP3 BKa1 hb; replace BKa2 := yF3 BKa2 NBa2_101 hb; replace BKa3 := yF3 BKa3 NBa3_101 hb; replace HB := yS3 HB GEa1 GEa2 GEa3 hb; (try clear hb ho0); (try clear ho1); obtain ⟨hcz66_0, hcz66_1, hcz66_2, hfz66_0, hfz66_1, hfz66_2⟩ := zz3 BKa2; obtain ⟨Ao67, co67, rfl⟩ := Kd.R_slice HOb4.out; obtain ⟨Ao68, co68, rfl⟩ := Kd.R_slice HOb7.out; obtain ⟨hcz69_0, hcz69_1, hcz69_2, hfz69_0, hfz69_1, hfz69_2⟩ := zz3 BKa1) | ((with_reducible refine gC 26 ?_); refine zG (some 16) Try.func26 #[.slice Ao61 ta5.length co61, .slice Ao68 tb5.length co68] ?_; (with_reducible refine (r1_Mul.calls k _ _ ta5 _ _ tb5 tb8 _ ?side1 ?side2 ?side3 ?side4 A5.out).mono ?_); (case side1 => refine (Kd.R_reads' (e := 97) (base := w.heap.size) (ok := fun k_ => ((some k_ ≠ (.slice Ao62 ta8.length co62 : Value).ownBlock ∧ some k_ ≠ (.slice Ao67 tb2.length co67 : Value).ownBlock) ∧ some k_ ≠ (.slice Ao68 tb5.length co68 : Value).ownBlock)) (n := ta5.length) (c := co61) ?_).2.2; exact (zf HOa7.out BKa2.out)); (case side2 => exact (Kd.R_reads' HOa7.out).2.1); (case side3 => refine (Kd.R_reads' (e := 97) (base := w.heap.size) (ok := fun k_ => ((some k_ ≠ (.slice Ao67 tb2.length co67 : Value).ownBlock ∧ some k_ ≠ (.slice Ao61 ta5.length co61 : Value).ownBlock) ∧ some k_ ≠ (.slice Ao62 ta8.length co62 : Value).ownBlock)) (n := tb5.length) (c := co68) ?_).2.2; exact (zf HOb7.out BKa2.out)); (case side4 => exact (Kd.R_reads' HOb7.out).2.1); rintro e w70 ⟨vb9, rfl, ho0, hb⟩; refine ⟨_, rfl, ?_⟩; replace ho0 := ynf ho0 HOa7 BKa2; replace ho0 := ynf ho0 HOb0 BKa2; replace ho0 := ynf ho0 HOb4 BKa2; replace ho0 := ynf ho0 HOb7 BKa2; have HOc0 := yRl3 ho0 HB GEa1 GEa2 GEa3; replace HOa7 := yRef HOa7 BKa2 ho0 hb; replace HOb0 := yRef HOb0 BKa2 ho0 hb; replace HOb4 := yRef HOb4 BKa2 ho0 hb; replace HOb7 := yRef HOb7 BKa2 ho0 hb; replace BKa1 := yF3 BKa1 NBa1_102 hb; replace BKa2 := yP3 BKa2 hb; replace BKa3 := yF3 BKa3 NBa3_102 hb; replace HB := yS3 HB GEa1 GEa2 GEa3 hb; (try clear hb ho0); obtain ⟨hcz71_0, hcz71_1, hcz71_2, hfz71_0, hfz71_1, hfz71_2⟩ := zz3 BKa2; obtain ⟨hcz72_0, hcz72_1, hcz72_2, hfz72_0, hfz72_1, hfz72_2⟩ := zz3 BKa1) | ((with_reducible refine gC 26 ?_); refine zG (some 21) Try.func26 #[.slice Ao67 tb2.length co67, .slice Ao62 ta8.length co62] ?_; (with_reducible refine (r1_Mul.calls k _ _ tb2 _ _ ta8 tc1 _ ?side1 ?side2 ?side3 ?side4 A6.out).mono ?_); (case side1 => exact zC (Kd.R_reads' HOb4.out).2.2); (case side2 => exact (Kd.R_reads' HOb4.out).2.1); (case side3 => exact zC (Kd.R_reads' HOb0.out).2.2); (case side4 => exact (Kd.R_reads' HOb0.out).2.1); rintro e w73 ⟨vc2, rfl, ho0, hb⟩; refine ⟨_, rfl, ?_⟩; replace ho0 := yn ho0 HOa7; replace ho0 := yn ho0 HOb0; replace ho0 := yn ho0 HOb4; replace ho0 := yn ho0 HOb7; replace ho0 := yn ho0 HOc0; have HOc3 := yRl3 ho0 HB GEa1 GEa2 GEa3; replace HOa7 := yRe HOa7 ho0 hb; replace HOb0 := yRe HOb0 ho0 hb; replace HOb4 := yRe HOb4 ho0 hb; replace HOb7 := yRe HOb7 ho0 hb; replace HOc0 := yRe HOc0 ho0 hb; replace BKa1 := yK BKa1 hb; replace BKa2 := yK BKa2 hb; replace BKa3 := yK BKa3 hb; replace HB := yS3 HB GEa1 GEa2 GEa3 hb; (try clear hb ho0); obtain ⟨hcz74_0, hcz74_1, hcz74_2, hfz74_0, hfz74_1, hfz74_2⟩ := zz3 BKa1; obtain ⟨hcz75_0, hcz75_1, hcz75_2, hfz75_0, hfz75_1, hfz75_2⟩ := zz3 BKa2) | ((with_reducible refine gC 26 ?_); refine zG (some 26) Try.func26 #[.slice Ao62 ta8.length co62, .slice Ao68 tb5.length co68] ?_; (with_reducible refine (r1_Mul.calls k _ _ ta8 _ _ tb5 tc4 _ ?side1 ?side2 ?side3 ?side4 A7.out).mono ?_); (case side1 => exact zC (Kd.R_reads' HOb0.out).2.2); (case side2 => exact (Kd.R_reads' HOb0.out).2.1); (case side3 => exact zC (Kd.R_reads' HOb7.out).2.2); (case side4 => exact (Kd.R_reads' HOb7.out).2.1); rintro e w76 ⟨vc5, rfl, ho0, hb⟩; refine ⟨_, rfl, ?_⟩; replace ho0 := yn ho0 HOa7; replace ho0 := yn ho0 HOb0; replace ho0 := yn ho0 HOb4; replace ho0 := yn ho0 HOb7; replace ho0 := yn ho0 HOc0; replace ho0 := yn ho0 HOc3; have HOc6 := yRl3 ho0 HB GEa1 GEa2 GEa3; replace HOa7 := yRe HOa7 ho0 hb; replace HOb0 := yRe HOb0 ho0 hb; replace HOb4 := yRe HOb4 ho0 hb; replace HOb7 := yRe HOb7 ho0 hb; replace HOc0 := yRe HOc0 ho0 hb; replace HOc3 := yRe HOc3 ho0 hb; replace BKa1 := yK BKa1 hb; replace BKa2 := yK BKa2 hb; replace BKa3 := yK BKa3 hb; replace HB := yS3 HB GEa1 GEa2 GEa3 hb; (try clear hb ho0); obtain ⟨hcz77_0, hcz77_1, hcz77_2, hfz77_0, hfz77_1, hfz77_2⟩ := zz3 BKa1; obtain ⟨hcz78_0, hcz78_1, hcz78_2, hfz78_0, hfz78_1, hfz78_2⟩ := zz3 BKa2; obtain ⟨Ao79, co79, rfl⟩ := Kd.R_slice HOc0.out; obtain ⟨Ao80, co80, rfl⟩ := Kd.R_slice HOc3.out) | ((with_reducible refine gC 77 ?_); refine zG (some 41) Try.func77 #[.slice Ao79 tb8.length co79, .slice Ao80 tc1.length co80] ?_; (with_reducible refine (r1_Cmp.calls k _ _ tb8 _ _ tc1 td7 _ ?side1 ?side2 ?side3 ?side4 A49.out).mono ?_); (case side1 => exact zC (Kd.R_reads' HOc0.out).2.2); (case side2 => exact (Kd.R_reads' HOc0.out).2.1); (case side3 => exact zC (Kd.R_reads' HOc3.out).2.2); (case side4 => exact (Kd.R_reads' HOc3.out).2.1); rintro e w81 ⟨rfl, hb⟩; refine ⟨_, rfl, ?_⟩; replace HOa7 := yRb HOa7 hb; replace HOb0 := yRb HOb0 hb; replace HOb4 := yRb HOb4 hb; replace HOb7 := yRb HOb7 hb; replace HOc0 := yRb HOc0 hb; replace HOc3 := yRb HOc3 hb; replace HOc6 := yRb HOc6 hb; replace BKa1 := yK BKa1 hb; replace BKa2 := yK BKa2 hb; replace BKa3 := yK BKa3 hb; replace HB := yS3 HB GEa1 GEa2 GEa3 hb; (try clear hb); (try clear hb2); (try clear hk); (try clear hi)))
   replace HOa7 := zk (Kd.R_drew HOa7.out)
   replace HOb0 := zk (Kd.R_drew HOb0.out)
   replace HOb4 := zk (Kd.R_drew HOb4.out)
   replace HOb7 := zk (Kd.R_drew HOb7.out)
   replace HOc0 := zk (Kd.R_drew HOc0.out)
   replace HOc3 := zk (Kd.R_drew HOc3.out)
   replace HOc6 := zk (Kd.R_drew HOc6.out)
   replace BKa1 := zk (blk_drew BKa1.out)
   replace BKa2 := zk (blk_drew BKa2.out)
   replace BKa3 := zk (blk_drew BKa3.out)
   replace HB := zk (below_drew1 HB.out)
   refine start_ (n := 8) (S := fun w' => w'.cell? ⟨gba1, 0, none⟩ = some (.bool ta4) ∧ w'.cell? ⟨gba1, 1, none⟩ = some (.slice Ao61 ta5.length co61) ∧ w'.cell? ⟨gba1, 2, none⟩ = some (.slice Ao62 ta8.length co62)) (ds := []) #[false, false, false, false, false, false, false, false] (by kernel_rfl) rfl rfl ⟨(blk_cell BKa1.out 0).trans rfl, (blk_cell BKa1.out 1).trans rfl, (blk_cell BKa1.out 2).trans rfl⟩ (fun hHeld => ?_); refine with_tabW r2_Add.tab9 r2_Add.bits9 (fun HT_ HW_ => ?_)
   generalize w81.drew = w82 at HOa7 HOb0 HOb4 HOb7 HOc0 HOc3 HOc6 BKa1 BKa2 BKa3 HB hHeld ⊢
   refine zp (i := 0) (N := some 43) HT_ ?_
   refine zp (i := 2) (N := some 45) HT_ ?_
   refine zp (i := 3) (N := some 46) HT_ ?_
   refine zp (i := 5) (N := some 48) HT_ ?_
   refine take_ (i := 1) (N := some 44) (v := ?_) (a' := ?_) #[true, true, true, true, false, true, false, false] rfl rfl (take_ofW HT_.out HW_.out (by kernel_rfl)) (fun _ _ _ h => h) (Or.inl ⟨by rfl, ?_⟩) hHeld ?_ ?_
   rotate_left
   · rintro w' ⟨s0, s1, s2⟩
     go_simp
     with_reducible rfl
   rotate_left
   · simp only [Act.put, List.setIfInBounds_toArray, List.set_cons_zero, List.set_cons_succ, i64_w, i32_w]
     rfl
   refine one_ (i := 4) (N := some 47) #[true, true, true, true, true, true, false, false] rfl rfl (one_of HT_.out (by kernel_rfl)) (by decide) (fun K hK => ?_)
   refine goes_ Try.func100 (by kernel_rfl) rfl #[.slice Ao79 tb8.length co79, .slice Ao80 tc1.length co80] (by rfl) rfl rfl (by (try simp only [List.map_toArray, List.map_cons, List.map_nil]); first | done | rfl | (simp only [List.length_drop, List.length_take]; rfl)) ?_
   with_reducible refine (r1_Sub.calls k _ _ tb8 _ _ tc1 td8 _ ?side1 ?side2 ?side3 ?side4 A51.out).mono ?_
   (case side1 => exact zC (Kd.R_reads' HOc0.out).2.2)
   (case side2 => exact (Kd.R_reads' HOc0.out).2.1)
   (case side3 => exact zC (Kd.R_reads' HOc3.out).2.2)
   (case side4 => exact (Kd.R_reads' HOc3.out).2.1)
   rintro e w83 ⟨vd9, rfl, ho0, hb⟩
   refine ⟨_, rfl, ?_⟩
   replace ho0 := yn ho0 HOa7
   replace ho0 := yn ho0 HOb0
   replace ho0 := yn ho0 HOb4
   replace ho0 := yn ho0 HOb7
   replace ho0 := yn ho0 HOc0
   replace ho0 := yn ho0 HOc3
   replace ho0 := yn ho0 HOc6
   have HOe0 := yRl3 ho0 HB GEa1 GEa2 GEa3
   replace HOa7 := yRe HOa7 ho0 hb
   replace HOb0 := yRe HOb0 ho0 hb
   replace HOb4 := yRe HOb4 ho0 hb
   replace HOb7 := yRe HOb7 ho0 hb
   replace HOc0 := yRe HOc0 ho0 hb
   replace HOc3 := yRe HOc3 ho0 hb
   replace HOc6 := yRe HOc6 ho0 hb
   replace BKa1 := yK BKa1 hb
   replace BKa2 := yK BKa2 hb
   replace BKa3 := yK BKa3 hb
   replace HB := yS3 HB GEa1 GEa2 GEa3 hb
   (try clear hb)
   (try clear ho0)
   obtain ⟨Ao84, co84, eo84⟩ := Kd.R_slice HOe0.out
   (first | subst eo84 | (injection eo84 with f1_ f2_ f3_; have f4_ := f1_.symm; have f5_ := f3_.symm; clear f1_ f2_ f3_; subst f4_; subst f5_))
   obtain ⟨Ao85, co85, eo85⟩ := Kd.R_slice HOc6.out
   (first | subst eo85 | (injection eo85 with f1_ f2_ f3_; have f4_ := f1_.symm; have f5_ := f3_.symm; clear f1_ f2_ f3_; subst f4_; subst f5_))
   refine hK.out _ _ ⟨(blk_cell BKa1.out 0).trans rfl, (blk_cell BKa1.out 1).trans rfl, (blk_cell BKa1.out 2).trans rfl⟩ (fun hHeld => ?_)
   clear hK K
   refine norm_ (a' := ?_) ?_ ?_
   rotate_left
   · show Act.put _ (some 47) _ = _
     simp only [Act.put, List.setIfInBounds_toArray, List.set_cons_zero, List.set_cons_succ, i64_w, i32_w]
     rfl
   refine one_ (i := 6) (N := some 49) #[true, true, true, true, true, true, true, false] rfl rfl (one_of HT_.out (by kernel_rfl)) (by decide) (fun K hK => ?_)
   refine goes_ Try.func90 (by kernel_rfl) rfl #[.bool ta4, .slice Ao84 td8.length co84, .slice Ao85 tc4.length co85] (by rfl) rfl rfl (by (try simp only [List.map_toArray, List.map_cons, List.map_nil]); first | done | rfl | (simp only [List.length_drop, List.length_take]; rfl)) ?_
   with_reducible refine (r2_Make.calls k ta4 _ _ td8 _ _ tc4 te1 te2 te5 _ ?side1 ?side2 ?side3 ?side4 A52.out).mono ?_
   (case side1 => exact zC (Kd.R_reads' HOe0.out).2.2)
   (case side2 => exact (Kd.R_reads' HOe0.out).2.1)
   (case side3 => exact zC (Kd.R_reads' HOc6.out).2.2)
   (case side4 => exact (Kd.R_reads' HOc6.out).2.1)
   rintro e w86 ⟨ve3, ve6, rfl, ho0, ho1, hb⟩
   refine ⟨_, rfl, ?_⟩
   replace ho0 := yn ho0 HOa7
   replace ho0 := yn ho0 HOb0
   replace ho0 := yn ho0 HOb4
   replace ho0 := yn ho0 HOb7
   replace ho0 := yn ho0 HOc0
   replace ho0 := yn ho0 HOc3
   replace ho0 := yn ho0 HOc6
   replace ho0 := yn ho0 HOe0
   have HOe4 := yRl3 ho0 HB GEa1 GEa2 GEa3
   replace ho1 := yn ho1 HOa7
   replace ho1 := yn ho1 HOb0
   replace ho1 := yn ho1 HOb4
   replace ho1 := yn ho1 HOb7
   replace ho1 := yn ho1 HOc0
   replace ho1 := yn ho1 HOc3
   replace ho1 := yn ho1 HOc6
   replace ho1 := yn ho1 HOe0
   have HOe7 := yRl3 ho1 HB GEa1 GEa2 GEa3
   replace HOa7 := yRt HOa7 hb ho0 ho1
   replace HOb0 := yRt HOb0 hb ho0 ho1
   replace HOb4 := yRt HOb4 hb ho0 ho1
   replace HOb7 := yRt HOb7 hb ho0 ho1
   replace HOc0 := yRt HOc0 hb ho0 ho1
   replace HOc3 := yRt HOc3 hb ho0 ho1
   replace HOc6 := yRt HOc6 hb ho0 ho1
   replace HOe0 := yRt HOe0 hb ho0 ho1
   replace BKa1 := yK BKa1 hb
   replace BKa2 := yK BKa2 hb
   replace BKa3 := yK BKa3 hb
   replace HB := yS3 HB GEa1 GEa2 GEa3 hb
   (try clear hb)
   (try clear ho0)
   (try clear ho1)
   obtain ⟨Ao88, co88, eo88⟩ := Kd.R_slice HOe4.out
   (first | subst eo88 | (injection eo88 with f1_ f2_ f3_; have f4_ := f1_.symm; have f5_ := f3_.symm; clear f1_ f2_ f3_; subst f4_; subst f5_))
   obtain ⟨Ao90, co90, eo90⟩ := Kd.R_slice HOe7.out
   (first | subst eo90 | (injection eo90 with f1_ f2_ f3_; have f4_ := f1_.symm; have f5_ := f3_.symm; clear f1_ f2_ f3_; subst f4_; subst f5_))
   refine hK.out _ _ ⟨(blk_cell BKa1.out 0).trans rfl, (blk_cell BKa1.out 1).trans rfl, (blk_cell BKa1.out 2).trans rfl⟩ (fun hHeld => ?_)
   clear hK K
   refine norm_ (a' := ?_) ?_ ?_
   rotate_left
   · show Act.put _ (some 49) _ = _
     simp only [Act.put, List.setIfInBounds_toArray, List.set_cons_zero, List.set_cons_succ, i64_w, i32_w]
     rfl
   refine one_ (i := 7) (N := none) #[true, true, true, true, true, true, true, true] rfl rfl (one_of HT_.out (by kernel_rfl)) (by decide) (fun K hK => ?_)
   have hs87 : w86.cell? ⟨gba3, 0, none⟩ = some (.bool false) := (blk_cell BKa3.out 0).trans rfl
   have hfs87 := blk_frozen BKa3.out 0
   have hns87_0 := NBa1_103.out
   have hns87_1 := NBa2_103.out
   have hms87_0 := NBa3_101.out
   have hms87_1 := NBa3_102.out
   have hs89 : w86.cell? ⟨gba3, 1, none⟩ = some (.slice none 0 0) := (blk_cell BKa3.out 1).trans rfl
   have hfs89 := blk_frozen BKa3.out 1
   have hns89_0 := NBa1_103.out
   have hns89_1 := NBa2_103.out
   have hms89_0 := NBa3_101.out
   have hms89_1 := NBa3_102.out
   have hs91 : w86.cell? ⟨gba3, 2, none⟩ = some (.slice none 0 0) := (blk_cell BKa3.out 2).trans rfl
   have hfs91 := blk_frozen BKa3.out 2
   have hns91_0 := NBa1_103.out
   have hns91_1 := NBa2_103.out
   have hms91_0 := NBa3_101.out
   have hms91_1 := NBa3_102.out
   refine skip_ (w1 := ?_) (by rfl) rfl ?_ ?_
   rotate_left
   · go_simp
     rfl
   refine hK.out _ _ ⟨((cell_far (p := ⟨gba3, _, none⟩) NBa1_103.out _).trans (((cell_far (p := ⟨gba3, _, none⟩) NBa1_103.out _).trans (((cell_far (p := ⟨gba3, _, none⟩) NBa1_103.out _).trans (hHeld.1)))))), ((cell_far (p := ⟨gba3, _, none⟩) NBa1_103.out _).trans (((cell_far (p := ⟨gba3, _, none⟩) NBa1_103.out _).trans (((cell_far (p := ⟨gba3, _, none⟩) NBa1_103.out _).trans (hHeld.2.1)))))), ((cell_far (p := ⟨gba3, _, none⟩) NBa1_103.out _).trans (((cell_far (p := ⟨gba3, _, none⟩) NBa1_103.out _).trans (((cell_far (p := ⟨gba3, _, none⟩) NBa1_103.out _).trans (hHeld.2.2))))))⟩ (fun hHeld => ?_)
   clear hK K
   refine done_ (done_of HT_.out (by kernel_rfl)) ?_
   try go_wp2
   refine bodyPost_ret (results_cell_row rfl _ _ gba3 60 #[.bool te1, .slice Ao88 te2.length co88, .slice Ao90 te5.length co90] (0, 0) _ rfl (zP3 BKa3.out) Try.underlying60 rfl (by kernel_rfl)) rfl ?_
   exact ⟨_, _, zE, by (with_reducible repeat (first | apply Kd.R_alloc | apply Kd.R_drewN | apply Kd.R_drew)); exact yf HOe4.out BKa3.out (fun _ hk => hk.1.1.1.1.1.1.1.1.1), by (with_reducible repeat (first | apply Kd.R_alloc | apply Kd.R_drewN | apply Kd.R_drew)); exact yf HOe7.out BKa3.out (fun _ hk => hk.1.1.1.1.1.1.1.1.1), zB3 HB.out GEa1.out GEa2.out GEa3.out⟩
 have c50b0 : decide (0 ≤ td7) = false := decide_eq_false c50
 clear c50
 replace H := zb H
 obtain ⟨te8, A92, H⟩ := H
 replace H := zb H
 obtain ⟨⟨tf1, tf2, tf5⟩, A93, H⟩ := H
 dsimp only at H
 simp only [Option.some.injEq, Prod.mk.injEq] at H
 obtain ⟨rfl, rfl, rfl⟩ := H
 go_enter Try.func50, Try.ntmps50
 try go_wp2_with (first | ((with_reducible refine gate_dst (N := 2) rfl ?_); refine box_event ?hg (N := 2) ?hd (cs := #[.bool a0_0, .slice A0_1 l0_1.length c0_1, .slice A0_2 l0_2.length c0_2]) (t := 60) ?hr ?_; (case hd => rfl); (case hg => rfl); (case hr => first | (go_simp; done) | (go_simp; rfl)); intro gba1 hg w94 hbox hb; have BKa1 := zk (hbox); have GWa1 := yg hg HB; have GEa1 := yg hg HB; replace HB := yS HB hb; clear hb hbox hg) | ((with_reducible refine gate_dst (N := 3) rfl ?_); refine box_event ?hg (N := 3) ?hd (cs := #[.bool a1_0, .slice A1_1 l1_1.length c1_1, .slice A1_2 l1_2.length c1_2]) (t := 60) ?hr ?_; (case hd => rfl); (case hg => rfl); (case hr => first | (go_simp; done) | (go_simp; rfl)); intro gba2 hg w95 hbox hb; have BKa2 := zk (hbox); have GWa2 := yg1 hg HB GEa1; have GEa2 := yg1 hg HB GEa1; replace HB := yS1 HB GEa1 hb; have NBa1_102 := ynl hg BKa1; have NBa2_101 := yng hg BKa1; replace BKa1 := yK BKa1 hb; clear hb hbox hg) | ((with_reducible refine gate_dst (N := 4) rfl ?_); refine box_event ?hg (N := 4) ?hd (cs := #[.bool false, .slice none 0 0, .slice none 0 0]) (t := 60) ?hr ?_; (case hd => rfl); (case hg => rfl); (case hr => first | (go_simp; done) | (go_simp; rfl)); intro gba3 hg w96 hbox hb; have BKa3 := zk (hbox); have GWa3 := yg2 hg HB GEa1 GEa2; have GEa3 := yg2 hg HB GEa1 GEa2; replace HB := yS2 HB GEa1 GEa2 hb; have NBa1_103 := ynl hg BKa1; have NBa3_101 := yng hg BKa1; replace BKa1 := yK BKa1 hb; have NBa2_103 := ynl hg BKa2; have NBa3_102 := yng hg BKa2; replace BKa2 := yK BKa2 hb; clear hb hbox hg; have hnb97 := NBa1_102.out; have hnc97 := NBa2_101.out; have hnb98 := NBa1_103.out; have hnc98 := NBa3_101.out; obtain ⟨hcz99_0, hcz99_1, hcz99_2, hfz99_0, hfz99_1, hfz99_2⟩ := zz3 BKa1) | ((with_reducible refine gC 99 ?_); refine zG (some 9) Try.func99 #[.agg #[.bool a0_0, .slice A0_1 l0_1.length c0_1, .slice A0_2 l0_2.length c0_2]] ?_; (with_reducible refine (r2_Trim.calls k a0_0 _ _ l0_1 _ _ l0_2 ta4 ta5 ta8 _ ?side1 ?side2 ?side3 ?side4 A3.out).mono ?_); (case side1 => exact zC (Kd.C_below HR0_1.out HB.out)); (case side2 => exact HC0_1.out); (case side3 => exact zC (Kd.C_below HR0_2.out HB.out)); (case side4 => exact HC0_2.out); rintro e w100 ⟨va6, va9, rfl, ho0, ho1, hb⟩; refine ⟨_, rfl, ?_⟩; have HOa7 := yRl3 ho0 HB GEa1 GEa2 GEa3; have HOb0 := yRl3 ho1 HB GEa1 GEa2 GEa3; replace BKa1 := yK BKa1 hb; replace BKa2 := yK BKa2 hb; replace BKa3 := yK BKa3 hb; replace HB := yS3 HB GEa1 GEa2 GEa3 hb; (try clear hb ho0); (try clear ho1); obtain ⟨hcza1_0, hcza1_1, hcza1_2, hfza1_0, hfza1_1, hfza1_2⟩ := zz3 BKa1; obtain ⟨Aoa2, coa2, rfl⟩ := Kd.R_slice HOa7.out; obtain ⟨Aoa3, coa3, rfl⟩ := Kd.R_slice HOb0.out; have hnb104 := NBa2_103.out; have hnc104 := NBa3_102.out; obtain ⟨hcza5_0, hcza5_1, hcza5_2, hfza5_0, hfza5_1, hfza5_2⟩ := zz3 BKa2) | ((with_reducible refine gC 99 ?_); refine zG (some 11) Try.func99 #[.agg #[.bool a1_0, .slice A1_1 l1_1.length c1_1, .slice A1_2 l1_2.length c1_2]] ?_; (with_reducible refine (r2_Trim.calls k a1_0 _ _ l1_1 _ _ l1_2 tb1 tb2 tb5 _ ?side1 ?side2 ?side3 ?side4 A4.out).mono ?_); (case side1 => exact Kd.C_below HR1_1.out (zB3 HB.out GEa1.out GEa2.out GEa3.out)); (case side2 => exact HC1_1.out); (case side3 => exact Kd.C_below HR1_2.out (zB3 HB.out GEa1.out GEa2.out GEa3.out)); (case side4 => exact HC1_2.out); rintro e w106 ⟨vb3, vb6, rfl, ho0, ho1, hb⟩; refine ⟨_, rfl, ?_⟩; replace ho0 := ynf ho0 HOa7 BKa1; replace ho0 := ynf ho0 HOb0 BKa1; have HOb4 := yRl3 ho0 HB GEa1 GEa2 GEa3; replace ho1 := ynf ho1 HOa7 BKa1; replace ho1 := ynf ho1 HOb0 BKa1; have HOb7 := yRl3 ho1 HB GEa1 GEa2 GEa3; replace HOa7 := yRtf HOa7 BKa1 hb ho0 ho1; replace HOb0 := yRtf HOb0 BKa1 hb ho0 ho1; replace BKa1 := yP3 BKa1 hb; replace BKa2 := yF3 BKa2 NBa2_101 hb; replace BKa3 := yF3 BKa3 NBa3_101 hb; replace HB := yS3 HB GEa1 GEa2 GEa3 hb; (try clear hb ho0); (try clear ho1); obtain ⟨hcza7_0, hcza7_1, hcza7_2, hfza7_0, hfza7_1, hfza7_2⟩ := zz3 BKa2; obtain ⟨Aoa8, coa8, rfl⟩ := Kd.R_slice HOb4.out; obtain ⟨Aoa9, coa9, rfl⟩ := Kd.R_slice HOb7.out; obtain ⟨hczb0_0, hczb0_1, hczb0_2, hfzb0_0, hfzb0_1, hfzb0_2⟩ := zz3 BKa1) | ((with_reducible refine gC 26 ?_); refine zG (some 16) Try.func26 #[.slice Aoa2 ta5.length coa2, .slice Aoa9 tb5.length coa9] ?_; (with_reducible refine (r1_Mul.calls k _ _ ta5 _ _ tb5 tb8 _ ?side1 ?side2 ?side3 ?side4 A5.out).mono ?_); (case side1 => refine (Kd.R_reads' (e := 97) (base := w.heap.size) (ok := fun k_ => ((some k_ ≠ (.slice Aoa3 ta8.length coa3 : Value).ownBlock ∧ some k_ ≠ (.slice Aoa8 tb2.length coa8 : Value).ownBlock) ∧ some k_ ≠ (.slice Aoa9 tb5.length coa9 : Value).ownBlock)) (n := ta5.length) (c := coa2) ?_).2.2; exact (zf HOa7.out BKa2.out)); (case side2 => exact (Kd.R_reads' HOa7.out).2.1); (case side3 => refine (Kd.R_reads' (e := 97) (base := w.heap.size) (ok := fun k_ => ((some k_ ≠ (.slice Aoa8 tb2.length coa8 : Value).ownBlock ∧ some k_ ≠ (.slice Aoa2 ta5.length coa2 : Value).ownBlock) ∧ some k_ ≠ (.slice Aoa3 ta8.length coa3 : Value).ownBlock)) (n := tb5.length) (c := coa9) ?_).2.2; exact (zf HOb7.out BKa2.out)); (case side4 => exact (Kd.R_reads' HOb7.out).2.1); rintro e w111 ⟨vb9, rfl, ho0, hb⟩; refine ⟨_, rfl, ?_⟩; replace ho0 := ynf ho0 HOa7 BKa2; replace ho0 := ynf ho0 HOb0 BKa2; replace ho0 := ynf ho0 HOb4 BKa2; replace ho0 := ynf ho0 HOb7 BKa2; have HOc0 := yRl3 ho0 HB GEa1 GEa2 GEa3; replace HOa7 := yRef HOa7 BKa2 ho0 hb; replace HOb0 := yRef HOb0 BKa2 ho0 hb; replace HOb4 := yRef HOb4 BKa2 ho0 hb; replace HOb7 := yRef HOb7 BKa2 ho0 hb; replace BKa1 := yF3 BKa1 NBa1_102 hb; replace BKa2 := yP3 BKa2 hb; replace BKa3 := yF3 BKa3 NBa3_102 hb; replace HB := yS3 HB GEa1 GEa2 GEa3 hb; (try clear hb ho0); obtain ⟨hczb2_0, hczb2_1, hczb2_2, hfzb2_0, hfzb2_1, hfzb2_2⟩ := zz3 BKa2; obtain ⟨hczb3_0, hczb3_1, hczb3_2, hfzb3_0, hfzb3_1, hfzb3_2⟩ := zz3 BKa1) | ((with_reducible refine gC 26 ?_); refine zG (some 21) Try.func26 #[.slice Aoa8 tb2.length coa8, .slice Aoa3 ta8.length coa3] ?_; (with_reducible refine (r1_Mul.calls k _ _ tb2 _ _ ta8 tc1 _ ?side1 ?side2 ?side3 ?side4 A6.out).mono ?_); (case side1 => exact zC (Kd.R_reads' HOb4.out).2.2); (case side2 => exact (Kd.R_reads' HOb4.out).2.1); (case side3 => exact zC (Kd.R_reads' HOb0.out).2.2); (case side4 => exact (Kd.R_reads' HOb0.out).2.1); rintro e w114 ⟨vc2, rfl, ho0, hb⟩; refine ⟨_, rfl, ?_⟩; replace ho0 := yn ho0 HOa7; replace ho0 := yn ho0 HOb0; replace ho0 := yn ho0 HOb4; replace ho0 := yn ho0 HOb7; replace ho0 := yn ho0 HOc0; have HOc3 := yRl3 ho0 HB GEa1 GEa2 GEa3; replace HOa7 := yRe HOa7 ho0 hb; replace HOb0 := yRe HOb0 ho0 hb; replace HOb4 := yRe HOb4 ho0 hb; replace HOb7 := yRe HOb7 ho0 hb; replace HOc0 := yRe HOc0 ho0 hb; replace BKa1 := yK BKa1 hb; replace BKa2 := yK BKa2 hb; replace BKa3 := yK BKa3 hb; replace HB := yS3 HB GEa1 GEa2 GEa3 hb; (try clear hb ho0); obtain ⟨hczb5_0, hczb5_1, hczb5_2, hfzb5_0, hfzb5_1, hfzb5_2⟩ := zz3 BKa1; obtain ⟨hczb6_0, hczb6_1, hczb6_2, hfzb6_0, hfzb6_1, hfzb6_2⟩ := zz3 BKa2) | ((with_reducible refine gC 26 ?_); refine zG (some 26) Try.func26 #[.slice Aoa3 ta8.length coa3, .slice Aoa9 tb5.length coa9] ?_; (with_reducible refine (r1_Mul.calls k _ _ ta8 _ _ tb5 tc4 _ ?side1 ?side2 ?side3 ?side4 A7.out).mono ?_); (case side1 => exact zC (Kd.R_reads' HOb0.out).2.2); (case side2 => exact (Kd.R_reads' HOb0.out).2.1); (case side3 => exact zC (Kd.R_reads' HOb7.out).2.2); (case side4 => exact (Kd.R_reads' HOb7.out).2.1); rintro e w117 ⟨vc5, rfl, ho0, hb⟩; refine ⟨_, rfl, ?_⟩; replace ho0 := yn ho0 HOa7; replace ho0 := yn ho0 HOb0; replace ho0 := yn ho0 HOb4; replace ho0 := yn ho0 HOb7; replace ho0 := yn ho0 HOc0; replace ho0 := yn ho0 HOc3; have HOc6 := yRl3 ho0 HB GEa1 GEa2 GEa3; replace HOa7 := yRe HOa7 ho0 hb; replace HOb0 := yRe HOb0 ho0 hb; replace HOb4 := yRe HOb4 ho0 hb; replace HOb7 := yRe HOb7 ho0 hb; replace HOc0 := yRe HOc0 ho0 hb; replace HOc3 := yRe HOc3 ho0 hb; replace BKa1 := yK BKa1 hb; replace BKa2 := yK BKa2 hb; replace BKa3 := yK BKa3 hb; replace HB := yS3 HB GEa1 GEa2 GEa3 hb; (try clear hb ho0); obtain ⟨hczb8_0, hczb8_1, hczb8_2, hfzb8_0, hfzb8_1, hfzb8_2⟩ := zz3 BKa1; obtain ⟨hczb9_0, hczb9_1, hczb9_2, hfzb9_0, hfzb9_1, hfzb9_2⟩ := zz3 BKa2; obtain ⟨Aoc0, coc0, rfl⟩ := Kd.R_slice HOc0.out; obtain ⟨Aoc1, coc1, rfl⟩ := Kd.R_slice HOc3.out) | ((with_reducible refine gC 77 ?_); refine zG (some 41) Try.func77 #[.slice Aoc0 tb8.length coc0, .slice Aoc1 tc1.length coc1] ?_; (with_reducible refine (r1_Cmp.calls k _ _ tb8 _ _ tc1 td7 _ ?side1 ?side2 ?side3 ?side4 A49.out).mono ?_); (case side1 => exact zC (Kd.R_reads' HOc0.out).2.2); (case side2 => exact (Kd.R_reads' HOc0.out).2.1); (case side3 => exact zC (Kd.R_reads' HOc3.out).2.2); (case side4 => exact (Kd.R_reads' HOc3.out).2.1); rintro e w122 ⟨rfl, hb⟩; refine ⟨_, rfl, ?_⟩; replace HOa7 := yRb HOa7 hb; replace HOb0 := yRb HOb0 hb; replace HOb4 := yRb HOb4 hb; replace HOb7 := yRb HOb7 hb; replace HOc0 := yRb HOc0 hb; replace HOc3 := yRb HOc3 hb; replace HOc6 := yRb HOc6 hb; replace BKa1 := yK BKa1 hb; replace BKa2 := yK BKa2 hb; replace BKa3 := yK BKa3 hb; replace HB := yS3 HB GEa1 GEa2 GEa3 hb; (try clear hb); (try clear hb2); (try clear hk); (try clear hi)))
 replace HOa7 := zk (Kd.R_drew HOa7.out)
 replace HOb0 := zk (Kd.R_drew HOb0.out)
 replace HOb4 := zk (Kd.R_drew HOb4.out)
 replace HOb7 := zk (Kd.R_drew HOb7.out)
 replace HOc0 := zk (Kd.R_drew HOc0.out)
 replace HOc3 := zk (Kd.R_drew HOc3.out)
 replace HOc6 := zk (Kd.R_drew HOc6.out)
 replace BKa1 := zk (blk_drew BKa1.out)
 replace BKa2 := zk (blk_drew BKa2.out)
 replace BKa3 := zk (blk_drew BKa3.out)
 replace HB := zk (below_drew1 HB.out)
 refine start_ (n := 8) (S := fun w' => w'.cell? ⟨gba2, 0, none⟩ = some (.bool tb1) ∧ w'.cell? ⟨gba2, 1, none⟩ = some (.slice Aoa8 tb2.length coa8) ∧ w'.cell? ⟨gba2, 2, none⟩ = some (.slice Aoa9 tb5.length coa9)) (ds := []) #[false, false, false, false, false, false, false, false] (by kernel_rfl) rfl rfl ⟨(blk_cell BKa2.out 0).trans rfl, (blk_cell BKa2.out 1).trans rfl, (blk_cell BKa2.out 2).trans rfl⟩ (fun hHeld => ?_); refine with_tabW r2_Add.tab10 r2_Add.bits10 (fun HT_ HW_ => ?_)
 generalize w122.drew = w123 at HOa7 HOb0 HOb4 HOb7 HOc0 HOc3 HOc6 BKa1 BKa2 BKa3 HB hHeld ⊢
 refine zp (i := 0) (N := some 50) HT_ ?_
 refine zp (i := 2) (N := some 52) HT_ ?_
 refine zp (i := 3) (N := some 53) HT_ ?_
 refine zp (i := 5) (N := some 55) HT_ ?_
 refine take_ (i := 1) (N := some 51) (v := ?_) (a' := ?_) #[true, true, true, true, false, true, false, false] rfl rfl (take_ofW HT_.out HW_.out (by kernel_rfl)) (fun _ _ _ h => h) (Or.inl ⟨by rfl, ?_⟩) hHeld ?_ ?_
 rotate_left
 · rintro w' ⟨s0, s1, s2⟩
   go_simp
   with_reducible rfl
 rotate_left
 · simp only [Act.put, List.setIfInBounds_toArray, List.set_cons_zero, List.set_cons_succ, i64_w, i32_w]
   rfl
 refine one_ (i := 4) (N := some 54) #[true, true, true, true, true, true, false, false] rfl rfl (one_of HT_.out (by kernel_rfl)) (by decide) (fun K hK => ?_)
 refine goes_ Try.func100 (by kernel_rfl) rfl #[.slice Aoc1 tc1.length coc1, .slice Aoc0 tb8.length coc0] (by rfl) rfl rfl (by (try simp only [List.map_toArray, List.map_cons, List.map_nil]); first | done | rfl | (simp only [List.length_drop, List.length_take]; rfl)) ?_
 with_reducible refine (r1_Sub.calls k _ _ tc1 _ _ tb8 te8 _ ?side1 ?side2 ?side3 ?side4 A92.out).mono ?_
 (case side1 => exact zC (Kd.R_reads' HOc3.out).2.2)
 (case side2 => exact (Kd.R_reads' HOc3.out).2.1)
 (case side3 => exact zC (Kd.R_reads' HOc0.out).2.2)
 (case side4 => exact (Kd.R_reads' HOc0.out).2.1)
 rintro e w124 ⟨ve9, rfl, ho0, hb⟩
 refine ⟨_, rfl, ?_⟩
 replace ho0 := yn ho0 HOa7
 replace ho0 := yn ho0 HOb0
 replace ho0 := yn ho0 HOb4
 replace ho0 := yn ho0 HOb7
 replace ho0 := yn ho0 HOc0
 replace ho0 := yn ho0 HOc3
 replace ho0 := yn ho0 HOc6
 have HOf0 := yRl3 ho0 HB GEa1 GEa2 GEa3
 replace HOa7 := yRe HOa7 ho0 hb
 replace HOb0 := yRe HOb0 ho0 hb
 replace HOb4 := yRe HOb4 ho0 hb
 replace HOb7 := yRe HOb7 ho0 hb
 replace HOc0 := yRe HOc0 ho0 hb
 replace HOc3 := yRe HOc3 ho0 hb
 replace HOc6 := yRe HOc6 ho0 hb
 replace BKa1 := yK BKa1 hb
 replace BKa2 := yK BKa2 hb
 replace BKa3 := yK BKa3 hb
 replace HB := yS3 HB GEa1 GEa2 GEa3 hb
 (try clear hb)
 (try clear ho0)
 obtain ⟨Aoc5, coc5, eoc5⟩ := Kd.R_slice HOf0.out
 (first | subst eoc5 | (injection eoc5 with f1_ f2_ f3_; have f4_ := f1_.symm; have f5_ := f3_.symm; clear f1_ f2_ f3_; subst f4_; subst f5_))
 obtain ⟨Aoc6, coc6, eoc6⟩ := Kd.R_slice HOc6.out
 (first | subst eoc6 | (injection eoc6 with f1_ f2_ f3_; have f4_ := f1_.symm; have f5_ := f3_.symm; clear f1_ f2_ f3_; subst f4_; subst f5_))
 refine hK.out _ _ ⟨(blk_cell BKa2.out 0).trans rfl, (blk_cell BKa2.out 1).trans rfl, (blk_cell BKa2.out 2).trans rfl⟩ (fun hHeld => ?_)
 clear hK K
 refine norm_ (a' := ?_) ?_ ?_
 rotate_left
 · show Act.put _ (some 54) _ = _
   simp only [Act.put, List.setIfInBounds_toArray, List.set_cons_zero, List.set_cons_succ, i64_w, i32_w]
   rfl
 refine one_ (i := 6) (N := some 56) #[true, true, true, true, true, true, true, false] rfl rfl (one_of HT_.out (by kernel_rfl)) (by decide) (fun K hK => ?_)
 refine goes_ Try.func90 (by kernel_rfl) rfl #[.bool tb1, .slice Aoc5 te8.length coc5, .slice Aoc6 tc4.length coc6] (by rfl) rfl rfl (by (try simp only [List.map_toArray, List.map_cons, List.map_nil]); first | done | rfl | (simp only [List.length_drop, List.length_take]; rfl)) ?_
 with_reducible refine (r2_Make.calls k tb1 _ _ te8 _ _ tc4 tf1 tf2 tf5 _ ?side1 ?side2 ?side3 ?side4 A93.out).mono ?_
 (case side1 => exact zC (Kd.R_reads' HOf0.out).2.2)
 (case side2 => exact (Kd.R_reads' HOf0.out).2.1)
 (case side3 => exact zC (Kd.R_reads' HOc6.out).2.2)
 (case side4 => exact (Kd.R_reads' HOc6.out).2.1)
 rintro e w127 ⟨vf3, vf6, rfl, ho0, ho1, hb⟩
 refine ⟨_, rfl, ?_⟩
 replace ho0 := yn ho0 HOa7
 replace ho0 := yn ho0 HOb0
 replace ho0 := yn ho0 HOb4
 replace ho0 := yn ho0 HOb7
 replace ho0 := yn ho0 HOc0
 replace ho0 := yn ho0 HOc3
 replace ho0 := yn ho0 HOc6
 replace ho0 := yn ho0 HOf0
 have HOf4 := yRl3 ho0 HB GEa1 GEa2 GEa3
 replace ho1 := yn ho1 HOa7
 replace ho1 := yn ho1 HOb0
 replace ho1 := yn ho1 HOb4
 replace ho1 := yn ho1 HOb7
 replace ho1 := yn ho1 HOc0
 replace ho1 := yn ho1 HOc3
 replace ho1 := yn ho1 HOc6
 replace ho1 := yn ho1 HOf0
 have HOf7 := yRl3 ho1 HB GEa1 GEa2 GEa3
 replace HOa7 := yRt HOa7 hb ho0 ho1
 replace HOb0 := yRt HOb0 hb ho0 ho1
 replace HOb4 := yRt HOb4 hb ho0 ho1
 replace HOb7 := yRt HOb7 hb ho0 ho1
 replace HOc0 := yRt HOc0 hb ho0 ho1
 replace HOc3 := yRt HOc3 hb ho0 ho1
 replace HOc6 := yRt HOc6 hb ho0 ho1
 replace HOf0 := yRt HOf0 hb ho0 ho1
 replace BKa1 := yK BKa1 hb
 replace BKa2 := yK BKa2 hb
 replace BKa3 := yK BKa3 hb
 replace HB := yS3 HB GEa1 GEa2 GEa3 hb
 (try clear hb)
 (try clear ho0)
 (try clear ho1)
 obtain ⟨Aoc9, coc9, eoc9⟩ := Kd.R_slice HOf4.out
 (first | subst eoc9 | (injection eoc9 with f1_ f2_ f3_; have f4_ := f1_.symm; have f5_ := f3_.symm; clear f1_ f2_ f3_; subst f4_; subst f5_))
 obtain ⟨Aod1, cod1, eod1⟩ := Kd.R_slice HOf7.out
 (first | subst eod1 | (injection eod1 with f1_ f2_ f3_; have f4_ := f1_.symm; have f5_ := f3_.symm; clear f1_ f2_ f3_; subst f4_; subst f5_))
 refine hK.out _ _ ⟨(blk_cell BKa2.out 0).trans rfl, (blk_cell BKa2.out 1).trans rfl, (blk_cell BKa2.out 2).trans rfl⟩ (fun hHeld => ?_)
 clear hK K
 refine norm_ (a' := ?_) ?_ ?_
 rotate_left
 · show Act.put _ (some 56) _ = _
   simp only [Act.put, List.setIfInBounds_toArray, List.set_cons_zero, List.set_cons_succ, i64_w, i32_w]
   rfl
 refine one_ (i := 7) (N := none) #[true, true, true, true, true, true, true, true] rfl rfl (one_of HT_.out (by kernel_rfl)) (by decide) (fun K hK => ?_)
 have hs128 : w127.cell? ⟨gba3, 0, none⟩ = some (.bool false) := (blk_cell BKa3.out 0).trans rfl
 have hfs128 := blk_frozen BKa3.out 0
 have hns128_0 := NBa1_103.out
 have hns128_1 := NBa2_103.out
 have hms128_0 := NBa3_101.out
 have hms128_1 := NBa3_102.out
 have hs130 : w127.cell? ⟨gba3, 1, none⟩ = some (.slice none 0 0) := (blk_cell BKa3.out 1).trans rfl
 have hfs130 := blk_frozen BKa3.out 1
 have hns130_0 := NBa1_103.out
 have hns130_1 := NBa2_103.out
 have hms130_0 := NBa3_101.out
 have hms130_1 := NBa3_102.out
 have hs132 : w127.cell? ⟨gba3, 2, none⟩ = some (.slice none 0 0) := (blk_cell BKa3.out 2).trans rfl
 have hfs132 := blk_frozen BKa3.out 2
 have hns132_0 := NBa1_103.out
 have hns132_1 := NBa2_103.out
 have hms132_0 := NBa3_101.out
 have hms132_1 := NBa3_102.out
 refine skip_ (w1 := ?_) (by rfl) rfl ?_ ?_
 rotate_left
 · go_simp
   rfl
 refine hK.out _ _ ⟨((cell_far (p := ⟨gba3, _, none⟩) NBa2_103.out _).trans (((cell_far (p := ⟨gba3, _, none⟩) NBa2_103.out _).trans (((cell_far (p := ⟨gba3, _, none⟩) NBa2_103.out _).trans (hHeld.1)))))), ((cell_far (p := ⟨gba3, _, none⟩) NBa2_103.out _).trans (((cell_far (p := ⟨gba3, _, none⟩) NBa2_103.out _).trans (((cell_far (p := ⟨gba3, _, none⟩) NBa2_103.out _).trans (hHeld.2.1)))))), ((cell_far (p := ⟨gba3, _, none⟩) NBa2_103.out _).trans (((cell_far (p := ⟨gba3, _, none⟩) NBa2_103.out _).trans (((cell_far (p := ⟨gba3, _, none⟩) NBa2_103.out _).trans (hHeld.2.2))))))⟩ (fun hHeld => ?_)
 clear hK K
 refine done_ (done_of HT_.out (by kernel_rfl)) ?_
 try go_wp2
 refine bodyPost_ret (results_cell_row rfl _ _ gba3 60 #[.bool tf1, .slice Aoc9 tf2.length coc9, .slice Aod1 tf5.length cod1] (0, 0) _ rfl (zP3 BKa3.out) Try.underlying60 rfl (by kernel_rfl)) rfl ?_
 exact ⟨_, _, zE, by (with_reducible repeat (first | apply Kd.R_alloc | apply Kd.R_drewN | apply Kd.R_drew)); exact yf HOf4.out BKa3.out (fun _ hk => hk.1.1.1.1.1.1.1.1.1), by (with_reducible repeat (first | apply Kd.R_alloc | apply Kd.R_drewN | apply Kd.R_drew)); exact yf HOf7.out BKa3.out (fun _ hk => hk.1.1.1.1.1.1.1.1.1), zB3 HB.out GEa1.out GEa2.out GEa3.out⟩
set_option maxHeartbeats 8000000 in
set_option maxRecDepth 100000 in
theorem r1_Pow.calls (k : Nat) (A0 : Option Addr) (c0 : Nat) (l0 : List Int) (a1 : Int) (r1 : List Int) (r2 : Int) (w : World) (hr0 : Kd.C (Kd.int .u32) w A0 l0.length l0) (hc0 : l0.length ≤ c0) (h : r1_Pow.f k l0 a1 = some (r1, r2)) :
    Calls Try.prog 22 #[.slice A0 l0.length c0, .int .i64 a1] w fun e w' => ∃ v0_ : Value, e = .returned (.tuple #[v0_, .int .i64 r2]) ∧ Kd.R (Kd.int .u32) 97 w' w.heap.size (fun _ => True) v0_ r1 ∧ Below w.heap.size w w' := by
 have HR0 := zk hr0
 have HC0 := zk hc0
 clear hr0 hc0
 have HB := zk (Below.refl w.heap.size w)
 have H := h
 clear h
 unfold r1_Pow.f at H
 replace H := zid H
 rcases H with ⟨c3b0, H⟩ | ⟨c3b0, H⟩
 · simp only [Option.some.injEq, Prod.mk.injEq] at H
   obtain ⟨rfl, rfl⟩ := H
   go_enter Try.func22, Try.ntmps22
   go_wp2
   go_ret2
   exact ⟨_, zE, z0, zB HB.out⟩
 replace H := zb H
 obtain ⟨ta1, A4, H⟩ := H
 replace H := zi H
 rcases H with ⟨c5, H⟩ | ⟨c5, H⟩
 · have c5b0 := beq_iff_eq.mpr c5
   have c5b1 := bne_eq_false_iff_eq.mpr c5
   clear c5
   obtain ⟨ya4, hya4⟩ : ∃ y_ : List Int, y_ = (([1] : List Int)) := ⟨_, rfl⟩
   replace H : (some (ya4, 0)) = some (r1, r2) := zY hya4 H
   have Nya4 := zk hya4
   clear hya4
   simp only [Option.some.injEq, Prod.mk.injEq] at H
   obtain ⟨rfl, rfl⟩ := H
   go_enter Try.func22, Try.ntmps22
   go_wp2_with (first | ((with_reducible refine gC 75 ?_); refine zG (some 11) Try.func75 #[.slice A0 l0.length c0] ?_; (with_reducible refine (r1_Trim.calls k _ _ l0 ta1 _ ?side1 ?side2 A4.out).mono ?_); (case side1 => exact zC HR0.out); (case side2 => exact HC0.out); rintro e w6 ⟨va2, rfl, ho0, hb⟩; refine ⟨_, rfl, ?_⟩; have HOa3 := yRl ho0 HB; replace HB := yS HB hb; (try clear hb ho0)) | ((with_reducible refine gate_dst (N := 14) rfl ?_); refine Kd.R_lit (Kd.int .u32) _ 97 ?hg (N := 14) ?hd (xs := ([1] : List Int)) (inner := [.int .u32 1]) (ok := fun _ => True) (okp := fun _ => True) ?hr ?hp (fun _ hk => hk) trivial (Below.refl _ _) (Nat.le_refl _) (by simp) ?_; (case hd => rfl); (case hg => rfl); (case hr => first | (go_simp; done) | (go_simp; rfl)); (case hp => exact (Reps.one (show Kd.M (Kd.int .u32) _ _ _ 1 [.int .u32 1] from rfl) (Reps.none _ _))); intro va5 w7 ho8 hb hg_ hnew_; clear hg_ hnew_; (first | rw [← Nya4.out] at ho8 | (simp only [Int.reduceToNat] at ho8; rw [← Nya4.out] at ho8)); replace ho8 := yn ho8 HOa3; have HOa6 := yRl ho8 HB; replace HOa3 := yRe HOa3 ho8 hb; replace HB := yS HB hb; clear hb ho8))
   go_ret2
   exact ⟨_, zE, by (with_reducible repeat (first | apply Kd.R_alloc | apply Kd.R_drewN | apply Kd.R_drew)); exact Kd.R_mono HOa6.out (fun _ hk => trivial), zB HB.out⟩
 have c5b0 := beq_eq_false_iff_ne.mpr c5
 have c5b1 := bne_iff_ne.mpr c5
 replace H := zb H
 obtain ⟨ta7, A9, H⟩ := H
 replace H := zid H
 rcases H with ⟨c10b0, H⟩ | ⟨c10b0, H⟩
 · simp only [Option.some.injEq, Prod.mk.injEq] at H
   obtain ⟨rfl, rfl⟩ := H
   go_enter Try.func22, Try.ntmps22
   go_wp2_with (first | ((with_reducible refine gC 75 ?_); refine zG (some 11) Try.func75 #[.slice A0 l0.length c0] ?_; (with_reducible refine (r1_Trim.calls k _ _ l0 ta1 _ ?side1 ?side2 A4.out).mono ?_); (case side1 => exact zC HR0.out); (case side2 => exact HC0.out); rintro e w11 ⟨va2, rfl, ho0, hb⟩; refine ⟨_, rfl, ?_⟩; have HOa3 := yRl ho0 HB; replace HB := yS HB hb; (try clear hb ho0); obtain ⟨Ao12, co12, rfl⟩ := Kd.R_slice HOa3.out) | ((with_reducible refine gC 76 ?_); refine zG (some 16) Try.func76 #[.slice Ao12 ta1.length co12] ?_; (with_reducible refine (r1_Bits.calls k _ _ ta1 ta7 _ ?side1 ?side2 A9.out).mono ?_); (case side1 => exact zC (Kd.R_reads' HOa3.out).2.2); (case side2 => exact (Kd.R_reads' HOa3.out).2.1); rintro e w13 ⟨rfl, hb⟩; refine ⟨_, rfl, ?_⟩; replace HOa3 := yRb HOa3 hb; replace HB := yS HB hb; (try clear hb); (try clear hb2); (try clear hk); (try clear hi)))
   go_ret2
   exact ⟨_, zE, zR HOa3.out, zB HB.out⟩
 replace H := zi H
 rcases H with ⟨c14, H⟩ | ⟨c14, H⟩
 · have c14b0 : decide (131072 < a1) = true := decide_eq_true c14
   clear c14
   simp only [Option.some.injEq, Prod.mk.injEq] at H
   obtain ⟨rfl, rfl⟩ := H
   go_enter Try.func22, Try.ntmps22
   go_wp2_with (first | ((with_reducible refine gC 75 ?_); refine zG (some 11) Try.func75 #[.slice A0 l0.length c0] ?_; (with_reducible refine (r1_Trim.calls k _ _ l0 ta1 _ ?side1 ?side2 A4.out).mono ?_); (case side1 => exact zC HR0.out); (case side2 => exact HC0.out); rintro e w15 ⟨va2, rfl, ho0, hb⟩; refine ⟨_, rfl, ?_⟩; have HOa3 := yRl ho0 HB; replace HB := yS HB hb; (try clear hb ho0); obtain ⟨Ao16, co16, rfl⟩ := Kd.R_slice HOa3.out) | ((with_reducible refine gC 76 ?_); refine zG (some 16) Try.func76 #[.slice Ao16 ta1.length co16] ?_; (with_reducible refine (r1_Bits.calls k _ _ ta1 ta7 _ ?side1 ?side2 A9.out).mono ?_); (case side1 => exact zC (Kd.R_reads' HOa3.out).2.2); (case side2 => exact (Kd.R_reads' HOa3.out).2.1); rintro e w17 ⟨rfl, hb⟩; refine ⟨_, rfl, ?_⟩; replace HOa3 := yRb HOa3 hb; replace HB := yS HB hb; (try clear hb); (try clear hb2); (try clear hk); (try clear hi)))
   go_ret2
   exact ⟨_, zE, z0, zB HB.out⟩
 have c14b0 : decide (131072 < a1) = false := decide_eq_false c14
 clear c14
 obtain ⟨ya8, hya8⟩ : ∃ y_ : List Int, y_ = (([1] : List Int)) := ⟨_, rfl⟩
 replace H : (r1_Pow.l0 k ta1 a1 ya8 262144) = some (r1, r2) := zY hya8 H
 have Nya8 := zk hya8
 clear hya8
 have H' := zk H
 clear H
 go_enter Try.func22, Try.ntmps22
 go_wp2_with (first | ((with_reducible refine gC 75 ?_); refine zG (some 11) Try.func75 #[.slice A0 l0.length c0] ?_; (with_reducible refine (r1_Trim.calls k _ _ l0 ta1 _ ?side1 ?side2 A4.out).mono ?_); (case side1 => exact zC HR0.out); (case side2 => exact HC0.out); rintro e w18 ⟨va2, rfl, ho0, hb⟩; refine ⟨_, rfl, ?_⟩; have HOa3 := yRl ho0 HB; replace HB := yS HB hb; (try clear hb ho0); obtain ⟨Ao19, co19, rfl⟩ := Kd.R_slice HOa3.out) | ((with_reducible refine gC 76 ?_); refine zG (some 16) Try.func76 #[.slice Ao19 ta1.length co19] ?_; (with_reducible refine (r1_Bits.calls k _ _ ta1 ta7 _ ?side1 ?side2 A9.out).mono ?_); (case side1 => exact zC (Kd.R_reads' HOa3.out).2.2); (case side2 => exact (Kd.R_reads' HOa3.out).2.1); rintro e w20 ⟨rfl, hb⟩; refine ⟨_, rfl, ?_⟩; replace HOa3 := yRb HOa3 hb; replace HB := yS HB hb; (try clear hb); (try clear hb2); (try clear hk); (try clear hi)) | ((with_reducible refine gate_dst (N := 21) rfl ?_); refine Kd.R_lit (Kd.int .u32) _ 97 ?hg (N := 21) ?hd (xs := ([1] : List Int)) (inner := [.int .u32 1]) (ok := fun _ => True) (okp := fun _ => True) ?hr ?hp (fun _ hk => hk) trivial (Below.refl _ _) (Nat.le_refl _) (by simp) ?_; (case hd => rfl); (case hg => rfl); (case hr => first | (go_simp; done) | (go_simp; rfl)); (case hp => exact (Reps.one (show Kd.M (Kd.int .u32) _ _ _ 1 [.int .u32 1] from rfl) (Reps.none _ _))); intro va9 w21 ho22 hb hg_ hnew_; clear hg_ hnew_; (first | rw [← Nya8.out] at ho22 | (simp only [Int.reduceToNat] at ho22; rw [← Nya8.out] at ho22)); replace ho22 := yn ho22 HOa3; have HOb0 := yRl ho22 HB; replace HOa3 := yRe HOa3 ho22 hb; replace HB := yS HB hb; clear hb ho22))
 go_loopg [6, 7] k (fun kq v6 v7 w' => ∃ (x6_1 : List Int) (x7_1 : Int), v7 = .int .i64 x7_1 ∧ Aside0 (r1_Pow.l0 kq ta1 a1 x6_1 x7_1 = some (r1, r2)) ∧ Aside0 (kq ≤ k) ∧ Aside0 (Kd.R (Kd.int .u32) 97 w' w.heap.size (fun k_ => some k_ ≠ (v6 : Value).ownBlock) (.slice Ao19 ta1.length co19) ta1) ∧ Aside0 (Kd.R (Kd.int .u32) 97 w' w.heap.size (fun k_ => some k_ ≠ ((.slice Ao19 ta1.length co19) : Value).ownBlock) v6 x6_1) ∧ Aside0 (Below w.heap.size w w'))
 case atStart => exact ⟨(ya8), (262144), zF, H', ⟨Nat.le_refl _⟩, ⟨by (with_reducible repeat (first | apply Kd.R_alloc | apply Kd.R_drewN | apply Kd.R_drew)); exact Kd.R_mono HOa3.out (fun _ hk => hk.2)⟩, ⟨by (with_reducible repeat (first | apply Kd.R_alloc | apply Kd.R_drewN | apply Kd.R_drew)); exact Kd.R_mono HOb0.out (fun _ hk => hk.2)⟩, ⟨zB HB.out⟩⟩
 clear H'
 (try clear c3b0);(try clear c5);(try clear c5b0);(try clear c5b1);(try clear c10b0);(try clear c14);(try clear c14b0)
 obtain ⟨x6_1, x7_1, rfl, HA, HK1, HO_0, HO_6, HB⟩ := hrel
 cases gk with | zero => exact absurd HA.out (by simp [r1_Pow.l0]) | succ k1 => ?_
 have H := HA.out
 clear HA
 simp only [r1_Pow.l0] at H
 replace H := zi H
 rcases H with ⟨c23, H⟩ | ⟨c23, H⟩
 · have c23b0 : decide (0 < x7_1) = true := decide_eq_true c23
   clear c23
   replace H := zb H
   obtain ⟨tb1, A24, H⟩ := H
   replace H := zh H
   obtain ⟨c25, H⟩ := H
   have c25b0 := beq_eq_false_iff_ne.mpr c25
   have c25b1 := bne_iff_ne.mpr c25
   replace H := zi H
   rcases H with ⟨c26, H⟩ | ⟨c26, H⟩
   · have c26b0 := beq_iff_eq.mpr c26
     have c26b1 := bne_eq_false_iff_eq.mpr c26
     clear c26
     replace H := zb H
     obtain ⟨tb4, A27, H⟩ := H
     replace H := zi H
     rcases H with ⟨c28, H⟩ | ⟨c28, H⟩
     · have c28b0 : decide (4096 < (tb4.length : Int)) = true := decide_eq_true c28
       have c28b1 : decide (4096 < tb4.length) = true := decide_eq_true (by omega)
       clear c28
       simp only [Option.some.injEq, Prod.mk.injEq] at H
       obtain ⟨rfl, rfl⟩ := H
       obtain ⟨Ao29, co29, rfl⟩ := Kd.R_slice HO_6.out
       go_wp2_with (first | ((with_reducible refine gC 26 ?_); refine zG (some 28) Try.func26 #[.slice Ao29 x6_1.length co29, .slice Ao29 x6_1.length co29] ?_; (with_reducible refine (r1_Mul.calls k1 _ _ x6_1 _ _ x6_1 tb1 _ ?side1 ?side2 ?side3 ?side4 A24.out).mono ?_); (case side1 => exact zC (Kd.R_reads' HO_6.out).2.2); (case side2 => exact (Kd.R_reads' HO_6.out).2.1); (case side3 => exact zC (Kd.R_reads' HO_6.out).2.2); (case side4 => exact (Kd.R_reads' HO_6.out).2.1); rintro e w30 ⟨vb2, rfl, ho0, hb⟩; refine ⟨_, rfl, ?_⟩; replace ho0 := yn ho0 HO_0; replace ho0 := yn ho0 HO_6; have HOb3 := yRl ho0 HB; replace HO_0 := yRe HO_0 ho0 hb; replace HO_6 := yRe HO_6 ho0 hb; replace HB := yS HB hb; (try clear hb ho0); obtain ⟨Ao31, co31, rfl⟩ := Kd.R_slice HOb3.out) | ((with_reducible refine gC 26 ?_); refine zG (some 36) Try.func26 #[.slice Ao31 tb1.length co31, .slice Ao19 ta1.length co19] ?_; (with_reducible refine (r1_Mul.calls k1 _ _ tb1 _ _ ta1 tb4 _ ?side1 ?side2 ?side3 ?side4 A27.out).mono ?_); (case side1 => exact zC (Kd.R_reads' HOb3.out).2.2); (case side2 => exact (Kd.R_reads' HOb3.out).2.1); (case side3 => exact zC (Kd.R_reads' HO_0.out).2.2); (case side4 => exact (Kd.R_reads' HO_0.out).2.1); rintro e w32 ⟨vb5, rfl, ho0, hb⟩; refine ⟨_, rfl, ?_⟩; replace ho0 := yn ho0 HO_0; replace ho0 := yn ho0 HO_6; replace ho0 := yn ho0 HOb3; have HOb6 := yRl ho0 HB; replace HO_0 := yRe HO_0 ho0 hb; replace HO_6 := yRe HO_6 ho0 hb; replace HOb3 := yRe HOb3 ho0 hb; replace HB := yS HB hb; (try clear hb ho0); obtain ⟨Ao33, co33, rfl⟩ := Kd.R_slice HOb6.out))
       go_ret2
       exact ⟨_, zE, z0, zB HB.out⟩
     have c28b0 : decide (4096 < (tb4.length : Int)) = false := decide_eq_false c28
     have c28b1 : decide (4096 < tb4.length) = false := decide_eq_false (by omega)
     clear c28
     have H' := zk H
     clear H
     obtain ⟨Ao34, co34, rfl⟩ := Kd.R_slice HO_6.out
     go_wp2_with (first | ((with_reducible refine gC 26 ?_); refine zG (some 28) Try.func26 #[.slice Ao34 x6_1.length co34, .slice Ao34 x6_1.length co34] ?_; (with_reducible refine (r1_Mul.calls k1 _ _ x6_1 _ _ x6_1 tb1 _ ?side1 ?side2 ?side3 ?side4 A24.out).mono ?_); (case side1 => exact zC (Kd.R_reads' HO_6.out).2.2); (case side2 => exact (Kd.R_reads' HO_6.out).2.1); (case side3 => exact zC (Kd.R_reads' HO_6.out).2.2); (case side4 => exact (Kd.R_reads' HO_6.out).2.1); rintro e w35 ⟨vb2, rfl, ho0, hb⟩; refine ⟨_, rfl, ?_⟩; replace ho0 := yn ho0 HO_0; replace ho0 := yn ho0 HO_6; have HOb3 := yRl ho0 HB; replace HO_0 := yRe HO_0 ho0 hb; replace HO_6 := yRe HO_6 ho0 hb; replace HB := yS HB hb; (try clear hb ho0); obtain ⟨Ao36, co36, rfl⟩ := Kd.R_slice HOb3.out) | ((with_reducible refine gC 26 ?_); refine zG (some 36) Try.func26 #[.slice Ao36 tb1.length co36, .slice Ao19 ta1.length co19] ?_; (with_reducible refine (r1_Mul.calls k1 _ _ tb1 _ _ ta1 tb4 _ ?side1 ?side2 ?side3 ?side4 A27.out).mono ?_); (case side1 => exact zC (Kd.R_reads' HOb3.out).2.2); (case side2 => exact (Kd.R_reads' HOb3.out).2.1); (case side3 => exact zC (Kd.R_reads' HO_0.out).2.2); (case side4 => exact (Kd.R_reads' HO_0.out).2.1); rintro e w37 ⟨vb5, rfl, ho0, hb⟩; refine ⟨_, rfl, ?_⟩; replace ho0 := yn ho0 HO_0; replace ho0 := yn ho0 HO_6; replace ho0 := yn ho0 HOb3; have HOb6 := yRl ho0 HB; replace HO_0 := yRe HO_0 ho0 hb; replace HO_6 := yRe HO_6 ho0 hb; replace HOb3 := yRe HOb3 ho0 hb; replace HB := yS HB hb; (try clear hb ho0); obtain ⟨Ao38, co38, rfl⟩ := Kd.R_slice HOb6.out))
     go_roundg k1
     case measure => have := HK1.out; omega
     case rel => exact ⟨(tb4), (wrap64 (Int.tdiv x7_1 2)), zF, H', ⟨zo1 HK1⟩, ⟨by (with_reducible repeat (first | apply Kd.R_alloc | apply Kd.R_drewN | apply Kd.R_drew)); exact Kd.R_mono HO_0.out (fun _ hk => hk.2)⟩, ⟨by (with_reducible repeat (first | apply Kd.R_alloc | apply Kd.R_drewN | apply Kd.R_drew)); exact Kd.R_mono HOb6.out (fun _ hk => hk.1.1.2)⟩, ⟨zB HB.out⟩⟩
   have c26b0 := beq_eq_false_iff_ne.mpr c26
   have c26b1 := bne_iff_ne.mpr c26
   replace H := zi H
   rcases H with ⟨c39, H⟩ | ⟨c39, H⟩
   · have c39b0 : decide (4096 < (tb1.length : Int)) = true := decide_eq_true c39
     have c39b1 : decide (4096 < tb1.length) = true := decide_eq_true (by omega)
     clear c39
     simp only [Option.some.injEq, Prod.mk.injEq] at H
     obtain ⟨rfl, rfl⟩ := H
     obtain ⟨Ao40, co40, rfl⟩ := Kd.R_slice HO_6.out
     go_wp2_with (first | ((with_reducible refine gC 26 ?_); refine zG (some 28) Try.func26 #[.slice Ao40 x6_1.length co40, .slice Ao40 x6_1.length co40] ?_; (with_reducible refine (r1_Mul.calls k1 _ _ x6_1 _ _ x6_1 tb1 _ ?side1 ?side2 ?side3 ?side4 A24.out).mono ?_); (case side1 => exact zC (Kd.R_reads' HO_6.out).2.2); (case side2 => exact (Kd.R_reads' HO_6.out).2.1); (case side3 => exact zC (Kd.R_reads' HO_6.out).2.2); (case side4 => exact (Kd.R_reads' HO_6.out).2.1); rintro e w41 ⟨vb2, rfl, ho0, hb⟩; refine ⟨_, rfl, ?_⟩; replace ho0 := yn ho0 HO_0; replace ho0 := yn ho0 HO_6; have HOb3 := yRl ho0 HB; replace HO_0 := yRe HO_0 ho0 hb; replace HO_6 := yRe HO_6 ho0 hb; replace HB := yS HB hb; (try clear hb ho0); obtain ⟨Ao42, co42, rfl⟩ := Kd.R_slice HOb3.out))
     go_ret2
     exact ⟨_, zE, z0, zB HB.out⟩
   have c39b0 : decide (4096 < (tb1.length : Int)) = false := decide_eq_false c39
   have c39b1 : decide (4096 < tb1.length) = false := decide_eq_false (by omega)
   clear c39
   have H' := zk H
   clear H
   obtain ⟨Ao43, co43, rfl⟩ := Kd.R_slice HO_6.out
   go_wp2_with (first | ((with_reducible refine gC 26 ?_); refine zG (some 28) Try.func26 #[.slice Ao43 x6_1.length co43, .slice Ao43 x6_1.length co43] ?_; (with_reducible refine (r1_Mul.calls k1 _ _ x6_1 _ _ x6_1 tb1 _ ?side1 ?side2 ?side3 ?side4 A24.out).mono ?_); (case side1 => exact zC (Kd.R_reads' HO_6.out).2.2); (case side2 => exact (Kd.R_reads' HO_6.out).2.1); (case side3 => exact zC (Kd.R_reads' HO_6.out).2.2); (case side4 => exact (Kd.R_reads' HO_6.out).2.1); rintro e w44 ⟨vb2, rfl, ho0, hb⟩; refine ⟨_, rfl, ?_⟩; replace ho0 := yn ho0 HO_0; replace ho0 := yn ho0 HO_6; have HOb3 := yRl ho0 HB; replace HO_0 := yRe HO_0 ho0 hb; replace HO_6 := yRe HO_6 ho0 hb; replace HB := yS HB hb; (try clear hb ho0); obtain ⟨Ao45, co45, rfl⟩ := Kd.R_slice HOb3.out))
   go_roundg k1
   case measure => have := HK1.out; omega
   case rel => exact ⟨(tb1), (wrap64 (Int.tdiv x7_1 2)), zF, H', ⟨zo1 HK1⟩, ⟨by (with_reducible repeat (first | apply Kd.R_alloc | apply Kd.R_drewN | apply Kd.R_drew)); exact Kd.R_mono HO_0.out (fun _ hk => hk.2)⟩, ⟨by (with_reducible repeat (first | apply Kd.R_alloc | apply Kd.R_drewN | apply Kd.R_drew)); exact Kd.R_mono HOb3.out (fun _ hk => hk.1.2)⟩, ⟨zB HB.out⟩⟩
 have c23b0 : decide (0 < x7_1) = false := decide_eq_false c23
 clear c23
 simp only [Option.some.injEq, Prod.mk.injEq] at H
 obtain ⟨rfl, rfl⟩ := H
 go_wp2
 go_ret2
 exact ⟨_, zE, by (with_reducible repeat (first | apply Kd.R_alloc | apply Kd.R_drewN | apply Kd.R_drew)); exact Kd.R_mono HO_6.out (fun _ hk => trivial), zB HB.out⟩
set_option maxHeartbeats 8000000 in
set_option maxRecDepth 100000 in
theorem r1_small.calls (k : Nat) (A0 : Option Addr) (c0 : Nat) (l0 : List Int) (a1 : Int) (a2 : Int) (r : List Int) (w : World) (hr0 : Kd.C (Kd.int .u32) w A0 l0.length l0) (hc0 : l0.length ≤ c0) (h : r1_small.f k l0 a1 a2 = some r) :
    Calls Try.prog 120 #[.slice A0 l0.length c0, .int .i64 a1, .int .i64 a2] w fun e w' => ∃ v0_ : Value, e = .returned (v0_) ∧ Kd.R (Kd.int .u32) 97 w' w.heap.size (fun _ => True) v0_ r ∧ Below w.heap.size w w' := by
 have HR0 := zk hr0
 have HC0 := zk hc0
 clear hr0 hc0
 have HB := zk (Below.refl w.heap.size w)
 have H := h
 clear h
 unfold r1_small.f at H
 replace H := zb H
 obtain ⟨ta1, A4, H⟩ := H
 replace H := zb H
 obtain ⟨ta4, A5, H⟩ := H
 replace H := zg H
 obtain ⟨c6, H⟩ := H
 have c6b0 := eq_true c6
 have c6b1 := decide_eq_true c6
 clear c6
 replace H := zg H
 obtain ⟨c7, H⟩ := H
 have c7b0 := eq_true c7
 have c7b1 := decide_eq_true c7
 clear c7
 obtain ⟨ya7, hya7⟩ : ∃ y_ : List Int, y_ = (List.replicate ((ta4.length : Int) : Int).toNat 0) := ⟨_, rfl⟩
 replace H : (r1_small.l0 k ta4 a2 ya7 0 (wrap64 ((ta4.length : Int) - 1))) = some r := zY hya7 H
 have Nya7 := zk hya7
 clear hya7
 have H' := zk H
 clear H
 go_enter Try.func120, Try.ntmps120
 go_wp2_with (first | ((with_reducible refine gC 23 ?_); refine zG (some 14) Try.func23 #[.int .u64 (IntKind.u64.wrap (a1))] ?_; (with_reducible refine (r1_Of.calls k (IntKind.u64.wrap (a1)) ta1 _ A4.out).mono ?_); rintro e w8 ⟨va2, rfl, ho0, hb⟩; refine ⟨_, rfl, ?_⟩; have HOa3 := yRl ho0 HB; replace HB := yS HB hb; (try clear hb ho0); obtain ⟨Ao9, co9, rfl⟩ := Kd.R_slice HOa3.out) | ((with_reducible refine gC 26 ?_); refine zG (some 15) Try.func26 #[.slice A0 l0.length c0, .slice Ao9 ta1.length co9] ?_; (with_reducible refine (r1_Mul.calls k _ _ l0 _ _ ta1 ta4 _ ?side1 ?side2 ?side3 ?side4 A5.out).mono ?_); (case side1 => exact zC (Kd.C_below HR0.out HB.out)); (case side2 => exact HC0.out); (case side3 => exact zC (Kd.R_reads' HOa3.out).2.2); (case side4 => exact (Kd.R_reads' HOa3.out).2.1); rintro e w10 ⟨va5, rfl, ho0, hb⟩; refine ⟨_, rfl, ?_⟩; replace ho0 := yn ho0 HOa3; have HOa6 := yRl ho0 HB; replace HOa3 := yRe HOa3 ho0 hb; replace HB := yS HB hb; (try clear hb ho0); obtain ⟨Ao11, co11, rfl⟩ := Kd.R_slice HOa6.out) | ((with_reducible refine gate_dst (N := 18) rfl ?_); refine Kd.R_make (Kd.int .u32) _ 97 rfl (N := 18) rfl 29 _ _ rfl (ta4.length : Int) rfl rfl Try.underlying29 (.int .u32 0) 4 info97 rfl (by decide) (by omega) 0 (ok := fun _ => True) (okp := fun _ => True) rfl (fun _ hk => hk) trivial zd (Nat.le_trans (Nat.mul_le_mul_right _ (zd : (ta4.length : Int).toNat ≤ 70368744177664)) (by omega)) (Below.refl _ _) (Nat.le_refl _) ?_; intro va8 w12 ho13 hb hg_ hnew_; clear hg_ hnew_; (first | rw [← Nya7.out] at ho13 | (simp only [Int.reduceToNat] at ho13; rw [← Nya7.out] at ho13)); replace ho13 := yn ho13 HOa3; replace ho13 := yn ho13 HOa6; have HOa9 := yRl ho13 HB; replace HOa3 := yRe HOa3 ho13 hb; replace HOa6 := yRe HOa6 ho13 hb; replace HB := yS HB hb; clear hb ho13))
 go_loopg [8, 9] k (fun kq v8 v9 w' => ∃ (x7_1 : List Int) (x8_1 : Int) (x9_1 : Int), v8 = .int .u64 x8_1 ∧ v9 = .int .i64 x9_1 ∧ Aside0 (r1_small.l0 kq ta4 a2 x7_1 x8_1 x9_1 = some r) ∧ Aside0 (kq ≤ k) ∧ Aside0 (Kd.R (Kd.int .u32) 97 w' w.heap.size (fun k_ => some k_ ≠ (va8 : Value).ownBlock) (.slice Ao11 ta4.length co11) ta4) ∧ Aside0 (Kd.R (Kd.int .u32) 97 w' w.heap.size (fun k_ => some k_ ≠ ((.slice Ao11 ta4.length co11) : Value).ownBlock) va8 x7_1) ∧ Aside0 (Below w.heap.size w w'))
 case atStart => exact ⟨(ya7), (0), (wrap64 ((ta4.length : Int) - 1)), zF, zF, H', ⟨Nat.le_refl _⟩, ⟨by (with_reducible repeat (first | apply Kd.R_alloc | apply Kd.R_drewN | apply Kd.R_drew)); exact Kd.R_mono HOa6.out (fun _ hk => hk.2)⟩, ⟨by (with_reducible repeat (first | apply Kd.R_alloc | apply Kd.R_drewN | apply Kd.R_drew)); exact Kd.R_mono HOa9.out (fun _ hk => hk.2)⟩, ⟨zB HB.out⟩⟩
 clear H'
 (try clear c6);(try clear c6b0);(try clear c6b1);(try clear c7);(try clear c7b0);(try clear c7b1)
 obtain ⟨x7_1, x8_1, x9_1, rfl, rfl, HA, HK1, HO_0, HO_7, HB⟩ := hrel
 cases gk with | zero => exact absurd HA.out (by simp [r1_small.l0]) | succ k1 => ?_
 have H := HA.out
 clear HA
 simp only [r1_small.l0] at H
 replace H := zi H
 rcases H with ⟨c14, H⟩ | ⟨c14, H⟩
 · have c14b0 : decide (0 ≤ x9_1) = true := decide_eq_true c14
   clear c14
   replace H := zgd H
   obtain ⟨c15b0, H⟩ := H
   replace H := zgd H
   obtain ⟨c16b0, H⟩ := H
   replace H := zh H
   obtain ⟨c17, H⟩ := H
   have c17b0 := beq_eq_false_iff_ne.mpr c17
   have c17b1 := bne_iff_ne.mpr c17
   replace H := zgd H
   obtain ⟨c18b0, H⟩ := H
   obtain ⟨yb1, hyb1⟩ : ∃ y_ : List Int, y_ = (x7_1.set (x9_1 : Int).toNat ((IntKind.u64.wrap (Int.tdiv (IntKind.u64.wrap ((IntKind.u64.wrap (x8_1 * 4294967296)) + (IntKind.u64.wrap (rd ta4 x9_1)))) (IntKind.u64.wrap (a2)))) % 4294967296)) := ⟨_, rfl⟩
   replace H : (r1_small.l0 k1 ta4 a2 yb1 (Int.tmod (IntKind.u64.wrap ((IntKind.u64.wrap (x8_1 * 4294967296)) + (IntKind.u64.wrap (rd ta4 x9_1)))) (IntKind.u64.wrap (a2))) (wrap64 (x9_1 - 1))) = some r := zY hyb1 H
   have Nyb1 := zk hyb1
   clear hyb1
   have H' := zk H
   clear H
   have pb0 : 0 ≤ (x9_1 : Int) := zd
   have qb0 : x9_1 < (ta4.length : Int) := zd
   obtain ⟨adb0, eb0, hxb0_0⟩ := Kd.at_int (Kd.R_reads' HO_0.out).2.2 x9_1 pb0 qb0
   cases eb0
   replace pb0 := eq_true pb0
   replace qb0 := eq_true qb0
   have p19 : 0 ≤ (x9_1 : Int) := zd
   have q19 : (x9_1 : Int) < ((x7_1.length : Int) : Int) := zd
   obtain ⟨go19, co19, eo19, gb19, gl19, cl19, HG19⟩ := Kd.R_form HO_7.out (by omega)
   (first | cases eo19 | (injection eo19 with ea_ en_ ec_; (first | subst ea_ | (injection ea_ with ea_; subst ea_)); subst ec_; clear en_))
   have GB19 := zk gb19
   have GG19 := zk HG19
   clear gb19 gl19 HG19
   obtain ⟨hx19_0, hf19_0⟩ := Kd.R_celln 0 HO_7.out (x9_1 : Int) p19 q19
   replace p19 := eq_true p19
   replace q19 := eq_true q19
   have HP20 := Kd.R_putg HO_7.out (x9_1 : Int) ((IntKind.u64.wrap (Int.tdiv (IntKind.u64.wrap ((IntKind.u64.wrap (x8_1 * 4294967296)) + (IntKind.u64.wrap (rd ta4 x9_1)))) (IntKind.u64.wrap (a2)))) % 4294967296)
   go_wp2_with (first | ((with_reducible refine gate_store (t := 97) (p := 41) rfl ?_); refine store_event (t := 97) (p := 41) (v := ?vo_w21) (w1 := (wr.setCell ⟨go19, (x9_1 : Int).toNat, none⟩ (.int .u32 ((IntKind.u64.wrap (Int.tdiv (IntKind.u64.wrap ((IntKind.u64.wrap (x8_1 * 4294967296)) + (IntKind.u64.wrap (rd ta4 x9_1)))) (IntKind.u64.wrap (a2)))) % 4294967296)))) ?hg ?ho ?hn ?hr ?_; (case ho => rfl); (case hg => rfl); (case hn => rfl); (case hr => first | (go_simp; done) | (go_simp; rfl)); intro w21 hw; have hg : wr.grownBy w21 (some go19) := (by rw [hw]; exact HP20.2); have hp_ : Kd.R (Kd.int .u32) 97 w21 w.heap.size (fun k_ => some k_ ≠ (.slice (some adb0) ta4.length co11 : Value).ownBlock) (.slice (some ⟨go19, 0, none⟩) x7_1.length co19) yb1 := (by rw [hw, Nyb1.out]; exact HP20.1); clear HP20; replace HO_0 := zk (Kd.R_after (v := (.slice (some ⟨go19, 0, none⟩) x7_1.length co19)) (v1 := (.slice (some ⟨go19, 0, none⟩) x7_1.length co19)) (ok := (fun _ => True)) (by (with_reducible repeat (first | apply Kd.R_alloc | apply Kd.R_drewN | apply Kd.R_drew)); exact Kd.R_mono HO_0.out (fun _ hk => ⟨trivial, hk⟩)) hg (.inl rfl)); replace HO_7 := zk (hp_); replace HB := zk ((by rw [hw]; exact below_set (HB.out) GB19.out : Below w.heap.size w w21)); clear hg hw hp_))
   go_roundg k1
   case measure => have := HK1.out; omega
   case rel => exact ⟨(yb1), (Int.tmod (IntKind.u64.wrap ((IntKind.u64.wrap (x8_1 * 4294967296)) + (IntKind.u64.wrap (rd ta4 x9_1)))) (IntKind.u64.wrap (a2))), (wrap64 (x9_1 - 1)), zF, zF, H', ⟨zo1 HK1⟩, ⟨by (with_reducible repeat (first | apply Kd.R_alloc | apply Kd.R_drewN | apply Kd.R_drew)); exact Kd.R_mono HO_0.out (fun _ hk => hk.2)⟩, ⟨zR HO_7.out⟩, ⟨zB HB.out⟩⟩
 have c14b0 : decide (0 ≤ x9_1) = false := decide_eq_false c14
 clear c14
 replace H := zb H
 obtain ⟨tb2, A22, H⟩ := H
 obtain rfl := Option.some.inj H
 obtain ⟨Ao23, co23, rfl⟩ := Kd.R_slice HO_7.out
 go_wp2_with (first | ((with_reducible refine gC 75 ?_); refine zG (some 47) Try.func75 #[.slice Ao23 x7_1.length co23] ?_; (with_reducible refine (r1_Trim.calls k1 _ _ x7_1 tb2 _ ?side1 ?side2 A22.out).mono ?_); (case side1 => exact zC (Kd.R_reads' HO_7.out).2.2); (case side2 => exact (Kd.R_reads' HO_7.out).2.1); rintro e w24 ⟨vb3, rfl, ho0, hb⟩; refine ⟨_, rfl, ?_⟩; replace ho0 := yn ho0 HO_0; replace ho0 := yn ho0 HO_7; have HOb4 := yRl ho0 HB; replace HO_0 := yRe HO_0 ho0 hb; replace HO_7 := yRe HO_7 ho0 hb; replace HB := yS HB hb; (try clear hb ho0)))
 go_ret
 exact ⟨_, zE, by (with_reducible repeat (first | apply Kd.R_alloc | apply Kd.R_drewN | apply Kd.R_drew)); exact Kd.R_mono HOb4.out (fun _ hk => trivial), zB HB.out⟩
set_option maxHeartbeats 8000000 in
set_option maxRecDepth 100000 in
theorem r1_Choose.calls (k : Nat) (a0 : Int) (a1 : Int) (r : List Int) (w : World) (h : r1_Choose.f k a0 a1 = some r) :
    Calls Try.prog 78 #[.int .i64 a0, .int .i64 a1] w fun e w' => ∃ v0_ : Value, e = .returned (v0_) ∧ Kd.R (Kd.int .u32) 97 w' w.heap.size (fun _ => True) v0_ r ∧ Below w.heap.size w w' := by
 have HB := zk (Below.refl w.heap.size w)
 have H := h
 clear h
 unfold r1_Choose.f at H
 have HC3 := zk H
 clear H
 go_enter Try.func78, Try.ntmps78
 go_upto_region 1 with (fail)
 go_cut [13] (fun v13 wc => ∃ (kq : Nat) (x13_2 : Bool), v13 = .bool x13_2 ∧ Aside0 (r1_Choose.j0 kq a0 a1 x13_2 = some r) ∧ Aside0 (kq ≤ k) ∧ Aside0 (Below w.heap.size w wc))
 case first =>
  have H := HC3.out
  clear HC3
  replace H := zid H
  rcases H with ⟨c4b0, H⟩ | ⟨c4b0, H⟩
  · (first | rw [c4b0] | (simp only [i64_w, i32_w]; rw [c4b0]) | rw [c4b1] | skip)
    have H' := zk H
    clear H
    go_wp2
    go_meet
    case rel => exact ⟨_, (true), zF, H', ⟨zO⟩, ⟨zB HB.out⟩⟩
  (first | rw [c4b0] | (simp only [i64_w, i32_w]; rw [c4b0]) | rw [c4b1] | skip)
  have H' := zk H
  clear H
  go_wp2
  go_meet
  case rel => exact ⟨_, (decide (a1 > a0)), zF, H', ⟨zO⟩, ⟨zB HB.out⟩⟩
 clear HC3
 (try clear c4b0)
 obtain ⟨kq, x13_2, rfl, HA, HJ2, HB⟩ := hcut
 cases kq with | zero => exact absurd HA.out (by simp [r1_Choose.j0]) | succ kj2 => ?_
 have H := HA.out
 clear HA
 simp only [r1_Choose.j0] at H
 by_cases c5 : x13_2 = true
 · subst c5
   rw [if_pos rfl] at H
   obtain ⟨ya1, hya1⟩ : ∃ y_ : List Int, y_ = (([] : List Int)) := ⟨_, rfl⟩
   replace H : (some ya1) = some r := zY hya1 H
   have Nya1 := zk hya1
   clear hya1
   obtain rfl := Option.some.inj H
   go_wp2_with (first | ((with_reducible refine gate_dst (N := 14) rfl ?_); refine Kd.R_lit (Kd.int .u32) _ 97 ?hg (N := 14) ?hd (xs := ([] : List Int)) (inner := []) (ok := fun _ => True) (okp := fun _ => True) ?hr ?hp (fun _ hk => hk) trivial (Below.refl _ _) (Nat.le_refl _) (by simp) ?_; (case hd => rfl); (case hg => rfl); (case hr => first | (go_simp; done) | (go_simp; rfl)); (case hp => exact (Reps.none _ _)); intro va2 w6 ho7 hb hg_ hnew_; clear hg_ hnew_; (first | rw [← Nya1.out] at ho7 | (simp only [Int.reduceToNat] at ho7; rw [← Nya1.out] at ho7)); have HOa3 := yRl ho7 HB; replace HB := yS HB hb; clear hb ho7))
   go_ret
   exact ⟨_, zE, zR HOa3.out, zB HB.out⟩
 replace c5 := Bool.eq_false_iff.mpr c5
 subst c5
 rw [if_neg Bool.false_ne_true] at H
 obtain ⟨ya4, hya4⟩ : ∃ y_ : List Int, y_ = (([1] : List Int)) := ⟨_, rfl⟩
 replace H : (r1_Choose.l0 kj2 a0 a1 ya4 0) = some r := zY hya4 H
 have Nya4 := zk hya4
 clear hya4
 have H' := zk H
 clear H
 go_wp2_with (first | ((with_reducible refine gate_dst (N := 15) rfl ?_); refine Kd.R_lit (Kd.int .u32) _ 97 ?hg (N := 15) ?hd (xs := ([1] : List Int)) (inner := [.int .u32 1]) (ok := fun _ => True) (okp := fun _ => True) ?hr ?hp (fun _ hk => hk) trivial (Below.refl _ _) (Nat.le_refl _) (by simp) ?_; (case hd => rfl); (case hg => rfl); (case hr => first | (go_simp; done) | (go_simp; rfl)); (case hp => exact (Reps.one (show Kd.M (Kd.int .u32) _ _ _ 1 [.int .u32 1] from rfl) (Reps.none _ _))); intro va5 w8 ho9 hb hg_ hnew_; clear hg_ hnew_; (first | rw [← Nya4.out] at ho9 | (simp only [Int.reduceToNat] at ho9; rw [← Nya4.out] at ho9)); have HOa6 := yRl ho9 HB; replace HB := yS HB hb; clear hb ho9))
 go_loopg [5, 6] kj2 (fun kq v5 v6 w' => ∃ (x5_2 : List Int) (x6_2 : Int), v6 = .int .i64 x6_2 ∧ Aside0 (r1_Choose.l0 kq a0 a1 x5_2 x6_2 = some r) ∧ Aside0 (kq ≤ kj2) ∧ Aside0 (Kd.R (Kd.int .u32) 97 w' w.heap.size (fun _ => True) v5 x5_2) ∧ Aside0 (Below w.heap.size w w'))
 case atStart => exact ⟨(ya4), (0), zF, H', ⟨Nat.le_refl _⟩, ⟨zR HOa6.out⟩, ⟨zB HB.out⟩⟩
 clear H'
 (try clear c4b0);(try clear c5)
 obtain ⟨x5_2, x6_2, rfl, HA, HK2, HO_5, HB⟩ := hrel
 cases gk with | zero => exact absurd HA.out (by simp [r1_Choose.l0]) | succ k2 => ?_
 have H := HA.out
 clear HA
 simp only [r1_Choose.l0] at H
 replace H := zid H
 rcases H with ⟨c10b0, H⟩ | ⟨c10b0, H⟩
 · replace H := zb H
   obtain ⟨ta7, A11, H⟩ := H
   have H' := zk H
   clear H
   obtain ⟨Ao12, co12, rfl⟩ := Kd.R_slice HO_5.out
   go_wp2_with (first | ((with_reducible refine gC 120 ?_); refine zG (some 27) Try.func120 #[.slice Ao12 x5_2.length co12, .int .i64 (wrap64 (a0 - x6_2)), .int .i64 (wrap64 (x6_2 + 1))] ?_; (with_reducible refine (r1_small.calls k2 _ _ x5_2 (wrap64 (a0 - x6_2)) (wrap64 (x6_2 + 1)) ta7 _ ?side1 ?side2 A11.out).mono ?_); (case side1 => exact zC (Kd.R_reads' HO_5.out).2.2); (case side2 => exact (Kd.R_reads' HO_5.out).2.1); rintro e w13 ⟨va8, rfl, ho0, hb⟩; refine ⟨_, rfl, ?_⟩; replace ho0 := yn ho0 HO_5; have HOa9 := yRl ho0 HB; replace HO_5 := yRe HO_5 ho0 hb; replace HB := yS HB hb; (try clear hb ho0)))
   go_roundg k2
   case measure => have := HJ2.out; have := HK2.out; omega
   case rel => exact ⟨(ta7), (wrap64 (x6_2 + 1)), zF, H', ⟨zo2 HJ2 HK2⟩, ⟨by (with_reducible repeat (first | apply Kd.R_alloc | apply Kd.R_drewN | apply Kd.R_drew)); exact Kd.R_mono HOa9.out (fun _ hk => trivial)⟩, ⟨zB HB.out⟩⟩
 obtain rfl := Option.some.inj H
 go_wp2
 go_ret
 exact ⟨_, zE, zR HO_5.out, zB HB.out⟩
set_option maxHeartbeats 8000000 in
set_option maxRecDepth 100000 in
theorem r2_Nat.calls (k : Nat) (A0 : Option Addr) (c0 : Nat) (l0 : List Int) (r1 : Bool) (r2 : List Int) (r3 : List Int) (w : World) (hr0 : Kd.C (Kd.int .u32) w A0 l0.length l0) (hc0 : l0.length ≤ c0) (h : r2_Nat.f k l0 = some (r1, r2, r3)) :
    Calls Try.prog 95 #[.slice A0 l0.length c0] w fun e w' => ∃ v1_ v2_ : Value, e = .returned (.agg #[.bool r1, v1_, v2_]) ∧ Kd.R (Kd.int .u32) 97 w' w.heap.size (fun k_ => some k_ ≠ (v2_ : Value).ownBlock) v1_ r2 ∧ Kd.R (Kd.int .u32) 97 w' w.heap.size (fun k_ => some k_ ≠ (v1_ : Value).ownBlock) v2_ r3 ∧ Below w.heap.size w w' := by
 have hu60 := Try.underlying60
 have HR0 := zk hr0
 have HC0 := zk hc0
 clear hr0 hc0
 have HB := zk (Below.refl w.heap.size w)
 have H := h
 clear h
 unfold r2_Nat.f at H
 obtain ⟨ya2, hya2⟩ : ∃ y_ : List Int, y_ = (([1] : List Int)) := ⟨_, rfl⟩
 replace H : ((r2_Make.f k false l0 ya2).bind fun bta5 => (some (bta5.1, bta5.2.1, bta5.2.2))) = some (r1, r2, r3) := zY hya2 H
 have Nya2 := zk hya2
 clear hya2
 replace H := zb H
 obtain ⟨⟨ta5, ta6, ta9⟩, A2, H⟩ := H
 dsimp only at H
 simp only [Option.some.injEq, Prod.mk.injEq] at H
 obtain ⟨rfl, rfl, rfl⟩ := H
 go_enter Try.func95, Try.ntmps95
 go_wp2_with (first | ((with_reducible refine gate_dst (N := 2) rfl ?_); refine box_event ?hg (N := 2) ?hd (cs := #[.bool false, .slice none 0 0, .slice none 0 0]) (t := 60) ?hr ?_; (case hd => rfl); (case hg => rfl); (case hr => first | (go_simp; done) | (go_simp; rfl)); intro gba1 hg w3 hbox hb; have BKa1 := zk (hbox); have GWa1 := yg hg HB; have GEa1 := yg hg HB; replace HB := yS HB hb; clear hb hbox hg) | ((with_reducible refine gate_dst (N := 4) rfl ?_); refine Kd.R_lit (Kd.int .u32) _ 97 ?hg (N := 4) ?hd (xs := ([1] : List Int)) (inner := [.int .u32 1]) (ok := fun _ => True) (okp := fun _ => True) ?hr ?hp (fun _ hk => hk) trivial (Below.refl _ _) (Nat.le_refl _) (by simp) ?_; (case hd => rfl); (case hg => rfl); (case hr => first | (go_simp; done) | (go_simp; rfl)); (case hp => exact (Reps.one (show Kd.M (Kd.int .u32) _ _ _ 1 [.int .u32 1] from rfl) (Reps.none _ _))); intro va3 w4 ho5 hb hg_ hnew_; clear hg_ hnew_; (first | rw [← Nya2.out] at ho5 | (simp only [Int.reduceToNat] at ho5; rw [← Nya2.out] at ho5)); have HOa4 := yRl1 ho5 HB GEa1; replace BKa1 := yK BKa1 hb; replace HB := yS1 HB GEa1 hb; clear hb ho5; obtain ⟨Ao6, co6, rfl⟩ := Kd.R_slice HOa4.out) | ((with_reducible refine gC 90 ?_); refine zG (some 5) Try.func90 #[.bool false, .slice A0 l0.length c0, .slice Ao6 ya2.length co6] ?_; (with_reducible refine (r2_Make.calls k false _ _ l0 _ _ ya2 ta5 ta6 ta9 _ ?side1 ?side2 ?side3 ?side4 A2.out).mono ?_); (case side1 => exact zC (Kd.C_below HR0.out HB.out)); (case side2 => exact HC0.out); (case side3 => exact zC (Kd.R_reads' HOa4.out).2.2); (case side4 => exact (Kd.R_reads' HOa4.out).2.1); rintro e w7 ⟨va7, vb0, rfl, ho0, ho1, hb⟩; refine ⟨_, rfl, ?_⟩; replace ho0 := yn ho0 HOa4; have HOa8 := yRl1 ho0 HB GEa1; replace ho1 := yn ho1 HOa4; have HOb1 := yRl1 ho1 HB GEa1; replace HOa4 := yRt HOa4 hb ho0 ho1; replace BKa1 := yK BKa1 hb; replace HB := yS1 HB GEa1 hb; (try clear hb ho0); (try clear ho1); obtain ⟨hcz8_0, hcz8_1, hcz8_2, hfz8_0, hfz8_1, hfz8_2⟩ := zz3 BKa1; obtain ⟨Ao9, co9, rfl⟩ := Kd.R_slice HOa8.out; obtain ⟨Ao10, co10, rfl⟩ := Kd.R_slice HOb1.out))
 refine bodyPost_ret (results_cell_row rfl _ _ gba1 60 #[.bool ta5, .slice Ao9 ta6.length co9, .slice Ao10 ta9.length co10] (0, 0) _ rfl (zP3 BKa1.out) Try.underlying60 rfl (by kernel_rfl)) rfl ?_
 exact ⟨_, _, zE, by (with_reducible repeat (first | apply Kd.R_alloc | apply Kd.R_drewN | apply Kd.R_drew)); exact yf HOa8.out BKa1.out (fun _ hk => hk.1.1), by (with_reducible repeat (first | apply Kd.R_alloc | apply Kd.R_drewN | apply Kd.R_drew)); exact yf HOb1.out BKa1.out (fun _ hk => hk.1.1), zB1 HB.out GEa1.out⟩
set_option maxHeartbeats 8000000 in
set_option maxRecDepth 100000 in
theorem r2_Neg.calls (k : Nat) (a0_0 : Bool) (A0_1 : Option Addr) (c0_1 : Nat) (l0_1 : List Int) (A0_2 : Option Addr) (c0_2 : Nat) (l0_2 : List Int) (r1 : Bool) (r2 : List Int) (r3 : List Int) (w : World) (hr0_1 : Kd.C (Kd.int .u32) w A0_1 l0_1.length l0_1) (hc0_1 : l0_1.length ≤ c0_1) (hr0_2 : Kd.C (Kd.int .u32) w A0_2 l0_2.length l0_2) (hc0_2 : l0_2.length ≤ c0_2) (h : r2_Neg.f k a0_0 l0_1 l0_2 = some (r1, r2, r3)) :
    Calls Try.prog 96 #[.agg #[.bool a0_0, .slice A0_1 l0_1.length c0_1, .slice A0_2 l0_2.length c0_2]] w fun e w' => ∃ v1_ v2_ : Value, e = .returned (.agg #[.bool r1, v1_, v2_]) ∧ Kd.R (Kd.int .u32) 97 w' w.heap.size (fun k_ => some k_ ≠ (v2_ : Value).ownBlock) v1_ r2 ∧ Kd.R (Kd.int .u32) 97 w' w.heap.size (fun k_ => some k_ ≠ (v1_ : Value).ownBlock) v2_ r3 ∧ Below w.heap.size w w' := by
 have hu60 := Try.underlying60
 have HR0_1 := zk hr0_1
 have HC0_1 := zk hc0_1
 clear hr0_1 hc0_1
 have HR0_2 := zk hr0_2
 have HC0_2 := zk hc0_2
 clear hr0_2 hc0_2
 have HB := zk (Below.refl w.heap.size w)
 have H := h
 clear h
 unfold r2_Neg.f at H
 replace H := zb H
 obtain ⟨⟨ta3, ta4, ta7⟩, A2, H⟩ := H
 dsimp only at H
 replace H := zb H
 obtain ⟨⟨tb0, tb1, tb4⟩, A3, H⟩ := H
 dsimp only at H
 simp only [Option.some.injEq, Prod.mk.injEq] at H
 obtain ⟨rfl, rfl, rfl⟩ := H
 go_enter Try.func96, Try.ntmps96
 go_wp2_with (first | ((with_reducible refine gate_dst (N := 1) rfl ?_); refine box_event ?hg (N := 1) ?hd (cs := #[.bool a0_0, .slice A0_1 l0_1.length c0_1, .slice A0_2 l0_2.length c0_2]) (t := 60) ?hr ?_; (case hd => rfl); (case hg => rfl); (case hr => first | (go_simp; done) | (go_simp; rfl)); intro gba1 hg w4 hbox hb; have BKa1 := zk (hbox); have GWa1 := yg hg HB; have GEa1 := yg hg HB; replace HB := yS HB hb; clear hb hbox hg) | ((with_reducible refine gate_dst (N := 2) rfl ?_); refine box_event ?hg (N := 2) ?hd (cs := #[.bool false, .slice none 0 0, .slice none 0 0]) (t := 60) ?hr ?_; (case hd => rfl); (case hg => rfl); (case hr => first | (go_simp; done) | (go_simp; rfl)); intro gba2 hg w5 hbox hb; have BKa2 := zk (hbox); have GWa2 := yg1 hg HB GEa1; have GEa2 := yg1 hg HB GEa1; replace HB := yS1 HB GEa1 hb; have NBa1_102 := ynl hg BKa1; have NBa2_101 := yng hg BKa1; replace BKa1 := yK BKa1 hb; clear hb hbox hg; have hnb6 := NBa1_102.out; have hnc6 := NBa2_101.out; obtain ⟨hcz7_0, hcz7_1, hcz7_2, hfz7_0, hfz7_1, hfz7_2⟩ := zz3 BKa1) | ((with_reducible refine gC 99 ?_); refine zG (some 4) Try.func99 #[.agg #[.bool a0_0, .slice A0_1 l0_1.length c0_1, .slice A0_2 l0_2.length c0_2]] ?_; (with_reducible refine (r2_Trim.calls k a0_0 _ _ l0_1 _ _ l0_2 ta3 ta4 ta7 _ ?side1 ?side2 ?side3 ?side4 A2.out).mono ?_); (case side1 => exact zC (Kd.C_below HR0_1.out HB.out)); (case side2 => exact HC0_1.out); (case side3 => exact zC (Kd.C_below HR0_2.out HB.out)); (case side4 => exact HC0_2.out); rintro e w8 ⟨va5, va8, rfl, ho0, ho1, hb⟩; refine ⟨_, rfl, ?_⟩; have HOa6 := yRl2 ho0 HB GEa1 GEa2; have HOa9 := yRl2 ho1 HB GEa1 GEa2; replace BKa1 := yK BKa1 hb; replace BKa2 := yK BKa2 hb; replace HB := yS2 HB GEa1 GEa2 hb; (try clear hb ho0); (try clear ho1); obtain ⟨hcz9_0, hcz9_1, hcz9_2, hfz9_0, hfz9_1, hfz9_2⟩ := zz3 BKa1; obtain ⟨Ao10, co10, rfl⟩ := Kd.R_slice HOa6.out; obtain ⟨Ao11, co11, rfl⟩ := Kd.R_slice HOa9.out) | ((with_reducible refine gC 90 ?_); refine zG (some 12) Try.func90 #[.bool (!ta3), .slice Ao10 ta4.length co10, .slice Ao11 ta7.length co11] ?_; (with_reducible refine (r2_Make.calls k (!ta3) _ _ ta4 _ _ ta7 tb0 tb1 tb4 _ ?side1 ?side2 ?side3 ?side4 A3.out).mono ?_); (case side1 => refine (Kd.R_reads' (e := 97) (base := w.heap.size) (ok := fun k_ => some k_ ≠ (.slice Ao11 ta7.length co11 : Value).ownBlock) (n := ta4.length) (c := co10) ?_).2.2; exact (zf HOa6.out BKa1.out)); (case side2 => exact (Kd.R_reads' HOa6.out).2.1); (case side3 => refine (Kd.R_reads' (e := 97) (base := w.heap.size) (ok := fun k_ => some k_ ≠ (.slice Ao10 ta4.length co10 : Value).ownBlock) (n := ta7.length) (c := co11) ?_).2.2; exact (zf HOa9.out BKa1.out)); (case side4 => exact (Kd.R_reads' HOa9.out).2.1); rintro e w12 ⟨vb2, vb5, rfl, ho0, ho1, hb⟩; refine ⟨_, rfl, ?_⟩; replace ho0 := ynf ho0 HOa6 BKa1; replace ho0 := ynf ho0 HOa9 BKa1; have HOb3 := yRl2 ho0 HB GEa1 GEa2; replace ho1 := ynf ho1 HOa6 BKa1; replace ho1 := ynf ho1 HOa9 BKa1; have HOb6 := yRl2 ho1 HB GEa1 GEa2; replace HOa6 := yRtf HOa6 BKa1 hb ho0 ho1; replace HOa9 := yRtf HOa9 BKa1 hb ho0 ho1; replace BKa1 := yP3 BKa1 hb; replace BKa2 := yF3 BKa2 NBa2_101 hb; replace HB := yS2 HB GEa1 GEa2 hb; (try clear hb ho0); (try clear ho1); obtain ⟨hcz13_0, hcz13_1, hcz13_2, hfz13_0, hfz13_1, hfz13_2⟩ := zz3 BKa2; obtain ⟨Ao14, co14, rfl⟩ := Kd.R_slice HOb3.out; obtain ⟨Ao15, co15, rfl⟩ := Kd.R_slice HOb6.out))
 refine bodyPost_ret (results_cell_row rfl _ _ gba2 60 #[.bool tb0, .slice Ao14 tb1.length co14, .slice Ao15 tb4.length co15] (0, 0) _ rfl (zP3 BKa2.out) Try.underlying60 rfl (by kernel_rfl)) rfl ?_
 exact ⟨_, _, zE, by (with_reducible repeat (first | apply Kd.R_alloc | apply Kd.R_drewN | apply Kd.R_drew)); exact yf HOb3.out BKa2.out (fun _ hk => hk.1.1.1), by (with_reducible repeat (first | apply Kd.R_alloc | apply Kd.R_drewN | apply Kd.R_drew)); exact yf HOb6.out BKa2.out (fun _ hk => hk.1.1.1), zB2 HB.out GEa1.out GEa2.out⟩
set_option maxHeartbeats 8000000 in
set_option maxRecDepth 100000 in
theorem r24_Krawtchouk.calls (k : Nat) (a0 : Int) (a1 : Int) (a2 : Int) (a3 : Int) (r1 : Bool) (r2 : List Int) (r3 : List Int) (w : World) (h : r24_Krawtchouk.f k a0 a1 a2 a3 = some (r1, r2, r3)) :
    Calls Try.prog 46 #[.int .i64 a0, .int .i64 a1, .int .i64 a2, .int .i64 a3] w fun e w' => ∃ v1_ v2_ : Value, e = .returned (.agg #[.bool r1, v1_, v2_]) ∧ Kd.R (Kd.int .u32) 97 w' w.heap.size (fun k_ => some k_ ≠ (v2_ : Value).ownBlock) v1_ r2 ∧ Kd.R (Kd.int .u32) 97 w' w.heap.size (fun k_ => some k_ ≠ (v1_ : Value).ownBlock) v2_ r3 ∧ Below w.heap.size w w' := by
 have hu60 := Try.underlying60
 have HB := zk (Below.refl w.heap.size w)
 have H := h
 clear h
 unfold r24_Krawtchouk.f at H
 replace H := zb H
 obtain ⟨⟨ta2, ta3, ta6⟩, A5, H⟩ := H
 dsimp only at H
 have H' := zk H
 clear H
 go_enter Try.func46, Try.ntmps46
 go_wp2_with (first | ((with_reducible refine gate_dst (N := 8) rfl ?_); refine box_event ?hg (N := 8) ?hd (cs := #[.bool false, .slice none 0 0, .slice none 0 0]) (t := 60) ?hr ?_; (case hd => rfl); (case hg => rfl); (case hr => first | (go_simp; done) | (go_simp; rfl)); intro gba1 hg w6 hbox hb; have BKa1 := zk (hbox); have GWa1 := yg hg HB; have GEa1 := yg hg HB; replace HB := yS HB hb; clear hb hbox hg) | ((with_reducible refine gC 48 ?_); refine zG (some 14) Try.func48 #[.int .i64 0] ?_; (with_reducible refine (r2_Int.calls k 0 ta2 ta3 ta6 _ A5.out).mono ?_); rintro e w7 ⟨va4, va7, rfl, ho0, ho1, hb⟩; refine ⟨_, rfl, ?_⟩; have HOa5 := yRl1 ho0 HB GEa1; have HOa8 := yRl1 ho1 HB GEa1; replace BKa1 := yK BKa1 hb; replace HB := yS1 HB GEa1 hb; (try clear hb ho0); (try clear ho1)) | ((with_reducible refine gate_dst (N := 9) rfl ?_); refine box_event ?hg (N := 9) ?hd (cs := #[.bool false, .slice none 0 0, .slice none 0 0]) (t := 60) ?hr ?_; (case hd => rfl); (case hg => rfl); (case hr => first | (go_simp; done) | (go_simp; rfl)); intro gba9 hg w8 hbox hb; replace HOa5 := yRb HOa5 hb; replace HOa8 := yRb HOa8 hb; have BKa9 := zk (hbox); have GWa9 := yg1 hg HB GEa1; have GEa9 := yg1 hg HB GEa1; replace HB := yS1 HB GEa1 hb; have NBa1_109 := ynl hg BKa1; have NBa9_101 := yng hg BKa1; replace BKa1 := yK BKa1 hb; clear hb hbox hg; have hnb9 := NBa9_101.out; have hnc9 := NBa1_109.out; obtain ⟨hcz10_0, hcz10_1, hcz10_2, hfz10_0, hfz10_1, hfz10_2⟩ := zz3 BKa9; obtain ⟨Ao11, co11, rfl⟩ := Kd.R_slice HOa5.out; obtain ⟨Ao12, co12, rfl⟩ := Kd.R_slice HOa8.out))
 go_loopg [10] k (fun kq v10 w' => ∃ (x10_1 : Int) (x110000_1 : Bool) (x110001_1 : List Int) (x110002_1 : List Int) (u110001 : Value) (u110002 : Value), v10 = .int .i64 x10_1 ∧ Aside0 (r24_Krawtchouk.l0 kq a0 a1 a2 a3 x10_1 x110000_1 x110001_1 x110002_1 = some (r1, r2, r3)) ∧ Aside0 (kq ≤ k) ∧ Aside0 (Kd.R (Kd.int .u32) 97 w' w.heap.size (fun k_ => some k_ ≠ (u110002 : Value).ownBlock) u110001 x110001_1) ∧ Aside0 (Kd.R (Kd.int .u32) 97 w' w.heap.size (fun k_ => some k_ ≠ (u110001 : Value).ownBlock) u110002 x110002_1) ∧ Aside0 (w'.heap[gba1]? = some (.cells #[.bool false, (.slice none 0 0), (.slice none 0 0)] 60 (0, 0))) ∧ Aside0 (w'.heap[gba9]? = some (.cells #[.bool x110000_1, u110001, u110002] 60 (0, 0))) ∧ Aside0 (Below w.heap.size w w'))
 case atStart => exact ⟨(0), (ta2), (ta3), (ta6), (.slice Ao11 ta3.length co11), (.slice Ao12 ta6.length co12), zF, H', ⟨Nat.le_refl _⟩, ⟨by (with_reducible repeat (first | apply Kd.R_alloc | apply Kd.R_drewN | apply Kd.R_drew)); exact yf HOa5.out BKa9.out (fun _ hk => hk.1)⟩, ⟨by (with_reducible repeat (first | apply Kd.R_alloc | apply Kd.R_drewN | apply Kd.R_drew)); exact yf HOa8.out BKa9.out (fun _ hk => hk.1)⟩, ⟨zF3 BKa1.out NBa1_109.out⟩, ⟨zP3 BKa9.out⟩, ⟨zB2 HB.out GEa1.out GEa9.out⟩⟩
 clear H'
 (try clear hcz10_0);(try clear hcz10_1);(try clear hcz10_2);(try clear hfz10_0);(try clear hfz10_1);(try clear hfz10_2)
 obtain ⟨x10_1, x110000_1, x110001_1, x110002_1, u110001, u110002, rfl, HA, HK1, HO_110001, HO_110002, BKa1, BKa9, HB⟩ := hrel
 cases gk with | zero => exact absurd HA.out (by simp [r24_Krawtchouk.l0]) | succ k1 => ?_
 have H := HA.out
 clear HA
 simp only [r24_Krawtchouk.l0] at H
 replace H := zid H
 rcases H with ⟨c13b0, H⟩ | ⟨c13b0, H⟩
 · replace H := zb H
   obtain ⟨tb0, A14, H⟩ := H
   replace H := zb H
   obtain ⟨⟨tb3, tb4⟩, A15, H⟩ := H
   dsimp only at H
   replace H := zb H
   obtain ⟨tb7, A16, H⟩ := H
   replace H := zb H
   obtain ⟨tc0, A17, H⟩ := H
   replace H := zb H
   obtain ⟨tc3, A18, H⟩ := H
   replace H := zb H
   obtain ⟨tc6, A19, H⟩ := H
   replace H := zb H
   obtain ⟨⟨tc9, td0, td3⟩, A20, H⟩ := H
   dsimp only at H
   replace H := zi H
   rcases H with ⟨c21, H⟩ | ⟨c21, H⟩
   · have c21b0 := beq_iff_eq.mpr c21
     have c21b1 := bne_eq_false_iff_eq.mpr c21
     clear c21
     replace H := zb H
     obtain ⟨⟨td7, td8, te1⟩, A22, H⟩ := H
     dsimp only at H
     replace H := zb H
     obtain ⟨⟨te4, te5, te8⟩, A23, H⟩ := H
     dsimp only at H
     have H' := zk H
     clear H
     go_wp2_with (first | ((with_reducible refine gC 23 ?_); refine zG (some 24) Try.func23 #[.int .u64 (IntKind.u64.wrap (wrap64 (a0 - 1)))] ?_; (with_reducible refine (r1_Of.calls k1 (IntKind.u64.wrap (wrap64 (a0 - 1))) tb0 _ A14.out).mono ?_); rintro e w24 ⟨vb1, rfl, ho0, hb⟩; refine ⟨_, rfl, ?_⟩; replace ho0 := yn ho0 HO_110001; replace ho0 := yn ho0 HO_110002; have HOb2 := yRl2 ho0 HB GEa1 GEa9; replace HO_110001 := yRe HO_110001 ho0 hb; replace HO_110002 := yRe HO_110002 ho0 hb; replace BKa1 := yK BKa1 hb; replace BKa9 := yK BKa9 hb; replace HB := yS2 HB GEa1 GEa9 hb; (try clear hb ho0); obtain ⟨Ao25, co25, rfl⟩ := Kd.R_slice HOb2.out) | ((with_reducible refine gC 22 ?_); refine zG (some 28) Try.func22 #[.slice Ao25 tb0.length co25, .int .i64 (wrap64 (a2 - x10_1))] ?_; (with_reducible refine (r1_Pow.calls k1 _ _ tb0 (wrap64 (a2 - x10_1)) tb3 tb4 _ ?side1 ?side2 A15.out).mono ?_); (case side1 => exact zC (Kd.R_reads' HOb2.out).2.2); (case side2 => exact (Kd.R_reads' HOb2.out).2.1); rintro e w26 ⟨vb5, rfl, ho0, hb⟩; refine ⟨_, rfl, ?_⟩; replace ho0 := yn ho0 HO_110001; replace ho0 := yn ho0 HO_110002; replace ho0 := yn ho0 HOb2; have HOb6 := yRl2 ho0 HB GEa1 GEa9; replace HO_110001 := yRe HO_110001 ho0 hb; replace HO_110002 := yRe HO_110002 ho0 hb; replace HOb2 := yRe HOb2 ho0 hb; replace BKa1 := yK BKa1 hb; replace BKa9 := yK BKa9 hb; replace HB := yS2 HB GEa1 GEa9 hb; (try clear hb ho0)) | ((with_reducible refine gC 78 ?_); refine zG (some 34) Try.func78 #[.int .i64 a3, .int .i64 x10_1] ?_; (with_reducible refine (r1_Choose.calls k1 a3 x10_1 tb7 _ A16.out).mono ?_); rintro e w27 ⟨vb8, rfl, ho0, hb⟩; refine ⟨_, rfl, ?_⟩; replace ho0 := yn ho0 HO_110001; replace ho0 := yn ho0 HO_110002; replace ho0 := yn ho0 HOb2; replace ho0 := yn ho0 HOb6; have HOb9 := yRl2 ho0 HB GEa1 GEa9; replace HO_110001 := yRe HO_110001 ho0 hb; replace HO_110002 := yRe HO_110002 ho0 hb; replace HOb2 := yRe HOb2 ho0 hb; replace HOb6 := yRe HOb6 ho0 hb; replace BKa1 := yK BKa1 hb; replace BKa9 := yK BKa9 hb; replace HB := yS2 HB GEa1 GEa9 hb; (try clear hb ho0)) | ((with_reducible refine gC 78 ?_); refine zG (some 41) Try.func78 #[.int .i64 (wrap64 (a1 - a3)), .int .i64 (wrap64 (a2 - x10_1))] ?_; (with_reducible refine (r1_Choose.calls k1 (wrap64 (a1 - a3)) (wrap64 (a2 - x10_1)) tc0 _ A17.out).mono ?_); rintro e w28 ⟨vc1, rfl, ho0, hb⟩; refine ⟨_, rfl, ?_⟩; replace ho0 := yn ho0 HO_110001; replace ho0 := yn ho0 HO_110002; replace ho0 := yn ho0 HOb2; replace ho0 := yn ho0 HOb6; replace ho0 := yn ho0 HOb9; have HOc2 := yRl2 ho0 HB GEa1 GEa9; replace HO_110001 := yRe HO_110001 ho0 hb; replace HO_110002 := yRe HO_110002 ho0 hb; replace HOb2 := yRe HOb2 ho0 hb; replace HOb6 := yRe HOb6 ho0 hb; replace HOb9 := yRe HOb9 ho0 hb; replace BKa1 := yK BKa1 hb; replace BKa9 := yK BKa9 hb; replace HB := yS2 HB GEa1 GEa9 hb; (try clear hb ho0); obtain ⟨Ao29, co29, rfl⟩ := Kd.R_slice HOb9.out; obtain ⟨Ao30, co30, rfl⟩ := Kd.R_slice HOc2.out) | ((with_reducible refine gC 26 ?_); refine zG (some 42) Try.func26 #[.slice Ao29 tb7.length co29, .slice Ao30 tc0.length co30] ?_; (with_reducible refine (r1_Mul.calls k1 _ _ tb7 _ _ tc0 tc3 _ ?side1 ?side2 ?side3 ?side4 A18.out).mono ?_); (case side1 => exact zC (Kd.R_reads' HOb9.out).2.2); (case side2 => exact (Kd.R_reads' HOb9.out).2.1); (case side3 => exact zC (Kd.R_reads' HOc2.out).2.2); (case side4 => exact (Kd.R_reads' HOc2.out).2.1); rintro e w31 ⟨vc4, rfl, ho0, hb⟩; refine ⟨_, rfl, ?_⟩; replace ho0 := yn ho0 HO_110001; replace ho0 := yn ho0 HO_110002; replace ho0 := yn ho0 HOb2; replace ho0 := yn ho0 HOb6; replace ho0 := yn ho0 HOb9; replace ho0 := yn ho0 HOc2; have HOc5 := yRl2 ho0 HB GEa1 GEa9; replace HO_110001 := yRe HO_110001 ho0 hb; replace HO_110002 := yRe HO_110002 ho0 hb; replace HOb2 := yRe HOb2 ho0 hb; replace HOb6 := yRe HOb6 ho0 hb; replace HOb9 := yRe HOb9 ho0 hb; replace HOc2 := yRe HOc2 ho0 hb; replace BKa1 := yK BKa1 hb; replace BKa9 := yK BKa9 hb; replace HB := yS2 HB GEa1 GEa9 hb; (try clear hb ho0); obtain ⟨Ao32, co32, rfl⟩ := Kd.R_slice HOb6.out; obtain ⟨Ao33, co33, rfl⟩ := Kd.R_slice HOc5.out) | ((with_reducible refine gC 26 ?_); refine zG (some 43) Try.func26 #[.slice Ao32 tb3.length co32, .slice Ao33 tc3.length co33] ?_; (with_reducible refine (r1_Mul.calls k1 _ _ tb3 _ _ tc3 tc6 _ ?side1 ?side2 ?side3 ?side4 A19.out).mono ?_); (case side1 => exact zC (Kd.R_reads' HOb6.out).2.2); (case side2 => exact (Kd.R_reads' HOb6.out).2.1); (case side3 => exact zC (Kd.R_reads' HOc5.out).2.2); (case side4 => exact (Kd.R_reads' HOc5.out).2.1); rintro e w34 ⟨vc7, rfl, ho0, hb⟩; refine ⟨_, rfl, ?_⟩; replace ho0 := yn ho0 HO_110001; replace ho0 := yn ho0 HO_110002; replace ho0 := yn ho0 HOb2; replace ho0 := yn ho0 HOb6; replace ho0 := yn ho0 HOb9; replace ho0 := yn ho0 HOc2; replace ho0 := yn ho0 HOc5; have HOc8 := yRl2 ho0 HB GEa1 GEa9; replace HO_110001 := yRe HO_110001 ho0 hb; replace HO_110002 := yRe HO_110002 ho0 hb; replace HOb2 := yRe HOb2 ho0 hb; replace HOb6 := yRe HOb6 ho0 hb; replace HOb9 := yRe HOb9 ho0 hb; replace HOc2 := yRe HOc2 ho0 hb; replace HOc5 := yRe HOc5 ho0 hb; replace BKa1 := yK BKa1 hb; replace BKa9 := yK BKa9 hb; replace HB := yS2 HB GEa1 GEa9 hb; (try clear hb ho0); obtain ⟨Ao35, co35, rfl⟩ := Kd.R_slice HOc8.out) | ((with_reducible refine gC 95 ?_); refine zG (some 44) Try.func95 #[.slice Ao35 tc6.length co35] ?_; (with_reducible refine (r2_Nat.calls k1 _ _ tc6 tc9 td0 td3 _ ?side1 ?side2 A20.out).mono ?_); (case side1 => exact zC (Kd.R_reads' HOc8.out).2.2); (case side2 => exact (Kd.R_reads' HOc8.out).2.1); rintro e w36 ⟨vd1, vd4, rfl, ho0, ho1, hb⟩; refine ⟨_, rfl, ?_⟩; replace ho0 := yn ho0 HO_110001; replace ho0 := yn ho0 HO_110002; replace ho0 := yn ho0 HOb2; replace ho0 := yn ho0 HOb6; replace ho0 := yn ho0 HOb9; replace ho0 := yn ho0 HOc2; replace ho0 := yn ho0 HOc5; replace ho0 := yn ho0 HOc8; have HOd2 := yRl2 ho0 HB GEa1 GEa9; replace ho1 := yn ho1 HO_110001; replace ho1 := yn ho1 HO_110002; replace ho1 := yn ho1 HOb2; replace ho1 := yn ho1 HOb6; replace ho1 := yn ho1 HOb9; replace ho1 := yn ho1 HOc2; replace ho1 := yn ho1 HOc5; replace ho1 := yn ho1 HOc8; have HOd5 := yRl2 ho1 HB GEa1 GEa9; replace HO_110001 := yRt HO_110001 hb ho0 ho1; replace HO_110002 := yRt HO_110002 hb ho0 ho1; replace HOb2 := yRt HOb2 hb ho0 ho1; replace HOb6 := yRt HOb6 hb ho0 ho1; replace HOb9 := yRt HOb9 hb ho0 ho1; replace HOc2 := yRt HOc2 hb ho0 ho1; replace HOc5 := yRt HOc5 hb ho0 ho1; replace HOc8 := yRt HOc8 hb ho0 ho1; replace BKa1 := yK BKa1 hb; replace BKa9 := yK BKa9 hb; replace HB := yS2 HB GEa1 GEa9 hb; (try clear hb ho0); (try clear ho1)) | ((with_reducible refine gate_dst (N := 13) rfl ?_); refine box_event ?hg (N := 13) ?hd (cs := #[.bool false, .slice none 0 0, .slice none 0 0]) (t := 60) ?hr ?_; (case hd => rfl); (case hg => rfl); (case hr => first | (go_simp; done) | (go_simp; rfl)); intro gbd6 hg w37 hbox hb; replace HO_110001 := yRb HO_110001 hb; replace HO_110002 := yRb HO_110002 hb; replace HOb2 := yRb HOb2 hb; replace HOb6 := yRb HOb6 hb; replace HOb9 := yRb HOb9 hb; replace HOc2 := yRb HOc2 hb; replace HOc5 := yRb HOc5 hb; replace HOc8 := yRb HOc8 hb; replace HOd2 := yRb HOd2 hb; replace HOd5 := yRb HOd5 hb; have BKd6 := zk (hbox); have GWd6 := yg2 hg HB GEa1 GEa9; have GEd6 := yg2 hg HB GEa1 GEa9; replace HB := yS2 HB GEa1 GEa9 hb; have NBa1_136 := ynl hg BKa1; have NBd6_101 := yng hg BKa1; replace BKa1 := yK BKa1 hb; have NBa9_136 := ynl hg BKa9; have NBd6_109 := yng hg BKa9; replace BKa9 := yK BKa9 hb; clear hb hbox hg; have hnb38 := NBd6_101.out; have hnc38 := NBa1_136.out; have hnb39 := NBd6_109.out; have hnc39 := NBa9_136.out; obtain ⟨hcz40_0, hcz40_1, hcz40_2, hfz40_0, hfz40_1, hfz40_2⟩ := zz3 BKd6; obtain ⟨Ao41, co41, rfl⟩ := Kd.R_slice HOd2.out; obtain ⟨Ao42, co42, rfl⟩ := Kd.R_slice HOd5.out) | ((with_reducible refine gC 96 ?_); refine zG (some 49) Try.func96 #[.agg #[.bool tc9, .slice Ao41 td0.length co41, .slice Ao42 td3.length co42]] ?_; (with_reducible refine (r2_Neg.calls k1 tc9 _ _ td0 _ _ td3 td7 td8 te1 _ ?side1 ?side2 ?side3 ?side4 A22.out).mono ?_); (case side1 => refine (Kd.R_reads' (e := 97) (base := w.heap.size) (ok := fun k_ => ((((((((some k_ ≠ (.slice Ao42 td3.length co42 : Value).ownBlock ∧ some k_ ≠ (u110001 : Value).ownBlock) ∧ some k_ ≠ (u110002 : Value).ownBlock) ∧ some k_ ≠ (.slice Ao25 tb0.length co25 : Value).ownBlock) ∧ some k_ ≠ (.slice Ao32 tb3.length co32 : Value).ownBlock) ∧ some k_ ≠ (.slice Ao29 tb7.length co29 : Value).ownBlock) ∧ some k_ ≠ (.slice Ao30 tc0.length co30 : Value).ownBlock) ∧ some k_ ≠ (.slice Ao33 tc3.length co33 : Value).ownBlock) ∧ some k_ ≠ (.slice Ao35 tc6.length co35 : Value).ownBlock)) (n := td0.length) (c := co41) ?_).2.2; exact (zf HOd2.out BKd6.out)); (case side2 => exact (Kd.R_reads' HOd2.out).2.1); (case side3 => refine (Kd.R_reads' (e := 97) (base := w.heap.size) (ok := fun k_ => ((((((((some k_ ≠ (.slice Ao41 td0.length co41 : Value).ownBlock ∧ some k_ ≠ (u110001 : Value).ownBlock) ∧ some k_ ≠ (u110002 : Value).ownBlock) ∧ some k_ ≠ (.slice Ao25 tb0.length co25 : Value).ownBlock) ∧ some k_ ≠ (.slice Ao32 tb3.length co32 : Value).ownBlock) ∧ some k_ ≠ (.slice Ao29 tb7.length co29 : Value).ownBlock) ∧ some k_ ≠ (.slice Ao30 tc0.length co30 : Value).ownBlock) ∧ some k_ ≠ (.slice Ao33 tc3.length co33 : Value).ownBlock) ∧ some k_ ≠ (.slice Ao35 tc6.length co35 : Value).ownBlock)) (n := td3.length) (c := co42) ?_).2.2; exact (zf HOd5.out BKd6.out)); (case side4 => exact (Kd.R_reads' HOd5.out).2.1); rintro e w43 ⟨vd9, ve2, rfl, ho0, ho1, hb⟩; refine ⟨_, rfl, ?_⟩; replace ho0 := ynf ho0 HO_110001 BKd6; replace ho0 := ynf ho0 HO_110002 BKd6; replace ho0 := ynf ho0 HOb2 BKd6; replace ho0 := ynf ho0 HOb6 BKd6; replace ho0 := ynf ho0 HOb9 BKd6; replace ho0 := ynf ho0 HOc2 BKd6; replace ho0 := ynf ho0 HOc5 BKd6; replace ho0 := ynf ho0 HOc8 BKd6; replace ho0 := ynf ho0 HOd2 BKd6; replace ho0 := ynf ho0 HOd5 BKd6; have HOe0 := yRl3 ho0 HB GEa1 GEa9 GEd6; replace ho1 := ynf ho1 HO_110001 BKd6; replace ho1 := ynf ho1 HO_110002 BKd6; replace ho1 := ynf ho1 HOb2 BKd6; replace ho1 := ynf ho1 HOb6 BKd6; replace ho1 := ynf ho1 HOb9 BKd6; replace ho1 := ynf ho1 HOc2 BKd6; replace ho1 := ynf ho1 HOc5 BKd6; replace ho1 := ynf ho1 HOc8 BKd6; replace ho1 := ynf ho1 HOd2 BKd6; replace ho1 := ynf ho1 HOd5 BKd6; have HOe3 := yRl3 ho1 HB GEa1 GEa9 GEd6; replace HO_110001 := yRtf HO_110001 BKd6 hb ho0 ho1; replace HO_110002 := yRtf HO_110002 BKd6 hb ho0 ho1; replace HOb2 := yRtf HOb2 BKd6 hb ho0 ho1; replace HOb6 := yRtf HOb6 BKd6 hb ho0 ho1; replace HOb9 := yRtf HOb9 BKd6 hb ho0 ho1; replace HOc2 := yRtf HOc2 BKd6 hb ho0 ho1; replace HOc5 := yRtf HOc5 BKd6 hb ho0 ho1; replace HOc8 := yRtf HOc8 BKd6 hb ho0 ho1; replace HOd2 := yRtf HOd2 BKd6 hb ho0 ho1; replace HOd5 := yRtf HOd5 BKd6 hb ho0 ho1; replace BKa1 := yF3 BKa1 NBa1_136 hb; replace BKa9 := yF3 BKa9 NBa9_136 hb; replace BKd6 := yP3 BKd6 hb; replace HB := yS3 HB GEa1 GEa9 GEd6 hb; (try clear hb ho0); (try clear ho1); obtain ⟨hcz44_0, hcz44_1, hcz44_2, hfz44_0, hfz44_1, hfz44_2⟩ := zz3 BKd6; obtain ⟨Ao45, co45, rfl⟩ := Kd.R_slice HOe0.out; obtain ⟨Ao46, co46, rfl⟩ := Kd.R_slice HOe3.out; have hnb47 := NBa9_101.out; have hnc47 := NBa1_109.out; obtain ⟨hcz48_0, hcz48_1, hcz48_2, hfz48_0, hfz48_1, hfz48_2⟩ := zz3 BKa9; obtain ⟨Ao49, co49, rfl⟩ := Kd.R_slice HO_110001.out; obtain ⟨Ao50, co50, rfl⟩ := Kd.R_slice HO_110002.out) | ((with_reducible refine gC 50 ?_); refine zG (some 52) Try.func50 #[.agg #[.bool x110000_1, .slice Ao49 x110001_1.length co49, .slice Ao50 x110002_1.length co50], .agg #[.bool td7, .slice Ao45 td8.length co45, .slice Ao46 te1.length co46]] ?_; (with_reducible refine (r2_Add.calls k1 x110000_1 _ _ x110001_1 _ _ x110002_1 td7 _ _ td8 _ _ te1 te4 te5 te8 _ ?side1 ?side2 ?side3 ?side4 ?side5 ?side6 ?side7 ?side8 A23.out).mono ?_); (case side1 => refine (Kd.R_reads' (e := 97) (base := w.heap.size) (ok := fun k_ => ((((((((((some k_ ≠ (.slice Ao50 x110002_1.length co50 : Value).ownBlock ∧ some k_ ≠ (.slice Ao25 tb0.length co25 : Value).ownBlock) ∧ some k_ ≠ (.slice Ao32 tb3.length co32 : Value).ownBlock) ∧ some k_ ≠ (.slice Ao29 tb7.length co29 : Value).ownBlock) ∧ some k_ ≠ (.slice Ao30 tc0.length co30 : Value).ownBlock) ∧ some k_ ≠ (.slice Ao33 tc3.length co33 : Value).ownBlock) ∧ some k_ ≠ (.slice Ao35 tc6.length co35 : Value).ownBlock) ∧ some k_ ≠ (.slice Ao41 td0.length co41 : Value).ownBlock) ∧ some k_ ≠ (.slice Ao42 td3.length co42 : Value).ownBlock) ∧ some k_ ≠ (.slice Ao45 td8.length co45 : Value).ownBlock) ∧ some k_ ≠ (.slice Ao46 te1.length co46 : Value).ownBlock)) (n := x110001_1.length) (c := co49) ?_).2.2; exact (zf HO_110001.out BKd6.out)); (case side2 => exact (Kd.R_reads' HO_110001.out).2.1); (case side3 => refine (Kd.R_reads' (e := 97) (base := w.heap.size) (ok := fun k_ => ((((((((((some k_ ≠ (.slice Ao49 x110001_1.length co49 : Value).ownBlock ∧ some k_ ≠ (.slice Ao25 tb0.length co25 : Value).ownBlock) ∧ some k_ ≠ (.slice Ao32 tb3.length co32 : Value).ownBlock) ∧ some k_ ≠ (.slice Ao29 tb7.length co29 : Value).ownBlock) ∧ some k_ ≠ (.slice Ao30 tc0.length co30 : Value).ownBlock) ∧ some k_ ≠ (.slice Ao33 tc3.length co33 : Value).ownBlock) ∧ some k_ ≠ (.slice Ao35 tc6.length co35 : Value).ownBlock) ∧ some k_ ≠ (.slice Ao41 td0.length co41 : Value).ownBlock) ∧ some k_ ≠ (.slice Ao42 td3.length co42 : Value).ownBlock) ∧ some k_ ≠ (.slice Ao45 td8.length co45 : Value).ownBlock) ∧ some k_ ≠ (.slice Ao46 te1.length co46 : Value).ownBlock)) (n := x110002_1.length) (c := co50) ?_).2.2; exact (zf HO_110002.out BKd6.out)); (case side4 => exact (Kd.R_reads' HO_110002.out).2.1); (case side5 => refine (Kd.R_reads' (e := 97) (base := w.heap.size) (ok := fun k_ => ((((((((((some k_ ≠ (.slice Ao46 te1.length co46 : Value).ownBlock ∧ some k_ ≠ (.slice Ao49 x110001_1.length co49 : Value).ownBlock) ∧ some k_ ≠ (.slice Ao50 x110002_1.length co50 : Value).ownBlock) ∧ some k_ ≠ (.slice Ao25 tb0.length co25 : Value).ownBlock) ∧ some k_ ≠ (.slice Ao32 tb3.length co32 : Value).ownBlock) ∧ some k_ ≠ (.slice Ao29 tb7.length co29 : Value).ownBlock) ∧ some k_ ≠ (.slice Ao30 tc0.length co30 : Value).ownBlock) ∧ some k_ ≠ (.slice Ao33 tc3.length co33 : Value).ownBlock) ∧ some k_ ≠ (.slice Ao35 tc6.length co35 : Value).ownBlock) ∧ some k_ ≠ (.slice Ao41 td0.length co41 : Value).ownBlock) ∧ some k_ ≠ (.slice Ao42 td3.length co42 : Value).ownBlock)) (n := td8.length) (c := co45) ?_).2.2; exact (zf HOe0.out BKd6.out)); (case side6 => exact (Kd.R_reads' HOe0.out).2.1); (case side7 => refine (Kd.R_reads' (e := 97) (base := w.heap.size) (ok := fun k_ => ((((((((((some k_ ≠ (.slice Ao45 td8.length co45 : Value).ownBlock ∧ some k_ ≠ (.slice Ao49 x110001_1.length co49 : Value).ownBlock) ∧ some k_ ≠ (.slice Ao50 x110002_1.length co50 : Value).ownBlock) ∧ some k_ ≠ (.slice Ao25 tb0.length co25 : Value).ownBlock) ∧ some k_ ≠ (.slice Ao32 tb3.length co32 : Value).ownBlock) ∧ some k_ ≠ (.slice Ao29 tb7.length co29 : Value).ownBlock) ∧ some k_ ≠ (.slice Ao30 tc0.length co30 : Value).ownBlock) ∧ some k_ ≠ (.slice Ao33 tc3.length co33 : Value).ownBlock) ∧ some k_ ≠ (.slice Ao35 tc6.length co35 : Value).ownBlock) ∧ some k_ ≠ (.slice Ao41 td0.length co41 : Value).ownBlock) ∧ some k_ ≠ (.slice Ao42 td3.length co42 : Value).ownBlock)) (n := te1.length) (c := co46) ?_).2.2; exact (zf HOe3.out BKd6.out)); (case side8 => exact (Kd.R_reads' HOe3.out).2.1); rintro e w51 ⟨ve6, ve9, rfl, ho0, ho1, hb⟩; refine ⟨_, rfl, ?_⟩; replace ho0 := ynf ho0 HO_110001 BKd6; replace ho0 := ynf ho0 HO_110002 BKd6; replace ho0 := ynf ho0 HOb2 BKd6; replace ho0 := ynf ho0 HOb6 BKd6; replace ho0 := ynf ho0 HOb9 BKd6; replace ho0 := ynf ho0 HOc2 BKd6; replace ho0 := ynf ho0 HOc5 BKd6; replace ho0 := ynf ho0 HOc8 BKd6; replace ho0 := ynf ho0 HOd2 BKd6; replace ho0 := ynf ho0 HOd5 BKd6; replace ho0 := ynf ho0 HOe0 BKd6; replace ho0 := ynf ho0 HOe3 BKd6; have HOe7 := yRl3 ho0 HB GEa1 GEa9 GEd6; replace ho1 := ynf ho1 HO_110001 BKd6; replace ho1 := ynf ho1 HO_110002 BKd6; replace ho1 := ynf ho1 HOb2 BKd6; replace ho1 := ynf ho1 HOb6 BKd6; replace ho1 := ynf ho1 HOb9 BKd6; replace ho1 := ynf ho1 HOc2 BKd6; replace ho1 := ynf ho1 HOc5 BKd6; replace ho1 := ynf ho1 HOc8 BKd6; replace ho1 := ynf ho1 HOd2 BKd6; replace ho1 := ynf ho1 HOd5 BKd6; replace ho1 := ynf ho1 HOe0 BKd6; replace ho1 := ynf ho1 HOe3 BKd6; have HOf0 := yRl3 ho1 HB GEa1 GEa9 GEd6; replace HO_110001 := yRtf HO_110001 BKd6 hb ho0 ho1; replace HO_110002 := yRtf HO_110002 BKd6 hb ho0 ho1; replace HOb2 := yRtf HOb2 BKd6 hb ho0 ho1; replace HOb6 := yRtf HOb6 BKd6 hb ho0 ho1; replace HOb9 := yRtf HOb9 BKd6 hb ho0 ho1; replace HOc2 := yRtf HOc2 BKd6 hb ho0 ho1; replace HOc5 := yRtf HOc5 BKd6 hb ho0 ho1; replace HOc8 := yRtf HOc8 BKd6 hb ho0 ho1; replace HOd2 := yRtf HOd2 BKd6 hb ho0 ho1; replace HOd5 := yRtf HOd5 BKd6 hb ho0 ho1; replace HOe0 := yRtf HOe0 BKd6 hb ho0 ho1; replace HOe3 := yRtf HOe3 BKd6 hb ho0 ho1; replace BKa1 := yF3 BKa1 NBa1_136 hb; replace BKa9 := yF3 BKa9 NBa9_136 hb; replace BKd6 := yP3 BKd6 hb; replace HB := yS3 HB GEa1 GEa9 GEd6 hb; (try clear hb ho0); (try clear ho1); obtain ⟨hcz52_0, hcz52_1, hcz52_2, hfz52_0, hfz52_1, hfz52_2⟩ := zz3 BKa9; obtain ⟨Ao53, co53, rfl⟩ := Kd.R_slice HOe7.out; obtain ⟨Ao54, co54, rfl⟩ := Kd.R_slice HOf0.out))
     go_roundg k1
     case measure => have := HK1.out; omega
     case rel => exact ⟨(wrap64 (x10_1 + 1)), (te4), (te5), (te8), (.slice Ao53 te5.length co53), (.slice Ao54 te8.length co54), zF, H', ⟨zo1 HK1⟩, ⟨by (with_reducible repeat (first | apply Kd.R_alloc | apply Kd.R_drewN | apply Kd.R_drew)); exact yf HOe7.out BKa9.out (fun _ hk => hk.1.1.1.1.1.1.1.1.1.1.1.1.1)⟩, ⟨by (with_reducible repeat (first | apply Kd.R_alloc | apply Kd.R_drewN | apply Kd.R_drew)); exact yf HOf0.out BKa9.out (fun _ hk => hk.1.1.1.1.1.1.1.1.1.1.1.1.1)⟩, ⟨zF3 BKa1.out NBa1_109.out⟩, ⟨zP3 BKa9.out⟩, ⟨zB3 HB.out GEa1.out GEa9.out GEd6.out⟩⟩
   have c21b0 := beq_eq_false_iff_ne.mpr c21
   have c21b1 := bne_iff_ne.mpr c21
   replace H := zb H
   obtain ⟨⟨tf1, tf2, tf5⟩, A55, H⟩ := H
   dsimp only at H
   have H' := zk H
   clear H
   go_wp2_with (first | ((with_reducible refine gC 23 ?_); refine zG (some 24) Try.func23 #[.int .u64 (IntKind.u64.wrap (wrap64 (a0 - 1)))] ?_; (with_reducible refine (r1_Of.calls k1 (IntKind.u64.wrap (wrap64 (a0 - 1))) tb0 _ A14.out).mono ?_); rintro e w56 ⟨vb1, rfl, ho0, hb⟩; refine ⟨_, rfl, ?_⟩; replace ho0 := yn ho0 HO_110001; replace ho0 := yn ho0 HO_110002; have HOb2 := yRl2 ho0 HB GEa1 GEa9; replace HO_110001 := yRe HO_110001 ho0 hb; replace HO_110002 := yRe HO_110002 ho0 hb; replace BKa1 := yK BKa1 hb; replace BKa9 := yK BKa9 hb; replace HB := yS2 HB GEa1 GEa9 hb; (try clear hb ho0); obtain ⟨Ao57, co57, rfl⟩ := Kd.R_slice HOb2.out) | ((with_reducible refine gC 22 ?_); refine zG (some 28) Try.func22 #[.slice Ao57 tb0.length co57, .int .i64 (wrap64 (a2 - x10_1))] ?_; (with_reducible refine (r1_Pow.calls k1 _ _ tb0 (wrap64 (a2 - x10_1)) tb3 tb4 _ ?side1 ?side2 A15.out).mono ?_); (case side1 => exact zC (Kd.R_reads' HOb2.out).2.2); (case side2 => exact (Kd.R_reads' HOb2.out).2.1); rintro e w58 ⟨vb5, rfl, ho0, hb⟩; refine ⟨_, rfl, ?_⟩; replace ho0 := yn ho0 HO_110001; replace ho0 := yn ho0 HO_110002; replace ho0 := yn ho0 HOb2; have HOb6 := yRl2 ho0 HB GEa1 GEa9; replace HO_110001 := yRe HO_110001 ho0 hb; replace HO_110002 := yRe HO_110002 ho0 hb; replace HOb2 := yRe HOb2 ho0 hb; replace BKa1 := yK BKa1 hb; replace BKa9 := yK BKa9 hb; replace HB := yS2 HB GEa1 GEa9 hb; (try clear hb ho0)) | ((with_reducible refine gC 78 ?_); refine zG (some 34) Try.func78 #[.int .i64 a3, .int .i64 x10_1] ?_; (with_reducible refine (r1_Choose.calls k1 a3 x10_1 tb7 _ A16.out).mono ?_); rintro e w59 ⟨vb8, rfl, ho0, hb⟩; refine ⟨_, rfl, ?_⟩; replace ho0 := yn ho0 HO_110001; replace ho0 := yn ho0 HO_110002; replace ho0 := yn ho0 HOb2; replace ho0 := yn ho0 HOb6; have HOb9 := yRl2 ho0 HB GEa1 GEa9; replace HO_110001 := yRe HO_110001 ho0 hb; replace HO_110002 := yRe HO_110002 ho0 hb; replace HOb2 := yRe HOb2 ho0 hb; replace HOb6 := yRe HOb6 ho0 hb; replace BKa1 := yK BKa1 hb; replace BKa9 := yK BKa9 hb; replace HB := yS2 HB GEa1 GEa9 hb; (try clear hb ho0)) | ((with_reducible refine gC 78 ?_); refine zG (some 41) Try.func78 #[.int .i64 (wrap64 (a1 - a3)), .int .i64 (wrap64 (a2 - x10_1))] ?_; (with_reducible refine (r1_Choose.calls k1 (wrap64 (a1 - a3)) (wrap64 (a2 - x10_1)) tc0 _ A17.out).mono ?_); rintro e w60 ⟨vc1, rfl, ho0, hb⟩; refine ⟨_, rfl, ?_⟩; replace ho0 := yn ho0 HO_110001; replace ho0 := yn ho0 HO_110002; replace ho0 := yn ho0 HOb2; replace ho0 := yn ho0 HOb6; replace ho0 := yn ho0 HOb9; have HOc2 := yRl2 ho0 HB GEa1 GEa9; replace HO_110001 := yRe HO_110001 ho0 hb; replace HO_110002 := yRe HO_110002 ho0 hb; replace HOb2 := yRe HOb2 ho0 hb; replace HOb6 := yRe HOb6 ho0 hb; replace HOb9 := yRe HOb9 ho0 hb; replace BKa1 := yK BKa1 hb; replace BKa9 := yK BKa9 hb; replace HB := yS2 HB GEa1 GEa9 hb; (try clear hb ho0); obtain ⟨Ao61, co61, rfl⟩ := Kd.R_slice HOb9.out; obtain ⟨Ao62, co62, rfl⟩ := Kd.R_slice HOc2.out) | ((with_reducible refine gC 26 ?_); refine zG (some 42) Try.func26 #[.slice Ao61 tb7.length co61, .slice Ao62 tc0.length co62] ?_; (with_reducible refine (r1_Mul.calls k1 _ _ tb7 _ _ tc0 tc3 _ ?side1 ?side2 ?side3 ?side4 A18.out).mono ?_); (case side1 => exact zC (Kd.R_reads' HOb9.out).2.2); (case side2 => exact (Kd.R_reads' HOb9.out).2.1); (case side3 => exact zC (Kd.R_reads' HOc2.out).2.2); (case side4 => exact (Kd.R_reads' HOc2.out).2.1); rintro e w63 ⟨vc4, rfl, ho0, hb⟩; refine ⟨_, rfl, ?_⟩; replace ho0 := yn ho0 HO_110001; replace ho0 := yn ho0 HO_110002; replace ho0 := yn ho0 HOb2; replace ho0 := yn ho0 HOb6; replace ho0 := yn ho0 HOb9; replace ho0 := yn ho0 HOc2; have HOc5 := yRl2 ho0 HB GEa1 GEa9; replace HO_110001 := yRe HO_110001 ho0 hb; replace HO_110002 := yRe HO_110002 ho0 hb; replace HOb2 := yRe HOb2 ho0 hb; replace HOb6 := yRe HOb6 ho0 hb; replace HOb9 := yRe HOb9 ho0 hb; replace HOc2 := yRe HOc2 ho0 hb; replace BKa1 := yK BKa1 hb; replace BKa9 := yK BKa9 hb; replace HB := yS2 HB GEa1 GEa9 hb; (try clear hb ho0); obtain ⟨Ao64, co64, rfl⟩ := Kd.R_slice HOb6.out; obtain ⟨Ao65, co65, rfl⟩ := Kd.R_slice HOc5.out) | ((with_reducible refine gC 26 ?_); refine zG (some 43) Try.func26 #[.slice Ao64 tb3.length co64, .slice Ao65 tc3.length co65] ?_; (with_reducible refine (r1_Mul.calls k1 _ _ tb3 _ _ tc3 tc6 _ ?side1 ?side2 ?side3 ?side4 A19.out).mono ?_); (case side1 => exact zC (Kd.R_reads' HOb6.out).2.2); (case side2 => exact (Kd.R_reads' HOb6.out).2.1); (case side3 => exact zC (Kd.R_reads' HOc5.out).2.2); (case side4 => exact (Kd.R_reads' HOc5.out).2.1); rintro e w66 ⟨vc7, rfl, ho0, hb⟩; refine ⟨_, rfl, ?_⟩; replace ho0 := yn ho0 HO_110001; replace ho0 := yn ho0 HO_110002; replace ho0 := yn ho0 HOb2; replace ho0 := yn ho0 HOb6; replace ho0 := yn ho0 HOb9; replace ho0 := yn ho0 HOc2; replace ho0 := yn ho0 HOc5; have HOc8 := yRl2 ho0 HB GEa1 GEa9; replace HO_110001 := yRe HO_110001 ho0 hb; replace HO_110002 := yRe HO_110002 ho0 hb; replace HOb2 := yRe HOb2 ho0 hb; replace HOb6 := yRe HOb6 ho0 hb; replace HOb9 := yRe HOb9 ho0 hb; replace HOc2 := yRe HOc2 ho0 hb; replace HOc5 := yRe HOc5 ho0 hb; replace BKa1 := yK BKa1 hb; replace BKa9 := yK BKa9 hb; replace HB := yS2 HB GEa1 GEa9 hb; (try clear hb ho0); obtain ⟨Ao67, co67, rfl⟩ := Kd.R_slice HOc8.out) | ((with_reducible refine gC 95 ?_); refine zG (some 44) Try.func95 #[.slice Ao67 tc6.length co67] ?_; (with_reducible refine (r2_Nat.calls k1 _ _ tc6 tc9 td0 td3 _ ?side1 ?side2 A20.out).mono ?_); (case side1 => exact zC (Kd.R_reads' HOc8.out).2.2); (case side2 => exact (Kd.R_reads' HOc8.out).2.1); rintro e w68 ⟨vd1, vd4, rfl, ho0, ho1, hb⟩; refine ⟨_, rfl, ?_⟩; replace ho0 := yn ho0 HO_110001; replace ho0 := yn ho0 HO_110002; replace ho0 := yn ho0 HOb2; replace ho0 := yn ho0 HOb6; replace ho0 := yn ho0 HOb9; replace ho0 := yn ho0 HOc2; replace ho0 := yn ho0 HOc5; replace ho0 := yn ho0 HOc8; have HOd2 := yRl2 ho0 HB GEa1 GEa9; replace ho1 := yn ho1 HO_110001; replace ho1 := yn ho1 HO_110002; replace ho1 := yn ho1 HOb2; replace ho1 := yn ho1 HOb6; replace ho1 := yn ho1 HOb9; replace ho1 := yn ho1 HOc2; replace ho1 := yn ho1 HOc5; replace ho1 := yn ho1 HOc8; have HOd5 := yRl2 ho1 HB GEa1 GEa9; replace HO_110001 := yRt HO_110001 hb ho0 ho1; replace HO_110002 := yRt HO_110002 hb ho0 ho1; replace HOb2 := yRt HOb2 hb ho0 ho1; replace HOb6 := yRt HOb6 hb ho0 ho1; replace HOb9 := yRt HOb9 hb ho0 ho1; replace HOc2 := yRt HOc2 hb ho0 ho1; replace HOc5 := yRt HOc5 hb ho0 ho1; replace HOc8 := yRt HOc8 hb ho0 ho1; replace BKa1 := yK BKa1 hb; replace BKa9 := yK BKa9 hb; replace HB := yS2 HB GEa1 GEa9 hb; (try clear hb ho0); (try clear ho1)) | ((with_reducible refine gate_dst (N := 13) rfl ?_); refine box_event ?hg (N := 13) ?hd (cs := #[.bool false, .slice none 0 0, .slice none 0 0]) (t := 60) ?hr ?_; (case hd => rfl); (case hg => rfl); (case hr => first | (go_simp; done) | (go_simp; rfl)); intro gbd6 hg w69 hbox hb; replace HO_110001 := yRb HO_110001 hb; replace HO_110002 := yRb HO_110002 hb; replace HOb2 := yRb HOb2 hb; replace HOb6 := yRb HOb6 hb; replace HOb9 := yRb HOb9 hb; replace HOc2 := yRb HOc2 hb; replace HOc5 := yRb HOc5 hb; replace HOc8 := yRb HOc8 hb; replace HOd2 := yRb HOd2 hb; replace HOd5 := yRb HOd5 hb; have BKd6 := zk (hbox); have GWd6 := yg2 hg HB GEa1 GEa9; have GEd6 := yg2 hg HB GEa1 GEa9; replace HB := yS2 HB GEa1 GEa9 hb; have NBa1_136 := ynl hg BKa1; have NBd6_101 := yng hg BKa1; replace BKa1 := yK BKa1 hb; have NBa9_136 := ynl hg BKa9; have NBd6_109 := yng hg BKa9; replace BKa9 := yK BKa9 hb; clear hb hbox hg; have hnb70 := NBd6_101.out; have hnc70 := NBa1_136.out; have hnb71 := NBd6_109.out; have hnc71 := NBa9_136.out; obtain ⟨hcz72_0, hcz72_1, hcz72_2, hfz72_0, hfz72_1, hfz72_2⟩ := zz3 BKd6; obtain ⟨Ao73, co73, rfl⟩ := Kd.R_slice HOd2.out; obtain ⟨Ao74, co74, rfl⟩ := Kd.R_slice HOd5.out; have hnb75 := NBa9_101.out; have hnc75 := NBa1_109.out; obtain ⟨hcz76_0, hcz76_1, hcz76_2, hfz76_0, hfz76_1, hfz76_2⟩ := zz3 BKa9; obtain ⟨Ao77, co77, rfl⟩ := Kd.R_slice HO_110001.out; obtain ⟨Ao78, co78, rfl⟩ := Kd.R_slice HO_110002.out) | ((with_reducible refine gC 50 ?_); refine zG (some 52) Try.func50 #[.agg #[.bool x110000_1, .slice Ao77 x110001_1.length co77, .slice Ao78 x110002_1.length co78], .agg #[.bool tc9, .slice Ao73 td0.length co73, .slice Ao74 td3.length co74]] ?_; (with_reducible refine (r2_Add.calls k1 x110000_1 _ _ x110001_1 _ _ x110002_1 tc9 _ _ td0 _ _ td3 tf1 tf2 tf5 _ ?side1 ?side2 ?side3 ?side4 ?side5 ?side6 ?side7 ?side8 A55.out).mono ?_); (case side1 => refine (Kd.R_reads' (e := 97) (base := w.heap.size) (ok := fun k_ => ((((((((some k_ ≠ (.slice Ao78 x110002_1.length co78 : Value).ownBlock ∧ some k_ ≠ (.slice Ao57 tb0.length co57 : Value).ownBlock) ∧ some k_ ≠ (.slice Ao64 tb3.length co64 : Value).ownBlock) ∧ some k_ ≠ (.slice Ao61 tb7.length co61 : Value).ownBlock) ∧ some k_ ≠ (.slice Ao62 tc0.length co62 : Value).ownBlock) ∧ some k_ ≠ (.slice Ao65 tc3.length co65 : Value).ownBlock) ∧ some k_ ≠ (.slice Ao67 tc6.length co67 : Value).ownBlock) ∧ some k_ ≠ (.slice Ao73 td0.length co73 : Value).ownBlock) ∧ some k_ ≠ (.slice Ao74 td3.length co74 : Value).ownBlock)) (n := x110001_1.length) (c := co77) ?_).2.2; exact (zf HO_110001.out BKd6.out)); (case side2 => exact (Kd.R_reads' HO_110001.out).2.1); (case side3 => refine (Kd.R_reads' (e := 97) (base := w.heap.size) (ok := fun k_ => ((((((((some k_ ≠ (.slice Ao77 x110001_1.length co77 : Value).ownBlock ∧ some k_ ≠ (.slice Ao57 tb0.length co57 : Value).ownBlock) ∧ some k_ ≠ (.slice Ao64 tb3.length co64 : Value).ownBlock) ∧ some k_ ≠ (.slice Ao61 tb7.length co61 : Value).ownBlock) ∧ some k_ ≠ (.slice Ao62 tc0.length co62 : Value).ownBlock) ∧ some k_ ≠ (.slice Ao65 tc3.length co65 : Value).ownBlock) ∧ some k_ ≠ (.slice Ao67 tc6.length co67 : Value).ownBlock) ∧ some k_ ≠ (.slice Ao73 td0.length co73 : Value).ownBlock) ∧ some k_ ≠ (.slice Ao74 td3.length co74 : Value).ownBlock)) (n := x110002_1.length) (c := co78) ?_).2.2; exact (zf HO_110002.out BKd6.out)); (case side4 => exact (Kd.R_reads' HO_110002.out).2.1); (case side5 => refine (Kd.R_reads' (e := 97) (base := w.heap.size) (ok := fun k_ => ((((((((some k_ ≠ (.slice Ao74 td3.length co74 : Value).ownBlock ∧ some k_ ≠ (.slice Ao77 x110001_1.length co77 : Value).ownBlock) ∧ some k_ ≠ (.slice Ao78 x110002_1.length co78 : Value).ownBlock) ∧ some k_ ≠ (.slice Ao57 tb0.length co57 : Value).ownBlock) ∧ some k_ ≠ (.slice Ao64 tb3.length co64 : Value).ownBlock) ∧ some k_ ≠ (.slice Ao61 tb7.length co61 : Value).ownBlock) ∧ some k_ ≠ (.slice Ao62 tc0.length co62 : Value).ownBlock) ∧ some k_ ≠ (.slice Ao65 tc3.length co65 : Value).ownBlock) ∧ some k_ ≠ (.slice Ao67 tc6.length co67 : Value).ownBlock)) (n := td0.length) (c := co73) ?_).2.2; exact (zf HOd2.out BKd6.out)); (case side6 => exact (Kd.R_reads' HOd2.out).2.1); (case side7 => refine (Kd.R_reads' (e := 97) (base := w.heap.size) (ok := fun k_ => ((((((((some k_ ≠ (.slice Ao73 td0.length co73 : Value).ownBlock ∧ some k_ ≠ (.slice Ao77 x110001_1.length co77 : Value).ownBlock) ∧ some k_ ≠ (.slice Ao78 x110002_1.length co78 : Value).ownBlock) ∧ some k_ ≠ (.slice Ao57 tb0.length co57 : Value).ownBlock) ∧ some k_ ≠ (.slice Ao64 tb3.length co64 : Value).ownBlock) ∧ some k_ ≠ (.slice Ao61 tb7.length co61 : Value).ownBlock) ∧ some k_ ≠ (.slice Ao62 tc0.length co62 : Value).ownBlock) ∧ some k_ ≠ (.slice Ao65 tc3.length co65 : Value).ownBlock) ∧ some k_ ≠ (.slice Ao67 tc6.length co67 : Value).ownBlock)) (n := td3.length) (c := co74) ?_).2.2; exact (zf HOd5.out BKd6.out)); (case side8 => exact (Kd.R_reads' HOd5.out).2.1); rintro e w79 ⟨vf3, vf6, rfl, ho0, ho1, hb⟩; refine ⟨_, rfl, ?_⟩; replace ho0 := ynf ho0 HO_110001 BKd6; replace ho0 := ynf ho0 HO_110002 BKd6; replace ho0 := ynf ho0 HOb2 BKd6; replace ho0 := ynf ho0 HOb6 BKd6; replace ho0 := ynf ho0 HOb9 BKd6; replace ho0 := ynf ho0 HOc2 BKd6; replace ho0 := ynf ho0 HOc5 BKd6; replace ho0 := ynf ho0 HOc8 BKd6; replace ho0 := ynf ho0 HOd2 BKd6; replace ho0 := ynf ho0 HOd5 BKd6; have HOf4 := yRl3 ho0 HB GEa1 GEa9 GEd6; replace ho1 := ynf ho1 HO_110001 BKd6; replace ho1 := ynf ho1 HO_110002 BKd6; replace ho1 := ynf ho1 HOb2 BKd6; replace ho1 := ynf ho1 HOb6 BKd6; replace ho1 := ynf ho1 HOb9 BKd6; replace ho1 := ynf ho1 HOc2 BKd6; replace ho1 := ynf ho1 HOc5 BKd6; replace ho1 := ynf ho1 HOc8 BKd6; replace ho1 := ynf ho1 HOd2 BKd6; replace ho1 := ynf ho1 HOd5 BKd6; have HOf7 := yRl3 ho1 HB GEa1 GEa9 GEd6; replace HO_110001 := yRtf HO_110001 BKd6 hb ho0 ho1; replace HO_110002 := yRtf HO_110002 BKd6 hb ho0 ho1; replace HOb2 := yRtf HOb2 BKd6 hb ho0 ho1; replace HOb6 := yRtf HOb6 BKd6 hb ho0 ho1; replace HOb9 := yRtf HOb9 BKd6 hb ho0 ho1; replace HOc2 := yRtf HOc2 BKd6 hb ho0 ho1; replace HOc5 := yRtf HOc5 BKd6 hb ho0 ho1; replace HOc8 := yRtf HOc8 BKd6 hb ho0 ho1; replace HOd2 := yRtf HOd2 BKd6 hb ho0 ho1; replace HOd5 := yRtf HOd5 BKd6 hb ho0 ho1; replace BKa1 := yF3 BKa1 NBa1_136 hb; replace BKa9 := yF3 BKa9 NBa9_136 hb; replace BKd6 := yP3 BKd6 hb; replace HB := yS3 HB GEa1 GEa9 GEd6 hb; (try clear hb ho0); (try clear ho1); obtain ⟨hcz80_0, hcz80_1, hcz80_2, hfz80_0, hfz80_1, hfz80_2⟩ := zz3 BKa9; obtain ⟨Ao81, co81, rfl⟩ := Kd.R_slice HOf4.out; obtain ⟨Ao82, co82, rfl⟩ := Kd.R_slice HOf7.out))
   go_roundg k1
   case measure => have := HK1.out; omega
   case rel => exact ⟨(wrap64 (x10_1 + 1)), (tf1), (tf2), (tf5), (.slice Ao81 tf2.length co81), (.slice Ao82 tf5.length co82), zF, H', ⟨zo1 HK1⟩, ⟨by (with_reducible repeat (first | apply Kd.R_alloc | apply Kd.R_drewN | apply Kd.R_drew)); exact yf HOf4.out BKa9.out (fun _ hk => hk.1.1.1.1.1.1.1.1.1.1.1)⟩, ⟨by (with_reducible repeat (first | apply Kd.R_alloc | apply Kd.R_drewN | apply Kd.R_drew)); exact yf HOf7.out BKa9.out (fun _ hk => hk.1.1.1.1.1.1.1.1.1.1.1)⟩, ⟨zF3 BKa1.out NBa1_109.out⟩, ⟨zP3 BKa9.out⟩, ⟨zB3 HB.out GEa1.out GEa9.out GEd6.out⟩⟩
 simp only [Option.some.injEq, Prod.mk.injEq] at H
 obtain ⟨rfl, rfl, rfl⟩ := H
 have hnb83 := NBa9_101.out
 have hnc83 := NBa1_109.out
 obtain ⟨hcz84_0, hcz84_1, hcz84_2, hfz84_0, hfz84_1, hfz84_2⟩ := zz3 BKa9
 obtain ⟨hcz85_0, hcz85_1, hcz85_2, hfz85_0, hfz85_1, hfz85_2⟩ := zz3 BKa1
 obtain ⟨Ao86, co86, rfl⟩ := Kd.R_slice HO_110001.out
 obtain ⟨Ao87, co87, rfl⟩ := Kd.R_slice HO_110002.out
 go_wp2
 refine bodyPost_ret (results_cell_row rfl _ _ gba1 60 #[.bool x110000_1, .slice Ao86 x110001_1.length co86, .slice Ao87 x110002_1.length co87] (0, 0) _ rfl (zP3 BKa1.out) Try.underlying60 rfl (by kernel_rfl)) rfl ?_
 exact ⟨_, _, zE, by (with_reducible repeat (first | apply Kd.R_alloc | apply Kd.R_drewN | apply Kd.R_drew)); exact yf HO_110001.out BKa1.out (fun _ hk => hk.1), by (with_reducible repeat (first | apply Kd.R_alloc | apply Kd.R_drewN | apply Kd.R_drew)); exact yf HO_110002.out BKa1.out (fun _ hk => hk.1), zB2 HB.out GEa1.out GEa9.out⟩
end Go.Proofs.Ytifkbghnmhineaa.PAll
