/- What functions of the program do and come to, for the statement MacwilliamsPless, part 2. Conditions: as each theorem says. -/
import Derived.Test.YtifkbghnmhineaaQPless1

namespace Go.Proofs.Ytifkbghnmhineaa.PAll
open Go.RowKit Go.Proofs.YtifkbghnmhineaaW.PrintWords Go.Proofs.YtifkbghnmhineaaW.PrintLast Go.Proofs.YtifkbghnmhineaaW.PrintMore
attribute [local go_sem] max2_int min2_int max_two min_two max_three min_three max_four min_four
set_option linter.unusedVariables false
set_option linter.unusedSimpArgs false
set_option maxHeartbeats 8000000 in
set_option maxRecDepth 100000 in
theorem nat_Trim.calls (k : Nat) (A0 : Option Addr) (c0 : Nat) (l0 : List Int) (r : List Int) (w : World) (hr0 : Kd.C (Kd.int .u32) w A0 l0.length l0) (hc0 : l0.length ≤ c0) (h : nat_Trim.f k l0 = some r) :
    Calls Try.prog 103 #[.slice A0 l0.length c0] w fun e w' => ∃ v0_ : Value, e = .returned (v0_) ∧ Kd.R (Kd.int .u32) 97 w' w.heap.size (fun _ => True) v0_ r ∧ Below w.heap.size w w' := by
 have HR0 := zk hr0
 have HC0 := zk hc0
 clear hr0 hc0
 have HB := zk (Below.refl w.heap.size w)
 have H := h
 clear h
 unfold nat_Trim.f at H
 replace H := zb H
 obtain ⟨ta1, A2, H⟩ := H
 replace H := zg H
 obtain ⟨c3, H⟩ := H
 have LMc3 := zk c3
 clear c3
 obtain ⟨ya4, hya4⟩ : ∃ y_ : List Int, y_ = (([] : List Int) ++ ta1) := ⟨_, rfl⟩
 replace H : (some ya4) = some r := zY hya4 H
 have Nya4 := zk hya4
 clear hya4
 obtain rfl := Option.some.inj H
 go_enter Try.func103, Try.ntmps103
 go_wp2_with (first | ((with_reducible refine gC 118 ?_); refine zG (some 4) Try.func118 #[.slice A0 l0.length c0] ?_; (with_reducible refine (nat_short.calls k (fun k_ => k_ < w.heap.size) _ _ l0 ta1 _ ?side1 A2.out).mono ?_); (case side1 => exact Kd.V_mk HC0.out (Kd.F_below (Kd.C_F (Kd.heap_int .u32) HR0.out) (zB HB.out))); rintro e w4 ⟨va2, rfl, ho0, hb⟩; refine ⟨_, rfl, ?_⟩; have HOa3 := yVm ho0 HB; replace HB := yS HB hb; (try clear hb ho0); obtain ⟨Ao6, co6, rfl⟩ := Kd.V_slice HOa3.out) | ((with_reducible refine gate_builtin (b := .append) (xs := #[.const (.slice none 0 0), .tmp 4]) rfl ?_); at_builtin; refine Kd.R_append_rows (Kd.int .u32) (w0 := w) w.heap.size rfl (.const (.slice none 0 0)) (.tmp 4) 29 97 (.int .u32 0) 4 rfl Try.underlying29 info97 rfl (by decide) (by omega) (.slice none 0 0) ([] : List Int) ta1 _ _ _ (fun _ => True) (fun _ => False) rfl rfl ?aO ?aR (fun _ _ h => h) (fun _ h => h.elim) ?aF ?aB ?aS ?aL ?_; (case aR => repeat (first | exact (Kd.V_reads' HOa3.out).2.2 | (with_reducible refine Kd.C_alloc ?_ _) | (with_reducible refine Kd.C_drewN ?_ _) | (with_reducible refine Kd.C_drew ?_))); (case aB => exact (zB HB.out)); (case aF => exact (fun _ _ => trivial)); (case aO => exact ((Kd.R_nil _ _ _ _ (fun _ => True)))); (case aS => exact (below_size (zB HB.out))); (case aL => have := LMc3.out; omega); intro va5 w5 ho hb hg hat; rw [← Nya4.out] at ho; replace HOa3 := zk (Kd.V_afterv (Kd.V_apart_nil (zV HOa3.out)) hg hat); replace HB := zk (hb); have HOa6 := zk (ho); clear ho hb hg hat))
 go_ret
 exact ⟨_, zE, zR HOa6.out, zB HB.out⟩
set_option maxHeartbeats 8000000 in
set_option maxRecDepth 100000 in
theorem nat_digit.calls (k : Nat) (A0 : Option Addr) (c0 : Nat) (l0 : List Int) (a1 : Int) (r1 : List Int) (r2 : Int) (w : World) (hr0 : Kd.C (Kd.int .u32) w A0 l0.length l0) (hc0 : l0.length ≤ c0) (h : nat_digit.f k l0 a1 = some (r1, r2)) :
    Calls Try.prog 115 #[.slice A0 l0.length c0, .int .u32 a1] w fun e w' => ∃ v0_ : Value, e = .returned (.tuple #[v0_, .int .u32 r2]) ∧ Kd.V (Kd.int .u32) 97 w' w.heap.size (fun k_ => (w.heap.size ≤ k_)) v0_ r1 ∧ Below w.heap.size w w' := by
 have HR0 := zk hr0
 have HC0 := zk hc0
 clear hr0 hc0
 have HB := zk (Below.refl w.heap.size w)
 have H := h
 clear h
 unfold nat_digit.f at H
 replace H := zg H
 obtain ⟨c3, H⟩ := H
 have c3b0 := eq_true c3
 have c3b1 := decide_eq_true c3
 clear c3
 replace H := zg H
 obtain ⟨c4, H⟩ := H
 have c4b0 := eq_true c4
 have c4b1 := decide_eq_true c4
 clear c4
 obtain ⟨ya1, hya1⟩ : ∃ y_ : List Int, y_ = (List.replicate ((l0.length : Int) : Int).toNat 0) := ⟨_, rfl⟩
 replace H : (nat_digit.l0 k l0 a1 ya1 0 (wrap64 ((l0.length : Int) - 1))) = some (r1, r2) := zY hya1 H
 have Nya1 := zk hya1
 clear hya1
 have H' := zk H
 clear H
 go_enter Try.func115, Try.ntmps115
 go_wp2_with (first | ((with_reducible refine gate_dst (N := 11) rfl ?_); refine Kd.R_make (Kd.int .u32) _ 97 rfl (N := 11) rfl 29 _ _ rfl (l0.length : Int) rfl rfl Try.underlying29 (.int .u32 0) 4 info97 rfl (by decide) (by omega) 0 (ok := fun _ => True) (okp := fun _ => True) rfl (fun _ hk => hk) trivial zd (Nat.le_trans (Nat.mul_le_mul_right _ (zd : (l0.length : Int).toNat ≤ 70368744177664)) (by omega)) (Below.refl _ _) (Nat.le_refl _) ?_; intro va2 w5 ho6 hb hg_ hnew_; clear hg_ hnew_; (first | rw [← Nya1.out] at ho6 | (simp only [Int.reduceToNat] at ho6; rw [← Nya1.out] at ho6)); replace ho6 := Kd.R_newM (M := fun k_ => (w.heap.size ≤ k_)) ho6 (below_size (zB HB.out)) (fun k_ h_ => h_); have HOa3 := yRl ho6 HB; replace HB := yS HB hb; clear hb ho6))
 go_loopg [7, 8] k (fun kq v7 v8 w' => ∃ (x6_1 : List Int) (x7_1 : Int) (x8_1 : Int), v7 = .int .u64 x7_1 ∧ v8 = .int .i64 x8_1 ∧ Aside0 (nat_digit.l0 kq l0 a1 x6_1 x7_1 x8_1 = some (r1, r2)) ∧ Aside0 (kq ≤ k) ∧ Aside0 (Kd.R (Kd.int .u32) 97 w' w.heap.size (fun k_ => (w.heap.size ≤ k_)) va2 x6_1) ∧ Aside0 (Below w.heap.size w w'))
 case atStart => exact ⟨(ya1), (0), (wrap64 ((l0.length : Int) - 1)), zF, zF, H', ⟨Nat.le_refl _⟩, ⟨by (with_reducible repeat (first | apply Kd.R_alloc | apply Kd.R_drewN | apply Kd.R_drew)); exact Kd.R_mono HOa3.out (fun _ hk => hk.1)⟩, ⟨zB HB.out⟩⟩
 clear H'
 (try clear c3);(try clear c3b0);(try clear c3b1);(try clear c4);(try clear c4b0);(try clear c4b1)
 obtain ⟨x6_1, x7_1, x8_1, rfl, rfl, HA, HK1, HO_6, HB⟩ := hrel
 cases gk with | zero => exact absurd HA.out (by simp [nat_digit.l0]) | succ k1 => ?_
 have H := HA.out
 clear HA
 simp only [nat_digit.l0] at H
 replace H := zi H
 rcases H with ⟨c7, H⟩ | ⟨c7, H⟩
 · have c7b0 : decide (0 ≤ x8_1) = true := decide_eq_true c7
   clear c7
   replace H := zgd H
   obtain ⟨c8b0, H⟩ := H
   replace H := zgd H
   obtain ⟨c9b0, H⟩ := H
   replace H := zh H
   obtain ⟨c10, H⟩ := H
   have c10b0 := beq_eq_false_iff_ne.mpr c10
   have c10b1 := bne_iff_ne.mpr c10
   replace H := zgd H
   obtain ⟨c11b0, H⟩ := H
   obtain ⟨ya5, hya5⟩ : ∃ y_ : List Int, y_ = (x6_1.set (x8_1 : Int).toNat ((IntKind.u64.wrap (Int.tdiv (Go.bits .or .u64 (IntKind.u64.wrap (x7_1 * 4294967296)) (IntKind.u64.wrap (rd l0 x8_1))) (IntKind.u64.wrap (a1)))) % 4294967296)) := ⟨_, rfl⟩
   replace H : (nat_digit.l0 k1 l0 a1 ya5 (Int.tmod (Go.bits .or .u64 (IntKind.u64.wrap (x7_1 * 4294967296)) (IntKind.u64.wrap (rd l0 x8_1))) (IntKind.u64.wrap (a1))) (wrap64 (x8_1 - 1))) = some (r1, r2) := zY hya5 H
   have Nya5 := zk hya5
   clear hya5
   have H' := zk H
   clear H
   have pa4 : 0 ≤ (x8_1 : Int) := zd
   have qa4 : x8_1 < (l0.length : Int) := zd
   obtain ⟨ada4, ea4, hxa4_0⟩ := Kd.at_int HR0.out x8_1 pa4 qa4
   cases ea4
   replace hxa4_0 := (HB.out.cell (World.block_lt_of_cell? w _ hxa4_0)).trans hxa4_0
   replace pa4 := eq_true pa4
   replace qa4 := eq_true qa4
   have p12 : 0 ≤ (x8_1 : Int) := zd
   have q12 : (x8_1 : Int) < ((x6_1.length : Int) : Int) := zd
   obtain ⟨go12, co12, eo12, gb12, gl12, cl12, HG12⟩ := Kd.R_form HO_6.out (by omega)
   (first | cases eo12 | (injection eo12 with ea_ en_ ec_; (first | subst ea_ | (injection ea_ with ea_; subst ea_)); subst ec_; clear en_))
   have GB12 := zk gb12
   have GG12 := zk HG12
   clear gb12 gl12 HG12
   obtain ⟨hx12_0, hf12_0⟩ := Kd.R_celln 0 HO_6.out (x8_1 : Int) p12 q12
   replace p12 := eq_true p12
   replace q12 := eq_true q12
   have HP13 := Kd.R_putg HO_6.out (x8_1 : Int) ((IntKind.u64.wrap (Int.tdiv (Go.bits .or .u64 (IntKind.u64.wrap (x7_1 * 4294967296)) (IntKind.u64.wrap (rd l0 x8_1))) (IntKind.u64.wrap (a1)))) % 4294967296)
   go_wp2_with (first | ((with_reducible refine gate_store (t := 97) (p := 34) rfl ?_); refine store_event (t := 97) (p := 34) (v := ?vo_w14) (w1 := (wr.setCell ⟨go12, (x8_1 : Int).toNat, none⟩ (.int .u32 ((IntKind.u64.wrap (Int.tdiv (Go.bits .or .u64 (IntKind.u64.wrap (x7_1 * 4294967296)) (IntKind.u64.wrap (rd l0 x8_1))) (IntKind.u64.wrap (a1)))) % 4294967296)))) ?hg ?ho ?hn ?hr ?_; (case ho => rfl); (case hg => rfl); (case hn => rfl); (case hr => first | (go_simp; done) | (go_simp; rfl)); intro w14 hw; have hg : wr.grownBy w14 (some go12) := (by rw [hw]; exact HP13.2); have hp_ : Kd.R (Kd.int .u32) 97 w14 w.heap.size (fun k_ => (w.heap.size ≤ k_)) (.slice (some ⟨go12, 0, none⟩) x6_1.length co12) ya5 := (by rw [hw, Nya5.out]; exact HP13.1); clear HP13; replace HO_6 := zk (hp_); replace HB := zk ((by rw [hw]; exact below_set (HB.out) GB12.out : Below w.heap.size w w14)); clear hg hw hp_))
   go_roundg k1
   case measure => have := HK1.out; omega
   case rel => exact ⟨(ya5), (Int.tmod (Go.bits .or .u64 (IntKind.u64.wrap (x7_1 * 4294967296)) (IntKind.u64.wrap (rd l0 x8_1))) (IntKind.u64.wrap (a1))), (wrap64 (x8_1 - 1)), zF, zF, H', ⟨zo1 HK1⟩, ⟨zR HO_6.out⟩, ⟨zB HB.out⟩⟩
 have c7b0 : decide (0 ≤ x8_1) = false := decide_eq_false c7
 clear c7
 replace H := zb H
 obtain ⟨ta6, A15, H⟩ := H
 simp only [Option.some.injEq, Prod.mk.injEq] at H
 obtain ⟨rfl, rfl⟩ := H
 obtain ⟨Ao16, co16, rfl⟩ := Kd.R_slice HO_6.out
 go_wp2_with (first | ((with_reducible refine gC 118 ?_); refine zG (some 40) Try.func118 #[.slice Ao16 x6_1.length co16] ?_; (with_reducible refine (nat_short.calls k1 (fun k_ => some k_ = (.slice Ao16 x6_1.length co16 : Value).ownBlock) _ _ x6_1 ta6 _ ?side1 A15.out).mono ?_); (case side1 => exact Kd.R_V (Kd.R_tight rfl (HO_6.out))); rintro e w17 ⟨va7, rfl, ho0, hb⟩; refine ⟨_, rfl, ?_⟩; have HOa8 := zk (Kd.V_lower (Kd.V_mono (ok' := fun k_ => (w.heap.size ≤ k_)) ho0 (fun k_ hk_ => Or.elim hk_ (fun hs_ => ((HO_6.out).1 k_ hs_.symm)) (fun hn_ => (Nat.le_trans (below_size (zB HB.out)) hn_)))) (below_size (zB HB.out))); replace HO_6 := yRb HO_6 hb; replace HB := yS HB hb; (try clear hb ho0)))
 go_ret2
 exact ⟨_, zE, zV HOa8.out, zB HB.out⟩
set_option maxHeartbeats 8000000 in
set_option maxRecDepth 100000 in
theorem nat_times.calls (k : Nat) (A0 : Option Addr) (c0 : Nat) (l0 : List Int) (A1 : Option Addr) (c1 : Nat) (l1 : List Int) (r : List Int) (w : World) (hr0 : Kd.C (Kd.int .u32) w A0 l0.length l0) (hc0 : l0.length ≤ c0) (hr1 : Kd.C (Kd.int .u32) w A1 l1.length l1) (hc1 : l1.length ≤ c1) (h : nat_times.f k l0 l1 = some r) :
    Calls Try.prog 116 #[.slice A0 l0.length c0, .slice A1 l1.length c1] w fun e w' => ∃ v0_ : Value, e = .returned (v0_) ∧ Kd.V (Kd.int .u32) 97 w' w.heap.size (fun k_ => (w.heap.size ≤ k_)) v0_ r ∧ Below w.heap.size w w' := by
 have HR0 := zk hr0
 have HC0 := zk hc0
 clear hr0 hc0
 have HR1 := zk hr1
 have HC1 := zk hc1
 clear hr1 hc1
 have HB := zk (Below.refl w.heap.size w)
 have H := h
 clear h
 unfold nat_times.f at H
 obtain ⟨ji3, hji3⟩ : ∃ j_ : Int, (wrap64 ((l0.length : Int) + (l1.length : Int))) = j_ := ⟨_, rfl⟩
 replace H : (if 0 ≤ (ji3) then (if (ji3 : Int).toNat ≤ 70368744177664 then (nat_times.l0 k l1 (List.replicate (ji3 : Int).toNat 0) l0 (l0.length : Int) 0) else (none)) else (none)) = some r := by first | (rw [hji3] at H; exact H) | (simp only [hji3] at H ⊢; exact H)
 have hji3w : (IntKind.i64.wrap ((l0.length : Int) + (l1.length : Int))) = ji3 := (i64_w _).trans hji3
 replace H := zg H
 obtain ⟨c4, H⟩ := H
 have c4b0 := eq_true c4
 have c4b1 := decide_eq_true c4
 clear c4
 replace H := zg H
 obtain ⟨c5, H⟩ := H
 have c5b0 := eq_true c5
 have c5b1 := decide_eq_true c5
 clear c5
 obtain ⟨ya1, hya1⟩ : ∃ y_ : List Int, y_ = (List.replicate (ji3 : Int).toNat 0) := ⟨_, rfl⟩
 replace H : (nat_times.l0 k l1 ya1 l0 (l0.length : Int) 0) = some r := zY hya1 H
 have Nya1 := zk hya1
 clear hya1
 have H' := zk H
 clear H
 go_enter Try.func116, Try.ntmps116
 go_wp2_with (first | ((with_reducible refine gate_dst (N := 17) rfl ?_); refine Kd.R_make (Kd.int .u32) _ 97 rfl (N := 17) rfl 29 _ _ rfl ji3 rfl rfl Try.underlying29 (.int .u32 0) 4 info97 rfl (by decide) (by omega) 0 (ok := fun _ => True) (okp := fun _ => True) rfl (fun _ hk => hk) trivial zd (Nat.le_trans (Nat.mul_le_mul_right _ (zd : ji3.toNat ≤ 70368744177664)) (by omega)) (Below.refl _ _) (Nat.le_refl _) ?_; intro va2 w6 ho7 hb hg_ hnew_; clear hg_ hnew_; (first | rw [← Nya1.out] at ho7 | (simp only [Int.reduceToNat] at ho7; rw [← Nya1.out] at ho7)); replace ho7 := Kd.R_newM (M := fun k_ => (w.heap.size ≤ k_)) ho7 (below_size (zB HB.out)) (fun k_ h_ => h_); have HOa3 := yRl ho7 HB; replace HB := yS HB hb; clear hb ho7))
 go_loopg [20] k (fun kq v20 w' => ∃ (x5_1 : List Int) (x20_1 : Int), v20 = .int .i64 x20_1 ∧ Aside0 (nat_times.l0 kq l1 x5_1 l0 (l0.length : Int) x20_1 = some r) ∧ Aside0 (kq ≤ k) ∧ Aside0 (Kd.R (Kd.int .u32) 97 w' w.heap.size (fun k_ => (w.heap.size ≤ k_)) va2 x5_1) ∧ Aside0 (Below w.heap.size w w'))
 case atStart => exact ⟨(ya1), (0), zF, H', ⟨Nat.le_refl _⟩, ⟨by (with_reducible repeat (first | apply Kd.R_alloc | apply Kd.R_drewN | apply Kd.R_drew)); exact Kd.R_mono HOa3.out (fun _ hk => hk.1)⟩, ⟨zB HB.out⟩⟩
 clear H'
 (try clear c4);(try clear c4b0);(try clear c4b1);(try clear c5);(try clear c5b0);(try clear c5b1)
 obtain ⟨x5_1, x20_1, rfl, HA, HK1, HO_5, HB⟩ := hrel
 cases gk with | zero => exact absurd HA.out (by simp [nat_times.l0]) | succ k1 => ?_
 have H := HA.out
 clear HA
 simp only [nat_times.l0] at H
 replace H := zid H
 rcases H with ⟨c8b0, H⟩ | ⟨c8b0, H⟩
 · replace H := zgd H
   obtain ⟨c9b0, H⟩ := H
   replace H := zgd H
   obtain ⟨c10b0, H⟩ := H
   have H' := zk H
   clear H
   have pa7 : 0 ≤ (x20_1 : Int) := zd
   have qa7 : x20_1 < (l0.length : Int) := zd
   obtain ⟨ada7, ea7, hxa7_0⟩ := Kd.at_int HR0.out x20_1 pa7 qa7
   cases ea7
   replace hxa7_0 := (HB.out.cell (World.block_lt_of_cell? w _ hxa7_0)).trans hxa7_0
   replace pa7 := eq_true pa7
   replace qa7 := eq_true qa7
   go_wp2
   go_loopg [8, 27] k1 (fun kq v8 v27 w' => ∃ (x5_2 : List Int) (x8_2 : Int) (x27_2 : Int), v8 = .int .u64 x8_2 ∧ v27 = .int .i64 x27_2 ∧ Aside0 (nat_times.l1 kq l1 x5_2 x20_1 (rd l0 x20_1) x8_2 l0 (l0.length : Int) x20_1 l1 (l1.length : Int) x27_2 = some r) ∧ Aside0 (kq ≤ k1) ∧ Aside0 (Kd.R (Kd.int .u32) 97 w' w.heap.size (fun k_ => (w.heap.size ≤ k_)) va2 x5_2) ∧ Aside0 (Below w.heap.size w w'))
   case atStart => exact ⟨(x5_1), (0), (0), zF, zF, H', ⟨Nat.le_refl _⟩, ⟨zR HO_5.out⟩, ⟨zB HB.out⟩⟩
   clear H'
   (try clear c4);(try clear c4b0);(try clear c4b1);(try clear c5);(try clear c5b0);(try clear c5b1);(try clear c8b0);(try clear c9b0);(try clear c10b0);(try clear hxa7_0);(try clear pa7);(try clear qa7)
   obtain ⟨x5_2, x8_2, x27_2, rfl, rfl, HA, HK2, HO_5, HB⟩ := hrel
   cases gk with | zero => exact absurd HA.out (by simp [nat_times.l1]) | succ k2 => ?_
   have H := HA.out
   clear HA
   simp only [nat_times.l1] at H
   replace H := zid H
   rcases H with ⟨c11b0, H⟩ | ⟨c11b0, H⟩
   · replace H := zgd H
     obtain ⟨c12b0, H⟩ := H
     replace H := zgd H
     obtain ⟨c13b0, H⟩ := H
     obtain ⟨ji14, hji14⟩ : ∃ j_ : Int, (wrap64 (x20_1 + x27_2)) = j_ := ⟨_, rfl⟩
     replace H : (if 0 ≤ (ji14) then (if (ji14) < (x5_2.length : Int) then (nat_times.l1 k2 l1 (x5_2.set ((ji14) : Int).toNat ((IntKind.u64.wrap ((IntKind.u64.wrap ((IntKind.u64.wrap ((IntKind.u64.wrap ((rd l0 x20_1))) * (IntKind.u64.wrap (rd l1 x27_2)))) + (IntKind.u64.wrap (rd x5_2 (ji14))))) + x8_2)) % 4294967296)) x20_1 (rd l0 x20_1) ((IntKind.u64.wrap ((IntKind.u64.wrap ((IntKind.u64.wrap ((IntKind.u64.wrap ((rd l0 x20_1))) * (IntKind.u64.wrap (rd l1 x27_2)))) + (IntKind.u64.wrap (rd x5_2 (ji14))))) + x8_2)) / 4294967296) l0 (l0.length : Int) x20_1 l1 (l1.length : Int) (wrap64 (x27_2 + 1))) else (none)) else (none)) = some r := by first | (rw [hji14] at H; exact H) | (simp only [hji14] at H ⊢; exact H)
     have hji14w : (IntKind.i64.wrap (x20_1 + x27_2)) = ji14 := (i64_w _).trans hji14
     replace H := zgd H
     obtain ⟨c15b0, H⟩ := H
     replace H := zgd H
     obtain ⟨c16b0, H⟩ := H
     obtain ⟨yb0, hyb0⟩ : ∃ y_ : List Int, y_ = (x5_2.set ((ji14) : Int).toNat ((IntKind.u64.wrap ((IntKind.u64.wrap ((IntKind.u64.wrap ((IntKind.u64.wrap ((rd l0 x20_1))) * (IntKind.u64.wrap (rd l1 x27_2)))) + (IntKind.u64.wrap (rd x5_2 (ji14))))) + x8_2)) % 4294967296)) := ⟨_, rfl⟩
     replace H : (nat_times.l1 k2 l1 yb0 x20_1 (rd l0 x20_1) ((IntKind.u64.wrap ((IntKind.u64.wrap ((IntKind.u64.wrap ((IntKind.u64.wrap ((rd l0 x20_1))) * (IntKind.u64.wrap (rd l1 x27_2)))) + (IntKind.u64.wrap (rd x5_2 (ji14))))) + x8_2)) / 4294967296) l0 (l0.length : Int) x20_1 l1 (l1.length : Int) (wrap64 (x27_2 + 1))) = some r := zY hyb0 H
     have Nyb0 := zk hyb0
     clear hyb0
     have H' := zk H
     clear H
     have pa8 : 0 ≤ (x27_2 : Int) := zd
     have qa8 : x27_2 < (l1.length : Int) := zd
     obtain ⟨ada8, ea8, hxa8_0⟩ := Kd.at_int HR1.out x27_2 pa8 qa8
     cases ea8
     replace hxa8_0 := (HB.out.cell (World.block_lt_of_cell? w _ hxa8_0)).trans hxa8_0
     replace pa8 := eq_true pa8
     replace qa8 := eq_true qa8
     obtain ⟨Ao18, co18, rfl⟩ := Kd.R_slice HO_5.out
     have pa9 : 0 ≤ ((ji14) : Int) := zd
     have qa9 : (ji14) < (x5_2.length : Int) := zd
     obtain ⟨ada9, ea9, hxa9_0⟩ := Kd.at_int (Kd.R_reads' HO_5.out).2.2 (ji14) pa9 qa9
     cases ea9
     replace pa9 := eq_true pa9
     replace qa9 := eq_true qa9
     have p17 : 0 ≤ ((ji14) : Int) := zd
     have q17 : ((ji14) : Int) < ((x5_2.length : Int) : Int) := zd
     obtain ⟨go17, co17, eo17, gb17, gl17, cl17, HG17⟩ := Kd.R_form HO_5.out (by omega)
     (first | cases eo17 | (injection eo17 with ea_ en_ ec_; (first | subst ea_ | (injection ea_ with ea_; subst ea_)); subst ec_; clear en_))
     have GB17 := zk gb17
     have GG17 := zk HG17
     clear gb17 gl17 HG17
     (first | simp only [add_plain] at hxa9_0 | skip)
     obtain ⟨hx17_0, hf17_0⟩ := Kd.R_celln 0 HO_5.out ((ji14) : Int) p17 q17
     replace p17 := eq_true p17
     replace q17 := eq_true q17
     have HP19 := Kd.R_putg HO_5.out ((ji14) : Int) ((IntKind.u64.wrap ((IntKind.u64.wrap ((IntKind.u64.wrap ((IntKind.u64.wrap ((rd l0 x20_1))) * (IntKind.u64.wrap (rd l1 x27_2)))) + (IntKind.u64.wrap (rd x5_2 (ji14))))) + x8_2)) % 4294967296)
     go_wp2_with (first | ((with_reducible refine gate_store (t := 97) (p := 53) rfl ?_); refine store_event (t := 97) (p := 53) (v := ?vo_w20) (w1 := (wr.setCell ⟨go17, ((ji14) : Int).toNat, none⟩ (.int .u32 ((IntKind.u64.wrap ((IntKind.u64.wrap ((IntKind.u64.wrap ((IntKind.u64.wrap ((rd l0 x20_1))) * (IntKind.u64.wrap (rd l1 x27_2)))) + (IntKind.u64.wrap (rd x5_2 (ji14))))) + x8_2)) % 4294967296)))) ?hg ?ho ?hn ?hr ?_; (case ho => rfl); (case hg => rfl); (case hn => rfl); (case hr => first | (go_simp; done) | (go_simp; rfl)); intro w20 hw; have hg : wr.grownBy w20 (some go17) := (by rw [hw]; exact HP19.2); have hp_ : Kd.R (Kd.int .u32) 97 w20 w.heap.size (fun k_ => (w.heap.size ≤ k_)) (.slice (some ⟨go17, 0, none⟩) x5_2.length co18) yb0 := (by rw [hw, Nyb0.out]; exact HP19.1); clear HP19; replace HO_5 := zk (hp_); replace HB := zk ((by rw [hw]; exact below_set (HB.out) GB17.out : Below w.heap.size w w20)); clear hg hw hp_))
     go_roundg k2
     case measure => have := HK1.out; have := HK2.out; omega
     case rel => exact ⟨(yb0), ((IntKind.u64.wrap ((IntKind.u64.wrap ((IntKind.u64.wrap ((IntKind.u64.wrap ((rd l0 x20_1))) * (IntKind.u64.wrap (rd l1 x27_2)))) + (IntKind.u64.wrap (rd x5_2 (ji14))))) + x8_2)) / 4294967296), (wrap64 (x27_2 + 1)), (by first | rfl | (simp; done) | (simp only [← hji14] <;> (first | rfl | simp)) | (simp [*]; done)), zF, H', ⟨zo2 HK1 HK2⟩, ⟨zR HO_5.out⟩, ⟨zB HB.out⟩⟩
   obtain ⟨ji21, hji21⟩ : ∃ j_ : Int, (wrap64 (x20_1 + (l1.length : Int))) = j_ := ⟨_, rfl⟩
   replace H : (if 0 ≤ (ji21) then (if (ji21) < (x5_2.length : Int) then (nat_times.l0 k2 l1 (x5_2.set ((ji21) : Int).toNat ((x8_2) % 4294967296)) l0 (l0.length : Int) (wrap64 (x20_1 + 1))) else (none)) else (none)) = some r := by first | (rw [hji21] at H; exact H) | (simp only [hji21] at H ⊢; exact H)
   have hji21w : (IntKind.i64.wrap (x20_1 + (l1.length : Int))) = ji21 := (i64_w _).trans hji21
   replace H := zgd H
   obtain ⟨c22b0, H⟩ := H
   replace H := zgd H
   obtain ⟨c23b0, H⟩ := H
   obtain ⟨yb1, hyb1⟩ : ∃ y_ : List Int, y_ = (x5_2.set ((ji21) : Int).toNat ((x8_2) % 4294967296)) := ⟨_, rfl⟩
   replace H : (nat_times.l0 k2 l1 yb1 l0 (l0.length : Int) (wrap64 (x20_1 + 1))) = some r := zY hyb1 H
   have Nyb1 := zk hyb1
   clear hyb1
   have H' := zk H
   clear H
   have p24 : 0 ≤ ((ji21) : Int) := zd
   have q24 : ((ji21) : Int) < ((x5_2.length : Int) : Int) := zd
   obtain ⟨go24, co24, eo24, gb24, gl24, cl24, HG24⟩ := Kd.R_form HO_5.out (by omega)
   (first | cases eo24 | (injection eo24 with ea_ en_ ec_; (first | subst ea_ | (injection ea_ with ea_; subst ea_)); subst ec_; clear en_))
   have GB24 := zk gb24
   have GG24 := zk HG24
   clear gb24 gl24 HG24
   obtain ⟨hx24_0, hf24_0⟩ := Kd.R_celln 0 HO_5.out ((ji21) : Int) p24 q24
   replace p24 := eq_true p24
   replace q24 := eq_true q24
   have HP25 := Kd.R_putg HO_5.out ((ji21) : Int) ((x8_2) % 4294967296)
   go_wp2_with (first | ((with_reducible refine gate_store (t := 97) (p := 64) rfl ?_); refine store_event (t := 97) (p := 64) (v := ?vo_w26) (w1 := (wr.setCell ⟨go24, ((ji21) : Int).toNat, none⟩ (.int .u32 ((x8_2) % 4294967296)))) ?hg ?ho ?hn ?hr ?_; (case ho => rfl); (case hg => rfl); (case hn => rfl); (case hr => first | (go_simp; done) | (go_simp; rfl)); intro w26 hw; have hg : wr.grownBy w26 (some go24) := (by rw [hw]; exact HP25.2); have hp_ : Kd.R (Kd.int .u32) 97 w26 w.heap.size (fun k_ => (w.heap.size ≤ k_)) (.slice (some ⟨go24, 0, none⟩) x5_2.length co24) yb1 := (by rw [hw, Nyb1.out]; exact HP25.1); clear HP25; replace HO_5 := zk (hp_); replace HB := zk ((by rw [hw]; exact below_set (HB.out) GB24.out : Below w.heap.size w w26)); clear hg hw hp_))
   go_roundg k2
   case measure => have := HK1.out; have := HK2.out; omega
   case rel => exact ⟨(yb1), (wrap64 (x20_1 + 1)), zF, H', ⟨zo2 HK1 HK2⟩, ⟨zR HO_5.out⟩, ⟨zB HB.out⟩⟩
 replace H := zb H
 obtain ⟨ta4, A27, H⟩ := H
 obtain rfl := Option.some.inj H
 obtain ⟨Ao28, co28, rfl⟩ := Kd.R_slice HO_5.out
 go_wp2_with (first | ((with_reducible refine gC 118 ?_); refine zG (some 67) Try.func118 #[.slice Ao28 x5_1.length co28] ?_; (with_reducible refine (nat_short.calls k1 (fun k_ => some k_ = (.slice Ao28 x5_1.length co28 : Value).ownBlock) _ _ x5_1 ta4 _ ?side1 A27.out).mono ?_); (case side1 => exact Kd.R_V (Kd.R_tight rfl (HO_5.out))); rintro e w29 ⟨va5, rfl, ho0, hb⟩; refine ⟨_, rfl, ?_⟩; have HOa6 := zk (Kd.V_lower (Kd.V_mono (ok' := fun k_ => (w.heap.size ≤ k_)) ho0 (fun k_ hk_ => Or.elim hk_ (fun hs_ => ((HO_5.out).1 k_ hs_.symm)) (fun hn_ => (Nat.le_trans (below_size (zB HB.out)) hn_)))) (below_size (zB HB.out))); replace HO_5 := yRb HO_5 hb; replace HB := yS HB hb; (try clear hb ho0)))
 go_ret
 exact ⟨_, by first | rfl | (simp [errW_none, errW_some] <;> rfl) | (simp only [← hji3]; first | rfl | (simp [errW_none, errW_some] <;> rfl)) | (simp [*, errW_none, errW_some] <;> rfl), zV HOa6.out, zB HB.out⟩
set_option maxHeartbeats 8000000 in
set_option maxRecDepth 100000 in
theorem nat_Binomial.calls (k : Nat) (a0 : Int) (a1 : Int) (r1 : List Int) (r2 : Int) (w : World) (h : nat_Binomial.f k a0 a1 = some (r1, r2)) :
    Calls Try.prog 72 #[.int .i64 a0, .int .i64 a1] w fun e w' => ∃ v0_ : Value, e = .returned (.tuple #[v0_, .int .i64 r2]) ∧ Kd.R (Kd.int .u32) 97 w' w.heap.size (fun _ => True) v0_ r1 ∧ Below w.heap.size w w' := by
 have HB := zk (Below.refl w.heap.size w)
 have H := h
 clear h
 unfold nat_Binomial.f at H
 have HC3 := zk H
 clear H
 go_enter Try.func72, Try.ntmps72
 go_upto_region 1 with (fail)
 go_cut [13] (fun v13 wc => ∃ (kq : Nat) (x13_2 : Bool), v13 = .bool x13_2 ∧ Aside0 (nat_Binomial.j0 kq a0 a1 x13_2 = some (r1, r2)) ∧ Aside0 (kq ≤ k) ∧ Aside0 (Below w.heap.size w wc))
 case first =>
  have H := HC3.out
  clear HC3
  replace H := zid H
  rcases H with ⟨c4b0, H⟩ | ⟨c4b0, H⟩
  · (first | rw [c4b0] | (simp only [i64_w, i32_w]; rw [c4b0]) | rw [c4b1] | skip)
    have H' := zk H
    clear H
    go_wp2
    go_meet
    case rel => exact ⟨_, (true), zF, H', ⟨zO⟩, ⟨zB HB.out⟩⟩
  (first | rw [c4b0] | (simp only [i64_w, i32_w]; rw [c4b0]) | rw [c4b1] | skip)
  have H' := zk H
  clear H
  go_wp2
  go_meet
  case rel => exact ⟨_, (decide (a0 > 4096)), zF, H', ⟨zO⟩, ⟨zB HB.out⟩⟩
 clear HC3
 (try clear c4b0)
 obtain ⟨kq, x13_2, rfl, HA, HJ2, HB⟩ := hcut
 cases kq with | zero => exact absurd HA.out (by simp [nat_Binomial.j0]) | succ kj2 => ?_
 have H := HA.out
 clear HA
 simp only [nat_Binomial.j0] at H
 by_cases c5 : x13_2 = true
 · subst c5
   rw [if_pos rfl] at H
   simp only [Option.some.injEq, Prod.mk.injEq] at H
   obtain ⟨rfl, rfl⟩ := H
   go_wp2
   go_ret2
   exact ⟨_, zE, z0, zB HB.out⟩
 replace c5 := Bool.eq_false_iff.mpr c5
 subst c5
 rw [if_neg Bool.false_ne_true] at H
 have HC6 := zk H
 clear H
 go_upto_region 3 with (fail)
 go_cut [20] (fun v20 wc => ∃ (kq : Nat) (x20_5 : Bool), v20 = .bool x20_5 ∧ Aside0 (nat_Binomial.j1 kq a0 a1 x20_5 = some (r1, r2)) ∧ Aside0 (kq ≤ kj2) ∧ Aside0 (Below w.heap.size w wc))
 case first =>
  have H := HC6.out
  clear HC6
  replace H := zid H
  rcases H with ⟨c7b0, H⟩ | ⟨c7b0, H⟩
  · (first | rw [c7b0] | (simp only [i64_w, i32_w]; rw [c7b0]) | rw [c7b1] | skip)
    have H' := zk H
    clear H
    go_wp2
    go_meet
    case rel => exact ⟨_, (true), zF, H', ⟨by have := HJ2.out; first | omega | exact Nat.le_refl _⟩, ⟨zB HB.out⟩⟩
  (first | rw [c7b0] | (simp only [i64_w, i32_w]; rw [c7b0]) | rw [c7b1] | skip)
  have H' := zk H
  clear H
  go_wp2
  go_meet
  case rel => exact ⟨_, (decide (a1 > a0)), zF, H', ⟨by have := HJ2.out; first | omega | exact Nat.le_refl _⟩, ⟨zB HB.out⟩⟩
 clear HC6
 (try clear c4b0);(try clear c5);(try clear c7b0)
 obtain ⟨kq, x20_5, rfl, HA, HJ5, HB⟩ := hcut
 cases kq with | zero => exact absurd HA.out (by simp [nat_Binomial.j1]) | succ kj5 => ?_
 have H := HA.out
 clear HA
 simp only [nat_Binomial.j1] at H
 by_cases c8 : x20_5 = true
 · subst c8
   rw [if_pos rfl] at H
   simp only [Option.some.injEq, Prod.mk.injEq] at H
   obtain ⟨rfl, rfl⟩ := H
   go_wp2
   go_ret2
   exact ⟨_, zE, z0, zB HB.out⟩
 replace c8 := Bool.eq_false_iff.mpr c8
 subst c8
 rw [if_neg Bool.false_ne_true] at H
 obtain ⟨ya1, hya1⟩ : ∃ y_ : List Int, y_ = (([1] : List Int)) := ⟨_, rfl⟩
 replace H : (nat_Binomial.l0 kj5 a0 ya1 (mn a1 (wrap64 (a0 - a1))) 0) = some (r1, r2) := zY hya1 H
 have Nya1 := zk hya1
 clear hya1
 obtain ⟨ji9, hji9⟩ : ∃ j_ : Int, (mn a1 (wrap64 (a0 - a1))) = j_ := ⟨_, rfl⟩
 replace H : (nat_Binomial.l0 kj5 a0 ya1 ji9 0) = some (r1, r2) := by first | (rw [hji9] at H; exact H) | (simp only [hji9] at H ⊢; exact H)
 have hji9_ : (if (wrap64 (a0 - a1)) < a1 then (wrap64 (a0 - a1)) else a1) = ji9 := hji9
 have H' := zk H
 clear H
 go_wp2_with (first | ((with_reducible refine gate_dst (N := 21) rfl ?_); refine Kd.R_lit (Kd.int .u32) _ 97 ?hg (N := 21) ?hd (xs := ([1] : List Int)) (inner := [.int .u32 1]) (ok := fun _ => True) (okp := fun _ => True) ?hr ?hp (fun _ hk => hk) trivial (Below.refl _ _) (Nat.le_refl _) (by simp) ?_; (case hd => rfl); (case hg => rfl); (case hr => first | (go_simp; done) | (go_simp; rfl)); (case hp => exact (Reps.one (show Kd.M (Kd.int .u32) _ _ _ 1 [.int .u32 1] from rfl) (Reps.none _ _))); intro va2 w10 ho11 hb hg_ hnew_; clear hg_ hnew_; (first | rw [← Nya1.out] at ho11 | (simp only [Int.reduceToNat] at ho11; rw [← Nya1.out] at ho11)); have HOa3 := yRl ho11 HB; replace HB := yS HB hb; clear hb ho11))
 go_loopg [6, 27] kj5 (fun kq v6 v27 w' => ∃ (x6_3 : List Int) (x27_3 : Int), v27 = .int .i64 x27_3 ∧ Aside0 (nat_Binomial.l0 kq a0 x6_3 ji9 x27_3 = some (r1, r2)) ∧ Aside0 (kq ≤ kj5) ∧ Aside0 (Kd.V (Kd.int .u32) 97 w' w.heap.size (fun _ => True) v6 x6_3) ∧ Aside0 (Below w.heap.size w w'))
 case atStart => exact ⟨(ya1), (0), zF, H', ⟨Nat.le_refl _⟩, ⟨Kd.R_V (zR HOa3.out)⟩, ⟨zB HB.out⟩⟩
 clear H'
 (try clear c4b0);(try clear c5);(try clear c7b0);(try clear c8)
 obtain ⟨x6_3, x27_3, rfl, HA, HK3, HO_6, HB⟩ := hrel
 cases gk with | zero => exact absurd HA.out (by simp [nat_Binomial.l0]) | succ k3 => ?_
 have H := HA.out
 clear HA
 simp only [nat_Binomial.l0] at H
 replace H := zid H
 rcases H with ⟨c12b0, H⟩ | ⟨c12b0, H⟩
 · obtain ⟨ya4, hya4⟩ : ∃ y_ : List Int, y_ = (([(wrap64 (a0 - x27_3)) % 4294967296] : List Int)) := ⟨_, rfl⟩
   replace H : ((nat_times.f k3 x6_3 ya4).bind fun ta7 => ((nat_digit.f k3 ta7 ((wrap64 (x27_3 + 1)) % 4294967296)).bind fun btb0 => (nat_Binomial.l0 k3 a0 btb0.1 ji9 (wrap64 (x27_3 + 1))))) = some (r1, r2) := zY hya4 H
   have Nya4 := zk hya4
   clear hya4
   replace H := zb H
   obtain ⟨ta7, A13, H⟩ := H
   replace H := zb H
   obtain ⟨⟨tb0, tb3⟩, A14, H⟩ := H
   dsimp only at H
   have H' := zk H
   clear H
   go_wp2_with (first | ((with_reducible refine gate_dst (N := 36) rfl ?_); refine Kd.R_lit (Kd.int .u32) _ 97 ?hg (N := 36) ?hd (xs := ([(wrap64 (a0 - x27_3)) % 4294967296] : List Int)) (inner := [.int .u32 ((wrap64 (a0 - x27_3)) % 4294967296)]) (ok := fun _ => True) (okp := fun _ => True) ?hr ?hp (fun _ hk => hk) trivial (Below.refl _ _) (Nat.le_refl _) (by simp) ?_; (case hd => rfl); (case hg => rfl); (case hr => first | (go_simp; done) | (go_simp; rfl)); (case hp => exact (Reps.one (show Kd.M (Kd.int .u32) _ _ _ ((wrap64 (a0 - x27_3)) % 4294967296) [.int .u32 ((wrap64 (a0 - x27_3)) % 4294967296)] from rfl) (Reps.none _ _))); intro va5 w15 ho16 hb hg_ hnew_; clear hg_ hnew_; (first | rw [← Nya4.out] at ho16 | (simp only [Int.reduceToNat] at ho16; rw [← Nya4.out] at ho16)); replace HO_6 := yVe HO_6 ho16 hb; have HOa6 := yRl ho16 HB; replace HB := yS HB hb; clear hb ho16; obtain ⟨Ao17, co17, rfl⟩ := Kd.V_slice HO_6.out; obtain ⟨Ao18, co18, rfl⟩ := Kd.R_slice HOa6.out) | ((with_reducible refine gC 116 ?_); refine zG (some 37) Try.func116 #[.slice Ao17 x6_3.length co17, .slice Ao18 ya4.length co18] ?_; (with_reducible refine (nat_times.calls k3 _ _ x6_3 _ _ ya4 ta7 _ ?side1 ?side2 ?side3 ?side4 A13.out).mono ?_); (case side1 => exact zC (Kd.V_reads' HO_6.out).2.2); (case side2 => exact (Kd.V_reads' HO_6.out).2.1); (case side3 => exact zC (Kd.R_reads' HOa6.out).2.2); (case side4 => exact (Kd.R_reads' HOa6.out).2.1); rintro e w19 ⟨va8, rfl, ho0, hb⟩; refine ⟨_, rfl, ?_⟩; replace HO_6 := yVb HO_6 hb; have HOa9 := zk (Kd.V_lower (Kd.V_mono (ok' := fun k_ => some k_ ≠ (.slice Ao18 ya4.length co18 : Value).ownBlock) ho0 (fun k_ hk_ => (Kd.fresh' (Kd.R_lt (zR HOa6.out)) k_ hk_))) (below_size (zB HB.out))); replace HOa6 := yRb HOa6 hb; replace HB := yS HB hb; (try clear hb ho0); obtain ⟨Ao20, co20, rfl⟩ := Kd.V_slice HOa9.out) | ((with_reducible refine gC 115 ?_); refine zG (some 41) Try.func115 #[.slice Ao20 ta7.length co20, .int .u32 ((wrap64 (x27_3 + 1)) % 4294967296)] ?_; (with_reducible refine (nat_digit.calls k3 _ _ ta7 ((wrap64 (x27_3 + 1)) % 4294967296) tb0 tb3 _ ?side1 ?side2 A14.out).mono ?_); (case side1 => exact zC (Kd.V_reads' HOa9.out).2.2); (case side2 => exact (Kd.V_reads' HOa9.out).2.1); rintro e w21 ⟨vb1, rfl, ho0, hb⟩; refine ⟨_, rfl, ?_⟩; replace HO_6 := yVb HO_6 hb; replace HOa9 := yVb HOa9 hb; have HOb2 := zk (Kd.V_lower (Kd.V_mono (ok' := fun k_ => some k_ ≠ (.slice Ao18 ya4.length co18 : Value).ownBlock) ho0 (fun k_ hk_ => (Kd.fresh' (Kd.R_lt (zR HOa6.out)) k_ hk_))) (below_size (zB HB.out))); replace HOa6 := yRb HOa6 hb; replace HB := yS HB hb; (try clear hb ho0)))
   go_roundg k3
   case measure => have := HJ2.out; have := HJ5.out; have := HK3.out; omega
   case rel => exact ⟨(tb0), (wrap64 (x27_3 + 1)), zF, H', ⟨by have := HJ2.out; have := HJ5.out; have := HK3.out; omega⟩, ⟨by (with_reducible repeat (first | apply Kd.V_alloc | apply Kd.V_drewN | apply Kd.V_drew)); exact Kd.V_mono HOb2.out (fun _ hk => trivial)⟩, ⟨zB HB.out⟩⟩
 replace H := zb H
 obtain ⟨tb4, A22, H⟩ := H
 simp only [Option.some.injEq, Prod.mk.injEq] at H
 obtain ⟨rfl, rfl⟩ := H
 obtain ⟨Ao23, co23, rfl⟩ := Kd.V_slice HO_6.out
 go_wp2_with (first | ((with_reducible refine gC 103 ?_); refine zG (some 46) Try.func103 #[.slice Ao23 x6_3.length co23] ?_; (with_reducible refine (nat_Trim.calls k3 _ _ x6_3 tb4 _ ?side1 ?side2 A22.out).mono ?_); (case side1 => exact zC (Kd.V_reads' HO_6.out).2.2); (case side2 => exact (Kd.V_reads' HO_6.out).2.1); rintro e w24 ⟨vb5, rfl, ho0, hb⟩; refine ⟨_, rfl, ?_⟩; replace HO_6 := yVe HO_6 ho0 hb; have HOb6 := yRl ho0 HB; replace HB := yS HB hb; (try clear hb ho0)))
 go_ret2
 exact ⟨_, by first | rfl | (simp [errW_none, errW_some] <;> rfl) | (simp only [← hji9]; first | rfl | (simp [errW_none, errW_some] <;> rfl)) | (simp [*, errW_none, errW_some] <;> rfl), zR HOb6.out, zB HB.out⟩
set_option maxHeartbeats 8000000 in
set_option maxRecDepth 100000 in
theorem nat_plus.calls (k : Nat) (P0_ : Nat → Prop) (A0 : Option Addr) (c0 : Nat) (l0 : List Int) (P1_ : Nat → Prop) (A1 : Option Addr) (c1 : Nat) (l1 : List Int) (r : List Int) (w : World) (hs0 : Kd.V (Kd.int .u32) 97 w w.heap.size (fun k_ => P0_ k_) (.slice A0 l0.length c0) l0) (hs1 : Kd.V (Kd.int .u32) 97 w w.heap.size (fun k_ => P1_ k_) (.slice A1 l1.length c1) l1) (h : nat_plus.f k l0 l1 = some r) :
    Calls Try.prog 117 #[.slice A0 l0.length c0, .slice A1 l1.length c1] w fun e w' => ∃ v0_ : Value, e = .returned (v0_) ∧ Kd.V (Kd.int .u32) 97 w' w.heap.size (fun k_ => ((P0_ k_ ∨ P1_ k_) ∨ w.heap.size ≤ k_)) v0_ r ∧ Below w.heap.size w w' := by
 have HO0 := zk (show Kd.V (Kd.int .u32) 97 w w.heap.size (fun k_ => ((P0_ k_ ∨ P1_ k_) ∨ w.heap.size ≤ k_)) (.slice A0 l0.length c0) l0 from Kd.V_mono hs0 (fun k_ hk => .inl (.inl hk)))
 have HO1 := zk (show Kd.V (Kd.int .u32) 97 w w.heap.size (fun k_ => ((P0_ k_ ∨ P1_ k_) ∨ w.heap.size ≤ k_)) (.slice A1 l1.length c1) l1 from Kd.V_mono hs1 (fun k_ hk => .inl (.inr hk)))
 have HB := zk (Below.refl w.heap.size w)
 have H := h
 clear h
 unfold nat_plus.f at H
 have HC3 := zk H
 clear H
 go_enter Try.func117, Try.ntmps117
 go_upto_if 13 with (fail)
 go_cut [0, 1] (fun v0 v1 wc => ∃ (kq : Nat) (x0_2 : List Int) (x1_2 : List Int), Aside0 (nat_plus.j0 kq x0_2 x1_2 = some r) ∧ Aside0 (kq ≤ k) ∧ Aside0 (Kd.V (Kd.int .u32) 97 wc w.heap.size (fun k_ => ((P0_ k_ ∨ P1_ k_) ∨ w.heap.size ≤ k_)) v0 x0_2) ∧ Aside0 (Kd.V (Kd.int .u32) 97 wc w.heap.size (fun k_ => ((P0_ k_ ∨ P1_ k_) ∨ w.heap.size ≤ k_)) v1 x1_2) ∧ Aside0 (Below w.heap.size w wc))
 case first =>
  have H := HC3.out
  clear HC3
  replace H := zi H
  rcases H with ⟨c4, H⟩ | ⟨c4, H⟩
  · have c4b0 := decide_eq_true c4
    have c4b1 : decide (l0.length < l1.length) = true := decide_eq_true (Int.ofNat_lt.mp c4)
    clear c4
    (first | rw [c4b0] | (simp only [i64_w, i32_w]; rw [c4b0]) | rw [c4b1] | skip)
    have H' := zk H
    clear H
    go_wp2
    go_meet
    case rel => exact ⟨_, (l1), (l0), H', ⟨zO⟩, ⟨zV HO1.out⟩, ⟨zV HO0.out⟩, ⟨zB HB.out⟩⟩
  have c4b0 := decide_eq_false c4
  have c4b1 : decide (l0.length < l1.length) = false := decide_eq_false (fun h => c4 (Int.ofNat_lt.mpr h))
  clear c4
  (first | rw [c4b0] | (simp only [i64_w, i32_w]; rw [c4b0]) | rw [c4b1] | skip)
  have H' := zk H
  clear H
  go_wp2
  go_meet
  case rel => exact ⟨_, (l0), (l1), H', ⟨zO⟩, ⟨zV HO0.out⟩, ⟨zV HO1.out⟩, ⟨zB HB.out⟩⟩
 clear HC3
 (try clear c4);(try clear c4b0);(try clear c4b1)
 obtain ⟨kq, x0_2, x1_2, HA, HJ2, HO_0, HO_1, HB⟩ := hcut
 cases kq with | zero => exact absurd HA.out (by simp [nat_plus.j0]) | succ kj2 => ?_
 have H := HA.out
 clear HA
 simp only [nat_plus.j0] at H
 obtain ⟨ji5, hji5⟩ : ∃ j_ : Int, (wrap64 ((x0_2.length : Int) + 1)) = j_ := ⟨_, rfl⟩
 replace H : (if 0 ≤ (ji5) then (if (ji5 : Int).toNat ≤ 70368744177664 then (nat_plus.l0 kj2 x0_2 x1_2 (List.replicate (ji5 : Int).toNat 0) 0 (x0_2.length : Int) 0) else (none)) else (none)) = some r := by first | (rw [hji5] at H; exact H) | (simp only [hji5] at H ⊢; exact H)
 have hji5w : (IntKind.i64.wrap ((x0_2.length : Int) + 1)) = ji5 := (i64_w _).trans hji5
 replace H := zg H
 obtain ⟨c6, H⟩ := H
 have c6b0 := eq_true c6
 have c6b1 := decide_eq_true c6
 clear c6
 replace H := zg H
 obtain ⟨c7, H⟩ := H
 have c7b0 := eq_true c7
 have c7b1 := decide_eq_true c7
 clear c7
 obtain ⟨ya1, hya1⟩ : ∃ y_ : List Int, y_ = (List.replicate (ji5 : Int).toNat 0) := ⟨_, rfl⟩
 replace H : (nat_plus.l0 kj2 x0_2 x1_2 ya1 0 (x0_2.length : Int) 0) = some r := zY hya1 H
 have Nya1 := zk hya1
 clear hya1
 have H' := zk H
 clear H
 obtain ⟨Ao8, co8, rfl⟩ := Kd.V_slice HO_0.out
 go_wp2_with (first | ((with_reducible refine gate_dst (N := 19) rfl ?_); refine Kd.R_make (Kd.int .u32) _ 97 rfl (N := 19) rfl 29 _ _ rfl ji5 rfl rfl Try.underlying29 (.int .u32 0) 4 info97 rfl (by decide) (by omega) 0 (ok := fun _ => True) (okp := fun _ => True) rfl (fun _ hk => hk) trivial zd (Nat.le_trans (Nat.mul_le_mul_right _ (zd : ji5.toNat ≤ 70368744177664)) (by omega)) (Below.refl _ _) (Nat.le_refl _) ?_; intro va2 w9 ho10 hb hg_ hnew_; clear hg_ hnew_; (first | rw [← Nya1.out] at ho10 | (simp only [Int.reduceToNat] at ho10; rw [← Nya1.out] at ho10)); replace HO_0 := yVe HO_0 ho10 hb; replace HO_1 := yVe HO_1 ho10 hb; replace ho10 := Kd.R_newM (M := fun k_ => (w.heap.size ≤ k_)) ho10 (below_size (zB HB.out)) (fun k_ h_ => h_); have HOa3 := yRl ho10 HB; replace HB := yS HB hb; clear hb ho10))
 go_loopg [6, 22] kj2 (fun kq v6 v22 w' => ∃ (x5_2 : List Int) (x6_2 : Int) (x22_2 : Int), v6 = .int .u64 x6_2 ∧ v22 = .int .i64 x22_2 ∧ Aside0 (nat_plus.l0 kq x0_2 x1_2 x5_2 x6_2 (x0_2.length : Int) x22_2 = some r) ∧ Aside0 (kq ≤ kj2) ∧ Aside0 (Kd.V (Kd.int .u32) 97 w' w.heap.size (fun k_ => ((P0_ k_ ∨ P1_ k_) ∨ w.heap.size ≤ k_) ∧ some k_ ≠ (va2 : Value).ownBlock) (.slice Ao8 x0_2.length co8) x0_2) ∧ Aside0 (Kd.V (Kd.int .u32) 97 w' w.heap.size (fun k_ => ((P0_ k_ ∨ P1_ k_) ∨ w.heap.size ≤ k_) ∧ some k_ ≠ (va2 : Value).ownBlock) u1 x1_2) ∧ Aside0 (Kd.R (Kd.int .u32) 97 w' w.heap.size (fun k_ => (w.heap.size ≤ k_)) va2 x5_2) ∧ Aside0 (Below w.heap.size w w'))
 case atStart => exact ⟨(ya1), (0), (0), zF, zF, H', ⟨Nat.le_refl _⟩, ⟨zV HO_0.out⟩, ⟨zV HO_1.out⟩, ⟨by (with_reducible repeat (first | apply Kd.R_alloc | apply Kd.R_drewN | apply Kd.R_drew)); exact Kd.R_mono HOa3.out (fun _ hk => hk.1)⟩, ⟨zB HB.out⟩⟩
 clear H'
 (try clear c4);(try clear c4b0);(try clear c4b1);(try clear c6);(try clear c6b0);(try clear c6b1);(try clear c7);(try clear c7b0);(try clear c7b1)
 obtain ⟨x5_2, x6_2, x22_2, rfl, rfl, HA, HK2, HO_0, HO_1, HO_5, HB⟩ := hrel
 cases gk with | zero => exact absurd HA.out (by simp [nat_plus.l0]) | succ k2 => ?_
 have H := HA.out
 clear HA
 simp only [nat_plus.l0] at H
 replace H := zid H
 rcases H with ⟨c11b0, H⟩ | ⟨c11b0, H⟩
 · replace H := zgd H
   obtain ⟨c12b0, H⟩ := H
   replace H := zgd H
   obtain ⟨c13b0, H⟩ := H
   replace H := zid H
   rcases H with ⟨c14b0, H⟩ | ⟨c14b0, H⟩
   · replace H := zgd H
     obtain ⟨c15b0, H⟩ := H
     obtain ⟨ya6, hya6⟩ : ∃ y_ : List Int, y_ = (x5_2.set (x22_2 : Int).toNat ((IntKind.u64.wrap ((IntKind.u64.wrap ((IntKind.u64.wrap (rd x0_2 x22_2)) + x6_2)) + (IntKind.u64.wrap (rd x1_2 x22_2)))) % 4294967296)) := ⟨_, rfl⟩
     replace H : (nat_plus.l0 k2 x0_2 x1_2 ya6 ((IntKind.u64.wrap ((IntKind.u64.wrap ((IntKind.u64.wrap (rd x0_2 x22_2)) + x6_2)) + (IntKind.u64.wrap (rd x1_2 x22_2)))) / 4294967296) (x0_2.length : Int) (wrap64 (x22_2 + 1))) = some r := zY hya6 H
     have Nya6 := zk hya6
     clear hya6
     have H' := zk H
     clear H
     have pa4 : 0 ≤ (x22_2 : Int) := zd
     have qa4 : x22_2 < (x0_2.length : Int) := zd
     obtain ⟨ada4, ea4, hxa4_0⟩ := Kd.at_int (Kd.V_reads' HO_0.out).2.2 x22_2 pa4 qa4
     cases ea4
     replace pa4 := eq_true pa4
     replace qa4 := eq_true qa4
     obtain ⟨Ao17, co17, rfl⟩ := Kd.V_slice HO_1.out
     have pa5 : 0 ≤ (x22_2 : Int) := zd
     have qa5 : x22_2 < (x1_2.length : Int) := zd
     obtain ⟨ada5, ea5, hxa5_0⟩ := Kd.at_int (Kd.V_reads' HO_1.out).2.2 x22_2 pa5 qa5
     cases ea5
     replace pa5 := eq_true pa5
     replace qa5 := eq_true qa5
     have p16 : 0 ≤ (x22_2 : Int) := zd
     have q16 : (x22_2 : Int) < ((x5_2.length : Int) : Int) := zd
     obtain ⟨go16, co16, eo16, gb16, gl16, cl16, HG16⟩ := Kd.R_form HO_5.out (by omega)
     (first | cases eo16 | (injection eo16 with ea_ en_ ec_; (first | subst ea_ | (injection ea_ with ea_; subst ea_)); subst ec_; clear en_))
     have GB16 := zk gb16
     have GG16 := zk HG16
     clear gb16 gl16 HG16
     obtain ⟨hx16_0, hf16_0⟩ := Kd.R_celln 0 HO_5.out (x22_2 : Int) p16 q16
     replace p16 := eq_true p16
     replace q16 := eq_true q16
     have HP18 := Kd.R_putg HO_5.out (x22_2 : Int) ((IntKind.u64.wrap ((IntKind.u64.wrap ((IntKind.u64.wrap (rd x0_2 x22_2)) + x6_2)) + (IntKind.u64.wrap (rd x1_2 x22_2)))) % 4294967296)
     go_wp2_with (first | ((with_reducible refine gate_store (t := 97) (p := 47) rfl ?_); refine store_event (t := 97) (p := 47) (v := ?vo_w19) (w1 := (wr.setCell ⟨go16, (x22_2 : Int).toNat, none⟩ (.int .u32 ((IntKind.u64.wrap ((IntKind.u64.wrap ((IntKind.u64.wrap (rd x0_2 x22_2)) + x6_2)) + (IntKind.u64.wrap (rd x1_2 x22_2)))) % 4294967296)))) ?hg ?ho ?hn ?hr ?_; (case ho => rfl); (case hg => rfl); (case hn => rfl); (case hr => first | (go_simp; done) | (go_simp; rfl)); intro w19 hw; have hg : wr.grownBy w19 (some go16) := (by rw [hw]; exact HP18.2); have hp_ : Kd.R (Kd.int .u32) 97 w19 w.heap.size (fun k_ => (w.heap.size ≤ k_)) (.slice (some ⟨go16, 0, none⟩) x5_2.length co16) ya6 := (by rw [hw, Nya6.out]; exact HP18.1); clear HP18; replace HO_0 := zk (Kd.V_afterv (v := (.slice (some ⟨go16, 0, none⟩) x5_2.length co16)) (v1 := (.slice (some ⟨go16, 0, none⟩) x5_2.length co16)) (ok := (fun k_ => ((P0_ k_ ∨ P1_ k_) ∨ w.heap.size ≤ k_))) (zV HO_0.out) hg (.inl rfl)); replace HO_1 := zk (Kd.V_afterv (v := (.slice (some ⟨go16, 0, none⟩) x5_2.length co16)) (v1 := (.slice (some ⟨go16, 0, none⟩) x5_2.length co16)) (ok := (fun k_ => ((P0_ k_ ∨ P1_ k_) ∨ w.heap.size ≤ k_))) (zV HO_1.out) hg (.inl rfl)); replace HO_5 := zk (hp_); replace HB := zk ((by rw [hw]; exact below_set (HB.out) GB16.out : Below w.heap.size w w19)); clear hg hw hp_))
     go_roundg k2
     case measure => have := HJ2.out; have := HK2.out; omega
     case rel => exact ⟨(ya6), ((IntKind.u64.wrap ((IntKind.u64.wrap ((IntKind.u64.wrap (rd x0_2 x22_2)) + x6_2)) + (IntKind.u64.wrap (rd x1_2 x22_2)))) / 4294967296), (wrap64 (x22_2 + 1)), zF, zF, H', ⟨zo2 HJ2 HK2⟩, ⟨zV HO_0.out⟩, ⟨zV HO_1.out⟩, ⟨zR HO_5.out⟩, ⟨zB HB.out⟩⟩
   replace H := zgd H
   obtain ⟨c20b0, H⟩ := H
   obtain ⟨ya7, hya7⟩ : ∃ y_ : List Int, y_ = (x5_2.set (x22_2 : Int).toNat ((IntKind.u64.wrap ((IntKind.u64.wrap (rd x0_2 x22_2)) + x6_2)) % 4294967296)) := ⟨_, rfl⟩
   replace H : (nat_plus.l0 k2 x0_2 x1_2 ya7 ((IntKind.u64.wrap ((IntKind.u64.wrap (rd x0_2 x22_2)) + x6_2)) / 4294967296) (x0_2.length : Int) (wrap64 (x22_2 + 1))) = some r := zY hya7 H
   have Nya7 := zk hya7
   clear hya7
   have H' := zk H
   clear H
   have pa4 : 0 ≤ (x22_2 : Int) := zd
   have qa4 : x22_2 < (x0_2.length : Int) := zd
   obtain ⟨ada4, ea4, hxa4_0⟩ := Kd.at_int (Kd.V_reads' HO_0.out).2.2 x22_2 pa4 qa4
   cases ea4
   replace pa4 := eq_true pa4
   replace qa4 := eq_true qa4
   obtain ⟨Ao22, co22, rfl⟩ := Kd.V_slice HO_1.out
   have p21 : 0 ≤ (x22_2 : Int) := zd
   have q21 : (x22_2 : Int) < ((x5_2.length : Int) : Int) := zd
   obtain ⟨go21, co21, eo21, gb21, gl21, cl21, HG21⟩ := Kd.R_form HO_5.out (by omega)
   (first | cases eo21 | (injection eo21 with ea_ en_ ec_; (first | subst ea_ | (injection ea_ with ea_; subst ea_)); subst ec_; clear en_))
   have GB21 := zk gb21
   have GG21 := zk HG21
   clear gb21 gl21 HG21
   obtain ⟨hx21_0, hf21_0⟩ := Kd.R_celln 0 HO_5.out (x22_2 : Int) p21 q21
   replace p21 := eq_true p21
   replace q21 := eq_true q21
   have HP23 := Kd.R_putg HO_5.out (x22_2 : Int) ((IntKind.u64.wrap ((IntKind.u64.wrap (rd x0_2 x22_2)) + x6_2)) % 4294967296)
   go_wp2_with (first | ((with_reducible refine gate_store (t := 97) (p := 47) rfl ?_); refine store_event (t := 97) (p := 47) (v := ?vo_w24) (w1 := (wr.setCell ⟨go21, (x22_2 : Int).toNat, none⟩ (.int .u32 ((IntKind.u64.wrap ((IntKind.u64.wrap (rd x0_2 x22_2)) + x6_2)) % 4294967296)))) ?hg ?ho ?hn ?hr ?_; (case ho => rfl); (case hg => rfl); (case hn => rfl); (case hr => first | (go_simp; done) | (go_simp; rfl)); intro w24 hw; have hg : wr.grownBy w24 (some go21) := (by rw [hw]; exact HP23.2); have hp_ : Kd.R (Kd.int .u32) 97 w24 w.heap.size (fun k_ => (w.heap.size ≤ k_)) (.slice (some ⟨go21, 0, none⟩) x5_2.length co21) ya7 := (by rw [hw, Nya7.out]; exact HP23.1); clear HP23; replace HO_0 := zk (Kd.V_afterv (v := (.slice (some ⟨go21, 0, none⟩) x5_2.length co21)) (v1 := (.slice (some ⟨go21, 0, none⟩) x5_2.length co21)) (ok := (fun k_ => ((P0_ k_ ∨ P1_ k_) ∨ w.heap.size ≤ k_))) (zV HO_0.out) hg (.inl rfl)); replace HO_1 := zk (Kd.V_afterv (v := (.slice (some ⟨go21, 0, none⟩) x5_2.length co21)) (v1 := (.slice (some ⟨go21, 0, none⟩) x5_2.length co21)) (ok := (fun k_ => ((P0_ k_ ∨ P1_ k_) ∨ w.heap.size ≤ k_))) (zV HO_1.out) hg (.inl rfl)); replace HO_5 := zk (hp_); replace HB := zk ((by rw [hw]; exact below_set (HB.out) GB21.out : Below w.heap.size w w24)); clear hg hw hp_))
   go_roundg k2
   case measure => have := HJ2.out; have := HK2.out; omega
   case rel => exact ⟨(ya7), ((IntKind.u64.wrap ((IntKind.u64.wrap (rd x0_2 x22_2)) + x6_2)) / 4294967296), (wrap64 (x22_2 + 1)), zF, zF, H', ⟨zo2 HJ2 HK2⟩, ⟨zV HO_0.out⟩, ⟨zV HO_1.out⟩, ⟨zR HO_5.out⟩, ⟨zB HB.out⟩⟩
 replace H := zg H
 obtain ⟨c25, H⟩ := H
 have c25b0 := decide_eq_true c25
 have c25b1 : decide (0 ≤ x0_2.length) = true := decide_eq_true (by omega)
 clear c25
 replace H := zg H
 obtain ⟨c26, H⟩ := H
 have c26b0 := decide_eq_true c26
 have c26b1 : decide (x0_2.length < x5_2.length) = true := decide_eq_true (Int.ofNat_lt.mp c26)
 clear c26
 obtain ⟨ya8, hya8⟩ : ∃ y_ : List Int, y_ = (x5_2.set ((x0_2.length : Int) : Int).toNat ((x6_2) % 4294967296)) := ⟨_, rfl⟩
 replace H : ((nat_short.f k2 ya8).bind fun ta9 => (some ta9)) = some r := zY hya8 H
 have Nya8 := zk hya8
 clear hya8
 replace H := zb H
 obtain ⟨ta9, A28, H⟩ := H
 obtain rfl := Option.some.inj H
 have p27 : 0 ≤ ((x0_2.length : Int) : Int) := zd
 have q27 : ((x0_2.length : Int) : Int) < ((x5_2.length : Int) : Int) := zd
 obtain ⟨go27, co27, eo27, gb27, gl27, cl27, HG27⟩ := Kd.R_form HO_5.out (by omega)
 (first | cases eo27 | (injection eo27 with ea_ en_ ec_; (first | subst ea_ | (injection ea_ with ea_; subst ea_)); subst ec_; clear en_))
 have GB27 := zk gb27
 have GG27 := zk HG27
 clear gb27 gl27 HG27
 obtain ⟨hx27_0, hf27_0⟩ := Kd.R_celln 0 HO_5.out ((x0_2.length : Int) : Int) p27 q27
 replace p27 := eq_true p27
 replace q27 := eq_true q27
 obtain ⟨hy29_, hz29_⟩ := Kd.R_celln 0 HO_5.out ((x0_2.length : Int) : Int) zd zd
 (try simp only [Go.IntWalk.toNatUp] at hy29_ hz29_)
 have HP29 := Kd.R_putg HO_5.out ((x0_2.length : Int) : Int) ((x6_2) % 4294967296)
 go_wp2_with (first | ((with_reducible refine gate_store (t := 97) (p := 56) rfl ?_); refine store_event (t := 97) (p := 56) (v := ?vo_w30) (w1 := (wr.setCell ⟨go27, ((x0_2.length : Int) : Int).toNat, none⟩ (.int .u32 ((x6_2) % 4294967296)))) ?hg ?ho ?hn ?hr ?_; (case ho => rfl); (case hg => rfl); (case hn => rfl); (case hr => first | (go_simp; done) | (go_simp; rfl)); intro w30 hw; have hg : wr.grownBy w30 (some go27) := (by rw [hw]; exact HP29.2); have hp_ : Kd.R (Kd.int .u32) 97 w30 w.heap.size (fun k_ => (w.heap.size ≤ k_)) (.slice (some ⟨go27, 0, none⟩) x5_2.length co27) ya8 := (by rw [hw, Nya8.out]; exact HP29.1); clear HP29; replace HO_0 := zk (Kd.V_afterv (v := (.slice (some ⟨go27, 0, none⟩) x5_2.length co27)) (v1 := (.slice (some ⟨go27, 0, none⟩) x5_2.length co27)) (ok := (fun k_ => ((P0_ k_ ∨ P1_ k_) ∨ w.heap.size ≤ k_))) (zV HO_0.out) hg (.inl rfl)); replace HO_1 := zk (Kd.V_afterv (v := (.slice (some ⟨go27, 0, none⟩) x5_2.length co27)) (v1 := (.slice (some ⟨go27, 0, none⟩) x5_2.length co27)) (ok := (fun k_ => ((P0_ k_ ∨ P1_ k_) ∨ w.heap.size ≤ k_))) (zV HO_1.out) hg (.inl rfl)); replace HO_5 := zk (hp_); replace HB := zk ((by rw [hw]; exact below_set (HB.out) GB27.out : Below w.heap.size w w30)); clear hg hw hp_) | ((with_reducible refine gC 118 ?_); refine goesL_ (some 58) rfl rfl Try.func118 (by kernel_rfl) rfl #[.slice (some ⟨go27, 0, none⟩) ya8.length co27] rfl (by (try simp only [List.map_toArray, List.map_cons, List.map_nil]); first | done | (rw [show ya8.length = x5_2.length from (Kd.R_reads' HO_5.out).1.symm] <;> rfl) | rfl | (simp only [List.length_drop, List.length_take]; rfl)) ?_; (with_reducible refine (nat_short.calls k2 (fun k_ => some k_ = (.slice (some ⟨go27, 0, none⟩) x5_2.length co27 : Value).ownBlock) _ _ ya8 ta9 _ ?side1 A28.out).mono ?_); (case side1 => rw [show ya8.length = x5_2.length from (Kd.R_reads' HO_5.out).1.symm]; exact Kd.R_V (Kd.R_tight rfl (HO_5.out))); rintro e w31 ⟨vb0, rfl, ho0, hb⟩; refine ⟨_, rfl, ?_⟩; replace HO_0 := yVb HO_0 hb; replace HO_1 := yVb HO_1 hb; have HOb1 := zk (Kd.V_lower (Kd.V_mono (ok' := fun k_ => ((P0_ k_ ∨ P1_ k_) ∨ w.heap.size ≤ k_)) ho0 (fun k_ hk_ => Or.elim hk_ (fun hs_ => (.inr (((HO_5.out).1 k_ hs_.symm)))) (fun hn_ => (.inr (Nat.le_trans (below_size (zB HB.out)) hn_))))) (below_size (zB HB.out))); replace HO_5 := yRb HO_5 hb; replace HB := yS HB hb; (try clear hb ho0)))
 go_ret
 exact ⟨_, by first | rfl | (simp [errW_none, errW_some] <;> rfl) | (simp only [← hji5]; first | rfl | (simp [errW_none, errW_some] <;> rfl)) | (simp [*, errW_none, errW_some] <;> rfl), zV HOb1.out, zB HB.out⟩
set_option maxHeartbeats 8000000 in
set_option maxRecDepth 100000 in
theorem nat_Add.calls (k : Nat) (A0 : Option Addr) (c0 : Nat) (l0 : List (List Int)) (r : List Int) (w : World) (hr0 : Kd.C (Kd.slice 97 (Kd.int .u32)) w A0 l0.length l0) (hc0 : l0.length ≤ c0) (h : nat_Add.f k l0 = some r) :
    Calls Try.prog 73 #[.slice A0 l0.length c0] w fun e w' => ∃ v0_ : Value, e = .returned (v0_) ∧ Kd.R (Kd.int .u32) 97 w' w.heap.size (fun _ => True) v0_ r ∧ Below w.heap.size w w' := by
 have HR0 := zk hr0
 have HC0 := zk hc0
 clear hr0 hc0
 have HB := zk (Below.refl w.heap.size w)
 have H := h
 clear h
 unfold nat_Add.f at H
 have H' := zk H
 clear H
 go_enter Try.func73, Try.ntmps73
 go_wp2
 go_loopg [3, 8] k (fun kq v3 v8 w' => ∃ (x3_1 : List Int) (x8_1 : Int), v8 = .int .i64 x8_1 ∧ Aside0 (nat_Add.l0 kq x3_1 l0 (l0.length : Int) x8_1 = some r) ∧ Aside0 (kq ≤ k) ∧ Aside0 (Kd.V (Kd.int .u32) 97 w' w.heap.size (fun _ => True) v3 x3_1) ∧ Aside0 (Below w.heap.size w w'))
 case atStart => exact ⟨(([] : List Int)), (0), zF, H', ⟨Nat.le_refl _⟩, ⟨by exact Kd.V_nil _ _ _ _ _⟩, ⟨zB HB.out⟩⟩
 clear H'
 obtain ⟨x3_1, x8_1, rfl, HA, HK1, HO_3, HB⟩ := hrel
 cases gk with | zero => exact absurd HA.out (by simp [nat_Add.l0]) | succ k1 => ?_
 have H := HA.out
 clear HA
 simp only [nat_Add.l0] at H
 replace H := zid H
 rcases H with ⟨c2b0, H⟩ | ⟨c2b0, H⟩
 · replace H := zgd H
   obtain ⟨c3b0, H⟩ := H
   replace H := zgd H
   obtain ⟨c4b0, H⟩ := H
   replace H := zb H
   obtain ⟨ta2, A5, H⟩ := H
   replace H := zb H
   obtain ⟨ta5, A6, H⟩ := H
   have H' := zk H
   clear H
   have pa1 : 0 ≤ (x8_1 : Int) := zd
   have qa1 : x8_1 < (l0.length : Int) := zd
   obtain ⟨ada1, Aa1_0, ca1_0, ea1, hxa1_0, hla1_0, hia1_0⟩ := at_L3 HR0.out x8_1 pa1 qa1
   cases ea1
   replace hxa1_0 := (HB.out.cell (World.block_lt_of_cell? w _ hxa1_0)).trans hxa1_0
   have HRa1_0 := zk hia1_0
   have HCa1_0 := zk hla1_0
   clear hia1_0 hla1_0
   replace pa1 := eq_true pa1
   replace qa1 := eq_true qa1
   go_wp2_with (first | ((with_reducible refine gC 118 ?_); refine zG (some 14) Try.func118 #[.slice Aa1_0 (rd_L3 l0 x8_1).length ca1_0] ?_; (with_reducible refine (nat_short.calls k1 (fun k_ => k_ < w.heap.size) _ _ (rd_L3 l0 x8_1) ta2 _ ?side1 A5.out).mono ?_); (case side1 => exact Kd.V_mk HCa1_0.out (Kd.F_below (Kd.C_F (Kd.heap_int .u32) HRa1_0.out) (zB HB.out))); rintro e w7 ⟨va3, rfl, ho0, hb⟩; refine ⟨_, rfl, ?_⟩; replace HO_3 := yVb HO_3 hb; have HOa4 := yVm ho0 HB; replace HB := yS HB hb; (try clear hb ho0); obtain ⟨Ao8, co8, rfl⟩ := Kd.V_slice HO_3.out; obtain ⟨Ao9, co9, rfl⟩ := Kd.V_slice HOa4.out) | ((with_reducible refine gC 117 ?_); refine zG (some 15) Try.func117 #[.slice Ao8 x3_1.length co8, .slice Ao9 ta2.length co9] ?_; (with_reducible refine (nat_plus.calls k1 (fun k_ => True) _ _ x3_1 (fun k_ => True) _ _ ta2 ta5 _ ?side1 ?side2 A6.out).mono ?_); (case side1 => exact HO_3.out); (case side2 => exact HOa4.out); rintro e w10 ⟨va6, rfl, ho0, hb⟩; refine ⟨_, rfl, ?_⟩; replace HO_3 := yVb HO_3 hb; replace HOa4 := yVb HOa4 hb; have HOa7 := yVm ho0 HB; replace HB := yS HB hb; (try clear hb ho0)))
   go_roundg k1
   case measure => have := HK1.out; omega
   case rel => exact ⟨(ta5), (wrap64 (x8_1 + 1)), zF, H', ⟨zo1 HK1⟩, ⟨zV HOa7.out⟩, ⟨zB HB.out⟩⟩
 replace H := zb H
 obtain ⟨ta8, A11, H⟩ := H
 obtain rfl := Option.some.inj H
 obtain ⟨Ao12, co12, rfl⟩ := Kd.V_slice HO_3.out
 go_wp2_with (first | ((with_reducible refine gC 103 ?_); refine zG (some 18) Try.func103 #[.slice Ao12 x3_1.length co12] ?_; (with_reducible refine (nat_Trim.calls k1 _ _ x3_1 ta8 _ ?side1 ?side2 A11.out).mono ?_); (case side1 => exact zC (Kd.V_reads' HO_3.out).2.2); (case side2 => exact (Kd.V_reads' HO_3.out).2.1); rintro e w13 ⟨va9, rfl, ho0, hb⟩; refine ⟨_, rfl, ?_⟩; replace HO_3 := yVe HO_3 ho0 hb; have HOb0 := yRl ho0 HB; replace HB := yS HB hb; (try clear hb ho0)))
 go_ret
 exact ⟨_, zE, zR HOb0.out, zB HB.out⟩
set_option maxHeartbeats 8000000 in
set_option maxRecDepth 100000 in
theorem nat_Mul.calls (k : Nat) (A0 : Option Addr) (c0 : Nat) (l0 : List (List Int)) (r : List Int) (w : World) (hr0 : Kd.C (Kd.slice 97 (Kd.int .u32)) w A0 l0.length l0) (hc0 : l0.length ≤ c0) (h : nat_Mul.f k l0 = some r) :
    Calls Try.prog 74 #[.slice A0 l0.length c0] w fun e w' => ∃ v0_ : Value, e = .returned (v0_) ∧ Kd.R (Kd.int .u32) 97 w' w.heap.size (fun _ => True) v0_ r ∧ Below w.heap.size w w' := by
 have HR0 := zk hr0
 have HC0 := zk hc0
 clear hr0 hc0
 have HB := zk (Below.refl w.heap.size w)
 have H := h
 clear h
 unfold nat_Mul.f at H
 obtain ⟨ya1, hya1⟩ : ∃ y_ : List Int, y_ = (([1] : List Int)) := ⟨_, rfl⟩
 replace H : (nat_Mul.l0 k ya1 l0 (l0.length : Int) 0) = some r := zY hya1 H
 have Nya1 := zk hya1
 clear hya1
 have H' := zk H
 clear H
 go_enter Try.func74, Try.ntmps74
 go_wp2_with (first | ((with_reducible refine gate_dst (N := 6) rfl ?_); refine Kd.R_lit (Kd.int .u32) _ 97 ?hg (N := 6) ?hd (xs := ([1] : List Int)) (inner := [.int .u32 1]) (ok := fun _ => True) (okp := fun _ => True) ?hr ?hp (fun _ hk => hk) trivial (Below.refl _ _) (Nat.le_refl _) (by simp) ?_; (case hd => rfl); (case hg => rfl); (case hr => first | (go_simp; done) | (go_simp; rfl)); (case hp => exact (Reps.one (show Kd.M (Kd.int .u32) _ _ _ 1 [.int .u32 1] from rfl) (Reps.none _ _))); intro va2 w2 ho3 hb hg_ hnew_; clear hg_ hnew_; (first | rw [← Nya1.out] at ho3 | (simp only [Int.reduceToNat] at ho3; rw [← Nya1.out] at ho3)); have HOa3 := yRl ho3 HB; replace HB := yS HB hb; clear hb ho3))
 go_loopg [3, 9] k (fun kq v3 v9 w' => ∃ (x3_1 : List Int) (x9_1 : Int), v9 = .int .i64 x9_1 ∧ Aside0 (nat_Mul.l0 kq x3_1 l0 (l0.length : Int) x9_1 = some r) ∧ Aside0 (kq ≤ k) ∧ Aside0 (Kd.V (Kd.int .u32) 97 w' w.heap.size (fun _ => True) v3 x3_1) ∧ Aside0 (Below w.heap.size w w'))
 case atStart => exact ⟨(ya1), (0), zF, H', ⟨Nat.le_refl _⟩, ⟨Kd.R_V (zR HOa3.out)⟩, ⟨zB HB.out⟩⟩
 clear H'
 obtain ⟨x3_1, x9_1, rfl, HA, HK1, HO_3, HB⟩ := hrel
 cases gk with | zero => exact absurd HA.out (by simp [nat_Mul.l0]) | succ k1 => ?_
 have H := HA.out
 clear HA
 simp only [nat_Mul.l0] at H
 replace H := zid H
 rcases H with ⟨c4b0, H⟩ | ⟨c4b0, H⟩
 · replace H := zgd H
   obtain ⟨c5b0, H⟩ := H
   replace H := zgd H
   obtain ⟨c6b0, H⟩ := H
   replace H := zb H
   obtain ⟨ta5, A7, H⟩ := H
   replace H := zb H
   obtain ⟨ta8, A8, H⟩ := H
   have H' := zk H
   clear H
   have pa4 : 0 ≤ (x9_1 : Int) := zd
   have qa4 : x9_1 < (l0.length : Int) := zd
   obtain ⟨ada4, Aa4_0, ca4_0, ea4, hxa4_0, hla4_0, hia4_0⟩ := at_L3 HR0.out x9_1 pa4 qa4
   cases ea4
   replace hxa4_0 := (HB.out.cell (World.block_lt_of_cell? w _ hxa4_0)).trans hxa4_0
   have HRa4_0 := zk hia4_0
   have HCa4_0 := zk hla4_0
   clear hia4_0 hla4_0
   replace pa4 := eq_true pa4
   replace qa4 := eq_true qa4
   go_wp2_with (first | ((with_reducible refine gC 118 ?_); refine zG (some 15) Try.func118 #[.slice Aa4_0 (rd_L3 l0 x9_1).length ca4_0] ?_; (with_reducible refine (nat_short.calls k1 (fun k_ => k_ < w.heap.size) _ _ (rd_L3 l0 x9_1) ta5 _ ?side1 A7.out).mono ?_); (case side1 => exact Kd.V_mk HCa4_0.out (Kd.F_below (Kd.C_F (Kd.heap_int .u32) HRa4_0.out) (zB HB.out))); rintro e w9 ⟨va6, rfl, ho0, hb⟩; refine ⟨_, rfl, ?_⟩; replace HO_3 := yVb HO_3 hb; have HOa7 := yVm ho0 HB; replace HB := yS HB hb; (try clear hb ho0); obtain ⟨Ao10, co10, rfl⟩ := Kd.V_slice HO_3.out; obtain ⟨Ao11, co11, rfl⟩ := Kd.V_slice HOa7.out) | ((with_reducible refine gC 116 ?_); refine zG (some 16) Try.func116 #[.slice Ao10 x3_1.length co10, .slice Ao11 ta5.length co11] ?_; (with_reducible refine (nat_times.calls k1 _ _ x3_1 _ _ ta5 ta8 _ ?side1 ?side2 ?side3 ?side4 A8.out).mono ?_); (case side1 => exact zC (Kd.V_reads' HO_3.out).2.2); (case side2 => exact (Kd.V_reads' HO_3.out).2.1); (case side3 => exact zC (Kd.V_reads' HOa7.out).2.2); (case side4 => exact (Kd.V_reads' HOa7.out).2.1); rintro e w12 ⟨va9, rfl, ho0, hb⟩; refine ⟨_, rfl, ?_⟩; replace HO_3 := yVb HO_3 hb; replace HOa7 := yVb HOa7 hb; have HOb0 := yVm ho0 HB; replace HB := yS HB hb; (try clear hb ho0)))
   go_roundg k1
   case measure => have := HK1.out; omega
   case rel => exact ⟨(ta8), (wrap64 (x9_1 + 1)), zF, H', ⟨zo1 HK1⟩, ⟨zV HOb0.out⟩, ⟨zB HB.out⟩⟩
 replace H := zb H
 obtain ⟨tb1, A13, H⟩ := H
 obtain rfl := Option.some.inj H
 obtain ⟨Ao14, co14, rfl⟩ := Kd.V_slice HO_3.out
 go_wp2_with (first | ((with_reducible refine gC 103 ?_); refine zG (some 19) Try.func103 #[.slice Ao14 x3_1.length co14] ?_; (with_reducible refine (nat_Trim.calls k1 _ _ x3_1 tb1 _ ?side1 ?side2 A13.out).mono ?_); (case side1 => exact zC (Kd.V_reads' HO_3.out).2.2); (case side2 => exact (Kd.V_reads' HO_3.out).2.1); rintro e w15 ⟨vb2, rfl, ho0, hb⟩; refine ⟨_, rfl, ?_⟩; replace HO_3 := yVe HO_3 ho0 hb; have HOb3 := yRl ho0 HB; replace HB := yS HB hb; (try clear hb ho0)))
 go_ret
 exact ⟨_, zE, zR HOb3.out, zB HB.out⟩
set_option maxHeartbeats 8000000 in
set_option maxRecDepth 100000 in
theorem mw_Moment.calls (k : Nat) (P0_ : Nat → Prop) (A0 : Option Addr) (c0 : Nat) (l0 : List (List Int)) (a1 : Int) (r1 : List Int) (r2 : Int) (w : World) (hs0 : Kd.V (Kd.slice 97 (Kd.int .u32)) 29 w w.heap.size (fun k_ => P0_ k_) (.slice A0 l0.length c0) l0) (h : mw_Moment.f k l0 a1 = some (r1, r2)) :
    Calls Try.prog 20 #[.slice A0 l0.length c0, .int .i64 a1] w fun e w' => ∃ v0_ : Value, e = .returned (.tuple #[v0_, .int .i64 r2]) ∧ Kd.R (Kd.int .u32) 97 w' w.heap.size (fun k_ => (w.heap.size ≤ k_)) v0_ r1 ∧ Below w.heap.size w w' := by
 have HO0 := zk (show Kd.V (Kd.slice 97 (Kd.int .u32)) 29 w w.heap.size (fun k_ => (P0_ k_ ∨ w.heap.size ≤ k_)) (.slice A0 l0.length c0) l0 from Kd.V_mono hs0 (fun k_ hk => .inl hk))
 have HB := zk (Below.refl w.heap.size w)
 have H := h
 clear h
 unfold mw_Moment.f at H
 replace H := zb H
 obtain ⟨ta1, A3, H⟩ := H
 replace H := zi H
 rcases H with ⟨c4, H⟩ | ⟨c4, H⟩
 · have c4b0 := beq_iff_eq.mpr c4
   have c4b1 := bne_eq_false_iff_eq.mpr c4
   clear c4
   have HC5 := zk H
   clear H
   go_enter Try.func20, Try.ntmps20
   go_upto_region 5 with (first | ((with_reducible refine gC 71 ?_); refine zG (some 15) Try.func71 #[.int .i64 (l0.length : Int)] ?_; (with_reducible refine (mw_shape.calls (l0.length : Int) ta1 _ A3.out).mono ?_); rintro e w' ⟨rfl, ⟨nd, rfl⟩⟩; refine ⟨_, rfl, ?_⟩))
   (try simp only [Act.put, List.setIfInBounds_toArray, List.set_cons_zero, List.set_cons_succ])
   go_cut [28] (fun v28 wc => ∃ (kq : Nat) (x28_4 : Bool), v28 = .bool x28_4 ∧ Aside0 (mw_Moment.j0 kq l0 a1 (wrap64 ((l0.length : Int) - 1)) x28_4 = some (r1, r2)) ∧ Aside0 (kq ≤ k) ∧ Aside0 (Kd.V (Kd.slice 97 (Kd.int .u32)) 29 wc w.heap.size (fun k_ => (P0_ k_ ∨ w.heap.size ≤ k_)) (.slice A0 l0.length c0) l0) ∧ Aside0 (Below w.heap.size w wc))
   case first =>
    have H := HC5.out
    clear HC5
    replace H := zid H
    rcases H with ⟨c6b0, H⟩ | ⟨c6b0, H⟩
    · (first | rw [c6b0] | (simp only [i64_w, i32_w]; rw [c6b0]) | rw [c6b1] | skip)
      have H' := zk H
      clear H
      go_wp2
      go_meet
      case rel => exact ⟨_, (true), zF, H', ⟨zO⟩, ⟨zV HO0.out⟩, ⟨zB HB.out⟩⟩
    (first | rw [c6b0] | (simp only [i64_w, i32_w]; rw [c6b0]) | rw [c6b1] | skip)
    have H' := zk H
    clear H
    go_wp2
    go_meet
    case rel => exact ⟨_, (decide (a1 > (wrap64 ((l0.length : Int) - 1)))), zF, H', ⟨zO⟩, ⟨zV HO0.out⟩, ⟨zB HB.out⟩⟩
   clear HC5
   (try clear c4);(try clear c4b0);(try clear c4b1);(try clear c6b0)
   obtain ⟨kq, x28_4, rfl, HA, HJ4, HO_0, HB⟩ := hcut
   cases kq with | zero => exact absurd HA.out (by simp [mw_Moment.j0]) | succ kj4 => ?_
   have H := HA.out
   clear HA
   simp only [mw_Moment.j0] at H
   by_cases c7 : x28_4 = true
   · subst c7
     rw [if_pos rfl] at H
     simp only [Option.some.injEq, Prod.mk.injEq] at H
     obtain ⟨rfl, rfl⟩ := H
     go_wp2
     go_ret2
     exact ⟨_, zE, z0, zB HB.out⟩
   replace c7 := Bool.eq_false_iff.mpr c7
   subst c7
   rw [if_neg Bool.false_ne_true] at H
   have H' := zk H
   clear H
   go_wp2
   go_loopg [8, 31] kj4 (fun kq v8 v31 w' => ∃ (x8_2 : List Int) (x31_2 : Int), v31 = .int .i64 x31_2 ∧ Aside0 (mw_Moment.l0 kq a1 (wrap64 ((l0.length : Int) - 1)) x8_2 l0 (l0.length : Int) x31_2 = some (r1, r2)) ∧ Aside0 (kq ≤ kj4) ∧ Aside0 (Kd.R (Kd.int .u32) 97 w' w.heap.size (fun k_ => (w.heap.size ≤ k_)) v8 x8_2) ∧ Aside0 (Kd.V (Kd.slice 97 (Kd.int .u32)) 29 w' w.heap.size (fun k_ => (P0_ k_ ∨ w.heap.size ≤ k_) ∧ some k_ ≠ (v8 : Value).ownBlock) (.slice A0 l0.length c0) l0) ∧ Aside0 (Below w.heap.size w w'))
   case atStart => exact ⟨(([] : List Int)), (0), zF, H', ⟨Nat.le_refl _⟩, ⟨z0⟩, ⟨by (with_reducible repeat (first | apply Kd.V_alloc | apply Kd.V_drewN | apply Kd.V_drew)); exact Kd.V_mono HO_0.out (fun _ hk => ⟨hk, (by simp [Value.ownBlock])⟩)⟩, ⟨zB HB.out⟩⟩
   clear H'
   (try clear c4);(try clear c4b0);(try clear c4b1);(try clear c6b0);(try clear c7)
   obtain ⟨x8_2, x31_2, rfl, HA, HK2, HO_8, HO_29, HB⟩ := hrel
   cases gk with | zero => exact absurd HA.out (by simp [mw_Moment.l0]) | succ k2 => ?_
   have H := HA.out
   clear HA
   simp only [mw_Moment.l0] at H
   replace H := zid H
   rcases H with ⟨c8b0, H⟩ | ⟨c8b0, H⟩
   · replace H := zgd H
     obtain ⟨c9b0, H⟩ := H
     replace H := zgd H
     obtain ⟨c10b0, H⟩ := H
     replace H := zb H
     obtain ⟨⟨ta3, ta4⟩, A11, H⟩ := H
     dsimp only at H
     obtain ⟨ya7, hya7⟩ : ∃ y_ : List (List Int), y_ = (([ta3, rd_L3 l0 x31_2] : List (List Int))) := ⟨_, rfl⟩
     replace H : ((nat_Mul.f k2 ya7).bind fun tb0 => ((nat_Add.f k2 (([x8_2, tb0] : List (List Int)))).bind fun tb6 => (mw_Moment.l0 k2 a1 (wrap64 ((l0.length : Int) - 1)) tb6 l0 (l0.length : Int) (wrap64 (x31_2 + 1))))) = some (r1, r2) := zY hya7 H
     have Nya7 := zk hya7
     clear hya7
     replace H := zb H
     obtain ⟨tb0, A12, H⟩ := H
     obtain ⟨yb3, hyb3⟩ : ∃ y_ : List (List Int), y_ = (([x8_2, tb0] : List (List Int))) := ⟨_, rfl⟩
     replace H : ((nat_Add.f k2 yb3).bind fun tb6 => (mw_Moment.l0 k2 a1 (wrap64 ((l0.length : Int) - 1)) tb6 l0 (l0.length : Int) (wrap64 (x31_2 + 1)))) = some (r1, r2) := zY hyb3 H
     have Nyb3 := zk hyb3
     clear hyb3
     replace H := zb H
     obtain ⟨tb6, A13, H⟩ := H
     have H' := zk H
     clear H
     have pa2 : 0 ≤ (x31_2 : Int) := zd
     have qa2 : x31_2 < (l0.length : Int) := zd
     obtain ⟨ada2, Aa2_0, ca2_0, ea2, hxa2_0, hla2_0, hia2_0⟩ := at_L3 (Kd.V_reads' HO_29.out).2.2 x31_2 pa2 qa2
     cases ea2
     obtain ⟨cea2, hcea2, hMea2, hcca2⟩ := Kd.V_get HO_29.out [] x31_2 pa2 (by first | exact qa2 | exact zd | (have e_ := (Kd.V_reads' HO_29.out).1; omega))
     obtain ⟨uaa2_0, uca2_0, rfl, ula2_0, gea2_0⟩ := Kd.FK_slice_open hMea2
     have hva2_0 := hcca2 0 _ rfl
     rw [Nat.add_zero, show ((Kd.slice 97 (Kd.int .u32))).sz = 1 from rfl, Nat.mul_one] at hva2_0
     replace hva2_0 := Option.some.inj (hva2_0.symm.trans hxa2_0)
     injection hva2_0 with hva_ hvn_ hvc_
     rw [hva_] at gea2_0
     rw [hvc_] at ula2_0
     have HLa2_0 := zk (show Kd.V (Kd.int .u32) 97 _ w.heap.size _ _ (rd_L3 l0 x31_2) from Kd.V_mk ula2_0 gea2_0)
     clear hva_ hvn_ hvc_ gea2_0 ula2_0
     clear hcca2 hcea2
     have HRa2_0 := zk hia2_0
     have HCa2_0 := zk hla2_0
     clear hia2_0 hla2_0
     replace pa2 := eq_true pa2
     replace qa2 := eq_true qa2
     go_wp2_with (first | ((with_reducible refine gC 72 ?_); refine zG (some 41) Try.func72 #[.int .i64 (wrap64 ((wrap64 ((l0.length : Int) - 1)) - x31_2)), .int .i64 a1] ?_; (with_reducible refine (nat_Binomial.calls k2 (wrap64 ((wrap64 ((l0.length : Int) - 1)) - x31_2)) a1 ta3 ta4 _ A11.out).mono ?_); rintro e w14 ⟨va5, rfl, ho0, hb⟩; refine ⟨_, rfl, ?_⟩; replace HO_29 := yVe HO_29 ho0 hb; replace HLa2_0 := yVe HLa2_0 ho0 hb; replace ho0 := Kd.R_newM (M := fun k_ => (w.heap.size ≤ k_)) ho0 (below_size (zB HB.out)) (fun k_ h_ => h_); replace ho0 := yn ho0 HO_8; have HOa6 := yRl ho0 HB; replace HO_8 := yRe HO_8 ho0 hb; (try replace HRa2_0 := yCb HRa2_0 hb); replace HB := yS HB hb; (try clear hb ho0); obtain ⟨Ao15, co15, rfl⟩ := Kd.R_slice HOa6.out) | ((with_reducible refine gate_dst (N := 47) rfl ?_); refine Kd.N_lit (Kd.slice 97 (Kd.int .u32)) _ 29 ?hg (N' := 47) ?hd (xs := ([ta3, rd_L3 l0 x31_2] : List (List Int))) (inner := [.slice Ao15 ta3.length co15, .slice Aa2_0 (rd_L3 l0 x31_2).length ca2_0]) (ok := (fun k_ => (P0_ k_ ∨ w.heap.size ≤ k_) ∧ some k_ ≠ (u8 : Value).ownBlock)) (okp := (fun k_ => (P0_ k_ ∨ w.heap.size ≤ k_) ∧ some k_ ≠ (u8 : Value).ownBlock)) ?hr ?hp (fun _ hk => hk) ((show ∀ k_, w14.heap.size ≤ k_ → (fun k_ => (P0_ k_ ∨ w.heap.size ≤ k_) ∧ some k_ ≠ (u8 : Value).ownBlock) k_ from fun k_ hk => ⟨(.inr (Nat.le_trans (below_size (zB HB.out)) hk)), Kd.fresh' (Kd.R_lt (zR HO_8.out)) k_ hk⟩) _ (Nat.le_refl _)) (Below.refl _ _) (Nat.le_refl _) (by simp) ?_; (case hd => rfl); (case hg => rfl); (case hr => first | (go_simp; done) | (go_simp; rfl)); (case hp => exact (Reps.one (show Kd.FK (Kd.slice 97 (Kd.int .u32)) _ _ ta3 [.slice Ao15 ta3.length co15] from (Mw.FK_of_R (Kd.R_mono (ok' := (fun k_ => (P0_ k_ ∨ w.heap.size ≤ k_) ∧ some k_ ≠ (u8 : Value).ownBlock)) (HOa6.out) (fun k_ hk => by exact ⟨(.inr (hk.1.1)), hk.2⟩)))) (Reps.one (show Kd.FK (Kd.slice 97 (Kd.int .u32)) _ _ (rd_L3 l0 x31_2) [.slice Aa2_0 (rd_L3 l0 x31_2).length ca2_0] from (Kd.FK_slice_mk (Kd.V_reads' (Kd.V_mono (ok' := (fun k_ => (P0_ k_ ∨ w.heap.size ≤ k_) ∧ some k_ ≠ (u8 : Value).ownBlock)) (HLa2_0.out) (fun k_ hk => by exact ⟨hk.1.1, hk.1.2⟩))).2.1 (Kd.V_F (Kd.V_mono (ok' := (fun k_ => (P0_ k_ ∨ w.heap.size ≤ k_) ∧ some k_ ≠ (u8 : Value).ownBlock)) (HLa2_0.out) (fun k_ hk => by exact ⟨hk.1.1, hk.1.2⟩))))) (Reps.none _ _)))); intro va8 w16 ho17 hb hg_ hnew_; clear hg_ hnew_; (first | rw [← Nya7.out] at ho17 | (simp only [Int.reduceToNat] at ho17; rw [← Nya7.out] at ho17)); replace HO_8 := yRb HO_8 hb; replace HO_29 := zk (Kd.V_elder' (zV HO_29.out) (Kd.N_base ho17) hb); replace HLa2_0 := zk (Kd.V_elder' (zV HLa2_0.out) (Kd.N_base ho17) hb); have HOa9 := zk (Kd.N_lower ho17 (below_size (zB HB.out))); (try replace HRa2_0 := yCb HRa2_0 hb); replace HB := yS HB hb; clear HOa6; clear hb ho17; obtain ⟨Ao18, co18, rfl⟩ := Kd.N_slice HOa9.out) | ((with_reducible refine gC 74 ?_); refine zG (some 48) Try.func74 #[.slice Ao18 ya7.length co18] ?_; (with_reducible refine (nat_Mul.calls k2 _ _ ya7 tb0 _ ?side1 ?side2 A12.out).mono ?_); (case side1 => exact zC (Kd.N_reads' HOa9.out).2.2); (case side2 => exact (Kd.N_reads' HOa9.out).2.1); rintro e w19 ⟨vb1, rfl, ho0, hb⟩; refine ⟨_, rfl, ?_⟩; replace HO_29 := yVe HO_29 ho0 hb; replace HLa2_0 := yVe HLa2_0 ho0 hb; replace HOa9 := yNe HOa9 ho0 hb; replace ho0 := Kd.R_newM (M := fun k_ => (w.heap.size ≤ k_)) ho0 (below_size (zB HB.out)) (fun k_ h_ => h_); replace ho0 := yn ho0 HO_8; have HOb2 := yRl ho0 HB; replace HO_8 := yRe HO_8 ho0 hb; (try replace HRa2_0 := yCb HRa2_0 hb); replace HB := yS HB hb; (try clear hb ho0); obtain ⟨Ao20, co20, rfl⟩ := Kd.R_slice HO_8.out; obtain ⟨Ao21, co21, rfl⟩ := Kd.R_slice HOb2.out) | ((with_reducible refine gate_dst (N := 49) rfl ?_); refine Kd.N_lit (Kd.slice 97 (Kd.int .u32)) _ 29 ?hg (N' := 49) ?hd (xs := ([x8_2, tb0] : List (List Int))) (inner := [.slice Ao20 x8_2.length co20, .slice Ao21 tb0.length co21]) (ok := (fun k_ => (P0_ k_ ∨ w.heap.size ≤ k_) ∧ some k_ ≠ (.slice Ao18 ya7.length co18 : Value).ownBlock)) (okp := (fun k_ => (P0_ k_ ∨ w.heap.size ≤ k_) ∧ some k_ ≠ (.slice Ao18 ya7.length co18 : Value).ownBlock)) ?hr ?hp (fun _ hk => hk) ((show ∀ k_, w19.heap.size ≤ k_ → (fun k_ => (P0_ k_ ∨ w.heap.size ≤ k_) ∧ some k_ ≠ (.slice Ao18 ya7.length co18 : Value).ownBlock) k_ from fun k_ hk => ⟨(.inr (Nat.le_trans (below_size (zB HB.out)) hk)), Kd.fresh' (Kd.N_lt (zN HOa9.out)) k_ hk⟩) _ (Nat.le_refl _)) (Below.refl _ _) (Nat.le_refl _) (by simp) ?_; (case hd => rfl); (case hg => rfl); (case hr => first | (go_simp; done) | (go_simp; rfl)); (case hp => exact (Reps.one (show Kd.FK (Kd.slice 97 (Kd.int .u32)) _ _ x8_2 [.slice Ao20 x8_2.length co20] from (Mw.FK_of_R (Kd.R_mono (ok' := (fun k_ => (P0_ k_ ∨ w.heap.size ≤ k_) ∧ some k_ ≠ (.slice Ao18 ya7.length co18 : Value).ownBlock)) (Kd.R_apart' (HO_8.out) (Kd.N_typed HOa9.out) (by decide)) (fun k_ hk => by exact ⟨(.inr (hk.1.1.1)), hk.2⟩)))) (Reps.one (show Kd.FK (Kd.slice 97 (Kd.int .u32)) _ _ tb0 [.slice Ao21 tb0.length co21] from (Mw.FK_of_R (Kd.R_mono (ok' := (fun k_ => (P0_ k_ ∨ w.heap.size ≤ k_) ∧ some k_ ≠ (.slice Ao18 ya7.length co18 : Value).ownBlock)) (Kd.R_apart' (HOb2.out) (Kd.N_typed HOa9.out) (by decide)) (fun k_ hk => by exact ⟨(.inr (hk.1.1.1)), hk.2⟩)))) (Reps.none _ _)))); intro vb4 w22 ho23 hb hg_ hnew_; clear hg_ hnew_; (first | rw [← Nyb3.out] at ho23 | (simp only [Int.reduceToNat] at ho23; rw [← Nyb3.out] at ho23)); replace HO_29 := zk (Kd.V_elder' (zV HO_29.out) (Kd.N_base ho23) hb); replace HLa2_0 := zk (Kd.V_elder' (zV HLa2_0.out) (Kd.N_base ho23) hb); replace HOa9 := zk (Kd.N_elder' (zN HOa9.out) (Kd.N_base ho23) hb); have HOb5 := zk (Kd.N_lower ho23 (below_size (zB HB.out))); (try replace HRa2_0 := yCb HRa2_0 hb); replace HB := yS HB hb; clear HOb2 HO_8; clear hb ho23; obtain ⟨Ao24, co24, rfl⟩ := Kd.N_slice HOb5.out) | ((with_reducible refine gC 73 ?_); refine zG (some 50) Try.func73 #[.slice Ao24 yb3.length co24] ?_; (with_reducible refine (nat_Add.calls k2 _ _ yb3 tb6 _ ?side1 ?side2 A13.out).mono ?_); (case side1 => exact zC (Kd.N_reads' HOb5.out).2.2); (case side2 => exact (Kd.N_reads' HOb5.out).2.1); rintro e w25 ⟨vb7, rfl, ho0, hb⟩; refine ⟨_, rfl, ?_⟩; replace HO_29 := yVe HO_29 ho0 hb; replace HLa2_0 := yVe HLa2_0 ho0 hb; replace HOa9 := yNe HOa9 ho0 hb; replace HOb5 := yNe HOb5 ho0 hb; replace ho0 := Kd.R_newM (M := fun k_ => (w.heap.size ≤ k_)) ho0 (below_size (zB HB.out)) (fun k_ h_ => h_); have HOb8 := yRl ho0 HB; (try replace HRa2_0 := yCb HRa2_0 hb); replace HB := yS HB hb; (try clear hb ho0)))
     go_roundg k2
     case measure => have := HJ4.out; have := HK2.out; omega
     case rel => exact ⟨(tb6), (wrap64 (x31_2 + 1)), zF, H', ⟨zo2 HJ4 HK2⟩, ⟨by (with_reducible repeat (first | apply Kd.R_alloc | apply Kd.R_drewN | apply Kd.R_drew)); exact Kd.R_mono HOb8.out (fun _ hk => hk.1)⟩, ⟨by (with_reducible repeat (first | apply Kd.V_alloc | apply Kd.V_drewN | apply Kd.V_drew)); exact Kd.V_mono HO_29.out (fun _ hk => ⟨hk.1.1.1.1.1.1, hk.2⟩)⟩, ⟨zB HB.out⟩⟩
   simp only [Option.some.injEq, Prod.mk.injEq] at H
   obtain ⟨rfl, rfl⟩ := H
   go_wp2
   go_ret2
   exact ⟨_, zE, zR HO_8.out, zB HB.out⟩
 have c4b0 := beq_eq_false_iff_ne.mpr c4
 have c4b1 := bne_iff_ne.mpr c4
 simp only [Option.some.injEq, Prod.mk.injEq] at H
 obtain ⟨rfl, rfl⟩ := H
 go_enter Try.func20, Try.ntmps20
 go_wp2_with (first | ((with_reducible refine gC 71 ?_); refine zG (some 15) Try.func71 #[.int .i64 (l0.length : Int)] ?_; (with_reducible refine (mw_shape.calls (l0.length : Int) ta1 _ A3.out).mono ?_); rintro e w' ⟨rfl, ⟨nd, rfl⟩⟩; refine ⟨_, rfl, ?_⟩))
 go_ret2
 exact ⟨_, zE, z0, zB HB.out⟩
set_option maxHeartbeats 8000000 in
set_option maxRecDepth 100000 in
theorem r1_Trim.calls (k : Nat) (A0 : Option Addr) (c0 : Nat) (l0 : List Int) (r : List Int) (w : World) (hr0 : Kd.C (Kd.int .u32) w A0 l0.length l0) (hc0 : l0.length ≤ c0) (h : r1_Trim.f k l0 = some r) :
    Calls Try.prog 75 #[.slice A0 l0.length c0] w fun e w' => ∃ v0_ : Value, e = .returned (v0_) ∧ Kd.R (Kd.int .u32) 97 w' w.heap.size (fun _ => True) v0_ r ∧ Below w.heap.size w w' := by
 have HR0 := zk hr0
 have HC0 := zk hc0
 clear hr0 hc0
 have HB := zk (Below.refl w.heap.size w)
 have H := h
 clear h
 unfold r1_Trim.f at H
 have H' := zk H
 clear H
 go_enter Try.func75, Try.ntmps75
 go_wp2
 go_loopg [3] k (fun kq v3 w' => ∃ (x3_1 : Int), v3 = .int .i64 x3_1 ∧ Aside0 (r1_Trim.l0 kq l0 x3_1 = some r) ∧ Aside0 (kq ≤ k) ∧ Aside0 (Below w.heap.size w w'))
 case atStart => exact ⟨((l0.length : Int)), zF, H', ⟨Nat.le_refl _⟩, ⟨zB HB.out⟩⟩
 clear H'
 obtain ⟨x3_1, rfl, HA, HK1, HB⟩ := hrel
 cases gk with | zero => exact absurd HA.out (by simp [r1_Trim.l0]) | succ k1 => ?_
 have H := HA.out
 clear HA
 simp only [r1_Trim.l0] at H
 replace H := zi H
 rcases H with ⟨c2, H⟩ | ⟨c2, H⟩
 · have c2b0 : decide (0 < x3_1) = true := decide_eq_true c2
   clear c2
   obtain ⟨ji3, hji3⟩ : ∃ j_ : Int, (wrap64 (x3_1 - 1)) = j_ := ⟨_, rfl⟩
   replace H : (if 0 ≤ (ji3) then (if (ji3) < (l0.length : Int) then (if (rd l0 (ji3)) = 0 then (r1_Trim.l0 k1 l0 ji3) else ((some (([] : List Int) : List Int)).bind fun ya2 => (if 0 ≤ x3_1 then (if x3_1 ≤ (l0.length : Int) then (if ya2.length + (l0.take (x3_1 : Int).toNat).length < 35184372088832 then (some (ya2 ++ (l0.take (x3_1 : Int).toNat))) else (none)) else (none)) else (none)))) else (none)) else (none)) = some r := by first | (rw [hji3] at H; exact H) | (simp only [hji3] at H ⊢; exact H)
   have hji3w : (IntKind.i64.wrap (x3_1 - 1)) = ji3 := (i64_w _).trans hji3
   replace H := zgd H
   obtain ⟨c4b0, H⟩ := H
   replace H := zgd H
   obtain ⟨c5b0, H⟩ := H
   replace H := zi H
   rcases H with ⟨c6, H⟩ | ⟨c6, H⟩
   · have c6b0 := beq_iff_eq.mpr c6
     have c6b1 := bne_eq_false_iff_eq.mpr c6
     clear c6
     have H' := zk H
     clear H
     have pa1 : 0 ≤ ((ji3) : Int) := zd
     have qa1 : (ji3) < (l0.length : Int) := zd
     obtain ⟨ada1, ea1, hxa1_0⟩ := Kd.at_int HR0.out (ji3) pa1 qa1
     cases ea1
     replace hxa1_0 := (HB.out.cell (World.block_lt_of_cell? w _ hxa1_0)).trans hxa1_0
     replace pa1 := eq_true pa1
     replace qa1 := eq_true qa1
     go_wp2
     go_roundg k1
     case measure => have := HK1.out; omega
     case rel => exact ⟨(ji3), (by first | rfl | (simp; done) | (simp only [← hji3] <;> (first | rfl | simp)) | (simp [*]; done)), H', ⟨zo1 HK1⟩, ⟨zB HB.out⟩⟩
   have c6b0 := beq_eq_false_iff_ne.mpr c6
   have c6b1 := bne_iff_ne.mpr c6
   obtain ⟨ya2, hya2⟩ : ∃ y_ : List Int, y_ = (([] : List Int)) := ⟨_, rfl⟩
   replace H : (if 0 ≤ x3_1 then (if x3_1 ≤ (l0.length : Int) then (if ya2.length + (l0.take (x3_1 : Int).toNat).length < 35184372088832 then (some (ya2 ++ (l0.take (x3_1 : Int).toNat))) else (none)) else (none)) else (none)) = some r := zY hya2 H
   have Nya2 := zk hya2
   clear hya2
   replace H := zg H
   obtain ⟨c7, H⟩ := H
   have c7b0 := eq_true c7
   have c7b1 := decide_eq_true c7
   clear c7
   replace H := zg H
   obtain ⟨c8, H⟩ := H
   have c8b0 := eq_true c8
   have c8b1 := decide_eq_true c8
   clear c8
   replace H := zg H
   obtain ⟨c9, H⟩ := H
   have LMc9 := zk c9
   clear c9
   obtain ⟨ya6, hya6⟩ : ∃ y_ : List Int, y_ = (ya2 ++ (l0.take (x3_1 : Int).toNat)) := ⟨_, rfl⟩
   replace H : (some ya6) = some r := zY hya6 H
   have Nya6 := zk hya6
   clear hya6
   obtain rfl := Option.some.inj H
   have pa1 : 0 ≤ ((ji3) : Int) := zd
   have qa1 : (ji3) < (l0.length : Int) := zd
   obtain ⟨ada1, ea1, hxa1_0⟩ := Kd.at_int HR0.out (ji3) pa1 qa1
   cases ea1
   replace hxa1_0 := (HB.out.cell (World.block_lt_of_cell? w _ hxa1_0)).trans hxa1_0
   replace pa1 := eq_true pa1
   replace qa1 := eq_true qa1
   go_wp2_with (first | ((with_reducible refine gate_dst (N := 18) rfl ?_); refine Kd.R_lit (Kd.int .u32) _ 97 ?hg (N := 18) ?hd (xs := ([] : List Int)) (inner := []) (ok := fun _ => True) (okp := fun _ => True) ?hr ?hp (fun _ hk => hk) trivial (Below.refl _ _) (Nat.le_refl _) (by simp) ?_; (case hd => rfl); (case hg => rfl); (case hr => first | (go_simp; done) | (go_simp; rfl)); (case hp => exact (Reps.none _ _)); intro va3 w10 ho11 hb hg_ hnew_; clear hg_ hnew_; (first | rw [← Nya2.out] at ho11 | (simp only [Int.reduceToNat] at ho11; rw [← Nya2.out] at ho11)); have HOa4 := yRl ho11 HB; replace HB := yS HB hb; clear hb ho11; obtain ⟨i012, hi012, _, hsz12, _⟩ := info_parts info97; obtain ⟨hcut12, hA12, hC12⟩ := print_take_of (P := Try.prog) (Value.int .u32) 0 29 97 .i64 Try.underlying29 hi012 hsz12 (some ada1) c0 l0 x3_1 zd zd HC0.out; have HRa5 := zk (Kd.C_of_reads (h1 := fun _ => rfl) (hA12 _ (Kd.reads_of_C HR0.out))); have HCa5 := zk hC12; clear hA12 hC12 hi012 hsz12) | ((with_reducible refine gate_builtin (b := .append) (xs := #[.tmp 18, .tmp 21]) rfl ?_); at_builtin; refine Kd.R_append_rows (Kd.int .u32) (w0 := w) w.heap.size rfl (.tmp 18) (.tmp 21) 29 97 (.int .u32 0) 4 rfl Try.underlying29 info97 rfl (by decide) (by omega) va3 ya2 (l0.take (x3_1 : Int).toNat) _ _ _ (fun _ => True) (fun _ => False) rfl rfl ?aO ?aR (fun _ _ h => h) (fun _ h => h.elim) ?aF ?aB ?aS ?aL ?_; (case aR => first | (have hz_ : (l0.take (x3_1 : Int).toNat).length = x3_1.toNat := (by rw [List.length_take]; have h_ : (x3_1 : Int) ≤ (l0.length : Int) := zd; omega); refine Eq.mp (congrArg (fun n_ => Kd.C _ _ _ n_ _) hz_) ?_; repeat (first | exact (Kd.C_below HRa5.out HB.out) | (with_reducible refine Kd.C_alloc ?_ _) | (with_reducible refine Kd.C_drewN ?_ _) | (with_reducible refine Kd.C_drew ?_))) | (rw [← show (l0.take (x3_1 : Int).toNat).length = x3_1.toNat from (by rw [List.length_take]; have h_ : (x3_1 : Int) ≤ (l0.length : Int) := zd; omega)]; repeat (first | exact (Kd.C_below HRa5.out HB.out) | (with_reducible refine Kd.C_alloc ?_ _) | (with_reducible refine Kd.C_drewN ?_ _) | (with_reducible refine Kd.C_drew ?_))) | (repeat (first | exact (Kd.C_below HRa5.out HB.out) | (with_reducible refine Kd.C_alloc ?_ _) | (with_reducible refine Kd.C_drewN ?_ _) | (with_reducible refine Kd.C_drew ?_)))); (case aB => exact (zB HB.out)); (case aF => exact (fun _ _ => trivial)); (case aO => exact (zR HOa4.out)); (case aS => exact (below_size (zB HB.out))); (case aL => have := LMc9.out; have hlx_ := (show (l0.take (x3_1 : Int).toNat).length = x3_1.toNat from (by rw [List.length_take]; have h_ : (x3_1 : Int) ≤ (l0.length : Int) := zd; omega)); omega); intro va7 w13 ho hb hg hat; rw [← Nya6.out] at ho; replace HB := zk (hb); have HOa8 := zk (ho); clear HOa4; clear ho hb hg hat))
   go_ret
   exact ⟨_, by first | rfl | (simp [errW_none, errW_some] <;> rfl) | (simp only [← hji3]; first | rfl | (simp [errW_none, errW_some] <;> rfl)) | (simp [*, errW_none, errW_some] <;> rfl), zR HOa8.out, zB HB.out⟩
 have c2b0 : decide (0 < x3_1) = false := decide_eq_false c2
 clear c2
 obtain ⟨ya9, hya9⟩ : ∃ y_ : List Int, y_ = (([] : List Int)) := ⟨_, rfl⟩
 replace H : (if 0 ≤ x3_1 then (if x3_1 ≤ (l0.length : Int) then (if ya9.length + (l0.take (x3_1 : Int).toNat).length < 35184372088832 then (some (ya9 ++ (l0.take (x3_1 : Int).toNat))) else (none)) else (none)) else (none)) = some r := zY hya9 H
 have Nya9 := zk hya9
 clear hya9
 replace H := zg H
 obtain ⟨c14, H⟩ := H
 have c14b0 := eq_true c14
 have c14b1 := decide_eq_true c14
 clear c14
 replace H := zg H
 obtain ⟨c15, H⟩ := H
 have c15b0 := eq_true c15
 have c15b1 := decide_eq_true c15
 clear c15
 replace H := zg H
 obtain ⟨c16, H⟩ := H
 have LMc16 := zk c16
 clear c16
 obtain ⟨yb3, hyb3⟩ : ∃ y_ : List Int, y_ = (ya9 ++ (l0.take (x3_1 : Int).toNat)) := ⟨_, rfl⟩
 replace H : (some yb3) = some r := zY hyb3 H
 have Nyb3 := zk hyb3
 clear hyb3
 obtain rfl := Option.some.inj H
 go_wp2_with (first | ((with_reducible refine gate_dst (N := 18) rfl ?_); refine Kd.R_lit (Kd.int .u32) _ 97 ?hg (N := 18) ?hd (xs := ([] : List Int)) (inner := []) (ok := fun _ => True) (okp := fun _ => True) ?hr ?hp (fun _ hk => hk) trivial (Below.refl _ _) (Nat.le_refl _) (by simp) ?_; (case hd => rfl); (case hg => rfl); (case hr => first | (go_simp; done) | (go_simp; rfl)); (case hp => exact (Reps.none _ _)); intro vb0 w17 ho18 hb hg_ hnew_; clear hg_ hnew_; (first | rw [← Nya9.out] at ho18 | (simp only [Int.reduceToNat] at ho18; rw [← Nya9.out] at ho18)); have HOb1 := yRl ho18 HB; replace HB := yS HB hb; clear hb ho18; obtain ⟨i019, hi019, _, hsz19, _⟩ := info_parts info97; obtain ⟨hcut19, hA19, hC19⟩ := print_take_of (P := Try.prog) (Value.int .u32) 0 29 97 .i64 Try.underlying29 hi019 hsz19 A0 c0 l0 x3_1 zd zd HC0.out; have HRb2 := zk (Kd.C_of_reads (h1 := fun _ => rfl) (hA19 _ (Kd.reads_of_C HR0.out))); have HCb2 := zk hC19; clear hA19 hC19 hi019 hsz19) | ((with_reducible refine gate_builtin (b := .append) (xs := #[.tmp 18, .tmp 21]) rfl ?_); at_builtin; refine Kd.R_append_rows (Kd.int .u32) (w0 := w) w.heap.size rfl (.tmp 18) (.tmp 21) 29 97 (.int .u32 0) 4 rfl Try.underlying29 info97 rfl (by decide) (by omega) vb0 ya9 (l0.take (x3_1 : Int).toNat) _ _ _ (fun _ => True) (fun _ => False) rfl rfl ?aO ?aR (fun _ _ h => h) (fun _ h => h.elim) ?aF ?aB ?aS ?aL ?_; (case aR => first | (have hz_ : (l0.take (x3_1 : Int).toNat).length = x3_1.toNat := (by rw [List.length_take]; have h_ : (x3_1 : Int) ≤ (l0.length : Int) := zd; omega); refine Eq.mp (congrArg (fun n_ => Kd.C _ _ _ n_ _) hz_) ?_; repeat (first | exact (Kd.C_below HRb2.out HB.out) | (with_reducible refine Kd.C_alloc ?_ _) | (with_reducible refine Kd.C_drewN ?_ _) | (with_reducible refine Kd.C_drew ?_))) | (rw [← show (l0.take (x3_1 : Int).toNat).length = x3_1.toNat from (by rw [List.length_take]; have h_ : (x3_1 : Int) ≤ (l0.length : Int) := zd; omega)]; repeat (first | exact (Kd.C_below HRb2.out HB.out) | (with_reducible refine Kd.C_alloc ?_ _) | (with_reducible refine Kd.C_drewN ?_ _) | (with_reducible refine Kd.C_drew ?_))) | (repeat (first | exact (Kd.C_below HRb2.out HB.out) | (with_reducible refine Kd.C_alloc ?_ _) | (with_reducible refine Kd.C_drewN ?_ _) | (with_reducible refine Kd.C_drew ?_)))); (case aB => exact (zB HB.out)); (case aF => exact (fun _ _ => trivial)); (case aO => exact (zR HOb1.out)); (case aS => exact (below_size (zB HB.out))); (case aL => have := LMc16.out; have hlx_ := (show (l0.take (x3_1 : Int).toNat).length = x3_1.toNat from (by rw [List.length_take]; have h_ : (x3_1 : Int) ≤ (l0.length : Int) := zd; omega)); omega); intro vb4 w20 ho hb hg hat; rw [← Nyb3.out] at ho; replace HB := zk (hb); have HOb5 := zk (ho); clear HOb1; clear ho hb hg hat))
 go_ret
 exact ⟨_, zE, zR HOb5.out, zB HB.out⟩
set_option maxHeartbeats 8000000 in
set_option maxRecDepth 100000 in
theorem r1_Of.calls (k : Nat) (a0 : Int) (r : List Int) (w : World) (h : r1_Of.f k a0 = some r) :
    Calls Try.prog 23 #[.int .u64 a0] w fun e w' => ∃ v0_ : Value, e = .returned (v0_) ∧ Kd.R (Kd.int .u32) 97 w' w.heap.size (fun _ => True) v0_ r ∧ Below w.heap.size w w' := by
 have HB := zk (Below.refl w.heap.size w)
 have H := h
 clear h
 unfold r1_Of.f at H
 obtain ⟨ya1, hya1⟩ : ∃ y_ : List Int, y_ = (([(Int.tmod a0 4294967296) % 4294967296, (IntKind.u64.wrap (Int.tdiv a0 4294967296)) % 4294967296] : List Int)) := ⟨_, rfl⟩
 replace H : ((r1_Trim.f k ya1).bind fun ta4 => (some ta4)) = some r := zY hya1 H
 have Nya1 := zk hya1
 clear hya1
 replace H := zb H
 obtain ⟨ta4, A2, H⟩ := H
 obtain rfl := Option.some.inj H
 go_enter Try.func23, Try.ntmps23
 go_wp2_with (first | ((with_reducible refine gate_dst (N := 9) rfl ?_); refine Kd.R_lit (Kd.int .u32) _ 97 ?hg (N := 9) ?hd (xs := ([(Int.tmod a0 4294967296) % 4294967296, (IntKind.u64.wrap (Int.tdiv a0 4294967296)) % 4294967296] : List Int)) (inner := [.int .u32 ((Int.tmod a0 4294967296) % 4294967296), .int .u32 ((IntKind.u64.wrap (Int.tdiv a0 4294967296)) % 4294967296)]) (ok := fun _ => True) (okp := fun _ => True) ?hr ?hp (fun _ hk => hk) trivial (Below.refl _ _) (Nat.le_refl _) (by simp) ?_; (case hd => rfl); (case hg => rfl); (case hr => first | (go_simp; done) | (go_simp; rfl)); (case hp => exact (Reps.one (show Kd.M (Kd.int .u32) _ _ _ ((Int.tmod a0 4294967296) % 4294967296) [.int .u32 ((Int.tmod a0 4294967296) % 4294967296)] from rfl) (Reps.one (show Kd.M (Kd.int .u32) _ _ _ ((IntKind.u64.wrap (Int.tdiv a0 4294967296)) % 4294967296) [.int .u32 ((IntKind.u64.wrap (Int.tdiv a0 4294967296)) % 4294967296)] from rfl) (Reps.none _ _)))); intro va2 w3 ho4 hb hg_ hnew_; clear hg_ hnew_; (first | rw [← Nya1.out] at ho4 | (simp only [Int.reduceToNat] at ho4; rw [← Nya1.out] at ho4)); have HOa3 := yRl ho4 HB; replace HB := yS HB hb; clear hb ho4; obtain ⟨Ao5, co5, rfl⟩ := Kd.R_slice HOa3.out) | ((with_reducible refine gC 75 ?_); refine zG (some 10) Try.func75 #[.slice Ao5 ya1.length co5] ?_; (with_reducible refine (r1_Trim.calls k _ _ ya1 ta4 _ ?side1 ?side2 A2.out).mono ?_); (case side1 => exact zC (Kd.R_reads' HOa3.out).2.2); (case side2 => exact (Kd.R_reads' HOa3.out).2.1); rintro e w6 ⟨va5, rfl, ho0, hb⟩; refine ⟨_, rfl, ?_⟩; replace ho0 := yn ho0 HOa3; have HOa6 := yRl ho0 HB; replace HOa3 := yRe HOa3 ho0 hb; replace HB := yS HB hb; (try clear hb ho0)))
 go_ret
 exact ⟨_, zE, by (with_reducible repeat (first | apply Kd.R_alloc | apply Kd.R_drewN | apply Kd.R_drew)); exact Kd.R_mono HOa6.out (fun _ hk => trivial), zB HB.out⟩
set_option maxHeartbeats 8000000 in
set_option maxRecDepth 100000 in
theorem r24_Weights.calls (k : Nat) (a0 : Int) (A1 : Option Addr) (c1 : Nat) (l1 : List (List Int)) (r : List (List Int)) (w : World) (hr1 : Kd.C (Kd.slice 3 (Kd.int .i64)) w A1 l1.length l1) (hc1 : l1.length ≤ c1) (h : r24_Weights.f k a0 l1 = some r) :
    Calls Try.prog 21 #[.int .i64 a0, .slice A1 l1.length c1] w fun e w' => ∃ v0_ : Value, e = .returned (v0_) ∧ Kd.S (Kd.slice 97 (Kd.int .u32)) 29 w' w.heap.size (fun _ => True) v0_ r ∧ Below w.heap.size w w' := by
 have HR1 := zk hr1
 have HC1 := zk hc1
 clear hr1 hc1
 have HB := zk (Below.refl w.heap.size w)
 have H := h
 clear h
 unfold r24_Weights.f at H
 obtain ⟨ji3, hji3⟩ : ∃ j_ : Int, (wrap64 (a0 + 1)) = j_ := ⟨_, rfl⟩
 replace H : (if 0 ≤ (ji3) then (if (ji3 : Int).toNat ≤ 35184372088832 then (if 0 ≤ a0 then (if (a0 : Int).toNat ≤ 35184372088832 then (r24_Weights.l0 k a0 l1 (List.replicate (ji3 : Int).toNat 0) (List.replicate (a0 : Int).toNat 0) 0) else (none)) else (none)) else (none)) else (none)) = some r := by first | (rw [hji3] at H; exact H) | (simp only [hji3] at H ⊢; exact H)
 have hji3w : (IntKind.i64.wrap (a0 + 1)) = ji3 := (i64_w _).trans hji3
 replace H := zg H
 obtain ⟨c4, H⟩ := H
 have c4b0 := eq_true c4
 have c4b1 := decide_eq_true c4
 clear c4
 replace H := zg H
 obtain ⟨c5, H⟩ := H
 have c5b0 := eq_true c5
 have c5b1 := decide_eq_true c5
 clear c5
 obtain ⟨ya1, hya1⟩ : ∃ y_ : List Int, y_ = (List.replicate (ji3 : Int).toNat 0) := ⟨_, rfl⟩
 replace H : (if 0 ≤ a0 then (if (a0 : Int).toNat ≤ 35184372088832 then (r24_Weights.l0 k a0 l1 ya1 (List.replicate (a0 : Int).toNat 0) 0) else (none)) else (none)) = some r := zY hya1 H
 have Nya1 := zk hya1
 clear hya1
 replace H := zg H
 obtain ⟨c6, H⟩ := H
 have c6b0 := eq_true c6
 have c6b1 := decide_eq_true c6
 clear c6
 replace H := zg H
 obtain ⟨c7, H⟩ := H
 have c7b0 := eq_true c7
 have c7b1 := decide_eq_true c7
 clear c7
 obtain ⟨ya4, hya4⟩ : ∃ y_ : List Int, y_ = (List.replicate (a0 : Int).toNat 0) := ⟨_, rfl⟩
 replace H : (r24_Weights.l0 k a0 l1 ya1 ya4 0) = some r := zY hya4 H
 have Nya4 := zk hya4
 clear hya4
 have H' := zk H
 clear H
 go_enter Try.func21, Try.ntmps21
 go_wp2_with (first | ((with_reducible refine gate_dst (N := 12) rfl ?_); refine Kd.R_make (Kd.int .i64) _ 3 rfl (N := 12) rfl 22 _ _ rfl ji3 rfl rfl Try.underlying22 (.int .i64 0) 8 info3 rfl (by decide) (by omega) 0 (ok := fun _ => True) (okp := fun _ => True) rfl (fun _ hk => hk) trivial zd (Nat.le_trans (Nat.mul_le_mul_right _ (zd : ji3.toNat ≤ 35184372088832)) (by omega)) (Below.refl _ _) (Nat.le_refl _) ?_; intro va2 w8 ho9 hb hg_ hnew_; clear hg_ hnew_; (first | rw [← Nya1.out] at ho9 | (simp only [Int.reduceToNat] at ho9; rw [← Nya1.out] at ho9)); have HOa3 := yRl ho9 HB; replace HB := yS HB hb; clear hb ho9) | ((with_reducible refine gate_dst (N := 14) rfl ?_); refine Kd.R_make (Kd.int .i64) _ 3 rfl (N := 14) rfl 22 _ _ rfl a0 rfl rfl Try.underlying22 (.int .i64 0) 8 info3 rfl (by decide) (by omega) 0 (ok := fun _ => True) (okp := fun _ => True) rfl (fun _ hk => hk) trivial zd (Nat.le_trans (Nat.mul_le_mul_right _ (zd : a0.toNat ≤ 35184372088832)) (by omega)) (Below.refl _ _) (Nat.le_refl _) ?_; intro va5 w10 ho11 hb hg_ hnew_; clear hg_ hnew_; (first | rw [← Nya4.out] at ho11 | (simp only [Int.reduceToNat] at ho11; rw [← Nya4.out] at ho11)); replace ho11 := yn ho11 HOa3; have HOa6 := yRl ho11 HB; replace HOa3 := yRe HOa3 ho11 hb; replace HB := yS HB hb; clear hb ho11))
 go_loopg [7] k (fun kq v7 w' => ∃ (x5_1 : List Int) (x7_1 : Int), v7 = .int .i64 x7_1 ∧ Aside0 (r24_Weights.l0 kq a0 l1 x5_1 ya4 x7_1 = some r) ∧ Aside0 (kq ≤ k) ∧ Aside0 (Kd.R (Kd.int .i64) 3 w' w.heap.size (fun k_ => some k_ ≠ (va5 : Value).ownBlock) va2 x5_1) ∧ Aside0 (Kd.R (Kd.int .i64) 3 w' w.heap.size (fun k_ => some k_ ≠ (va2 : Value).ownBlock) va5 ya4) ∧ Aside0 (Below w.heap.size w w'))
 case atStart => exact ⟨(ya1), (0), zF, H', ⟨Nat.le_refl _⟩, ⟨by (with_reducible repeat (first | apply Kd.R_alloc | apply Kd.R_drewN | apply Kd.R_drew)); exact Kd.R_mono HOa3.out (fun _ hk => hk.2)⟩, ⟨by (with_reducible repeat (first | apply Kd.R_alloc | apply Kd.R_drewN | apply Kd.R_drew)); exact Kd.R_mono HOa6.out (fun _ hk => hk.2)⟩, ⟨zB HB.out⟩⟩
 clear H'
 (try clear c4);(try clear c4b0);(try clear c4b1);(try clear c5);(try clear c5b0);(try clear c5b1);(try clear c6);(try clear c6b0);(try clear c6b1);(try clear c7);(try clear c7b0);(try clear c7b1)
 obtain ⟨x5_1, x7_1, rfl, HA, HK1, HO_5, HO_6, HB⟩ := hrel
 cases gk with | zero => exact absurd HA.out (by simp [r24_Weights.l0]) | succ k1 => ?_
 have H := HA.out
 clear HA
 simp only [r24_Weights.l0] at H
 replace H := zid H
 rcases H with ⟨c12b0, H⟩ | ⟨c12b0, H⟩
 · replace H := zgd H
   obtain ⟨c13b0, H⟩ := H
   replace H := zb H
   obtain ⟨ta8, A14, H⟩ := H
   replace H := zgd H
   obtain ⟨c15b0, H⟩ := H
   replace H := zgd H
   obtain ⟨c16b0, H⟩ := H
   obtain ⟨yb0, hyb0⟩ : ∃ y_ : List Int, y_ = (x5_1.set (ta8 : Int).toNat (wrap64 ((rd x5_1 ta8) + 1))) := ⟨_, rfl⟩
   replace H : (r24_Weights.l0 k1 a0 l1 yb0 ya4 (wrap64 (x7_1 + 1))) = some r := zY hyb0 H
   have Nyb0 := zk hyb0
   clear hyb0
   have H' := zk H
   clear H
   have pa7 : 0 ≤ (x7_1 : Int) := zd
   have qa7 : x7_1 < (l1.length : Int) := zd
   obtain ⟨ada7, Aa7_0, ca7_0, ea7, hxa7_0, hla7_0, hia7_0⟩ := at_L1 HR1.out x7_1 pa7 qa7
   cases ea7
   replace hxa7_0 := (HB.out.cell (World.block_lt_of_cell? w _ hxa7_0)).trans hxa7_0
   have HRa7_0 := zk hia7_0
   have HCa7_0 := zk hla7_0
   clear hia7_0 hla7_0
   replace pa7 := eq_true pa7
   replace qa7 := eq_true qa7
   obtain ⟨Ao18, co18, rfl⟩ := Kd.R_slice HO_6.out
   go_wp2_with (first | ((with_reducible refine gC 61 ?_); refine zG (some 27) Try.func61 #[.slice Aa7_0 (rd_L1 l1 x7_1).length ca7_0, .slice Ao18 ya4.length co18] ?_; (with_reducible refine (r24_Distance.calls k1 _ _ (rd_L1 l1 x7_1) _ _ ya4 ta8 _ ?side1 ?side2 ?side3 ?side4 A14.out).mono ?_); (case side1 => exact zC (Kd.C_below HRa7_0.out HB.out)); (case side2 => exact HCa7_0.out); (case side3 => exact zC (Kd.R_reads' HO_6.out).2.2); (case side4 => exact (Kd.R_reads' HO_6.out).2.1); rintro e w' ⟨rfl, ⟨nd, rfl⟩⟩; refine ⟨_, rfl, ?_⟩; (try (rw [drewN_self wr]; generalize hq_ : World.drewN wr _ = wr; have n0_ : Aside0 (Kd.R (Kd.int .i64) 3 wr w.heap.size (fun k_ => some k_ ≠ (.slice Ao18 ya4.length co18 : Value).ownBlock) va2 x5_1) := ⟨by rw [← hq_]; exact (zR HO_5.out)⟩; have n1_ : Aside0 (Kd.R (Kd.int .i64) 3 wr w.heap.size (fun k_ => some k_ ≠ (va2 : Value).ownBlock) (.slice Ao18 ya4.length co18) ya4) := ⟨by rw [← hq_]; exact (zR HO_6.out)⟩; have n2_ : Aside0 (Below w.heap.size w wr) := ⟨by rw [← hq_]; exact (zB HB.out)⟩; clear HO_5 HO_6 HB hq_; have HO_5 := n0_; have HO_6 := n1_; have HB := n2_; clear n0_ n1_ n2_)); obtain ⟨Ao19, co19, rfl⟩ := Kd.R_slice HO_5.out; have pa9 : 0 ≤ (ta8 : Int) := zd; have qa9 : ta8 < (x5_1.length : Int) := zd; obtain ⟨ada9, ea9, hxa9_0⟩ := Kd.at_int (Kd.R_reads' HO_5.out).2.2 ta8 pa9 qa9; cases ea9; replace pa9 := eq_true pa9; replace qa9 := eq_true qa9; have p17 : 0 ≤ (ta8 : Int) := zd; have q17 : (ta8 : Int) < ((x5_1.length : Int) : Int) := zd; obtain ⟨go17, co17, eo17, gb17, gl17, cl17, HG17⟩ := Kd.R_form HO_5.out (by omega); (first | cases eo17 | (injection eo17 with ea_ en_ ec_; (first | subst ea_ | (injection ea_ with ea_; subst ea_)); subst ec_; clear en_)); have GB17 := zk gb17; have GG17 := zk HG17; clear gb17 gl17 HG17; (first | simp only [add_plain] at hxa9_0 | skip); obtain ⟨hx17_0, hf17_0⟩ := Kd.R_celln 0 HO_5.out (ta8 : Int) p17 q17; replace p17 := eq_true p17; replace q17 := eq_true q17; obtain ⟨hy20_, hz20_⟩ := Kd.R_celln 0 HO_5.out (ta8 : Int) zd zd; have HP20 := Kd.R_putg HO_5.out (ta8 : Int) (wrap64 ((rd x5_1 ta8) + 1))) | ((with_reducible refine gate_store (t := 3) (p := 31) rfl ?_); refine store_event (t := 3) (p := 31) (v := ?vo_w21) (w1 := (wr.setCell ⟨go17, (ta8 : Int).toNat, none⟩ (.int .i64 (wrap64 ((rd x5_1 ta8) + 1))))) ?hg ?ho ?hn ?hr ?_; (case ho => rfl); (case hg => rfl); (case hn => rfl); (case hr => first | (go_simp; done) | (go_simp; rfl)); intro w21 hw; have hg : wr.grownBy w21 (some go17) := (by rw [hw]; exact HP20.2); have hp_ : Kd.R (Kd.int .i64) 3 w21 w.heap.size (fun k_ => some k_ ≠ (.slice Ao18 ya4.length co18 : Value).ownBlock) (.slice (some ⟨go17, 0, none⟩) x5_1.length co19) yb0 := (by rw [hw, Nyb0.out]; exact HP20.1); clear HP20; replace HO_5 := zk (hp_); replace HO_6 := zk (Kd.R_after (v := (.slice (some ⟨go17, 0, none⟩) x5_1.length co19)) (v1 := (.slice (some ⟨go17, 0, none⟩) x5_1.length co19)) (ok := (fun _ => True)) (by (with_reducible repeat (first | apply Kd.R_alloc | apply Kd.R_drewN | apply Kd.R_drew)); exact Kd.R_mono HO_6.out (fun _ hk => ⟨trivial, hk⟩)) hg (.inl rfl)); replace HB := zk ((by rw [hw]; exact below_set (HB.out) GB17.out : Below w.heap.size w w21)); clear hg hw hp_))
   go_roundg k1
   case measure => have := HK1.out; omega
   case rel => exact ⟨(yb0), (wrap64 (x7_1 + 1)), zF, H', ⟨zo1 HK1⟩, ⟨zR HO_5.out⟩, ⟨by (with_reducible repeat (first | apply Kd.R_alloc | apply Kd.R_drewN | apply Kd.R_drew)); exact Kd.R_mono HO_6.out (fun _ hk => hk.2)⟩, ⟨zB HB.out⟩⟩
 have H' := zk H
 clear H
 go_wp2
 go_loopg [8, 9] k1 (fun kq v8 v9 w' => ∃ (x8_2 : List (List Int)) (x9_2 : Int), v9 = .int .i64 x9_2 ∧ Aside0 (r24_Weights.l1 kq a0 x5_1 x8_2 x9_2 = some r) ∧ Aside0 (kq ≤ k1) ∧ Aside0 (Kd.R (Kd.int .i64) 3 w' w.heap.size (fun _ => True) va2 x5_1) ∧ Aside0 (Kd.S (Kd.slice 97 (Kd.int .u32)) 29 w' w.heap.size (fun _ => True) v8 x8_2) ∧ Aside0 (Below w.heap.size w w'))
 case atStart => exact ⟨(([] : List (List Int))), (0), zF, H', ⟨Nat.le_refl _⟩, ⟨by (with_reducible repeat (first | apply Kd.R_alloc | apply Kd.R_drewN | apply Kd.R_drew)); exact Kd.R_mono HO_5.out (fun _ hk => trivial)⟩, ⟨by first | exact Kd.S_nil _ _ _ _ _ | exact Kd.N_nil _ _ _ _ _ | exact Kd.V_nil _ _ _ _ _ | exact Kd.Q_nil _ _ _ _ _ | exact Kd.R_nil _ _ _ _ _⟩, ⟨zB HB.out⟩⟩
 clear H'
 (try clear c4);(try clear c4b0);(try clear c4b1);(try clear c5);(try clear c5b0);(try clear c5b1);(try clear c6);(try clear c6b0);(try clear c6b1);(try clear c7);(try clear c7b0);(try clear c7b1);(try clear c12b0);(try clear c13b0);(try clear c15b0);(try clear c16b0);(try clear p17);(try clear q17);(try clear hxa7_0);(try clear hxa9_0);(try clear hx17_0);(try clear pa7);(try clear pa9);(try clear qa7);(try clear qa9)
 obtain ⟨x8_2, x9_2, rfl, HA, HK2, HO_5, HO_8, HB⟩ := hrel
 cases gk with | zero => exact absurd HA.out (by simp [r24_Weights.l1]) | succ k2 => ?_
 have H := HA.out
 clear HA
 simp only [r24_Weights.l1] at H
 replace H := zid H
 rcases H with ⟨c22b0, H⟩ | ⟨c22b0, H⟩
 · replace H := zgd H
   obtain ⟨c23b0, H⟩ := H
   replace H := zgd H
   obtain ⟨c24b0, H⟩ := H
   replace H := zb H
   obtain ⟨tb2, A25, H⟩ := H
   replace H := zg H
   obtain ⟨c26, H⟩ := H
   have LMc26 := zk c26
   clear c26
   obtain ⟨yb5, hyb5⟩ : ∃ y_ : List (List Int), y_ = (x8_2 ++ [tb2]) := ⟨_, rfl⟩
   replace H : (r24_Weights.l1 k2 a0 x5_1 yb5 (wrap64 (x9_2 + 1))) = some r := zY hyb5 H
   have Nyb5 := zk hyb5
   clear hyb5
   have H' := zk H
   clear H
   obtain ⟨Ao27, co27, rfl⟩ := Kd.R_slice HO_5.out
   have pb1 : 0 ≤ (x9_2 : Int) := zd
   have qb1 : x9_2 < (x5_1.length : Int) := zd
   obtain ⟨adb1, eb1, hxb1_0⟩ := Kd.at_int (Kd.R_reads' HO_5.out).2.2 x9_2 pb1 qb1
   cases eb1
   replace pb1 := eq_true pb1
   replace qb1 := eq_true qb1
   go_wp2_with (first | ((with_reducible refine gC 23 ?_); refine zG (some 43) Try.func23 #[.int .u64 (IntKind.u64.wrap (rd x5_1 x9_2))] ?_; (with_reducible refine (r1_Of.calls k2 (IntKind.u64.wrap (rd x5_1 x9_2)) tb2 _ A25.out).mono ?_); rintro e w28 ⟨vb3, rfl, ho0, hb⟩; refine ⟨_, rfl, ?_⟩; replace HO_5 := yRb HO_5 hb; replace HO_8 := zk (Kd.S_elder' (zS HO_8.out) (Kd.R_base ho0) hb); have HOb4 := yRl ho0 HB; replace HB := yS HB hb; (try clear hb ho0); obtain ⟨Ao30, co30, rfl⟩ := Kd.R_slice HOb4.out) | ((with_reducible refine gate_builtin (b := .append) (xs := #[.tmp 37, .tmp 44]) rfl ?_); at_builtin; refine Kd.S_append (Kd.slice 97 (Kd.int .u32)) (w0 := w) w.heap.size rfl (.tmp 37) (.tmp 44) 33 29 (.slice none 0 0) 24 rfl Try.underlying33 info29 rfl (by decide) (by omega) u8 x8_2 tb2 [.slice Ao30 tb2.length co30] (fun _ => True) (fun k_ => some k_ = (.slice Ao30 tb2.length co30 : Value).ownBlock) rfl rfl ?aP (fun k_ hk_ => ((Kd.R_mono (ok' := fun k_ => ((fun _ => True)) k_ ∧ some k_ ≠ (u8 : Value).ownBlock) (Kd.R_apart' (HOb4.out) (Kd.S_typed HO_8.out) (by decide)) (fun k_ hk => ⟨trivial, hk.2⟩))).1 k_ hk_.symm) ?aF ?aO ?aB ?aS ?aL ?_; (case aP => exact Kd.M_row (Kd.R_mono (Kd.R_tight rfl (Kd.R_mono (ok' := fun k_ => ((fun _ => True)) k_ ∧ some k_ ≠ (u8 : Value).ownBlock) (Kd.R_apart' (HOb4.out) (Kd.S_typed HO_8.out) (by decide)) (fun k_ hk => ⟨trivial, hk.2⟩))) (fun _ h_ => h_))); (case aB => exact (zB HB.out)); (case aF => exact (fun _ _ => trivial)); (case aO => exact (by (with_reducible repeat (first | apply Kd.S_alloc | apply Kd.S_drewN | apply Kd.S_drew)); exact Kd.S_mono HO_8.out (fun k_ hk => ⟨trivial, fun e_ => hk.2 e_⟩))); (case aS => exact (below_size (zB HB.out))); (case aL => have := LMc26.out; omega); intro vb6 w29 ho hb hg hat; rw [← Nyb5.out] at ho; replace HO_5 := zk (Kd.R_over' (zR HO_5.out) (Kd.S_typed (zS HO_8.out)) (by decide) hg); replace HB := zk (hb); have HOb7 := zk (ho); clear HO_8 HOb4; clear ho hb hg hat))
   go_roundg k2
   case measure => have := HK1.out; have := HK2.out; omega
   case rel => exact ⟨(yb5), (wrap64 (x9_2 + 1)), zF, H', ⟨zo2 HK1 HK2⟩, ⟨zR HO_5.out⟩, ⟨zS HOb7.out⟩, ⟨zB HB.out⟩⟩
 obtain rfl := Option.some.inj H
 go_wp2
 go_ret
 exact ⟨_, by first | rfl | (simp [errW_none, errW_some] <;> rfl) | (simp only [← hji3]; first | rfl | (simp [errW_none, errW_some] <;> rfl)) | (simp [*, errW_none, errW_some] <;> rfl), zS HO_8.out, zB HB.out⟩
set_option maxHeartbeats 8000000 in
set_option maxRecDepth 100000 in
theorem r1_Mul.calls (k : Nat) (A0 : Option Addr) (c0 : Nat) (l0 : List Int) (A1 : Option Addr) (c1 : Nat) (l1 : List Int) (r : List Int) (w : World) (hr0 : Kd.C (Kd.int .u32) w A0 l0.length l0) (hc0 : l0.length ≤ c0) (hr1 : Kd.C (Kd.int .u32) w A1 l1.length l1) (hc1 : l1.length ≤ c1) (h : r1_Mul.f k l0 l1 = some r) :
    Calls Try.prog 26 #[.slice A0 l0.length c0, .slice A1 l1.length c1] w fun e w' => ∃ v0_ : Value, e = .returned (v0_) ∧ Kd.R (Kd.int .u32) 97 w' w.heap.size (fun _ => True) v0_ r ∧ Below w.heap.size w w' := by
 have HR0 := zk hr0
 have HC0 := zk hc0
 clear hr0 hc0
 have HR1 := zk hr1
 have HC1 := zk hc1
 clear hr1 hc1
 have HB := zk (Below.refl w.heap.size w)
 have H := h
 clear h
 unfold r1_Mul.f at H
 obtain ⟨ji3, hji3⟩ : ∃ j_ : Int, (wrap64 ((l0.length : Int) + (l1.length : Int))) = j_ := ⟨_, rfl⟩
 replace H : (if 0 ≤ (ji3) then (if (ji3 : Int).toNat ≤ 70368744177664 then (r1_Mul.l0 k l0 l1 (List.replicate (ji3 : Int).toNat 0) 0) else (none)) else (none)) = some r := by first | (rw [hji3] at H; exact H) | (simp only [hji3] at H ⊢; exact H)
 have hji3w : (IntKind.i64.wrap ((l0.length : Int) + (l1.length : Int))) = ji3 := (i64_w _).trans hji3
 replace H := zg H
 obtain ⟨c4, H⟩ := H
 have c4b0 := eq_true c4
 have c4b1 := decide_eq_true c4
 clear c4
 replace H := zg H
 obtain ⟨c5, H⟩ := H
 have c5b0 := eq_true c5
 have c5b1 := decide_eq_true c5
 clear c5
 obtain ⟨ya1, hya1⟩ : ∃ y_ : List Int, y_ = (List.replicate (ji3 : Int).toNat 0) := ⟨_, rfl⟩
 replace H : (r1_Mul.l0 k l0 l1 ya1 0) = some r := zY hya1 H
 have Nya1 := zk hya1
 clear hya1
 have H' := zk H
 clear H
 go_enter Try.func26, Try.ntmps26
 go_wp2_with (first | ((with_reducible refine gate_dst (N := 15) rfl ?_); refine Kd.R_make (Kd.int .u32) _ 97 rfl (N := 15) rfl 29 _ _ rfl ji3 rfl rfl Try.underlying29 (.int .u32 0) 4 info97 rfl (by decide) (by omega) 0 (ok := fun _ => True) (okp := fun _ => True) rfl (fun _ hk => hk) trivial zd (Nat.le_trans (Nat.mul_le_mul_right _ (zd : ji3.toNat ≤ 70368744177664)) (by omega)) (Below.refl _ _) (Nat.le_refl _) ?_; intro va2 w6 ho7 hb hg_ hnew_; clear hg_ hnew_; (first | rw [← Nya1.out] at ho7 | (simp only [Int.reduceToNat] at ho7; rw [← Nya1.out] at ho7)); have HOa3 := yRl ho7 HB; replace HB := yS HB hb; clear hb ho7))
 repeat (go_quiet (first | ((with_reducible refine gate_dst (N := 15) rfl ?_); refine Kd.R_make (Kd.int .u32) _ 97 rfl (N := 15) rfl 29 _ _ rfl ji3 rfl rfl Try.underlying29 (.int .u32 0) 4 info97 rfl (by decide) (by omega) 0 (ok := fun _ => True) (okp := fun _ => True) rfl (fun _ hk => hk) trivial zd (Nat.le_trans (Nat.mul_le_mul_right _ (zd : ji3.toNat ≤ 70368744177664)) (by omega)) (Below.refl _ _) (Nat.le_refl _) ?_; intro va2 w6 ho7 hb hg_ hnew_; clear hg_ hnew_; (first | rw [← Nya1.out] at ho7 | (simp only [Int.reduceToNat] at ho7; rw [← Nya1.out] at ho7)); have HOa3 := yRl ho7 HB; replace HB := yS HB hb; clear hb ho7)); try go_wp2_with (first | ((with_reducible refine gate_dst (N := 15) rfl ?_); refine Kd.R_make (Kd.int .u32) _ 97 rfl (N := 15) rfl 29 _ _ rfl ji3 rfl rfl Try.underlying29 (.int .u32 0) 4 info97 rfl (by decide) (by omega) 0 (ok := fun _ => True) (okp := fun _ => True) rfl (fun _ hk => hk) trivial zd (Nat.le_trans (Nat.mul_le_mul_right _ (zd : ji3.toNat ≤ 70368744177664)) (by omega)) (Below.refl _ _) (Nat.le_refl _) ?_; intro va2 w6 ho7 hb hg_ hnew_; clear hg_ hnew_; (first | rw [← Nya1.out] at ho7 | (simp only [Int.reduceToNat] at ho7; rw [← Nya1.out] at ho7)); have n0_ := yRl ho7 HB; have n1_ := yS HB hb; clear HB; have HOa3 := n0_; have HB := n1_; clear n0_ n1_; clear hb ho7)))
 go_loopg [6] k (fun kq v6 w' => ∃ (x5_1 : List Int) (x6_1 : Int), v6 = .int .i64 x6_1 ∧ Aside0 (r1_Mul.l0 kq l0 l1 x5_1 x6_1 = some r) ∧ Aside0 (kq ≤ k) ∧ Aside0 (Kd.R (Kd.int .u32) 97 w' w.heap.size (fun _ => True) va2 x5_1) ∧ Aside0 (Below w.heap.size w w'))
 case atStart => exact ⟨(ya1), (0), zF, H', ⟨Nat.le_refl _⟩, ⟨zR HOa3.out⟩, ⟨zB HB.out⟩⟩
 clear H'
 (try clear c4);(try clear c4b0);(try clear c4b1);(try clear c5);(try clear c5b0);(try clear c5b1)
 obtain ⟨x5_1, x6_1, rfl, HA, HK1, HO_5, HB⟩ := hrel
 cases gk with | zero => exact absurd HA.out (by simp [r1_Mul.l0]) | succ k1 => ?_
 have H := HA.out
 clear HA
 simp only [r1_Mul.l0] at H
 replace H := zid H
 rcases H with ⟨c8b0, H⟩ | ⟨c8b0, H⟩
 · have H' := zk H
   clear H
   go_wp2
   repeat (go_quiet (fail); try go_wp2)
   go_loopg [7, 8] k1 (fun kq v7 v8 w' => ∃ (x5_2 : List Int) (x7_2 : Int) (x8_2 : Int), v7 = .int .u64 x7_2 ∧ v8 = .int .i64 x8_2 ∧ Aside0 (r1_Mul.l1 kq l0 l1 x5_2 x6_1 x7_2 x8_2 = some r) ∧ Aside0 (kq ≤ k1) ∧ Aside0 (Kd.R (Kd.int .u32) 97 w' w.heap.size (fun _ => True) va2 x5_2) ∧ Aside0 (Below w.heap.size w w'))
   case atStart => exact ⟨(x5_1), (0), (0), zF, zF, H', ⟨Nat.le_refl _⟩, ⟨zR HO_5.out⟩, ⟨zB HB.out⟩⟩
   clear H'
   (try clear c4);(try clear c4b0);(try clear c4b1);(try clear c5);(try clear c5b0);(try clear c5b1);(try clear c8b0)
   obtain ⟨x5_2, x7_2, x8_2, rfl, rfl, HA, HK2, HO_5, HB⟩ := hrel
   cases gk with | zero => exact absurd HA.out (by simp [r1_Mul.l1]) | succ k2 => ?_
   have H := HA.out
   clear HA
   simp only [r1_Mul.l1] at H
   replace H := zid H
   rcases H with ⟨c9b0, H⟩ | ⟨c9b0, H⟩
   · replace H := zgd H
     obtain ⟨c10b0, H⟩ := H
     replace H := zgd H
     obtain ⟨c11b0, H⟩ := H
     replace H := zgd H
     obtain ⟨c12b0, H⟩ := H
     obtain ⟨ji13, hji13⟩ : ∃ j_ : Int, (wrap64 (x6_1 + x8_2)) = j_ := ⟨_, rfl⟩
     replace H : (if 0 ≤ (ji13) then (if (ji13) < (x5_2.length : Int) then (r1_Mul.l1 k2 l0 l1 (x5_2.set ((ji13) : Int).toNat ((Int.tmod (IntKind.u64.wrap ((IntKind.u64.wrap ((IntKind.u64.wrap ((IntKind.u64.wrap (rd l0 x6_1)) * (IntKind.u64.wrap (rd l1 x8_2)))) + (IntKind.u64.wrap (rd x5_2 (ji13))))) + x7_2)) 4294967296) % 4294967296)) x6_1 (IntKind.u64.wrap (Int.tdiv (IntKind.u64.wrap ((IntKind.u64.wrap ((IntKind.u64.wrap ((IntKind.u64.wrap (rd l0 x6_1)) * (IntKind.u64.wrap (rd l1 x8_2)))) + (IntKind.u64.wrap (rd x5_2 (ji13))))) + x7_2)) 4294967296)) (wrap64 (x8_2 + 1))) else (none)) else (none)) = some r := by first | (rw [hji13] at H; exact H) | (simp only [hji13] at H ⊢; exact H)
     have hji13w : (IntKind.i64.wrap (x6_1 + x8_2)) = ji13 := (i64_w _).trans hji13
     replace H := zgd H
     obtain ⟨c14b0, H⟩ := H
     replace H := zgd H
     obtain ⟨c15b0, H⟩ := H
     obtain ⟨yb0, hyb0⟩ : ∃ y_ : List Int, y_ = (x5_2.set ((ji13) : Int).toNat ((Int.tmod (IntKind.u64.wrap ((IntKind.u64.wrap ((IntKind.u64.wrap ((IntKind.u64.wrap (rd l0 x6_1)) * (IntKind.u64.wrap (rd l1 x8_2)))) + (IntKind.u64.wrap (rd x5_2 (ji13))))) + x7_2)) 4294967296) % 4294967296)) := ⟨_, rfl⟩
     replace H : (r1_Mul.l1 k2 l0 l1 yb0 x6_1 (IntKind.u64.wrap (Int.tdiv (IntKind.u64.wrap ((IntKind.u64.wrap ((IntKind.u64.wrap ((IntKind.u64.wrap (rd l0 x6_1)) * (IntKind.u64.wrap (rd l1 x8_2)))) + (IntKind.u64.wrap (rd x5_2 (ji13))))) + x7_2)) 4294967296)) (wrap64 (x8_2 + 1))) = some r := zY hyb0 H
     have Nyb0 := zk hyb0
     clear hyb0
     have H' := zk H
     clear H
     have pa7 : 0 ≤ (x6_1 : Int) := zd
     have qa7 : x6_1 < (l0.length : Int) := zd
     obtain ⟨ada7, ea7, hxa7_0⟩ := Kd.at_int HR0.out x6_1 pa7 qa7
     cases ea7
     replace hxa7_0 := (HB.out.cell (World.block_lt_of_cell? w _ hxa7_0)).trans hxa7_0
     replace pa7 := eq_true pa7
     replace qa7 := eq_true qa7
     have pa8 : 0 ≤ (x8_2 : Int) := zd
     have qa8 : x8_2 < (l1.length : Int) := zd
     obtain ⟨ada8, ea8, hxa8_0⟩ := Kd.at_int HR1.out x8_2 pa8 qa8
     cases ea8
     replace hxa8_0 := (HB.out.cell (World.block_lt_of_cell? w _ hxa8_0)).trans hxa8_0
     replace pa8 := eq_true pa8
     replace qa8 := eq_true qa8
     obtain ⟨Ao17, co17, rfl⟩ := Kd.R_slice HO_5.out
     have pa9 : 0 ≤ ((ji13) : Int) := zd
     have qa9 : (ji13) < (x5_2.length : Int) := zd
     obtain ⟨ada9, ea9, hxa9_0⟩ := Kd.at_int (Kd.R_reads' HO_5.out).2.2 (ji13) pa9 qa9
     cases ea9
     replace pa9 := eq_true pa9
     replace qa9 := eq_true qa9
     have p16 : 0 ≤ ((ji13) : Int) := zd
     have q16 : ((ji13) : Int) < ((x5_2.length : Int) : Int) := zd
     obtain ⟨go16, co16, eo16, gb16, gl16, cl16, HG16⟩ := Kd.R_form HO_5.out (by omega)
     (first | cases eo16 | (injection eo16 with ea_ en_ ec_; (first | subst ea_ | (injection ea_ with ea_; subst ea_)); subst ec_; clear en_))
     have GB16 := zk gb16
     have GG16 := zk HG16
     clear gb16 gl16 HG16
     (first | simp only [add_plain] at hxa9_0 | skip)
     obtain ⟨hx16_0, hf16_0⟩ := Kd.R_celln 0 HO_5.out ((ji13) : Int) p16 q16
     replace p16 := eq_true p16
     replace q16 := eq_true q16
     obtain ⟨hy18_, hz18_⟩ := Kd.R_celln 0 HO_5.out ((ji13) : Int) zd zd
     have HP18 := Kd.R_putg HO_5.out ((ji13) : Int) ((Int.tmod (IntKind.u64.wrap ((IntKind.u64.wrap ((IntKind.u64.wrap ((IntKind.u64.wrap (rd l0 x6_1)) * (IntKind.u64.wrap (rd l1 x8_2)))) + (IntKind.u64.wrap (rd x5_2 (ji13))))) + x7_2)) 4294967296) % 4294967296)
     go_wp2_with (first | ((with_reducible refine gate_store (t := 97) (p := 56) rfl ?_); (try (rw [drewN_self wr]; generalize hq_ : World.drewN wr _ = wr; have n0_ := zk (Kd.R_at hq_ HO_5.out); have n1_ := zk (below_at hq_ HB.out); clear hq_ HO_5 HB; have HO_5 := n0_; have HB := n1_; clear n0_ n1_; (try (obtain ⟨hy18_, hz18_⟩ := Kd.R_celln 0 HO_5.out ((ji13) : Int) zd zd)); (try (have HP18 := Kd.R_putg HO_5.out ((ji13) : Int) ((Int.tmod (IntKind.u64.wrap ((IntKind.u64.wrap ((IntKind.u64.wrap ((IntKind.u64.wrap (rd l0 x6_1)) * (IntKind.u64.wrap (rd l1 x8_2)))) + (IntKind.u64.wrap (rd x5_2 (ji13))))) + x7_2)) 4294967296) % 4294967296))))); refine store_event (t := 97) (p := 56) (v := ?vo_w19) (w1 := (wr.setCell ⟨go16, ((ji13) : Int).toNat, none⟩ (.int .u32 ((Int.tmod (IntKind.u64.wrap ((IntKind.u64.wrap ((IntKind.u64.wrap ((IntKind.u64.wrap (rd l0 x6_1)) * (IntKind.u64.wrap (rd l1 x8_2)))) + (IntKind.u64.wrap (rd x5_2 (ji13))))) + x7_2)) 4294967296) % 4294967296)))) ?hg ?ho ?hn ?hr ?_; (case ho => rfl); (case hg => rfl); (case hn => rfl); (case hr => first | (go_simp; done) | (go_simp; rfl)); intro w19 hw; have hg : wr.grownBy w19 (some go16) := (by rw [hw]; exact HP18.2); have hp_ : Kd.R (Kd.int .u32) 97 w19 w.heap.size (fun _ => True) (.slice (some ⟨go16, 0, none⟩) x5_2.length co17) yb0 := (by rw [hw, Nyb0.out]; exact HP18.1); clear HP18; replace HO_5 := zk (hp_); replace HB := zk ((by rw [hw]; exact below_set (HB.out) GB16.out : Below w.heap.size w w19)); clear hg hw hp_))
     repeat (go_quiet (first | ((with_reducible refine gate_store (t := 97) (p := 56) rfl ?_); (try (rw [drewN_self wr]; generalize hq_ : World.drewN wr _ = wr; have n0_ := zk (Kd.R_at hq_ HO_5.out); have n1_ := zk (below_at hq_ HB.out); clear hq_ HO_5 HB; have HO_5 := n0_; have HB := n1_; clear n0_ n1_; (try (obtain ⟨hy18_, hz18_⟩ := Kd.R_celln 0 HO_5.out ((ji13) : Int) zd zd)); (try (have HP18 := Kd.R_putg HO_5.out ((ji13) : Int) ((Int.tmod (IntKind.u64.wrap ((IntKind.u64.wrap ((IntKind.u64.wrap ((IntKind.u64.wrap (rd l0 x6_1)) * (IntKind.u64.wrap (rd l1 x8_2)))) + (IntKind.u64.wrap (rd x5_2 (ji13))))) + x7_2)) 4294967296) % 4294967296))))); refine store_event (t := 97) (p := 56) (v := ?vo_w19) (w1 := (wr.setCell ⟨go16, ((ji13) : Int).toNat, none⟩ (.int .u32 ((Int.tmod (IntKind.u64.wrap ((IntKind.u64.wrap ((IntKind.u64.wrap ((IntKind.u64.wrap (rd l0 x6_1)) * (IntKind.u64.wrap (rd l1 x8_2)))) + (IntKind.u64.wrap (rd x5_2 (ji13))))) + x7_2)) 4294967296) % 4294967296)))) ?hg ?ho ?hn ?hr ?_; (case ho => rfl); (case hg => rfl); (case hn => rfl); (case hr => first | (go_simp; done) | (go_simp; rfl)); intro w19 hw; have hg : wr.grownBy w19 (some go16) := (by rw [hw]; exact HP18.2); have hp_ : Kd.R (Kd.int .u32) 97 w19 w.heap.size (fun _ => True) (.slice (some ⟨go16, 0, none⟩) x5_2.length co17) yb0 := (by rw [hw, Nyb0.out]; exact HP18.1); clear HP18; replace HO_5 := zk (hp_); replace HB := zk ((by rw [hw]; exact below_set (HB.out) GB16.out : Below w.heap.size w w19)); clear hg hw hp_)); try go_wp2_with (first | ((with_reducible refine gate_store (t := 97) (p := 56) rfl ?_); (try (rw [drewN_self wr]; generalize hq_ : World.drewN wr _ = wr; have n0_ := zk (Kd.R_at hq_ HO_5.out); have n1_ := zk (below_at hq_ HB.out); clear hq_ HO_5 HB; have HO_5 := n0_; have HB := n1_; clear n0_ n1_; (try (obtain ⟨hy18_, hz18_⟩ := Kd.R_celln 0 HO_5.out ((ji13) : Int) zd zd)); (try (have HP18 := Kd.R_putg HO_5.out ((ji13) : Int) ((Int.tmod (IntKind.u64.wrap ((IntKind.u64.wrap ((IntKind.u64.wrap ((IntKind.u64.wrap (rd l0 x6_1)) * (IntKind.u64.wrap (rd l1 x8_2)))) + (IntKind.u64.wrap (rd x5_2 (ji13))))) + x7_2)) 4294967296) % 4294967296))))); refine store_event (t := 97) (p := 56) (v := ?vo_w19) (w1 := (wr.setCell ⟨go16, ((ji13) : Int).toNat, none⟩ (.int .u32 ((Int.tmod (IntKind.u64.wrap ((IntKind.u64.wrap ((IntKind.u64.wrap ((IntKind.u64.wrap (rd l0 x6_1)) * (IntKind.u64.wrap (rd l1 x8_2)))) + (IntKind.u64.wrap (rd x5_2 (ji13))))) + x7_2)) 4294967296) % 4294967296)))) ?hg ?ho ?hn ?hr ?_; (case ho => rfl); (case hg => rfl); (case hn => rfl); (case hr => first | (go_simp; done) | (go_simp; rfl)); intro w19 hw; have hg : wr.grownBy w19 (some go16) := (by rw [hw]; exact HP18.2); have hp_ : Kd.R (Kd.int .u32) 97 w19 w.heap.size (fun _ => True) (.slice (some ⟨go16, 0, none⟩) x5_2.length co17) yb0 := (by rw [hw, Nyb0.out]; exact HP18.1); clear HP18; have n0_ := zk (hp_); have n1_ := zk ((by rw [hw]; exact below_set (HB.out) GB16.out : Below w.heap.size w w19)); clear HO_5; clear HB; have HO_5 := n0_; have HB := n1_; clear n0_ n1_; clear hg hw hp_)))
     go_roundg k2
     case measure => have := HK1.out; have := HK2.out; omega
     case rel => exact ⟨(yb0), (IntKind.u64.wrap (Int.tdiv (IntKind.u64.wrap ((IntKind.u64.wrap ((IntKind.u64.wrap ((IntKind.u64.wrap (rd l0 x6_1)) * (IntKind.u64.wrap (rd l1 x8_2)))) + (IntKind.u64.wrap (rd x5_2 (ji13))))) + x7_2)) 4294967296)), (wrap64 (x8_2 + 1)), (by first | rfl | (simp; done) | (simp only [← hji13] <;> (first | rfl | simp)) | (simp [*]; done)), zF, H', ⟨zo2 HK1 HK2⟩, ⟨zR HO_5.out⟩, ⟨zB HB.out⟩⟩
   obtain ⟨ji20, hji20⟩ : ∃ j_ : Int, (wrap64 (x6_1 + (l1.length : Int))) = j_ := ⟨_, rfl⟩
   replace H : (if 0 ≤ (ji20) then (if (ji20) < (x5_2.length : Int) then (r1_Mul.l0 k2 l0 l1 (x5_2.set ((ji20) : Int).toNat ((x7_2) % 4294967296)) (wrap64 (x6_1 + 1))) else (none)) else (none)) = some r := by first | (rw [hji20] at H; exact H) | (simp only [hji20] at H ⊢; exact H)
   have hji20w : (IntKind.i64.wrap (x6_1 + (l1.length : Int))) = ji20 := (i64_w _).trans hji20
   replace H := zgd H
   obtain ⟨c21b0, H⟩ := H
   replace H := zgd H
   obtain ⟨c22b0, H⟩ := H
   obtain ⟨yb1, hyb1⟩ : ∃ y_ : List Int, y_ = (x5_2.set ((ji20) : Int).toNat ((x7_2) % 4294967296)) := ⟨_, rfl⟩
   replace H : (r1_Mul.l0 k2 l0 l1 yb1 (wrap64 (x6_1 + 1))) = some r := zY hyb1 H
   have Nyb1 := zk hyb1
   clear hyb1
   have H' := zk H
   clear H
   have p23 : 0 ≤ ((ji20) : Int) := zd
   have q23 : ((ji20) : Int) < ((x5_2.length : Int) : Int) := zd
   obtain ⟨go23, co23, eo23, gb23, gl23, cl23, HG23⟩ := Kd.R_form HO_5.out (by omega)
   (first | cases eo23 | (injection eo23 with ea_ en_ ec_; (first | subst ea_ | (injection ea_ with ea_; subst ea_)); subst ec_; clear en_))
   have GB23 := zk gb23
   have GG23 := zk HG23
   clear gb23 gl23 HG23
   obtain ⟨hx23_0, hf23_0⟩ := Kd.R_celln 0 HO_5.out ((ji20) : Int) p23 q23
   replace p23 := eq_true p23
   replace q23 := eq_true q23
   obtain ⟨hy24_, hz24_⟩ := Kd.R_celln 0 HO_5.out ((ji20) : Int) zd zd
   have HP24 := Kd.R_putg HO_5.out ((ji20) : Int) ((x7_2) % 4294967296)
   go_wp2_with (first | ((with_reducible refine gate_store (t := 97) (p := 66) rfl ?_); (try (rw [drewN_self wr]; generalize hq_ : World.drewN wr _ = wr; have n0_ := zk (Kd.R_at hq_ HO_5.out); have n1_ := zk (below_at hq_ HB.out); clear hq_ HO_5 HB; have HO_5 := n0_; have HB := n1_; clear n0_ n1_; (try (obtain ⟨hy24_, hz24_⟩ := Kd.R_celln 0 HO_5.out ((ji20) : Int) zd zd)); (try (have HP24 := Kd.R_putg HO_5.out ((ji20) : Int) ((x7_2) % 4294967296))))); refine store_event (t := 97) (p := 66) (v := ?vo_w25) (w1 := (wr.setCell ⟨go23, ((ji20) : Int).toNat, none⟩ (.int .u32 ((x7_2) % 4294967296)))) ?hg ?ho ?hn ?hr ?_; (case ho => rfl); (case hg => rfl); (case hn => rfl); (case hr => first | (go_simp; done) | (go_simp; rfl)); intro w25 hw; have hg : wr.grownBy w25 (some go23) := (by rw [hw]; exact HP24.2); have hp_ : Kd.R (Kd.int .u32) 97 w25 w.heap.size (fun _ => True) (.slice (some ⟨go23, 0, none⟩) x5_2.length co23) yb1 := (by rw [hw, Nyb1.out]; exact HP24.1); clear HP24; replace HO_5 := zk (hp_); replace HB := zk ((by rw [hw]; exact below_set (HB.out) GB23.out : Below w.heap.size w w25)); clear hg hw hp_))
   repeat (go_quiet (first | ((with_reducible refine gate_store (t := 97) (p := 66) rfl ?_); (try (rw [drewN_self wr]; generalize hq_ : World.drewN wr _ = wr; have n0_ := zk (Kd.R_at hq_ HO_5.out); have n1_ := zk (below_at hq_ HB.out); clear hq_ HO_5 HB; have HO_5 := n0_; have HB := n1_; clear n0_ n1_; (try (obtain ⟨hy24_, hz24_⟩ := Kd.R_celln 0 HO_5.out ((ji20) : Int) zd zd)); (try (have HP24 := Kd.R_putg HO_5.out ((ji20) : Int) ((x7_2) % 4294967296))))); refine store_event (t := 97) (p := 66) (v := ?vo_w25) (w1 := (wr.setCell ⟨go23, ((ji20) : Int).toNat, none⟩ (.int .u32 ((x7_2) % 4294967296)))) ?hg ?ho ?hn ?hr ?_; (case ho => rfl); (case hg => rfl); (case hn => rfl); (case hr => first | (go_simp; done) | (go_simp; rfl)); intro w25 hw; have hg : wr.grownBy w25 (some go23) := (by rw [hw]; exact HP24.2); have hp_ : Kd.R (Kd.int .u32) 97 w25 w.heap.size (fun _ => True) (.slice (some ⟨go23, 0, none⟩) x5_2.length co23) yb1 := (by rw [hw, Nyb1.out]; exact HP24.1); clear HP24; replace HO_5 := zk (hp_); replace HB := zk ((by rw [hw]; exact below_set (HB.out) GB23.out : Below w.heap.size w w25)); clear hg hw hp_)); try go_wp2_with (first | ((with_reducible refine gate_store (t := 97) (p := 66) rfl ?_); (try (rw [drewN_self wr]; generalize hq_ : World.drewN wr _ = wr; have n0_ := zk (Kd.R_at hq_ HO_5.out); have n1_ := zk (below_at hq_ HB.out); clear hq_ HO_5 HB; have HO_5 := n0_; have HB := n1_; clear n0_ n1_; (try (obtain ⟨hy24_, hz24_⟩ := Kd.R_celln 0 HO_5.out ((ji20) : Int) zd zd)); (try (have HP24 := Kd.R_putg HO_5.out ((ji20) : Int) ((x7_2) % 4294967296))))); refine store_event (t := 97) (p := 66) (v := ?vo_w25) (w1 := (wr.setCell ⟨go23, ((ji20) : Int).toNat, none⟩ (.int .u32 ((x7_2) % 4294967296)))) ?hg ?ho ?hn ?hr ?_; (case ho => rfl); (case hg => rfl); (case hn => rfl); (case hr => first | (go_simp; done) | (go_simp; rfl)); intro w25 hw; have hg : wr.grownBy w25 (some go23) := (by rw [hw]; exact HP24.2); have hp_ : Kd.R (Kd.int .u32) 97 w25 w.heap.size (fun _ => True) (.slice (some ⟨go23, 0, none⟩) x5_2.length co23) yb1 := (by rw [hw, Nyb1.out]; exact HP24.1); clear HP24; have n0_ := zk (hp_); have n1_ := zk ((by rw [hw]; exact below_set (HB.out) GB23.out : Below w.heap.size w w25)); clear HO_5; clear HB; have HO_5 := n0_; have HB := n1_; clear n0_ n1_; clear hg hw hp_)))
   go_roundg k2
   case measure => have := HK1.out; have := HK2.out; omega
   case rel => exact ⟨(yb1), (wrap64 (x6_1 + 1)), zF, H', ⟨zo2 HK1 HK2⟩, ⟨zR HO_5.out⟩, ⟨zB HB.out⟩⟩
 replace H := zb H
 obtain ⟨ta4, A26, H⟩ := H
 obtain rfl := Option.some.inj H
 obtain ⟨Ao27, co27, rfl⟩ := Kd.R_slice HO_5.out
 go_wp2_with (first | (go_at_call 75; (with_reducible refine (r1_Trim.calls k1 _ _ x5_1 ta4 _ ?side1 ?side2 A26.out).mono ?_); (case side1 => exact zC (Kd.R_reads' HO_5.out).2.2); (case side2 => exact (Kd.R_reads' HO_5.out).2.1); rintro e w28 ⟨va5, rfl, ho0, hb⟩; replace ho0 := yn ho0 HO_5; have HOa6 := yRl ho0 HB; replace HO_5 := yRe HO_5 ho0 hb; replace HB := yS HB hb; (try clear hb ho0)))
 repeat (go_quiet (first | (go_at_call 75; (with_reducible refine (r1_Trim.calls k1 _ _ x5_1 ta4 _ ?side1 ?side2 A26.out).mono ?_); (case side1 => exact zC (Kd.R_reads' HO_5.out).2.2); (case side2 => exact (Kd.R_reads' HO_5.out).2.1); rintro e w28 ⟨va5, rfl, ho0, hb⟩; replace ho0 := yn ho0 HO_5; have HOa6 := yRl ho0 HB; replace HO_5 := yRe HO_5 ho0 hb; replace HB := yS HB hb; (try clear hb ho0))); try go_wp2_with (first | (go_at_call 75; (with_reducible refine (r1_Trim.calls k1 _ _ x5_1 ta4 _ ?side1 ?side2 A26.out).mono ?_); (case side1 => exact zC (Kd.R_reads' HO_5.out).2.2); (case side2 => exact (Kd.R_reads' HO_5.out).2.1); rintro e w28 ⟨va5, rfl, ho0, hb⟩; have n0_ := yRe HO_5 ho0 hb; have n1_ := zk (Kd.R_lower (Kd.R_new' ho0 (Kd.R_lt (zR HO_5.out))) (below_size (zB HB.out))); have n2_ := yS HB hb; clear HO_5; clear HB; have HO_5 := n0_; have HOa6 := n1_; have HB := n2_; clear n0_ n1_ n2_; (try clear hb); (try clear hb2); (try clear hk); (try clear hi); (try clear ho0))))
 go_ret
 exact ⟨_, by first | rfl | (simp [errW_none, errW_some] <;> rfl) | (simp only [← hji3]; first | rfl | (simp [errW_none, errW_some] <;> rfl)) | (simp [*, errW_none, errW_some] <;> rfl), by (with_reducible repeat (first | apply Kd.R_alloc | apply Kd.R_drewN | apply Kd.R_drew)); exact Kd.R_mono HOa6.out (fun _ hk => trivial), zB HB.out⟩
set_option maxHeartbeats 8000000 in
set_option maxRecDepth 100000 in
theorem r1_Bits.calls (k : Nat) (A0 : Option Addr) (c0 : Nat) (l0 : List Int) (r : Int) (w : World) (hr0 : Kd.C (Kd.int .u32) w A0 l0.length l0) (hc0 : l0.length ≤ c0) (h : r1_Bits.f k l0 = some r) :
    Calls Try.prog 76 #[.slice A0 l0.length c0] w fun e w' => e = .returned (.int .i64 r) ∧ Below w.heap.size w w' := by
 have HR0 := zk hr0
 have HC0 := zk hc0
 clear hr0 hc0
 have HB := zk (Below.refl w.heap.size w)
 have H := h
 clear h
 unfold r1_Bits.f at H
 replace H := zb H
 obtain ⟨ta1, A2, H⟩ := H
 replace H := zi H
 rcases H with ⟨c3, H⟩ | ⟨c3, H⟩
 · have c3b0 := beq_iff_eq.mpr c3
   have c3b1 := bne_eq_false_iff_eq.mpr c3
   clear c3
   obtain rfl := Option.some.inj H
   go_enter Try.func76, Try.ntmps76
   go_wp2_with (first | ((with_reducible refine gC 75 ?_); refine zG (some 6) Try.func75 #[.slice A0 l0.length c0] ?_; (with_reducible refine (r1_Trim.calls k _ _ l0 ta1 _ ?side1 ?side2 A2.out).mono ?_); (case side1 => exact zC HR0.out); (case side2 => exact HC0.out); rintro e w4 ⟨va2, rfl, ho0, hb⟩; refine ⟨_, rfl, ?_⟩; have HOa3 := yRl ho0 HB; replace HB := yS HB hb; (try clear hb ho0); obtain ⟨Ao5, co5, rfl⟩ := Kd.R_slice HOa3.out))
   go_ret
   exact ⟨zE, zB HB.out⟩
 have c3b0 := beq_eq_false_iff_ne.mpr c3
 have c3b1 := bne_iff_ne.mpr c3
 have c3b2 : ¬ (ta1 = []) := fun h_ => c3 (by rw [h_]; rfl)
 obtain ⟨ji6, hji6⟩ : ∃ j_ : Int, (wrap64 ((ta1.length : Int) - 1)) = j_ := ⟨_, rfl⟩
 replace H : (if 0 ≤ (ji6) then (if (ji6) < (ta1.length : Int) then (r1_Bits.l0 k (wrap64 (32 * (ji6))) (rd ta1 (ji6))) else (none)) else (none)) = some r := by first | (rw [hji6] at H; exact H) | (simp only [hji6] at H ⊢; exact H)
 (try rw [hji6] at A2)
 have hji6w : (IntKind.i64.wrap ((ta1.length : Int) - 1)) = ji6 := (i64_w _).trans hji6
 replace H := zgd H
 obtain ⟨c7b0, H⟩ := H
 replace H := zgd H
 obtain ⟨c8b0, H⟩ := H
 have H' := zk H
 clear H
 go_enter Try.func76, Try.ntmps76
 go_wp2_with (first | ((with_reducible refine gC 75 ?_); refine zG (some 6) Try.func75 #[.slice A0 l0.length c0] ?_; (with_reducible refine (r1_Trim.calls k _ _ l0 ta1 _ ?side1 ?side2 A2.out).mono ?_); (case side1 => exact zC HR0.out); (case side2 => exact HC0.out); rintro e w9 ⟨va2, rfl, ho0, hb⟩; refine ⟨_, rfl, ?_⟩; have HOa3 := yRl ho0 HB; replace HB := yS HB hb; (try clear hb ho0); obtain ⟨Ao10, co10, rfl⟩ := Kd.R_slice HOa3.out; have pa4 : 0 ≤ ((ji6) : Int) := zd; have qa4 : (ji6) < (ta1.length : Int) := zd; obtain ⟨ada4, ea4, hxa4_0⟩ := Kd.at_int (Kd.R_reads' HOa3.out).2.2 (ji6) pa4 qa4; cases ea4; replace pa4 := eq_true pa4; replace qa4 := eq_true qa4))
 go_loopg [3, 4] k (fun kq v3 v4 w' => ∃ (x3_1 : Int) (x4_1 : Int), v3 = .int .i64 x3_1 ∧ v4 = .int .u32 x4_1 ∧ Aside0 (r1_Bits.l0 kq x3_1 x4_1 = some r) ∧ Aside0 (kq ≤ k) ∧ Aside0 (Below w.heap.size w w'))
 case atStart => exact ⟨(wrap64 (32 * (ji6))), (rd ta1 (ji6)), (by first | rfl | (simp; done) | (simp only [← hji6] <;> (first | rfl | simp)) | (simp [*]; done)), (by first | rfl | (simp; done) | (simp only [← hji6] <;> (first | rfl | simp)) | (simp [*]; done)), H', ⟨Nat.le_refl _⟩, ⟨zB HB.out⟩⟩
 clear H'
 (try clear c3);(try clear c3b0);(try clear c3b1);(try clear c3b2);(try clear c7b0);(try clear c8b0);(try clear hxa4_0);(try clear pa4);(try clear qa4)
 obtain ⟨x3_1, x4_1, rfl, rfl, HA, HK1, HB⟩ := hrel
 cases gk with | zero => exact absurd HA.out (by simp [r1_Bits.l0]) | succ k1 => ?_
 have H := HA.out
 clear HA
 simp only [r1_Bits.l0] at H
 replace H := zi H
 rcases H with ⟨c11, H⟩ | ⟨c11, H⟩
 · have c11b0 : decide (0 < x4_1) = true := decide_eq_true c11
   clear c11
   have H' := zk H
   clear H
   go_wp2
   go_roundg k1
   case measure => have := HK1.out; omega
   case rel => exact ⟨(wrap64 (x3_1 + 1)), ((Int.tdiv x4_1 2) % 4294967296), zF, zF, H', ⟨zo1 HK1⟩, ⟨zB HB.out⟩⟩
 have c11b0 : decide (0 < x4_1) = false := decide_eq_false c11
 clear c11
 obtain rfl := Option.some.inj H
 go_wp2
 go_ret
 exact ⟨by first | rfl | (simp [errW_none, errW_some] <;> rfl) | (simp only [← hji6]; first | rfl | (simp [errW_none, errW_some] <;> rfl)) | (simp [*, errW_none, errW_some] <;> rfl), zB HB.out⟩
set_option maxHeartbeats 8000000 in
set_option maxRecDepth 100000 in
theorem r1_Pow.calls (k : Nat) (A0 : Option Addr) (c0 : Nat) (l0 : List Int) (a1 : Int) (r1 : List Int) (r2 : Int) (w : World) (hr0 : Kd.C (Kd.int .u32) w A0 l0.length l0) (hc0 : l0.length ≤ c0) (h : r1_Pow.f k l0 a1 = some (r1, r2)) :
    Calls Try.prog 22 #[.slice A0 l0.length c0, .int .i64 a1] w fun e w' => ∃ v0_ : Value, e = .returned (.tuple #[v0_, .int .i64 r2]) ∧ Kd.R (Kd.int .u32) 97 w' w.heap.size (fun _ => True) v0_ r1 ∧ Below w.heap.size w w' := by
 have HR0 := zk hr0
 have HC0 := zk hc0
 clear hr0 hc0
 have HB := zk (Below.refl w.heap.size w)
 have H := h
 clear h
 unfold r1_Pow.f at H
 replace H := zid H
 rcases H with ⟨c3b0, H⟩ | ⟨c3b0, H⟩
 · simp only [Option.some.injEq, Prod.mk.injEq] at H
   obtain ⟨rfl, rfl⟩ := H
   go_enter Try.func22, Try.ntmps22
   go_wp2
   go_ret2
   exact ⟨_, zE, z0, zB HB.out⟩
 replace H := zb H
 obtain ⟨ta1, A4, H⟩ := H
 replace H := zi H
 rcases H with ⟨c5, H⟩ | ⟨c5, H⟩
 · have c5b0 := beq_iff_eq.mpr c5
   have c5b1 := bne_eq_false_iff_eq.mpr c5
   clear c5
   obtain ⟨ya4, hya4⟩ : ∃ y_ : List Int, y_ = (([1] : List Int)) := ⟨_, rfl⟩
   replace H : (some (ya4, 0)) = some (r1, r2) := zY hya4 H
   have Nya4 := zk hya4
   clear hya4
   simp only [Option.some.injEq, Prod.mk.injEq] at H
   obtain ⟨rfl, rfl⟩ := H
   go_enter Try.func22, Try.ntmps22
   go_wp2_with (first | ((with_reducible refine gC 75 ?_); refine zG (some 11) Try.func75 #[.slice A0 l0.length c0] ?_; (with_reducible refine (r1_Trim.calls k _ _ l0 ta1 _ ?side1 ?side2 A4.out).mono ?_); (case side1 => exact zC HR0.out); (case side2 => exact HC0.out); rintro e w6 ⟨va2, rfl, ho0, hb⟩; refine ⟨_, rfl, ?_⟩; have HOa3 := yRl ho0 HB; replace HB := yS HB hb; (try clear hb ho0)) | ((with_reducible refine gate_dst (N := 14) rfl ?_); refine Kd.R_lit (Kd.int .u32) _ 97 ?hg (N := 14) ?hd (xs := ([1] : List Int)) (inner := [.int .u32 1]) (ok := fun _ => True) (okp := fun _ => True) ?hr ?hp (fun _ hk => hk) trivial (Below.refl _ _) (Nat.le_refl _) (by simp) ?_; (case hd => rfl); (case hg => rfl); (case hr => first | (go_simp; done) | (go_simp; rfl)); (case hp => exact (Reps.one (show Kd.M (Kd.int .u32) _ _ _ 1 [.int .u32 1] from rfl) (Reps.none _ _))); intro va5 w7 ho8 hb hg_ hnew_; clear hg_ hnew_; (first | rw [← Nya4.out] at ho8 | (simp only [Int.reduceToNat] at ho8; rw [← Nya4.out] at ho8)); replace ho8 := yn ho8 HOa3; have HOa6 := yRl ho8 HB; replace HOa3 := yRe HOa3 ho8 hb; replace HB := yS HB hb; clear hb ho8))
   go_ret2
   exact ⟨_, zE, by (with_reducible repeat (first | apply Kd.R_alloc | apply Kd.R_drewN | apply Kd.R_drew)); exact Kd.R_mono HOa6.out (fun _ hk => trivial), zB HB.out⟩
 have c5b0 := beq_eq_false_iff_ne.mpr c5
 have c5b1 := bne_iff_ne.mpr c5
 replace H := zb H
 obtain ⟨ta7, A9, H⟩ := H
 replace H := zid H
 rcases H with ⟨c10b0, H⟩ | ⟨c10b0, H⟩
 · simp only [Option.some.injEq, Prod.mk.injEq] at H
   obtain ⟨rfl, rfl⟩ := H
   go_enter Try.func22, Try.ntmps22
   go_wp2_with (first | ((with_reducible refine gC 75 ?_); refine zG (some 11) Try.func75 #[.slice A0 l0.length c0] ?_; (with_reducible refine (r1_Trim.calls k _ _ l0 ta1 _ ?side1 ?side2 A4.out).mono ?_); (case side1 => exact zC HR0.out); (case side2 => exact HC0.out); rintro e w11 ⟨va2, rfl, ho0, hb⟩; refine ⟨_, rfl, ?_⟩; have HOa3 := yRl ho0 HB; replace HB := yS HB hb; (try clear hb ho0); obtain ⟨Ao12, co12, rfl⟩ := Kd.R_slice HOa3.out) | ((with_reducible refine gC 76 ?_); refine zG (some 16) Try.func76 #[.slice Ao12 ta1.length co12] ?_; (with_reducible refine (r1_Bits.calls k _ _ ta1 ta7 _ ?side1 ?side2 A9.out).mono ?_); (case side1 => exact zC (Kd.R_reads' HOa3.out).2.2); (case side2 => exact (Kd.R_reads' HOa3.out).2.1); rintro e w13 ⟨rfl, hb⟩; refine ⟨_, rfl, ?_⟩; replace HOa3 := yRb HOa3 hb; replace HB := yS HB hb; (try clear hb); (try clear hb2); (try clear hk); (try clear hi)))
   go_ret2
   exact ⟨_, zE, zR HOa3.out, zB HB.out⟩
 replace H := zi H
 rcases H with ⟨c14, H⟩ | ⟨c14, H⟩
 · have c14b0 : decide (131072 < a1) = true := decide_eq_true c14
   clear c14
   simp only [Option.some.injEq, Prod.mk.injEq] at H
   obtain ⟨rfl, rfl⟩ := H
   go_enter Try.func22, Try.ntmps22
   go_wp2_with (first | ((with_reducible refine gC 75 ?_); refine zG (some 11) Try.func75 #[.slice A0 l0.length c0] ?_; (with_reducible refine (r1_Trim.calls k _ _ l0 ta1 _ ?side1 ?side2 A4.out).mono ?_); (case side1 => exact zC HR0.out); (case side2 => exact HC0.out); rintro e w15 ⟨va2, rfl, ho0, hb⟩; refine ⟨_, rfl, ?_⟩; have HOa3 := yRl ho0 HB; replace HB := yS HB hb; (try clear hb ho0); obtain ⟨Ao16, co16, rfl⟩ := Kd.R_slice HOa3.out) | ((with_reducible refine gC 76 ?_); refine zG (some 16) Try.func76 #[.slice Ao16 ta1.length co16] ?_; (with_reducible refine (r1_Bits.calls k _ _ ta1 ta7 _ ?side1 ?side2 A9.out).mono ?_); (case side1 => exact zC (Kd.R_reads' HOa3.out).2.2); (case side2 => exact (Kd.R_reads' HOa3.out).2.1); rintro e w17 ⟨rfl, hb⟩; refine ⟨_, rfl, ?_⟩; replace HOa3 := yRb HOa3 hb; replace HB := yS HB hb; (try clear hb); (try clear hb2); (try clear hk); (try clear hi)))
   go_ret2
   exact ⟨_, zE, z0, zB HB.out⟩
 have c14b0 : decide (131072 < a1) = false := decide_eq_false c14
 clear c14
 obtain ⟨ya8, hya8⟩ : ∃ y_ : List Int, y_ = (([1] : List Int)) := ⟨_, rfl⟩
 replace H : (r1_Pow.l0 k ta1 a1 ya8 262144) = some (r1, r2) := zY hya8 H
 have Nya8 := zk hya8
 clear hya8
 have H' := zk H
 clear H
 go_enter Try.func22, Try.ntmps22
 go_wp2_with (first | ((with_reducible refine gC 75 ?_); refine zG (some 11) Try.func75 #[.slice A0 l0.length c0] ?_; (with_reducible refine (r1_Trim.calls k _ _ l0 ta1 _ ?side1 ?side2 A4.out).mono ?_); (case side1 => exact zC HR0.out); (case side2 => exact HC0.out); rintro e w18 ⟨va2, rfl, ho0, hb⟩; refine ⟨_, rfl, ?_⟩; have HOa3 := yRl ho0 HB; replace HB := yS HB hb; (try clear hb ho0); obtain ⟨Ao19, co19, rfl⟩ := Kd.R_slice HOa3.out) | ((with_reducible refine gC 76 ?_); refine zG (some 16) Try.func76 #[.slice Ao19 ta1.length co19] ?_; (with_reducible refine (r1_Bits.calls k _ _ ta1 ta7 _ ?side1 ?side2 A9.out).mono ?_); (case side1 => exact zC (Kd.R_reads' HOa3.out).2.2); (case side2 => exact (Kd.R_reads' HOa3.out).2.1); rintro e w20 ⟨rfl, hb⟩; refine ⟨_, rfl, ?_⟩; replace HOa3 := yRb HOa3 hb; replace HB := yS HB hb; (try clear hb); (try clear hb2); (try clear hk); (try clear hi)) | ((with_reducible refine gate_dst (N := 21) rfl ?_); refine Kd.R_lit (Kd.int .u32) _ 97 ?hg (N := 21) ?hd (xs := ([1] : List Int)) (inner := [.int .u32 1]) (ok := fun _ => True) (okp := fun _ => True) ?hr ?hp (fun _ hk => hk) trivial (Below.refl _ _) (Nat.le_refl _) (by simp) ?_; (case hd => rfl); (case hg => rfl); (case hr => first | (go_simp; done) | (go_simp; rfl)); (case hp => exact (Reps.one (show Kd.M (Kd.int .u32) _ _ _ 1 [.int .u32 1] from rfl) (Reps.none _ _))); intro va9 w21 ho22 hb hg_ hnew_; clear hg_ hnew_; (first | rw [← Nya8.out] at ho22 | (simp only [Int.reduceToNat] at ho22; rw [← Nya8.out] at ho22)); replace ho22 := yn ho22 HOa3; have HOb0 := yRl ho22 HB; replace HOa3 := yRe HOa3 ho22 hb; replace HB := yS HB hb; clear hb ho22))
 go_loopg [6, 7] k (fun kq v6 v7 w' => ∃ (x6_1 : List Int) (x7_1 : Int), v7 = .int .i64 x7_1 ∧ Aside0 (r1_Pow.l0 kq ta1 a1 x6_1 x7_1 = some (r1, r2)) ∧ Aside0 (kq ≤ k) ∧ Aside0 (Kd.R (Kd.int .u32) 97 w' w.heap.size (fun k_ => some k_ ≠ (v6 : Value).ownBlock) (.slice Ao19 ta1.length co19) ta1) ∧ Aside0 (Kd.R (Kd.int .u32) 97 w' w.heap.size (fun k_ => some k_ ≠ ((.slice Ao19 ta1.length co19) : Value).ownBlock) v6 x6_1) ∧ Aside0 (Below w.heap.size w w'))
 case atStart => exact ⟨(ya8), (262144), zF, H', ⟨Nat.le_refl _⟩, ⟨by (with_reducible repeat (first | apply Kd.R_alloc | apply Kd.R_drewN | apply Kd.R_drew)); exact Kd.R_mono HOa3.out (fun _ hk => hk.2)⟩, ⟨by (with_reducible repeat (first | apply Kd.R_alloc | apply Kd.R_drewN | apply Kd.R_drew)); exact Kd.R_mono HOb0.out (fun _ hk => hk.2)⟩, ⟨zB HB.out⟩⟩
 clear H'
 (try clear c3b0);(try clear c5);(try clear c5b0);(try clear c5b1);(try clear c10b0);(try clear c14);(try clear c14b0)
 obtain ⟨x6_1, x7_1, rfl, HA, HK1, HO_0, HO_6, HB⟩ := hrel
 cases gk with | zero => exact absurd HA.out (by simp [r1_Pow.l0]) | succ k1 => ?_
 have H := HA.out
 clear HA
 simp only [r1_Pow.l0] at H
 replace H := zi H
 rcases H with ⟨c23, H⟩ | ⟨c23, H⟩
 · have c23b0 : decide (0 < x7_1) = true := decide_eq_true c23
   clear c23
   replace H := zb H
   obtain ⟨tb1, A24, H⟩ := H
   replace H := zh H
   obtain ⟨c25, H⟩ := H
   have c25b0 := beq_eq_false_iff_ne.mpr c25
   have c25b1 := bne_iff_ne.mpr c25
   replace H := zi H
   rcases H with ⟨c26, H⟩ | ⟨c26, H⟩
   · have c26b0 := beq_iff_eq.mpr c26
     have c26b1 := bne_eq_false_iff_eq.mpr c26
     clear c26
     replace H := zb H
     obtain ⟨tb4, A27, H⟩ := H
     replace H := zi H
     rcases H with ⟨c28, H⟩ | ⟨c28, H⟩
     · have c28b0 : decide (4096 < (tb4.length : Int)) = true := decide_eq_true c28
       have c28b1 : decide (4096 < tb4.length) = true := decide_eq_true (by omega)
       clear c28
       simp only [Option.some.injEq, Prod.mk.injEq] at H
       obtain ⟨rfl, rfl⟩ := H
       obtain ⟨Ao29, co29, rfl⟩ := Kd.R_slice HO_6.out
       go_wp2_with (first | ((with_reducible refine gC 26 ?_); refine zG (some 28) Try.func26 #[.slice Ao29 x6_1.length co29, .slice Ao29 x6_1.length co29] ?_; (with_reducible refine (r1_Mul.calls k1 _ _ x6_1 _ _ x6_1 tb1 _ ?side1 ?side2 ?side3 ?side4 A24.out).mono ?_); (case side1 => exact zC (Kd.R_reads' HO_6.out).2.2); (case side2 => exact (Kd.R_reads' HO_6.out).2.1); (case side3 => exact zC (Kd.R_reads' HO_6.out).2.2); (case side4 => exact (Kd.R_reads' HO_6.out).2.1); rintro e w30 ⟨vb2, rfl, ho0, hb⟩; refine ⟨_, rfl, ?_⟩; replace ho0 := yn ho0 HO_0; replace ho0 := yn ho0 HO_6; have HOb3 := yRl ho0 HB; replace HO_0 := yRe HO_0 ho0 hb; replace HO_6 := yRe HO_6 ho0 hb; replace HB := yS HB hb; (try clear hb ho0); obtain ⟨Ao31, co31, rfl⟩ := Kd.R_slice HOb3.out) | ((with_reducible refine gC 26 ?_); refine zG (some 36) Try.func26 #[.slice Ao31 tb1.length co31, .slice Ao19 ta1.length co19] ?_; (with_reducible refine (r1_Mul.calls k1 _ _ tb1 _ _ ta1 tb4 _ ?side1 ?side2 ?side3 ?side4 A27.out).mono ?_); (case side1 => exact zC (Kd.R_reads' HOb3.out).2.2); (case side2 => exact (Kd.R_reads' HOb3.out).2.1); (case side3 => exact zC (Kd.R_reads' HO_0.out).2.2); (case side4 => exact (Kd.R_reads' HO_0.out).2.1); rintro e w32 ⟨vb5, rfl, ho0, hb⟩; refine ⟨_, rfl, ?_⟩; replace ho0 := yn ho0 HO_0; replace ho0 := yn ho0 HO_6; replace ho0 := yn ho0 HOb3; have HOb6 := yRl ho0 HB; replace HO_0 := yRe HO_0 ho0 hb; replace HO_6 := yRe HO_6 ho0 hb; replace HOb3 := yRe HOb3 ho0 hb; replace HB := yS HB hb; (try clear hb ho0); obtain ⟨Ao33, co33, rfl⟩ := Kd.R_slice HOb6.out))
       go_ret2
       exact ⟨_, zE, z0, zB HB.out⟩
     have c28b0 : decide (4096 < (tb4.length : Int)) = false := decide_eq_false c28
     have c28b1 : decide (4096 < tb4.length) = false := decide_eq_false (by omega)
     clear c28
     have H' := zk H
     clear H
     obtain ⟨Ao34, co34, rfl⟩ := Kd.R_slice HO_6.out
     go_wp2_with (first | ((with_reducible refine gC 26 ?_); refine zG (some 28) Try.func26 #[.slice Ao34 x6_1.length co34, .slice Ao34 x6_1.length co34] ?_; (with_reducible refine (r1_Mul.calls k1 _ _ x6_1 _ _ x6_1 tb1 _ ?side1 ?side2 ?side3 ?side4 A24.out).mono ?_); (case side1 => exact zC (Kd.R_reads' HO_6.out).2.2); (case side2 => exact (Kd.R_reads' HO_6.out).2.1); (case side3 => exact zC (Kd.R_reads' HO_6.out).2.2); (case side4 => exact (Kd.R_reads' HO_6.out).2.1); rintro e w35 ⟨vb2, rfl, ho0, hb⟩; refine ⟨_, rfl, ?_⟩; replace ho0 := yn ho0 HO_0; replace ho0 := yn ho0 HO_6; have HOb3 := yRl ho0 HB; replace HO_0 := yRe HO_0 ho0 hb; replace HO_6 := yRe HO_6 ho0 hb; replace HB := yS HB hb; (try clear hb ho0); obtain ⟨Ao36, co36, rfl⟩ := Kd.R_slice HOb3.out) | ((with_reducible refine gC 26 ?_); refine zG (some 36) Try.func26 #[.slice Ao36 tb1.length co36, .slice Ao19 ta1.length co19] ?_; (with_reducible refine (r1_Mul.calls k1 _ _ tb1 _ _ ta1 tb4 _ ?side1 ?side2 ?side3 ?side4 A27.out).mono ?_); (case side1 => exact zC (Kd.R_reads' HOb3.out).2.2); (case side2 => exact (Kd.R_reads' HOb3.out).2.1); (case side3 => exact zC (Kd.R_reads' HO_0.out).2.2); (case side4 => exact (Kd.R_reads' HO_0.out).2.1); rintro e w37 ⟨vb5, rfl, ho0, hb⟩; refine ⟨_, rfl, ?_⟩; replace ho0 := yn ho0 HO_0; replace ho0 := yn ho0 HO_6; replace ho0 := yn ho0 HOb3; have HOb6 := yRl ho0 HB; replace HO_0 := yRe HO_0 ho0 hb; replace HO_6 := yRe HO_6 ho0 hb; replace HOb3 := yRe HOb3 ho0 hb; replace HB := yS HB hb; (try clear hb ho0); obtain ⟨Ao38, co38, rfl⟩ := Kd.R_slice HOb6.out))
     go_roundg k1
     case measure => have := HK1.out; omega
     case rel => exact ⟨(tb4), (wrap64 (Int.tdiv x7_1 2)), zF, H', ⟨zo1 HK1⟩, ⟨by (with_reducible repeat (first | apply Kd.R_alloc | apply Kd.R_drewN | apply Kd.R_drew)); exact Kd.R_mono HO_0.out (fun _ hk => hk.2)⟩, ⟨by (with_reducible repeat (first | apply Kd.R_alloc | apply Kd.R_drewN | apply Kd.R_drew)); exact Kd.R_mono HOb6.out (fun _ hk => hk.1.1.2)⟩, ⟨zB HB.out⟩⟩
   have c26b0 := beq_eq_false_iff_ne.mpr c26
   have c26b1 := bne_iff_ne.mpr c26
   replace H := zi H
   rcases H with ⟨c39, H⟩ | ⟨c39, H⟩
   · have c39b0 : decide (4096 < (tb1.length : Int)) = true := decide_eq_true c39
     have c39b1 : decide (4096 < tb1.length) = true := decide_eq_true (by omega)
     clear c39
     simp only [Option.some.injEq, Prod.mk.injEq] at H
     obtain ⟨rfl, rfl⟩ := H
     obtain ⟨Ao40, co40, rfl⟩ := Kd.R_slice HO_6.out
     go_wp2_with (first | ((with_reducible refine gC 26 ?_); refine zG (some 28) Try.func26 #[.slice Ao40 x6_1.length co40, .slice Ao40 x6_1.length co40] ?_; (with_reducible refine (r1_Mul.calls k1 _ _ x6_1 _ _ x6_1 tb1 _ ?side1 ?side2 ?side3 ?side4 A24.out).mono ?_); (case side1 => exact zC (Kd.R_reads' HO_6.out).2.2); (case side2 => exact (Kd.R_reads' HO_6.out).2.1); (case side3 => exact zC (Kd.R_reads' HO_6.out).2.2); (case side4 => exact (Kd.R_reads' HO_6.out).2.1); rintro e w41 ⟨vb2, rfl, ho0, hb⟩; refine ⟨_, rfl, ?_⟩; replace ho0 := yn ho0 HO_0; replace ho0 := yn ho0 HO_6; have HOb3 := yRl ho0 HB; replace HO_0 := yRe HO_0 ho0 hb; replace HO_6 := yRe HO_6 ho0 hb; replace HB := yS HB hb; (try clear hb ho0); obtain ⟨Ao42, co42, rfl⟩ := Kd.R_slice HOb3.out))
     go_ret2
     exact ⟨_, zE, z0, zB HB.out⟩
   have c39b0 : decide (4096 < (tb1.length : Int)) = false := decide_eq_false c39
   have c39b1 : decide (4096 < tb1.length) = false := decide_eq_false (by omega)
   clear c39
   have H' := zk H
   clear H
   obtain ⟨Ao43, co43, rfl⟩ := Kd.R_slice HO_6.out
   go_wp2_with (first | ((with_reducible refine gC 26 ?_); refine zG (some 28) Try.func26 #[.slice Ao43 x6_1.length co43, .slice Ao43 x6_1.length co43] ?_; (with_reducible refine (r1_Mul.calls k1 _ _ x6_1 _ _ x6_1 tb1 _ ?side1 ?side2 ?side3 ?side4 A24.out).mono ?_); (case side1 => exact zC (Kd.R_reads' HO_6.out).2.2); (case side2 => exact (Kd.R_reads' HO_6.out).2.1); (case side3 => exact zC (Kd.R_reads' HO_6.out).2.2); (case side4 => exact (Kd.R_reads' HO_6.out).2.1); rintro e w44 ⟨vb2, rfl, ho0, hb⟩; refine ⟨_, rfl, ?_⟩; replace ho0 := yn ho0 HO_0; replace ho0 := yn ho0 HO_6; have HOb3 := yRl ho0 HB; replace HO_0 := yRe HO_0 ho0 hb; replace HO_6 := yRe HO_6 ho0 hb; replace HB := yS HB hb; (try clear hb ho0); obtain ⟨Ao45, co45, rfl⟩ := Kd.R_slice HOb3.out))
   go_roundg k1
   case measure => have := HK1.out; omega
   case rel => exact ⟨(tb1), (wrap64 (Int.tdiv x7_1 2)), zF, H', ⟨zo1 HK1⟩, ⟨by (with_reducible repeat (first | apply Kd.R_alloc | apply Kd.R_drewN | apply Kd.R_drew)); exact Kd.R_mono HO_0.out (fun _ hk => hk.2)⟩, ⟨by (with_reducible repeat (first | apply Kd.R_alloc | apply Kd.R_drewN | apply Kd.R_drew)); exact Kd.R_mono HOb3.out (fun _ hk => hk.1.2)⟩, ⟨zB HB.out⟩⟩
 have c23b0 : decide (0 < x7_1) = false := decide_eq_false c23
 clear c23
 simp only [Option.some.injEq, Prod.mk.injEq] at H
 obtain ⟨rfl, rfl⟩ := H
 go_wp2
 go_ret2
 exact ⟨_, zE, by (with_reducible repeat (first | apply Kd.R_alloc | apply Kd.R_drewN | apply Kd.R_drew)); exact Kd.R_mono HO_6.out (fun _ hk => trivial), zB HB.out⟩
set_option maxHeartbeats 8000000 in
set_option maxRecDepth 100000 in
theorem r1_Same.calls (k : Nat) (A0 : Option Addr) (c0 : Nat) (l0 : List Int) (A1 : Option Addr) (c1 : Nat) (l1 : List Int) (r : Bool) (w : World) (hr0 : Kd.C (Kd.int .u32) w A0 l0.length l0) (hc0 : l0.length ≤ c0) (hr1 : Kd.C (Kd.int .u32) w A1 l1.length l1) (hc1 : l1.length ≤ c1) (h : r1_Same.f k l0 l1 = some r) :
    Calls Try.prog 25 #[.slice A0 l0.length c0, .slice A1 l1.length c1] w fun e w' => e = .returned (.bool r) ∧ Drawn0 w w' := by
 have HR0 := zk hr0
 have HC0 := zk hc0
 clear hr0 hc0
 have HR1 := zk hr1
 have HC1 := zk hc1
 clear hr1 hc1
 have H := h
 clear h
 unfold r1_Same.f at H
 replace H := zi H
 rcases H with ⟨c3, H⟩ | ⟨c3, H⟩
 · have c3b0 := beq_iff_eq.mpr c3
   have c3b1 := bne_eq_false_iff_eq.mpr c3
   have c3b2 : (l0.length == l1.length) = true := by first | simpa using c3 | (simp at c3 ⊢; omega)
   clear c3
   have H' := zk H
   clear H
   go_enter Try.func25, Try.ntmps25
   go_wp2
   repeat (go_quiet (fail); try go_wp2)
   go_loopg [5] k (fun kq v5 w' => ∃ (x5_1 : Int), v5 = .int .i64 x5_1 ∧ Aside0 (r1_Same.l0 kq l0 l1 x5_1 = some r) ∧ Aside0 (kq ≤ k) ∧ Drawn0 w w')
   case atStart => exact ⟨(0), zF, H', ⟨Nat.le_refl _⟩, by repeat (first | exact Drawn0.refl _ | apply Drawn0.step)⟩
   clear H'
   (try clear c3);(try clear c3b0);(try clear c3b1);(try clear c3b2)
   obtain ⟨x5_1, rfl, HA, HK1, ⟨m1, rfl⟩⟩ := hrel
   cases gk with | zero => exact absurd HA.out (by simp [r1_Same.l0]) | succ k1 => ?_
   have H := HA.out
   clear HA
   simp only [r1_Same.l0] at H
   replace H := zid H
   rcases H with ⟨c4b0, H⟩ | ⟨c4b0, H⟩
   · replace H := zgd H
     obtain ⟨c5b0, H⟩ := H
     replace H := zgd H
     obtain ⟨c6b0, H⟩ := H
     replace H := zi H
     rcases H with ⟨c7, H⟩ | ⟨c7, H⟩
     · have c7b0 := beq_iff_eq.mpr c7
       have c7b1 := bne_eq_false_iff_eq.mpr c7
       clear c7
       have H' := zk H
       clear H
       have pa1 : 0 ≤ (x5_1 : Int) := zd
       have qa1 : x5_1 < (l0.length : Int) := zd
       obtain ⟨ada1, ea1, hxa1_0⟩ := Kd.at_int HR0.out x5_1 pa1 qa1
       cases ea1
       replace pa1 := eq_true pa1
       replace qa1 := eq_true qa1
       have pa2 : 0 ≤ (x5_1 : Int) := zd
       have qa2 : x5_1 < (l1.length : Int) := zd
       obtain ⟨ada2, ea2, hxa2_0⟩ := Kd.at_int HR1.out x5_1 pa2 qa2
       cases ea2
       replace pa2 := eq_true pa2
       replace qa2 := eq_true qa2
       go_wp2
       repeat (go_quiet (fail); try go_wp2)
       go_roundg k1
       case measure => have := HK1.out; omega
       case rel => exact ⟨(wrap64 (x5_1 + 1)), zF, H', ⟨zo1 HK1⟩, by repeat (first | exact Drawn0.refl _ | apply Drawn0.step)⟩
     have c7b0 := beq_eq_false_iff_ne.mpr c7
     have c7b1 := bne_iff_ne.mpr c7
     obtain rfl := Option.some.inj H
     have pa1 : 0 ≤ (x5_1 : Int) := zd
     have qa1 : x5_1 < (l0.length : Int) := zd
     obtain ⟨ada1, ea1, hxa1_0⟩ := Kd.at_int HR0.out x5_1 pa1 qa1
     cases ea1
     replace pa1 := eq_true pa1
     replace qa1 := eq_true qa1
     have pa2 : 0 ≤ (x5_1 : Int) := zd
     have qa2 : x5_1 < (l1.length : Int) := zd
     obtain ⟨ada2, ea2, hxa2_0⟩ := Kd.at_int HR1.out x5_1 pa2 qa2
     cases ea2
     replace pa2 := eq_true pa2
     replace qa2 := eq_true qa2
     go_wp2
     repeat (go_quiet (fail); try go_wp2)
     go_ret
     exact ⟨zF, by repeat (first | exact Drawn0.refl _ | apply Drawn0.step)⟩
   obtain rfl := Option.some.inj H
   go_wp2
   repeat (go_quiet (fail); try go_wp2)
   go_ret
   exact ⟨zF, by repeat (first | exact Drawn0.refl _ | apply Drawn0.step)⟩
 have c3b0 := beq_eq_false_iff_ne.mpr c3
 have c3b1 := bne_iff_ne.mpr c3
 have c3b2 : (l0.length == l1.length) = false := by first | simpa using c3 | (simp at c3 ⊢; omega)
 obtain rfl := Option.some.inj H
 go_enter Try.func25, Try.ntmps25
 go_wp2
 repeat (go_quiet (fail); try go_wp2)
 go_ret
 exact ⟨zF, by repeat (first | exact Drawn0.refl _ | apply Drawn0.step)⟩
set_option maxHeartbeats 8000000 in
set_option maxRecDepth 100000 in
theorem r1_Zero.calls (k : Nat) (A0 : Option Addr) (c0 : Nat) (l0 : List Int) (r : Bool) (w : World) (hr0 : Kd.C (Kd.int .u32) w A0 l0.length l0) (hc0 : l0.length ≤ c0) (h : r1_Zero.f k l0 = some r) :
    Calls Try.prog 27 #[.slice A0 l0.length c0] w fun e w' => e = .returned (.bool r) ∧ Below w.heap.size w w' := by
 have HR0 := zk hr0
 have HC0 := zk hc0
 clear hr0 hc0
 have HB := zk (Below.refl w.heap.size w)
 have H := h
 clear h
 unfold r1_Zero.f at H
 replace H := zb H
 obtain ⟨ta1, A2, H⟩ := H
 obtain rfl := Option.some.inj H
 go_enter Try.func27, Try.ntmps27
 go_wp2_with (first | ((with_reducible refine gC 75 ?_); refine zG (some 4) Try.func75 #[.slice A0 l0.length c0] ?_; (with_reducible refine (r1_Trim.calls k _ _ l0 ta1 _ ?side1 ?side2 A2.out).mono ?_); (case side1 => exact zC HR0.out); (case side2 => exact HC0.out); rintro e w3 ⟨va2, rfl, ho0, hb⟩; refine ⟨_, rfl, ?_⟩; have HOa3 := yRl ho0 HB; replace HB := yS HB hb; (try clear hb ho0); obtain ⟨Ao4, co4, rfl⟩ := Kd.R_slice HOa3.out))
 go_ret
 exact ⟨zE, zB HB.out⟩
set_option maxHeartbeats 8000000 in
set_option maxRecDepth 100000 in
theorem w24_MacwilliamsPless.calls (k : Nat) (a0_0 : Int) (a0_1 : Int) (A0_2 : Option Addr) (c0_2 : Nat) (l0_2 : List Int) (a1 : Int) (A2 : Option Addr) (c2 : Nat) (l2 : List (List Int)) (a3 : Int) (r : Bool) (w : World) (hr0_2 : Kd.C (Kd.int .i64) w A0_2 l0_2.length l0_2) (hc0_2 : l0_2.length ≤ c0_2) (hr2 : Kd.C (Kd.slice 3 (Kd.int .i64)) w A2 l2.length l2) (hc2 : l2.length ≤ c2) (h : w24_MacwilliamsPless.f k a0_0 a0_1 l0_2 a1 l2 a3 = some r) :
    Calls Try.prog 3 #[.agg #[.int .i64 a0_0, .int .i64 a0_1, .slice A0_2 l0_2.length c0_2], .int .u8 a1, .slice A2 l2.length c2, .int .u8 a3] w fun e w' => e = .returned (.bool r) ∧ Below w.heap.size w w' := by
 have hu24 := Try.underlying24
 have HR0_2 := zk hr0_2
 have HC0_2 := zk hc0_2
 clear hr0_2 hc0_2
 have HR2 := zk hr2
 have HC2 := zk hc2
 clear hr2 hc2
 have HB := zk (Below.refl w.heap.size w)
 have H := h
 clear h
 unfold w24_MacwilliamsPless.f at H
 replace H := zb H
 obtain ⟨⟨ta2, ta3, ta6, ta9, tb2⟩, A5, H⟩ := H
 dsimp only at H
 by_cases c6 : tb2 = true
 · subst c6
   rw [if_pos rfl] at H
   replace H := zh H
   obtain ⟨c7, H⟩ := H
   have c7b0 := beq_eq_false_iff_ne.mpr c7
   have c7b1 := bne_iff_ne.mpr c7
   replace H := zb H
   obtain ⟨tb3, A8, H⟩ := H
   replace H := zb H
   obtain ⟨⟨tb6, tb9⟩, A9, H⟩ := H
   dsimp only at H
   replace H := zb H
   obtain ⟨tc0, A10, H⟩ := H
   replace H := zb H
   obtain ⟨⟨tc3, tc6⟩, A11, H⟩ := H
   dsimp only at H
   replace H := zb H
   obtain ⟨tc7, A12, H⟩ := H
   replace H := zb H
   obtain ⟨tc8, A13, H⟩ := H
   replace H := zb H
   obtain ⟨⟨td1, td2⟩, A14, H⟩ := H
   dsimp only at H
   replace H := zi H
   rcases H with ⟨c15, H⟩ | ⟨c15, H⟩
   · have c15b0 := beq_iff_eq.mpr c15
     have c15b1 := bne_eq_false_iff_eq.mpr c15
     clear c15
     replace H := zi H
     rcases H with ⟨c16, H⟩ | ⟨c16, H⟩
     · have c16b0 := beq_iff_eq.mpr c16
       have c16b1 := bne_eq_false_iff_eq.mpr c16
       clear c16
       replace H := zb H
       obtain ⟨td5, A17, H⟩ := H
       replace H := zb H
       obtain ⟨td8, A18, H⟩ := H
       replace H := zb H
       obtain ⟨te1, A19, H⟩ := H
       replace H := zb H
       obtain ⟨te4, A20, H⟩ := H
       by_cases c21 : te4 = true
       · subst c21
         rw [if_pos rfl] at H
         replace H := zb H
         obtain ⟨te5, A22, H⟩ := H
         obtain rfl := Option.some.inj H
         go_enter Try.func3, Try.ntmps3
         go_wp2_with (first | ((with_reducible refine gate_dst (N := 4) rfl ?_); (try (refine gate_guard (by rfl) ?_; dsimp only)); refine box_event ?hg (N := 4) ?hd (cs := #[.int .i64 a0_0, .int .i64 a0_1, .slice A0_2 l0_2.length c0_2]) (t := 24) ?hr ?_; (case hd => rfl); (case hg => rfl); (case hr => first | (go_simp; done) | (go_simp; rfl)); intro gba1 hg w23 hbox hb; have BKa1 := zk (hbox); have GWa1 := yg hg HB; have GEa1 := yg hg HB; replace HB := yS HB hb; clear hb hbox hg; obtain ⟨hcz24_0, hcz24_1, hcz24_2, hfz24_0, hfz24_1, hfz24_2⟩ := zz3 BKa1) | ((with_reducible refine gC 19 ?_); refine zG (some 25) Try.func19 #[.agg #[.int .i64 a0_0, .int .i64 a0_1, .slice A0_2 l0_2.length c0_2], .int .u8 a1, .slice A2 l2.length c2] ?_; (with_reducible refine (w24_codes.calls k a0_0 a0_1 _ _ l0_2 a1 _ _ l2 ta2 ta3 ta6 ta9 true _ ?side1 ?side2 ?side3 ?side4 A5.out).mono ?_); (case side1 => exact zC (Kd.C_below HR0_2.out HB.out)); (case side2 => exact HC0_2.out); (case side3 => exact zC (Kd.C_below HR2.out HB.out)); (case side4 => exact HC2.out); rintro e w25 ⟨va4, va7, vb0, rfl, ho0, ho1, ho2, hb⟩; refine ⟨_, rfl, ?_⟩; have HOa5 := zk (Kd.N_lower (Kd.N_mono (ok' := fun k_ => some k_ ≠ (va7 : Value).ownBlock ∧ k_ ≠ gba1) ho0 (fun k_ hk_ => ⟨hk_.2, (Kd.freshB (g := gba1) (o := .cells #[.int .i64 a0_0, .int .i64 a0_1, .slice A0_2 l0_2.length c0_2] 24 (0, 0)) (zK BKa1.out) k_ hk_.1)⟩)) (below_size (zB1 HB.out GEa1.out))); have HOa8 := zk (Kd.N_lower (Kd.N_mono (ok' := fun k_ => some k_ ≠ (va4 : Value).ownBlock ∧ k_ ≠ gba1) ho1 (fun k_ hk_ => ⟨hk_.2, (Kd.freshB (g := gba1) (o := .cells #[.int .i64 a0_0, .int .i64 a0_1, .slice A0_2 l0_2.length c0_2] 24 (0, 0)) (zK BKa1.out) k_ hk_.1)⟩)) (below_size (zB1 HB.out GEa1.out))); have HOb1 := zk (Kd.V_lower (Kd.V_mono (ok' := fun k_ => some k_ ≠ (va4 : Value).ownBlock ∧ some k_ ≠ (va7 : Value).ownBlock ∧ k_ ≠ gba1) ho2 (fun k_ hk_ => ⟨hk_.2.1, hk_.2.2, (Kd.freshB (g := gba1) (o := .cells #[.int .i64 a0_0, .int .i64 a0_1, .slice A0_2 l0_2.length c0_2] 24 (0, 0)) (zK BKa1.out) k_ hk_.1)⟩)) (below_size (zB1 HB.out GEa1.out))); replace BKa1 := yK BKa1 hb; replace HB := yS1 HB GEa1 hb; (try clear hb ho0); (try clear ho1); (try clear ho2); obtain ⟨Ao26, co26, rfl⟩ := Kd.N_slice HOa5.out) | ((with_reducible refine gC 21 ?_); refine zG (some 41) Try.func21 #[.int .i64 ta2, .slice Ao26 ta3.length co26] ?_; (with_reducible refine (r24_Weights.calls k ta2 _ _ ta3 tb3 _ ?side1 ?side2 A8.out).mono ?_); (case side1 => exact zC (Kd.N_reads' HOa5.out).2.2); (case side2 => exact (Kd.N_reads' HOa5.out).2.1); rintro e w27 ⟨vb4, rfl, ho0, hb⟩; refine ⟨_, rfl, ?_⟩; replace HOb1 := zk (Kd.V_elder' (zV HOb1.out) (Kd.S_base ho0) hb); have HOb5 := zk (Kd.N_lower (Kd.N_mono (ok' := fun k_ => some k_ ≠ (.slice Ao26 ta3.length co26 : Value).ownBlock ∧ some k_ ≠ (va7 : Value).ownBlock ∧ k_ ≠ gba1) (Kd.S_N (Kd.S_bound ho0)) (fun k_ hk_ => ⟨(Kd.fresh' (Kd.N_lt (zN HOa5.out)) k_ hk_.2.1), (Kd.fresh' (Kd.N_lt (zN HOa8.out)) k_ hk_.2.1), (Kd.freshB (g := gba1) (o := .cells #[.int .i64 a0_0, .int .i64 a0_1, .slice A0_2 l0_2.length c0_2] 24 (0, 0)) (zK BKa1.out) k_ hk_.2.1)⟩)) (below_size (zB1 HB.out GEa1.out))); replace HOa5 := zk (Kd.N_elder' (zN HOa5.out) (Kd.S_base ho0) hb); replace HOa8 := zk (Kd.N_elder' (zN HOa8.out) (Kd.S_base ho0) hb); replace BKa1 := yK BKa1 hb; replace HB := yS1 HB GEa1 hb; (try clear hb ho0); obtain ⟨Ao28, co28, rfl⟩ := Kd.N_slice HOb5.out) | ((with_reducible refine gC 20 ?_); refine zG (some 43) Try.func20 #[.slice Ao28 tb3.length co28, .int .i64 (Int.tmod (wrap64 (a3)) (wrap64 (ta2 + 1)))] ?_; (with_reducible refine (mw_Moment.calls k (fun k_ => (some k_ ≠ (.slice Ao26 ta3.length co26 : Value).ownBlock ∧ (some k_ ≠ (va7 : Value).ownBlock ∧ k_ ≠ gba1))) _ _ tb3 (Int.tmod (wrap64 (a3)) (wrap64 (ta2 + 1))) tb6 tb9 _ ?side1 A9.out).mono ?_); (case side1 => exact Kd.N_V (HOb5.out)); rintro e w29 ⟨vb7, rfl, ho0, hb⟩; refine ⟨_, rfl, ?_⟩; replace HOa5 := yNe HOa5 ho0 hb; replace HOa8 := yNe HOa8 ho0 hb; replace HOb1 := yVe HOb1 ho0 hb; replace HOb5 := yNe HOb5 ho0 hb; replace ho0 := yt ho0; have HOb8 := yRl1 ho0 HB GEa1; replace BKa1 := yK BKa1 hb; replace HB := yS1 HB GEa1 hb; (try clear hb ho0); obtain ⟨Ao30, co30, rfl⟩ := Kd.N_slice HOa8.out) | ((with_reducible refine gC 21 ?_); refine zG (some 49) Try.func21 #[.int .i64 ta2, .slice Ao30 ta6.length co30] ?_; (with_reducible refine (r24_Weights.calls k ta2 _ _ ta6 tc0 _ ?side1 ?side2 A10.out).mono ?_); (case side1 => exact zC (Kd.N_reads' HOa8.out).2.2); (case side2 => exact (Kd.N_reads' HOa8.out).2.1); rintro e w31 ⟨vc1, rfl, ho0, hb⟩; refine ⟨_, rfl, ?_⟩; replace HOb1 := zk (Kd.V_elder' (zV HOb1.out) (Kd.S_base ho0) hb); have HOc2 := zk (Kd.N_lower (Kd.N_mono (ok' := fun k_ => some k_ ≠ (.slice Ao26 ta3.length co26 : Value).ownBlock ∧ some k_ ≠ (.slice Ao30 ta6.length co30 : Value).ownBlock ∧ some k_ ≠ (.slice Ao28 tb3.length co28 : Value).ownBlock ∧ some k_ ≠ (vb7 : Value).ownBlock ∧ k_ ≠ gba1) (Kd.S_N (Kd.S_bound ho0)) (fun k_ hk_ => ⟨(Kd.fresh' (Kd.N_lt (zN HOa5.out)) k_ hk_.2.1), (Kd.fresh' (Kd.N_lt (zN HOa8.out)) k_ hk_.2.1), (Kd.fresh' (Kd.N_lt (zN HOb5.out)) k_ hk_.2.1), (Kd.fresh' (Kd.R_lt (zR HOb8.out)) k_ hk_.2.1), (Kd.freshB (g := gba1) (o := .cells #[.int .i64 a0_0, .int .i64 a0_1, .slice A0_2 l0_2.length c0_2] 24 (0, 0)) (zK BKa1.out) k_ hk_.2.1)⟩)) (below_size (zB1 HB.out GEa1.out))); replace HOa5 := zk (Kd.N_elder' (zN HOa5.out) (Kd.S_base ho0) hb); replace HOa8 := zk (Kd.N_elder' (zN HOa8.out) (Kd.S_base ho0) hb); replace HOb5 := zk (Kd.N_elder' (zN HOb5.out) (Kd.S_base ho0) hb); replace HOb8 := yRb HOb8 hb; replace BKa1 := yK BKa1 hb; replace HB := yS1 HB GEa1 hb; (try clear hb ho0); obtain ⟨Ao32, co32, rfl⟩ := Kd.N_slice HOc2.out) | ((with_reducible refine gC 20 ?_); refine zG (some 53) Try.func20 #[.slice Ao32 tc0.length co32, .int .i64 (wrap64 (ta2 - (Int.tmod (wrap64 (a3)) (wrap64 (ta2 + 1)))))] ?_; (with_reducible refine (mw_Moment.calls k (fun k_ => (some k_ ≠ (.slice Ao26 ta3.length co26 : Value).ownBlock ∧ (some k_ ≠ (.slice Ao30 ta6.length co30 : Value).ownBlock ∧ (some k_ ≠ (.slice Ao28 tb3.length co28 : Value).ownBlock ∧ (some k_ ≠ (vb7 : Value).ownBlock ∧ k_ ≠ gba1))))) _ _ tc0 (wrap64 (ta2 - (Int.tmod (wrap64 (a3)) (wrap64 (ta2 + 1))))) tc3 tc6 _ ?side1 A11.out).mono ?_); (case side1 => exact Kd.N_V (HOc2.out)); rintro e w33 ⟨vc4, rfl, ho0, hb⟩; refine ⟨_, rfl, ?_⟩; replace HOa5 := yNe HOa5 ho0 hb; replace HOa8 := yNe HOa8 ho0 hb; replace HOb1 := yVe HOb1 ho0 hb; replace HOb5 := yNe HOb5 ho0 hb; replace HOc2 := yNe HOc2 ho0 hb; replace ho0 := yt ho0; replace ho0 := yn ho0 HOb8; have HOc5 := yRl1 ho0 HB GEa1; replace HOb8 := yRe HOb8 ho0 hb; replace BKa1 := yK BKa1 hb; replace HB := yS1 HB GEa1 hb; (try clear hb ho0); obtain ⟨hcz34_0, hcz34_1, hcz34_2, hfz34_0, hfz34_1, hfz34_2⟩ := zz3 BKa1) | ((with_reducible refine gC 24 ?_); refine zG (some 58) Try.func24 #[.agg #[.int .i64 a0_0, .int .i64 a0_1, .slice A0_2 l0_2.length c0_2]] ?_; (with_reducible refine (r4_Order.calls k a0_0 a0_1 _ _ l0_2 tc7 _ ?side1 ?side2 A12.out).mono ?_); (case side1 => exact zC (Kd.C_below HR0_2.out HB.out)); (case side2 => exact HC0_2.out); rintro e w35 ⟨rfl, hb⟩; refine ⟨_, rfl, ?_⟩; replace HOa5 := yNb HOa5 hb; replace HOa8 := yNb HOa8 hb; replace HOb1 := yVb HOb1 hb; replace HOb5 := yNb HOb5 hb; replace HOb8 := yRb HOb8 hb; replace HOc2 := yNb HOc2 hb; replace HOc5 := yRb HOc5 hb; replace BKa1 := yK BKa1 hb; replace HB := yS1 HB GEa1 hb; (try clear hb); (try clear hb2); (try clear hk); (try clear hi)) | ((with_reducible refine gC 23 ?_); refine zG (some 60) Try.func23 #[.int .u64 (IntKind.u64.wrap (tc7))] ?_; (with_reducible refine (r1_Of.calls k (IntKind.u64.wrap (tc7)) tc8 _ A13.out).mono ?_); rintro e w36 ⟨vc9, rfl, ho0, hb⟩; refine ⟨_, rfl, ?_⟩; replace HOa5 := yNe HOa5 ho0 hb; replace HOa8 := yNe HOa8 ho0 hb; replace HOb1 := yVe HOb1 ho0 hb; replace HOb5 := yNe HOb5 ho0 hb; replace HOc2 := yNe HOc2 ho0 hb; replace ho0 := yn ho0 HOb8; replace ho0 := yn ho0 HOc5; have HOd0 := yRl1 ho0 HB GEa1; replace HOb8 := yRe HOb8 ho0 hb; replace HOc5 := yRe HOc5 ho0 hb; replace BKa1 := yK BKa1 hb; replace HB := yS1 HB GEa1 hb; (try clear hb ho0); obtain ⟨Ao37, co37, rfl⟩ := Kd.R_slice HOd0.out) | ((with_reducible refine gC 22 ?_); refine zG (some 62) Try.func22 #[.slice Ao37 tc8.length co37, .int .i64 (Int.tmod (wrap64 (a3)) (wrap64 (ta2 + 1)))] ?_; (with_reducible refine (r1_Pow.calls k _ _ tc8 (Int.tmod (wrap64 (a3)) (wrap64 (ta2 + 1))) td1 td2 _ ?side1 ?side2 A14.out).mono ?_); (case side1 => exact zC (Kd.R_reads' HOd0.out).2.2); (case side2 => exact (Kd.R_reads' HOd0.out).2.1); rintro e w38 ⟨vd3, rfl, ho0, hb⟩; refine ⟨_, rfl, ?_⟩; replace HOa5 := yNe HOa5 ho0 hb; replace HOa8 := yNe HOa8 ho0 hb; replace HOb1 := yVe HOb1 ho0 hb; replace HOb5 := yNe HOb5 ho0 hb; replace HOc2 := yNe HOc2 ho0 hb; replace ho0 := yn ho0 HOb8; replace ho0 := yn ho0 HOc5; replace ho0 := yn ho0 HOd0; have HOd4 := yRl1 ho0 HB GEa1; replace HOb8 := yRe HOb8 ho0 hb; replace HOc5 := yRe HOc5 ho0 hb; replace HOd0 := yRe HOd0 ho0 hb; replace BKa1 := yK BKa1 hb; replace HB := yS1 HB GEa1 hb; (try clear hb ho0); obtain ⟨Ao39, co39, rfl⟩ := Kd.R_slice HOd4.out; obtain ⟨Ao40, co40, rfl⟩ := Kd.R_slice HOb8.out) | (go_at_call 26; (with_reducible refine (r1_Mul.calls k _ _ td1 _ _ tb6 td5 _ ?side1 ?side2 ?side3 ?side4 A17.out).mono ?_); (case side1 => exact zC (Kd.R_reads' HOd4.out).2.2); (case side2 => exact (Kd.R_reads' HOd4.out).2.1); (case side3 => exact zC (Kd.R_reads' HOb8.out).2.2); (case side4 => exact (Kd.R_reads' HOb8.out).2.1); rintro e w41 ⟨vd6, rfl, ho0, hb⟩; replace HOa5 := yNe HOa5 ho0 hb; replace HOa8 := yNe HOa8 ho0 hb; replace HOb1 := yVe HOb1 ho0 hb; replace HOb5 := yNe HOb5 ho0 hb; replace HOc2 := yNe HOc2 ho0 hb; replace ho0 := yn ho0 HOb8; replace ho0 := yn ho0 HOc5; replace ho0 := yn ho0 HOd0; replace ho0 := yn ho0 HOd4; have HOd7 := yRl1 ho0 HB GEa1; replace HOb8 := yRe HOb8 ho0 hb; replace HOc5 := yRe HOc5 ho0 hb; replace HOd0 := yRe HOd0 ho0 hb; replace HOd4 := yRe HOd4 ho0 hb; replace BKa1 := yK BKa1 hb; replace HB := yS1 HB GEa1 hb; (try clear hb ho0)) | (go_at_call 23; (with_reducible refine (r1_Of.calls k (IntKind.u64.wrap ((ta3.length : Int))) td8 _ A18.out).mono ?_); rintro e w42 ⟨vd9, rfl, ho0, hb⟩; replace HOa5 := yNe HOa5 ho0 hb; replace HOa8 := yNe HOa8 ho0 hb; replace HOb1 := yVe HOb1 ho0 hb; replace HOb5 := yNe HOb5 ho0 hb; replace HOc2 := yNe HOc2 ho0 hb; replace ho0 := yn ho0 HOb8; replace ho0 := yn ho0 HOc5; replace ho0 := yn ho0 HOd0; replace ho0 := yn ho0 HOd4; replace ho0 := yn ho0 HOd7; have HOe0 := yRl1 ho0 HB GEa1; replace HOb8 := yRe HOb8 ho0 hb; replace HOc5 := yRe HOc5 ho0 hb; replace HOd0 := yRe HOd0 ho0 hb; replace HOd4 := yRe HOd4 ho0 hb; replace HOd7 := yRe HOd7 ho0 hb; replace BKa1 := yK BKa1 hb; replace HB := yS1 HB GEa1 hb; (try clear hb ho0); obtain ⟨Ao43, co43, rfl⟩ := Kd.R_slice HOe0.out; obtain ⟨Ao44, co44, rfl⟩ := Kd.R_slice HOc5.out) | (go_at_call 26; (with_reducible refine (r1_Mul.calls k _ _ td8 _ _ tc3 te1 _ ?side1 ?side2 ?side3 ?side4 A19.out).mono ?_); (case side1 => exact zC (Kd.R_reads' HOe0.out).2.2); (case side2 => exact (Kd.R_reads' HOe0.out).2.1); (case side3 => exact zC (Kd.R_reads' HOc5.out).2.2); (case side4 => exact (Kd.R_reads' HOc5.out).2.1); rintro e w45 ⟨ve2, rfl, ho0, hb⟩; replace HOa5 := yNe HOa5 ho0 hb; replace HOa8 := yNe HOa8 ho0 hb; replace HOb1 := yVe HOb1 ho0 hb; replace HOb5 := yNe HOb5 ho0 hb; replace HOc2 := yNe HOc2 ho0 hb; replace ho0 := yn ho0 HOb8; replace ho0 := yn ho0 HOc5; replace ho0 := yn ho0 HOd0; replace ho0 := yn ho0 HOd4; replace ho0 := yn ho0 HOd7; replace ho0 := yn ho0 HOe0; have HOe3 := yRl1 ho0 HB GEa1; replace HOb8 := yRe HOb8 ho0 hb; replace HOc5 := yRe HOc5 ho0 hb; replace HOd0 := yRe HOd0 ho0 hb; replace HOd4 := yRe HOd4 ho0 hb; replace HOd7 := yRe HOd7 ho0 hb; replace HOe0 := yRe HOe0 ho0 hb; replace BKa1 := yK BKa1 hb; replace HB := yS1 HB GEa1 hb; (try clear hb ho0); obtain ⟨Ao46, co46, rfl⟩ := Kd.R_slice HOd7.out; obtain ⟨Ao47, co47, rfl⟩ := Kd.R_slice HOe3.out) | (go_at_call 25; (with_reducible refine (r1_Same.calls k _ _ td5 _ _ te1 true _ ?side1 ?side2 ?side3 ?side4 A20.out).mono ?_); (case side1 => exact zC (Kd.R_reads' HOd7.out).2.2); (case side2 => exact (Kd.R_reads' HOd7.out).2.1); (case side3 => exact zC (Kd.R_reads' HOe3.out).2.2); (case side4 => exact (Kd.R_reads' HOe3.out).2.1); rintro e w' ⟨rfl, ⟨nd, rfl⟩⟩) | (go_at_call 27; (with_reducible refine (r1_Zero.calls k _ _ tc3 te5 _ ?side1 ?side2 A22.out).mono ?_); (case side1 => exact zC (Kd.R_reads' HOc5.out).2.2); (case side2 => exact (Kd.R_reads' HOc5.out).2.1); rintro e w48 ⟨rfl, hb⟩; replace HOa5 := yNb HOa5 hb; replace HOa8 := yNb HOa8 hb; replace HOb1 := yVb HOb1 hb; replace HOb5 := yNb HOb5 hb; replace HOb8 := yRb HOb8 hb; replace HOc2 := yNb HOc2 hb; replace HOc5 := yRb HOc5 hb; replace HOd0 := yRb HOd0 hb; replace HOd4 := yRb HOd4 hb; replace HOd7 := yRb HOd7 hb; replace HOe0 := yRb HOe0 hb; replace HOe3 := yRb HOe3 hb; replace BKa1 := yK BKa1 hb; replace HB := yS1 HB GEa1 hb; (try clear hb); (try clear hb2); (try clear hk); (try clear hi)))
         go_ret
         exact ⟨zE, zB1 HB.out GEa1.out⟩
       replace c21 := Bool.eq_false_iff.mpr c21
       subst c21
       rw [if_neg Bool.false_ne_true] at H
       obtain rfl := Option.some.inj H
       go_enter Try.func3, Try.ntmps3
       go_wp2_with (first | ((with_reducible refine gate_dst (N := 4) rfl ?_); (try (refine gate_guard (by rfl) ?_; dsimp only)); refine box_event ?hg (N := 4) ?hd (cs := #[.int .i64 a0_0, .int .i64 a0_1, .slice A0_2 l0_2.length c0_2]) (t := 24) ?hr ?_; (case hd => rfl); (case hg => rfl); (case hr => first | (go_simp; done) | (go_simp; rfl)); intro gba1 hg w49 hbox hb; have BKa1 := zk (hbox); have GWa1 := yg hg HB; have GEa1 := yg hg HB; replace HB := yS HB hb; clear hb hbox hg; obtain ⟨hcz50_0, hcz50_1, hcz50_2, hfz50_0, hfz50_1, hfz50_2⟩ := zz3 BKa1) | ((with_reducible refine gC 19 ?_); refine zG (some 25) Try.func19 #[.agg #[.int .i64 a0_0, .int .i64 a0_1, .slice A0_2 l0_2.length c0_2], .int .u8 a1, .slice A2 l2.length c2] ?_; (with_reducible refine (w24_codes.calls k a0_0 a0_1 _ _ l0_2 a1 _ _ l2 ta2 ta3 ta6 ta9 true _ ?side1 ?side2 ?side3 ?side4 A5.out).mono ?_); (case side1 => exact zC (Kd.C_below HR0_2.out HB.out)); (case side2 => exact HC0_2.out); (case side3 => exact zC (Kd.C_below HR2.out HB.out)); (case side4 => exact HC2.out); rintro e w51 ⟨va4, va7, vb0, rfl, ho0, ho1, ho2, hb⟩; refine ⟨_, rfl, ?_⟩; have HOa5 := zk (Kd.N_lower (Kd.N_mono (ok' := fun k_ => some k_ ≠ (va7 : Value).ownBlock ∧ k_ ≠ gba1) ho0 (fun k_ hk_ => ⟨hk_.2, (Kd.freshB (g := gba1) (o := .cells #[.int .i64 a0_0, .int .i64 a0_1, .slice A0_2 l0_2.length c0_2] 24 (0, 0)) (zK BKa1.out) k_ hk_.1)⟩)) (below_size (zB1 HB.out GEa1.out))); have HOa8 := zk (Kd.N_lower (Kd.N_mono (ok' := fun k_ => some k_ ≠ (va4 : Value).ownBlock ∧ k_ ≠ gba1) ho1 (fun k_ hk_ => ⟨hk_.2, (Kd.freshB (g := gba1) (o := .cells #[.int .i64 a0_0, .int .i64 a0_1, .slice A0_2 l0_2.length c0_2] 24 (0, 0)) (zK BKa1.out) k_ hk_.1)⟩)) (below_size (zB1 HB.out GEa1.out))); have HOb1 := zk (Kd.V_lower (Kd.V_mono (ok' := fun k_ => some k_ ≠ (va4 : Value).ownBlock ∧ some k_ ≠ (va7 : Value).ownBlock ∧ k_ ≠ gba1) ho2 (fun k_ hk_ => ⟨hk_.2.1, hk_.2.2, (Kd.freshB (g := gba1) (o := .cells #[.int .i64 a0_0, .int .i64 a0_1, .slice A0_2 l0_2.length c0_2] 24 (0, 0)) (zK BKa1.out) k_ hk_.1)⟩)) (below_size (zB1 HB.out GEa1.out))); replace BKa1 := yK BKa1 hb; replace HB := yS1 HB GEa1 hb; (try clear hb ho0); (try clear ho1); (try clear ho2); obtain ⟨Ao52, co52, rfl⟩ := Kd.N_slice HOa5.out) | ((with_reducible refine gC 21 ?_); refine zG (some 41) Try.func21 #[.int .i64 ta2, .slice Ao52 ta3.length co52] ?_; (with_reducible refine (r24_Weights.calls k ta2 _ _ ta3 tb3 _ ?side1 ?side2 A8.out).mono ?_); (case side1 => exact zC (Kd.N_reads' HOa5.out).2.2); (case side2 => exact (Kd.N_reads' HOa5.out).2.1); rintro e w53 ⟨vb4, rfl, ho0, hb⟩; refine ⟨_, rfl, ?_⟩; replace HOb1 := zk (Kd.V_elder' (zV HOb1.out) (Kd.S_base ho0) hb); have HOb5 := zk (Kd.N_lower (Kd.N_mono (ok' := fun k_ => some k_ ≠ (.slice Ao52 ta3.length co52 : Value).ownBlock ∧ some k_ ≠ (va7 : Value).ownBlock ∧ k_ ≠ gba1) (Kd.S_N (Kd.S_bound ho0)) (fun k_ hk_ => ⟨(Kd.fresh' (Kd.N_lt (zN HOa5.out)) k_ hk_.2.1), (Kd.fresh' (Kd.N_lt (zN HOa8.out)) k_ hk_.2.1), (Kd.freshB (g := gba1) (o := .cells #[.int .i64 a0_0, .int .i64 a0_1, .slice A0_2 l0_2.length c0_2] 24 (0, 0)) (zK BKa1.out) k_ hk_.2.1)⟩)) (below_size (zB1 HB.out GEa1.out))); replace HOa5 := zk (Kd.N_elder' (zN HOa5.out) (Kd.S_base ho0) hb); replace HOa8 := zk (Kd.N_elder' (zN HOa8.out) (Kd.S_base ho0) hb); replace BKa1 := yK BKa1 hb; replace HB := yS1 HB GEa1 hb; (try clear hb ho0); obtain ⟨Ao54, co54, rfl⟩ := Kd.N_slice HOb5.out) | ((with_reducible refine gC 20 ?_); refine zG (some 43) Try.func20 #[.slice Ao54 tb3.length co54, .int .i64 (Int.tmod (wrap64 (a3)) (wrap64 (ta2 + 1)))] ?_; (with_reducible refine (mw_Moment.calls k (fun k_ => (some k_ ≠ (.slice Ao52 ta3.length co52 : Value).ownBlock ∧ (some k_ ≠ (va7 : Value).ownBlock ∧ k_ ≠ gba1))) _ _ tb3 (Int.tmod (wrap64 (a3)) (wrap64 (ta2 + 1))) tb6 tb9 _ ?side1 A9.out).mono ?_); (case side1 => exact Kd.N_V (HOb5.out)); rintro e w55 ⟨vb7, rfl, ho0, hb⟩; refine ⟨_, rfl, ?_⟩; replace HOa5 := yNe HOa5 ho0 hb; replace HOa8 := yNe HOa8 ho0 hb; replace HOb1 := yVe HOb1 ho0 hb; replace HOb5 := yNe HOb5 ho0 hb; replace ho0 := yt ho0; have HOb8 := yRl1 ho0 HB GEa1; replace BKa1 := yK BKa1 hb; replace HB := yS1 HB GEa1 hb; (try clear hb ho0); obtain ⟨Ao56, co56, rfl⟩ := Kd.N_slice HOa8.out) | ((with_reducible refine gC 21 ?_); refine zG (some 49) Try.func21 #[.int .i64 ta2, .slice Ao56 ta6.length co56] ?_; (with_reducible refine (r24_Weights.calls k ta2 _ _ ta6 tc0 _ ?side1 ?side2 A10.out).mono ?_); (case side1 => exact zC (Kd.N_reads' HOa8.out).2.2); (case side2 => exact (Kd.N_reads' HOa8.out).2.1); rintro e w57 ⟨vc1, rfl, ho0, hb⟩; refine ⟨_, rfl, ?_⟩; replace HOb1 := zk (Kd.V_elder' (zV HOb1.out) (Kd.S_base ho0) hb); have HOc2 := zk (Kd.N_lower (Kd.N_mono (ok' := fun k_ => some k_ ≠ (.slice Ao52 ta3.length co52 : Value).ownBlock ∧ some k_ ≠ (.slice Ao56 ta6.length co56 : Value).ownBlock ∧ some k_ ≠ (.slice Ao54 tb3.length co54 : Value).ownBlock ∧ some k_ ≠ (vb7 : Value).ownBlock ∧ k_ ≠ gba1) (Kd.S_N (Kd.S_bound ho0)) (fun k_ hk_ => ⟨(Kd.fresh' (Kd.N_lt (zN HOa5.out)) k_ hk_.2.1), (Kd.fresh' (Kd.N_lt (zN HOa8.out)) k_ hk_.2.1), (Kd.fresh' (Kd.N_lt (zN HOb5.out)) k_ hk_.2.1), (Kd.fresh' (Kd.R_lt (zR HOb8.out)) k_ hk_.2.1), (Kd.freshB (g := gba1) (o := .cells #[.int .i64 a0_0, .int .i64 a0_1, .slice A0_2 l0_2.length c0_2] 24 (0, 0)) (zK BKa1.out) k_ hk_.2.1)⟩)) (below_size (zB1 HB.out GEa1.out))); replace HOa5 := zk (Kd.N_elder' (zN HOa5.out) (Kd.S_base ho0) hb); replace HOa8 := zk (Kd.N_elder' (zN HOa8.out) (Kd.S_base ho0) hb); replace HOb5 := zk (Kd.N_elder' (zN HOb5.out) (Kd.S_base ho0) hb); replace HOb8 := yRb HOb8 hb; replace BKa1 := yK BKa1 hb; replace HB := yS1 HB GEa1 hb; (try clear hb ho0); obtain ⟨Ao58, co58, rfl⟩ := Kd.N_slice HOc2.out) | ((with_reducible refine gC 20 ?_); refine zG (some 53) Try.func20 #[.slice Ao58 tc0.length co58, .int .i64 (wrap64 (ta2 - (Int.tmod (wrap64 (a3)) (wrap64 (ta2 + 1)))))] ?_; (with_reducible refine (mw_Moment.calls k (fun k_ => (some k_ ≠ (.slice Ao52 ta3.length co52 : Value).ownBlock ∧ (some k_ ≠ (.slice Ao56 ta6.length co56 : Value).ownBlock ∧ (some k_ ≠ (.slice Ao54 tb3.length co54 : Value).ownBlock ∧ (some k_ ≠ (vb7 : Value).ownBlock ∧ k_ ≠ gba1))))) _ _ tc0 (wrap64 (ta2 - (Int.tmod (wrap64 (a3)) (wrap64 (ta2 + 1))))) tc3 tc6 _ ?side1 A11.out).mono ?_); (case side1 => exact Kd.N_V (HOc2.out)); rintro e w59 ⟨vc4, rfl, ho0, hb⟩; refine ⟨_, rfl, ?_⟩; replace HOa5 := yNe HOa5 ho0 hb; replace HOa8 := yNe HOa8 ho0 hb; replace HOb1 := yVe HOb1 ho0 hb; replace HOb5 := yNe HOb5 ho0 hb; replace HOc2 := yNe HOc2 ho0 hb; replace ho0 := yt ho0; replace ho0 := yn ho0 HOb8; have HOc5 := yRl1 ho0 HB GEa1; replace HOb8 := yRe HOb8 ho0 hb; replace BKa1 := yK BKa1 hb; replace HB := yS1 HB GEa1 hb; (try clear hb ho0); obtain ⟨hcz60_0, hcz60_1, hcz60_2, hfz60_0, hfz60_1, hfz60_2⟩ := zz3 BKa1) | ((with_reducible refine gC 24 ?_); refine zG (some 58) Try.func24 #[.agg #[.int .i64 a0_0, .int .i64 a0_1, .slice A0_2 l0_2.length c0_2]] ?_; (with_reducible refine (r4_Order.calls k a0_0 a0_1 _ _ l0_2 tc7 _ ?side1 ?side2 A12.out).mono ?_); (case side1 => exact zC (Kd.C_below HR0_2.out HB.out)); (case side2 => exact HC0_2.out); rintro e w61 ⟨rfl, hb⟩; refine ⟨_, rfl, ?_⟩; replace HOa5 := yNb HOa5 hb; replace HOa8 := yNb HOa8 hb; replace HOb1 := yVb HOb1 hb; replace HOb5 := yNb HOb5 hb; replace HOb8 := yRb HOb8 hb; replace HOc2 := yNb HOc2 hb; replace HOc5 := yRb HOc5 hb; replace BKa1 := yK BKa1 hb; replace HB := yS1 HB GEa1 hb; (try clear hb); (try clear hb2); (try clear hk); (try clear hi)) | ((with_reducible refine gC 23 ?_); refine zG (some 60) Try.func23 #[.int .u64 (IntKind.u64.wrap (tc7))] ?_; (with_reducible refine (r1_Of.calls k (IntKind.u64.wrap (tc7)) tc8 _ A13.out).mono ?_); rintro e w62 ⟨vc9, rfl, ho0, hb⟩; refine ⟨_, rfl, ?_⟩; replace HOa5 := yNe HOa5 ho0 hb; replace HOa8 := yNe HOa8 ho0 hb; replace HOb1 := yVe HOb1 ho0 hb; replace HOb5 := yNe HOb5 ho0 hb; replace HOc2 := yNe HOc2 ho0 hb; replace ho0 := yn ho0 HOb8; replace ho0 := yn ho0 HOc5; have HOd0 := yRl1 ho0 HB GEa1; replace HOb8 := yRe HOb8 ho0 hb; replace HOc5 := yRe HOc5 ho0 hb; replace BKa1 := yK BKa1 hb; replace HB := yS1 HB GEa1 hb; (try clear hb ho0); obtain ⟨Ao63, co63, rfl⟩ := Kd.R_slice HOd0.out) | ((with_reducible refine gC 22 ?_); refine zG (some 62) Try.func22 #[.slice Ao63 tc8.length co63, .int .i64 (Int.tmod (wrap64 (a3)) (wrap64 (ta2 + 1)))] ?_; (with_reducible refine (r1_Pow.calls k _ _ tc8 (Int.tmod (wrap64 (a3)) (wrap64 (ta2 + 1))) td1 td2 _ ?side1 ?side2 A14.out).mono ?_); (case side1 => exact zC (Kd.R_reads' HOd0.out).2.2); (case side2 => exact (Kd.R_reads' HOd0.out).2.1); rintro e w64 ⟨vd3, rfl, ho0, hb⟩; refine ⟨_, rfl, ?_⟩; replace HOa5 := yNe HOa5 ho0 hb; replace HOa8 := yNe HOa8 ho0 hb; replace HOb1 := yVe HOb1 ho0 hb; replace HOb5 := yNe HOb5 ho0 hb; replace HOc2 := yNe HOc2 ho0 hb; replace ho0 := yn ho0 HOb8; replace ho0 := yn ho0 HOc5; replace ho0 := yn ho0 HOd0; have HOd4 := yRl1 ho0 HB GEa1; replace HOb8 := yRe HOb8 ho0 hb; replace HOc5 := yRe HOc5 ho0 hb; replace HOd0 := yRe HOd0 ho0 hb; replace BKa1 := yK BKa1 hb; replace HB := yS1 HB GEa1 hb; (try clear hb ho0); obtain ⟨Ao65, co65, rfl⟩ := Kd.R_slice HOd4.out; obtain ⟨Ao66, co66, rfl⟩ := Kd.R_slice HOb8.out) | (go_at_call 26; (with_reducible refine (r1_Mul.calls k _ _ td1 _ _ tb6 td5 _ ?side1 ?side2 ?side3 ?side4 A17.out).mono ?_); (case side1 => exact zC (Kd.R_reads' HOd4.out).2.2); (case side2 => exact (Kd.R_reads' HOd4.out).2.1); (case side3 => exact zC (Kd.R_reads' HOb8.out).2.2); (case side4 => exact (Kd.R_reads' HOb8.out).2.1); rintro e w67 ⟨vd6, rfl, ho0, hb⟩; replace HOa5 := yNe HOa5 ho0 hb; replace HOa8 := yNe HOa8 ho0 hb; replace HOb1 := yVe HOb1 ho0 hb; replace HOb5 := yNe HOb5 ho0 hb; replace HOc2 := yNe HOc2 ho0 hb; replace ho0 := yn ho0 HOb8; replace ho0 := yn ho0 HOc5; replace ho0 := yn ho0 HOd0; replace ho0 := yn ho0 HOd4; have HOd7 := yRl1 ho0 HB GEa1; replace HOb8 := yRe HOb8 ho0 hb; replace HOc5 := yRe HOc5 ho0 hb; replace HOd0 := yRe HOd0 ho0 hb; replace HOd4 := yRe HOd4 ho0 hb; replace BKa1 := yK BKa1 hb; replace HB := yS1 HB GEa1 hb; (try clear hb ho0)) | (go_at_call 23; (with_reducible refine (r1_Of.calls k (IntKind.u64.wrap ((ta3.length : Int))) td8 _ A18.out).mono ?_); rintro e w68 ⟨vd9, rfl, ho0, hb⟩; replace HOa5 := yNe HOa5 ho0 hb; replace HOa8 := yNe HOa8 ho0 hb; replace HOb1 := yVe HOb1 ho0 hb; replace HOb5 := yNe HOb5 ho0 hb; replace HOc2 := yNe HOc2 ho0 hb; replace ho0 := yn ho0 HOb8; replace ho0 := yn ho0 HOc5; replace ho0 := yn ho0 HOd0; replace ho0 := yn ho0 HOd4; replace ho0 := yn ho0 HOd7; have HOe0 := yRl1 ho0 HB GEa1; replace HOb8 := yRe HOb8 ho0 hb; replace HOc5 := yRe HOc5 ho0 hb; replace HOd0 := yRe HOd0 ho0 hb; replace HOd4 := yRe HOd4 ho0 hb; replace HOd7 := yRe HOd7 ho0 hb; replace BKa1 := yK BKa1 hb; replace HB := yS1 HB GEa1 hb; (try clear hb ho0); obtain ⟨Ao69, co69, rfl⟩ := Kd.R_slice HOe0.out; obtain ⟨Ao70, co70, rfl⟩ := Kd.R_slice HOc5.out) | (go_at_call 26; (with_reducible refine (r1_Mul.calls k _ _ td8 _ _ tc3 te1 _ ?side1 ?side2 ?side3 ?side4 A19.out).mono ?_); (case side1 => exact zC (Kd.R_reads' HOe0.out).2.2); (case side2 => exact (Kd.R_reads' HOe0.out).2.1); (case side3 => exact zC (Kd.R_reads' HOc5.out).2.2); (case side4 => exact (Kd.R_reads' HOc5.out).2.1); rintro e w71 ⟨ve2, rfl, ho0, hb⟩; replace HOa5 := yNe HOa5 ho0 hb; replace HOa8 := yNe HOa8 ho0 hb; replace HOb1 := yVe HOb1 ho0 hb; replace HOb5 := yNe HOb5 ho0 hb; replace HOc2 := yNe HOc2 ho0 hb; replace ho0 := yn ho0 HOb8; replace ho0 := yn ho0 HOc5; replace ho0 := yn ho0 HOd0; replace ho0 := yn ho0 HOd4; replace ho0 := yn ho0 HOd7; replace ho0 := yn ho0 HOe0; have HOe3 := yRl1 ho0 HB GEa1; replace HOb8 := yRe HOb8 ho0 hb; replace HOc5 := yRe HOc5 ho0 hb; replace HOd0 := yRe HOd0 ho0 hb; replace HOd4 := yRe HOd4 ho0 hb; replace HOd7 := yRe HOd7 ho0 hb; replace HOe0 := yRe HOe0 ho0 hb; replace BKa1 := yK BKa1 hb; replace HB := yS1 HB GEa1 hb; (try clear hb ho0); obtain ⟨Ao72, co72, rfl⟩ := Kd.R_slice HOd7.out; obtain ⟨Ao73, co73, rfl⟩ := Kd.R_slice HOe3.out) | (go_at_call 25; (with_reducible refine (r1_Same.calls k _ _ td5 _ _ te1 false _ ?side1 ?side2 ?side3 ?side4 A20.out).mono ?_); (case side1 => exact zC (Kd.R_reads' HOd7.out).2.2); (case side2 => exact (Kd.R_reads' HOd7.out).2.1); (case side3 => exact zC (Kd.R_reads' HOe3.out).2.2); (case side4 => exact (Kd.R_reads' HOe3.out).2.1); rintro e w' ⟨rfl, ⟨nd, rfl⟩⟩))
       go_ret
       exact ⟨zE, zB1 HB.out GEa1.out⟩
     have c16b0 := beq_eq_false_iff_ne.mpr c16
     have c16b1 := bne_iff_ne.mpr c16
     obtain rfl := Option.some.inj H
     go_enter Try.func3, Try.ntmps3
     go_wp2_with (first | ((with_reducible refine gate_dst (N := 4) rfl ?_); (try (refine gate_guard (by rfl) ?_; dsimp only)); refine box_event ?hg (N := 4) ?hd (cs := #[.int .i64 a0_0, .int .i64 a0_1, .slice A0_2 l0_2.length c0_2]) (t := 24) ?hr ?_; (case hd => rfl); (case hg => rfl); (case hr => first | (go_simp; done) | (go_simp; rfl)); intro gba1 hg w74 hbox hb; have BKa1 := zk (hbox); have GWa1 := yg hg HB; have GEa1 := yg hg HB; replace HB := yS HB hb; clear hb hbox hg; obtain ⟨hcz75_0, hcz75_1, hcz75_2, hfz75_0, hfz75_1, hfz75_2⟩ := zz3 BKa1) | ((with_reducible refine gC 19 ?_); refine zG (some 25) Try.func19 #[.agg #[.int .i64 a0_0, .int .i64 a0_1, .slice A0_2 l0_2.length c0_2], .int .u8 a1, .slice A2 l2.length c2] ?_; (with_reducible refine (w24_codes.calls k a0_0 a0_1 _ _ l0_2 a1 _ _ l2 ta2 ta3 ta6 ta9 true _ ?side1 ?side2 ?side3 ?side4 A5.out).mono ?_); (case side1 => exact zC (Kd.C_below HR0_2.out HB.out)); (case side2 => exact HC0_2.out); (case side3 => exact zC (Kd.C_below HR2.out HB.out)); (case side4 => exact HC2.out); rintro e w76 ⟨va4, va7, vb0, rfl, ho0, ho1, ho2, hb⟩; refine ⟨_, rfl, ?_⟩; have HOa5 := zk (Kd.N_lower (Kd.N_mono (ok' := fun k_ => some k_ ≠ (va7 : Value).ownBlock ∧ k_ ≠ gba1) ho0 (fun k_ hk_ => ⟨hk_.2, (Kd.freshB (g := gba1) (o := .cells #[.int .i64 a0_0, .int .i64 a0_1, .slice A0_2 l0_2.length c0_2] 24 (0, 0)) (zK BKa1.out) k_ hk_.1)⟩)) (below_size (zB1 HB.out GEa1.out))); have HOa8 := zk (Kd.N_lower (Kd.N_mono (ok' := fun k_ => some k_ ≠ (va4 : Value).ownBlock ∧ k_ ≠ gba1) ho1 (fun k_ hk_ => ⟨hk_.2, (Kd.freshB (g := gba1) (o := .cells #[.int .i64 a0_0, .int .i64 a0_1, .slice A0_2 l0_2.length c0_2] 24 (0, 0)) (zK BKa1.out) k_ hk_.1)⟩)) (below_size (zB1 HB.out GEa1.out))); have HOb1 := zk (Kd.V_lower (Kd.V_mono (ok' := fun k_ => some k_ ≠ (va4 : Value).ownBlock ∧ some k_ ≠ (va7 : Value).ownBlock ∧ k_ ≠ gba1) ho2 (fun k_ hk_ => ⟨hk_.2.1, hk_.2.2, (Kd.freshB (g := gba1) (o := .cells #[.int .i64 a0_0, .int .i64 a0_1, .slice A0_2 l0_2.length c0_2] 24 (0, 0)) (zK BKa1.out) k_ hk_.1)⟩)) (below_size (zB1 HB.out GEa1.out))); replace BKa1 := yK BKa1 hb; replace HB := yS1 HB GEa1 hb; (try clear hb ho0); (try clear ho1); (try clear ho2); obtain ⟨Ao77, co77, rfl⟩ := Kd.N_slice HOa5.out) | ((with_reducible refine gC 21 ?_); refine zG (some 41) Try.func21 #[.int .i64 ta2, .slice Ao77 ta3.length co77] ?_; (with_reducible refine (r24_Weights.calls k ta2 _ _ ta3 tb3 _ ?side1 ?side2 A8.out).mono ?_); (case side1 => exact zC (Kd.N_reads' HOa5.out).2.2); (case side2 => exact (Kd.N_reads' HOa5.out).2.1); rintro e w78 ⟨vb4, rfl, ho0, hb⟩; refine ⟨_, rfl, ?_⟩; replace HOb1 := zk (Kd.V_elder' (zV HOb1.out) (Kd.S_base ho0) hb); have HOb5 := zk (Kd.N_lower (Kd.N_mono (ok' := fun k_ => some k_ ≠ (.slice Ao77 ta3.length co77 : Value).ownBlock ∧ some k_ ≠ (va7 : Value).ownBlock ∧ k_ ≠ gba1) (Kd.S_N (Kd.S_bound ho0)) (fun k_ hk_ => ⟨(Kd.fresh' (Kd.N_lt (zN HOa5.out)) k_ hk_.2.1), (Kd.fresh' (Kd.N_lt (zN HOa8.out)) k_ hk_.2.1), (Kd.freshB (g := gba1) (o := .cells #[.int .i64 a0_0, .int .i64 a0_1, .slice A0_2 l0_2.length c0_2] 24 (0, 0)) (zK BKa1.out) k_ hk_.2.1)⟩)) (below_size (zB1 HB.out GEa1.out))); replace HOa5 := zk (Kd.N_elder' (zN HOa5.out) (Kd.S_base ho0) hb); replace HOa8 := zk (Kd.N_elder' (zN HOa8.out) (Kd.S_base ho0) hb); replace BKa1 := yK BKa1 hb; replace HB := yS1 HB GEa1 hb; (try clear hb ho0); obtain ⟨Ao79, co79, rfl⟩ := Kd.N_slice HOb5.out) | ((with_reducible refine gC 20 ?_); refine zG (some 43) Try.func20 #[.slice Ao79 tb3.length co79, .int .i64 (Int.tmod (wrap64 (a3)) (wrap64 (ta2 + 1)))] ?_; (with_reducible refine (mw_Moment.calls k (fun k_ => (some k_ ≠ (.slice Ao77 ta3.length co77 : Value).ownBlock ∧ (some k_ ≠ (va7 : Value).ownBlock ∧ k_ ≠ gba1))) _ _ tb3 (Int.tmod (wrap64 (a3)) (wrap64 (ta2 + 1))) tb6 tb9 _ ?side1 A9.out).mono ?_); (case side1 => exact Kd.N_V (HOb5.out)); rintro e w80 ⟨vb7, rfl, ho0, hb⟩; refine ⟨_, rfl, ?_⟩; replace HOa5 := yNe HOa5 ho0 hb; replace HOa8 := yNe HOa8 ho0 hb; replace HOb1 := yVe HOb1 ho0 hb; replace HOb5 := yNe HOb5 ho0 hb; replace ho0 := yt ho0; have HOb8 := yRl1 ho0 HB GEa1; replace BKa1 := yK BKa1 hb; replace HB := yS1 HB GEa1 hb; (try clear hb ho0); obtain ⟨Ao81, co81, rfl⟩ := Kd.N_slice HOa8.out) | ((with_reducible refine gC 21 ?_); refine zG (some 49) Try.func21 #[.int .i64 ta2, .slice Ao81 ta6.length co81] ?_; (with_reducible refine (r24_Weights.calls k ta2 _ _ ta6 tc0 _ ?side1 ?side2 A10.out).mono ?_); (case side1 => exact zC (Kd.N_reads' HOa8.out).2.2); (case side2 => exact (Kd.N_reads' HOa8.out).2.1); rintro e w82 ⟨vc1, rfl, ho0, hb⟩; refine ⟨_, rfl, ?_⟩; replace HOb1 := zk (Kd.V_elder' (zV HOb1.out) (Kd.S_base ho0) hb); have HOc2 := zk (Kd.N_lower (Kd.N_mono (ok' := fun k_ => some k_ ≠ (.slice Ao77 ta3.length co77 : Value).ownBlock ∧ some k_ ≠ (.slice Ao81 ta6.length co81 : Value).ownBlock ∧ some k_ ≠ (.slice Ao79 tb3.length co79 : Value).ownBlock ∧ some k_ ≠ (vb7 : Value).ownBlock ∧ k_ ≠ gba1) (Kd.S_N (Kd.S_bound ho0)) (fun k_ hk_ => ⟨(Kd.fresh' (Kd.N_lt (zN HOa5.out)) k_ hk_.2.1), (Kd.fresh' (Kd.N_lt (zN HOa8.out)) k_ hk_.2.1), (Kd.fresh' (Kd.N_lt (zN HOb5.out)) k_ hk_.2.1), (Kd.fresh' (Kd.R_lt (zR HOb8.out)) k_ hk_.2.1), (Kd.freshB (g := gba1) (o := .cells #[.int .i64 a0_0, .int .i64 a0_1, .slice A0_2 l0_2.length c0_2] 24 (0, 0)) (zK BKa1.out) k_ hk_.2.1)⟩)) (below_size (zB1 HB.out GEa1.out))); replace HOa5 := zk (Kd.N_elder' (zN HOa5.out) (Kd.S_base ho0) hb); replace HOa8 := zk (Kd.N_elder' (zN HOa8.out) (Kd.S_base ho0) hb); replace HOb5 := zk (Kd.N_elder' (zN HOb5.out) (Kd.S_base ho0) hb); replace HOb8 := yRb HOb8 hb; replace BKa1 := yK BKa1 hb; replace HB := yS1 HB GEa1 hb; (try clear hb ho0); obtain ⟨Ao83, co83, rfl⟩ := Kd.N_slice HOc2.out) | ((with_reducible refine gC 20 ?_); refine zG (some 53) Try.func20 #[.slice Ao83 tc0.length co83, .int .i64 (wrap64 (ta2 - (Int.tmod (wrap64 (a3)) (wrap64 (ta2 + 1)))))] ?_; (with_reducible refine (mw_Moment.calls k (fun k_ => (some k_ ≠ (.slice Ao77 ta3.length co77 : Value).ownBlock ∧ (some k_ ≠ (.slice Ao81 ta6.length co81 : Value).ownBlock ∧ (some k_ ≠ (.slice Ao79 tb3.length co79 : Value).ownBlock ∧ (some k_ ≠ (vb7 : Value).ownBlock ∧ k_ ≠ gba1))))) _ _ tc0 (wrap64 (ta2 - (Int.tmod (wrap64 (a3)) (wrap64 (ta2 + 1))))) tc3 tc6 _ ?side1 A11.out).mono ?_); (case side1 => exact Kd.N_V (HOc2.out)); rintro e w84 ⟨vc4, rfl, ho0, hb⟩; refine ⟨_, rfl, ?_⟩; replace HOa5 := yNe HOa5 ho0 hb; replace HOa8 := yNe HOa8 ho0 hb; replace HOb1 := yVe HOb1 ho0 hb; replace HOb5 := yNe HOb5 ho0 hb; replace HOc2 := yNe HOc2 ho0 hb; replace ho0 := yt ho0; replace ho0 := yn ho0 HOb8; have HOc5 := yRl1 ho0 HB GEa1; replace HOb8 := yRe HOb8 ho0 hb; replace BKa1 := yK BKa1 hb; replace HB := yS1 HB GEa1 hb; (try clear hb ho0); obtain ⟨hcz85_0, hcz85_1, hcz85_2, hfz85_0, hfz85_1, hfz85_2⟩ := zz3 BKa1) | ((with_reducible refine gC 24 ?_); refine zG (some 58) Try.func24 #[.agg #[.int .i64 a0_0, .int .i64 a0_1, .slice A0_2 l0_2.length c0_2]] ?_; (with_reducible refine (r4_Order.calls k a0_0 a0_1 _ _ l0_2 tc7 _ ?side1 ?side2 A12.out).mono ?_); (case side1 => exact zC (Kd.C_below HR0_2.out HB.out)); (case side2 => exact HC0_2.out); rintro e w86 ⟨rfl, hb⟩; refine ⟨_, rfl, ?_⟩; replace HOa5 := yNb HOa5 hb; replace HOa8 := yNb HOa8 hb; replace HOb1 := yVb HOb1 hb; replace HOb5 := yNb HOb5 hb; replace HOb8 := yRb HOb8 hb; replace HOc2 := yNb HOc2 hb; replace HOc5 := yRb HOc5 hb; replace BKa1 := yK BKa1 hb; replace HB := yS1 HB GEa1 hb; (try clear hb); (try clear hb2); (try clear hk); (try clear hi)) | ((with_reducible refine gC 23 ?_); refine zG (some 60) Try.func23 #[.int .u64 (IntKind.u64.wrap (tc7))] ?_; (with_reducible refine (r1_Of.calls k (IntKind.u64.wrap (tc7)) tc8 _ A13.out).mono ?_); rintro e w87 ⟨vc9, rfl, ho0, hb⟩; refine ⟨_, rfl, ?_⟩; replace HOa5 := yNe HOa5 ho0 hb; replace HOa8 := yNe HOa8 ho0 hb; replace HOb1 := yVe HOb1 ho0 hb; replace HOb5 := yNe HOb5 ho0 hb; replace HOc2 := yNe HOc2 ho0 hb; replace ho0 := yn ho0 HOb8; replace ho0 := yn ho0 HOc5; have HOd0 := yRl1 ho0 HB GEa1; replace HOb8 := yRe HOb8 ho0 hb; replace HOc5 := yRe HOc5 ho0 hb; replace BKa1 := yK BKa1 hb; replace HB := yS1 HB GEa1 hb; (try clear hb ho0); obtain ⟨Ao88, co88, rfl⟩ := Kd.R_slice HOd0.out) | ((with_reducible refine gC 22 ?_); refine zG (some 62) Try.func22 #[.slice Ao88 tc8.length co88, .int .i64 (Int.tmod (wrap64 (a3)) (wrap64 (ta2 + 1)))] ?_; (with_reducible refine (r1_Pow.calls k _ _ tc8 (Int.tmod (wrap64 (a3)) (wrap64 (ta2 + 1))) td1 td2 _ ?side1 ?side2 A14.out).mono ?_); (case side1 => exact zC (Kd.R_reads' HOd0.out).2.2); (case side2 => exact (Kd.R_reads' HOd0.out).2.1); rintro e w89 ⟨vd3, rfl, ho0, hb⟩; refine ⟨_, rfl, ?_⟩; replace HOa5 := yNe HOa5 ho0 hb; replace HOa8 := yNe HOa8 ho0 hb; replace HOb1 := yVe HOb1 ho0 hb; replace HOb5 := yNe HOb5 ho0 hb; replace HOc2 := yNe HOc2 ho0 hb; replace ho0 := yn ho0 HOb8; replace ho0 := yn ho0 HOc5; replace ho0 := yn ho0 HOd0; have HOd4 := yRl1 ho0 HB GEa1; replace HOb8 := yRe HOb8 ho0 hb; replace HOc5 := yRe HOc5 ho0 hb; replace HOd0 := yRe HOd0 ho0 hb; replace BKa1 := yK BKa1 hb; replace HB := yS1 HB GEa1 hb; (try clear hb ho0)))
     go_ret
     exact ⟨zE, zB1 HB.out GEa1.out⟩
   have c15b0 := beq_eq_false_iff_ne.mpr c15
   have c15b1 := bne_iff_ne.mpr c15
   obtain rfl := Option.some.inj H
   go_enter Try.func3, Try.ntmps3
   go_wp2_with (first | ((with_reducible refine gate_dst (N := 4) rfl ?_); (try (refine gate_guard (by rfl) ?_; dsimp only)); refine box_event ?hg (N := 4) ?hd (cs := #[.int .i64 a0_0, .int .i64 a0_1, .slice A0_2 l0_2.length c0_2]) (t := 24) ?hr ?_; (case hd => rfl); (case hg => rfl); (case hr => first | (go_simp; done) | (go_simp; rfl)); intro gba1 hg w90 hbox hb; have BKa1 := zk (hbox); have GWa1 := yg hg HB; have GEa1 := yg hg HB; replace HB := yS HB hb; clear hb hbox hg; obtain ⟨hcz91_0, hcz91_1, hcz91_2, hfz91_0, hfz91_1, hfz91_2⟩ := zz3 BKa1) | ((with_reducible refine gC 19 ?_); refine zG (some 25) Try.func19 #[.agg #[.int .i64 a0_0, .int .i64 a0_1, .slice A0_2 l0_2.length c0_2], .int .u8 a1, .slice A2 l2.length c2] ?_; (with_reducible refine (w24_codes.calls k a0_0 a0_1 _ _ l0_2 a1 _ _ l2 ta2 ta3 ta6 ta9 true _ ?side1 ?side2 ?side3 ?side4 A5.out).mono ?_); (case side1 => exact zC (Kd.C_below HR0_2.out HB.out)); (case side2 => exact HC0_2.out); (case side3 => exact zC (Kd.C_below HR2.out HB.out)); (case side4 => exact HC2.out); rintro e w92 ⟨va4, va7, vb0, rfl, ho0, ho1, ho2, hb⟩; refine ⟨_, rfl, ?_⟩; have HOa5 := zk (Kd.N_lower (Kd.N_mono (ok' := fun k_ => some k_ ≠ (va7 : Value).ownBlock ∧ k_ ≠ gba1) ho0 (fun k_ hk_ => ⟨hk_.2, (Kd.freshB (g := gba1) (o := .cells #[.int .i64 a0_0, .int .i64 a0_1, .slice A0_2 l0_2.length c0_2] 24 (0, 0)) (zK BKa1.out) k_ hk_.1)⟩)) (below_size (zB1 HB.out GEa1.out))); have HOa8 := zk (Kd.N_lower (Kd.N_mono (ok' := fun k_ => some k_ ≠ (va4 : Value).ownBlock ∧ k_ ≠ gba1) ho1 (fun k_ hk_ => ⟨hk_.2, (Kd.freshB (g := gba1) (o := .cells #[.int .i64 a0_0, .int .i64 a0_1, .slice A0_2 l0_2.length c0_2] 24 (0, 0)) (zK BKa1.out) k_ hk_.1)⟩)) (below_size (zB1 HB.out GEa1.out))); have HOb1 := zk (Kd.V_lower (Kd.V_mono (ok' := fun k_ => some k_ ≠ (va4 : Value).ownBlock ∧ some k_ ≠ (va7 : Value).ownBlock ∧ k_ ≠ gba1) ho2 (fun k_ hk_ => ⟨hk_.2.1, hk_.2.2, (Kd.freshB (g := gba1) (o := .cells #[.int .i64 a0_0, .int .i64 a0_1, .slice A0_2 l0_2.length c0_2] 24 (0, 0)) (zK BKa1.out) k_ hk_.1)⟩)) (below_size (zB1 HB.out GEa1.out))); replace BKa1 := yK BKa1 hb; replace HB := yS1 HB GEa1 hb; (try clear hb ho0); (try clear ho1); (try clear ho2); obtain ⟨Ao93, co93, rfl⟩ := Kd.N_slice HOa5.out) | ((with_reducible refine gC 21 ?_); refine zG (some 41) Try.func21 #[.int .i64 ta2, .slice Ao93 ta3.length co93] ?_; (with_reducible refine (r24_Weights.calls k ta2 _ _ ta3 tb3 _ ?side1 ?side2 A8.out).mono ?_); (case side1 => exact zC (Kd.N_reads' HOa5.out).2.2); (case side2 => exact (Kd.N_reads' HOa5.out).2.1); rintro e w94 ⟨vb4, rfl, ho0, hb⟩; refine ⟨_, rfl, ?_⟩; replace HOb1 := zk (Kd.V_elder' (zV HOb1.out) (Kd.S_base ho0) hb); have HOb5 := zk (Kd.N_lower (Kd.N_mono (ok' := fun k_ => some k_ ≠ (.slice Ao93 ta3.length co93 : Value).ownBlock ∧ some k_ ≠ (va7 : Value).ownBlock ∧ k_ ≠ gba1) (Kd.S_N (Kd.S_bound ho0)) (fun k_ hk_ => ⟨(Kd.fresh' (Kd.N_lt (zN HOa5.out)) k_ hk_.2.1), (Kd.fresh' (Kd.N_lt (zN HOa8.out)) k_ hk_.2.1), (Kd.freshB (g := gba1) (o := .cells #[.int .i64 a0_0, .int .i64 a0_1, .slice A0_2 l0_2.length c0_2] 24 (0, 0)) (zK BKa1.out) k_ hk_.2.1)⟩)) (below_size (zB1 HB.out GEa1.out))); replace HOa5 := zk (Kd.N_elder' (zN HOa5.out) (Kd.S_base ho0) hb); replace HOa8 := zk (Kd.N_elder' (zN HOa8.out) (Kd.S_base ho0) hb); replace BKa1 := yK BKa1 hb; replace HB := yS1 HB GEa1 hb; (try clear hb ho0); obtain ⟨Ao95, co95, rfl⟩ := Kd.N_slice HOb5.out) | ((with_reducible refine gC 20 ?_); refine zG (some 43) Try.func20 #[.slice Ao95 tb3.length co95, .int .i64 (Int.tmod (wrap64 (a3)) (wrap64 (ta2 + 1)))] ?_; (with_reducible refine (mw_Moment.calls k (fun k_ => (some k_ ≠ (.slice Ao93 ta3.length co93 : Value).ownBlock ∧ (some k_ ≠ (va7 : Value).ownBlock ∧ k_ ≠ gba1))) _ _ tb3 (Int.tmod (wrap64 (a3)) (wrap64 (ta2 + 1))) tb6 tb9 _ ?side1 A9.out).mono ?_); (case side1 => exact Kd.N_V (HOb5.out)); rintro e w96 ⟨vb7, rfl, ho0, hb⟩; refine ⟨_, rfl, ?_⟩; replace HOa5 := yNe HOa5 ho0 hb; replace HOa8 := yNe HOa8 ho0 hb; replace HOb1 := yVe HOb1 ho0 hb; replace HOb5 := yNe HOb5 ho0 hb; replace ho0 := yt ho0; have HOb8 := yRl1 ho0 HB GEa1; replace BKa1 := yK BKa1 hb; replace HB := yS1 HB GEa1 hb; (try clear hb ho0); obtain ⟨Ao97, co97, rfl⟩ := Kd.N_slice HOa8.out) | ((with_reducible refine gC 21 ?_); refine zG (some 49) Try.func21 #[.int .i64 ta2, .slice Ao97 ta6.length co97] ?_; (with_reducible refine (r24_Weights.calls k ta2 _ _ ta6 tc0 _ ?side1 ?side2 A10.out).mono ?_); (case side1 => exact zC (Kd.N_reads' HOa8.out).2.2); (case side2 => exact (Kd.N_reads' HOa8.out).2.1); rintro e w98 ⟨vc1, rfl, ho0, hb⟩; refine ⟨_, rfl, ?_⟩; replace HOb1 := zk (Kd.V_elder' (zV HOb1.out) (Kd.S_base ho0) hb); have HOc2 := zk (Kd.N_lower (Kd.N_mono (ok' := fun k_ => some k_ ≠ (.slice Ao93 ta3.length co93 : Value).ownBlock ∧ some k_ ≠ (.slice Ao97 ta6.length co97 : Value).ownBlock ∧ some k_ ≠ (.slice Ao95 tb3.length co95 : Value).ownBlock ∧ some k_ ≠ (vb7 : Value).ownBlock ∧ k_ ≠ gba1) (Kd.S_N (Kd.S_bound ho0)) (fun k_ hk_ => ⟨(Kd.fresh' (Kd.N_lt (zN HOa5.out)) k_ hk_.2.1), (Kd.fresh' (Kd.N_lt (zN HOa8.out)) k_ hk_.2.1), (Kd.fresh' (Kd.N_lt (zN HOb5.out)) k_ hk_.2.1), (Kd.fresh' (Kd.R_lt (zR HOb8.out)) k_ hk_.2.1), (Kd.freshB (g := gba1) (o := .cells #[.int .i64 a0_0, .int .i64 a0_1, .slice A0_2 l0_2.length c0_2] 24 (0, 0)) (zK BKa1.out) k_ hk_.2.1)⟩)) (below_size (zB1 HB.out GEa1.out))); replace HOa5 := zk (Kd.N_elder' (zN HOa5.out) (Kd.S_base ho0) hb); replace HOa8 := zk (Kd.N_elder' (zN HOa8.out) (Kd.S_base ho0) hb); replace HOb5 := zk (Kd.N_elder' (zN HOb5.out) (Kd.S_base ho0) hb); replace HOb8 := yRb HOb8 hb; replace BKa1 := yK BKa1 hb; replace HB := yS1 HB GEa1 hb; (try clear hb ho0); obtain ⟨Ao99, co99, rfl⟩ := Kd.N_slice HOc2.out) | ((with_reducible refine gC 20 ?_); refine zG (some 53) Try.func20 #[.slice Ao99 tc0.length co99, .int .i64 (wrap64 (ta2 - (Int.tmod (wrap64 (a3)) (wrap64 (ta2 + 1)))))] ?_; (with_reducible refine (mw_Moment.calls k (fun k_ => (some k_ ≠ (.slice Ao93 ta3.length co93 : Value).ownBlock ∧ (some k_ ≠ (.slice Ao97 ta6.length co97 : Value).ownBlock ∧ (some k_ ≠ (.slice Ao95 tb3.length co95 : Value).ownBlock ∧ (some k_ ≠ (vb7 : Value).ownBlock ∧ k_ ≠ gba1))))) _ _ tc0 (wrap64 (ta2 - (Int.tmod (wrap64 (a3)) (wrap64 (ta2 + 1))))) tc3 tc6 _ ?side1 A11.out).mono ?_); (case side1 => exact Kd.N_V (HOc2.out)); rintro e w100 ⟨vc4, rfl, ho0, hb⟩; refine ⟨_, rfl, ?_⟩; replace HOa5 := yNe HOa5 ho0 hb; replace HOa8 := yNe HOa8 ho0 hb; replace HOb1 := yVe HOb1 ho0 hb; replace HOb5 := yNe HOb5 ho0 hb; replace HOc2 := yNe HOc2 ho0 hb; replace ho0 := yt ho0; replace ho0 := yn ho0 HOb8; have HOc5 := yRl1 ho0 HB GEa1; replace HOb8 := yRe HOb8 ho0 hb; replace BKa1 := yK BKa1 hb; replace HB := yS1 HB GEa1 hb; (try clear hb ho0); obtain ⟨hcza1_0, hcza1_1, hcza1_2, hfza1_0, hfza1_1, hfza1_2⟩ := zz3 BKa1) | ((with_reducible refine gC 24 ?_); refine zG (some 58) Try.func24 #[.agg #[.int .i64 a0_0, .int .i64 a0_1, .slice A0_2 l0_2.length c0_2]] ?_; (with_reducible refine (r4_Order.calls k a0_0 a0_1 _ _ l0_2 tc7 _ ?side1 ?side2 A12.out).mono ?_); (case side1 => exact zC (Kd.C_below HR0_2.out HB.out)); (case side2 => exact HC0_2.out); rintro e w102 ⟨rfl, hb⟩; refine ⟨_, rfl, ?_⟩; replace HOa5 := yNb HOa5 hb; replace HOa8 := yNb HOa8 hb; replace HOb1 := yVb HOb1 hb; replace HOb5 := yNb HOb5 hb; replace HOb8 := yRb HOb8 hb; replace HOc2 := yNb HOc2 hb; replace HOc5 := yRb HOc5 hb; replace BKa1 := yK BKa1 hb; replace HB := yS1 HB GEa1 hb; (try clear hb); (try clear hb2); (try clear hk); (try clear hi)) | ((with_reducible refine gC 23 ?_); refine zG (some 60) Try.func23 #[.int .u64 (IntKind.u64.wrap (tc7))] ?_; (with_reducible refine (r1_Of.calls k (IntKind.u64.wrap (tc7)) tc8 _ A13.out).mono ?_); rintro e w103 ⟨vc9, rfl, ho0, hb⟩; refine ⟨_, rfl, ?_⟩; replace HOa5 := yNe HOa5 ho0 hb; replace HOa8 := yNe HOa8 ho0 hb; replace HOb1 := yVe HOb1 ho0 hb; replace HOb5 := yNe HOb5 ho0 hb; replace HOc2 := yNe HOc2 ho0 hb; replace ho0 := yn ho0 HOb8; replace ho0 := yn ho0 HOc5; have HOd0 := yRl1 ho0 HB GEa1; replace HOb8 := yRe HOb8 ho0 hb; replace HOc5 := yRe HOc5 ho0 hb; replace BKa1 := yK BKa1 hb; replace HB := yS1 HB GEa1 hb; (try clear hb ho0); obtain ⟨Aoa4, coa4, rfl⟩ := Kd.R_slice HOd0.out) | ((with_reducible refine gC 22 ?_); refine zG (some 62) Try.func22 #[.slice Aoa4 tc8.length coa4, .int .i64 (Int.tmod (wrap64 (a3)) (wrap64 (ta2 + 1)))] ?_; (with_reducible refine (r1_Pow.calls k _ _ tc8 (Int.tmod (wrap64 (a3)) (wrap64 (ta2 + 1))) td1 td2 _ ?side1 ?side2 A14.out).mono ?_); (case side1 => exact zC (Kd.R_reads' HOd0.out).2.2); (case side2 => exact (Kd.R_reads' HOd0.out).2.1); rintro e w105 ⟨vd3, rfl, ho0, hb⟩; refine ⟨_, rfl, ?_⟩; replace HOa5 := yNe HOa5 ho0 hb; replace HOa8 := yNe HOa8 ho0 hb; replace HOb1 := yVe HOb1 ho0 hb; replace HOb5 := yNe HOb5 ho0 hb; replace HOc2 := yNe HOc2 ho0 hb; replace ho0 := yn ho0 HOb8; replace ho0 := yn ho0 HOc5; replace ho0 := yn ho0 HOd0; have HOd4 := yRl1 ho0 HB GEa1; replace HOb8 := yRe HOb8 ho0 hb; replace HOc5 := yRe HOc5 ho0 hb; replace HOd0 := yRe HOd0 ho0 hb; replace BKa1 := yK BKa1 hb; replace HB := yS1 HB GEa1 hb; (try clear hb ho0)))
   go_ret
   exact ⟨zE, zB1 HB.out GEa1.out⟩
 replace c6 := Bool.eq_false_iff.mpr c6
 subst c6
 rw [if_neg Bool.false_ne_true] at H
 obtain rfl := Option.some.inj H
 go_enter Try.func3, Try.ntmps3
 go_wp2_with (first | ((with_reducible refine gate_dst (N := 4) rfl ?_); (try (refine gate_guard (by rfl) ?_; dsimp only)); refine box_event ?hg (N := 4) ?hd (cs := #[.int .i64 a0_0, .int .i64 a0_1, .slice A0_2 l0_2.length c0_2]) (t := 24) ?hr ?_; (case hd => rfl); (case hg => rfl); (case hr => first | (go_simp; done) | (go_simp; rfl)); intro gba1 hg w106 hbox hb; have BKa1 := zk (hbox); have GWa1 := yg hg HB; have GEa1 := yg hg HB; replace HB := yS HB hb; clear hb hbox hg; obtain ⟨hcza7_0, hcza7_1, hcza7_2, hfza7_0, hfza7_1, hfza7_2⟩ := zz3 BKa1) | ((with_reducible refine gC 19 ?_); refine zG (some 25) Try.func19 #[.agg #[.int .i64 a0_0, .int .i64 a0_1, .slice A0_2 l0_2.length c0_2], .int .u8 a1, .slice A2 l2.length c2] ?_; (with_reducible refine (w24_codes.calls k a0_0 a0_1 _ _ l0_2 a1 _ _ l2 ta2 ta3 ta6 ta9 false _ ?side1 ?side2 ?side3 ?side4 A5.out).mono ?_); (case side1 => exact zC (Kd.C_below HR0_2.out HB.out)); (case side2 => exact HC0_2.out); (case side3 => exact zC (Kd.C_below HR2.out HB.out)); (case side4 => exact HC2.out); rintro e w108 ⟨va4, va7, vb0, rfl, ho0, ho1, ho2, hb⟩; refine ⟨_, rfl, ?_⟩; have HOa5 := zk (Kd.N_lower (Kd.N_mono (ok' := fun k_ => some k_ ≠ (va7 : Value).ownBlock ∧ k_ ≠ gba1) ho0 (fun k_ hk_ => ⟨hk_.2, (Kd.freshB (g := gba1) (o := .cells #[.int .i64 a0_0, .int .i64 a0_1, .slice A0_2 l0_2.length c0_2] 24 (0, 0)) (zK BKa1.out) k_ hk_.1)⟩)) (below_size (zB1 HB.out GEa1.out))); have HOa8 := zk (Kd.N_lower (Kd.N_mono (ok' := fun k_ => some k_ ≠ (va4 : Value).ownBlock ∧ k_ ≠ gba1) ho1 (fun k_ hk_ => ⟨hk_.2, (Kd.freshB (g := gba1) (o := .cells #[.int .i64 a0_0, .int .i64 a0_1, .slice A0_2 l0_2.length c0_2] 24 (0, 0)) (zK BKa1.out) k_ hk_.1)⟩)) (below_size (zB1 HB.out GEa1.out))); have HOb1 := zk (Kd.V_lower (Kd.V_mono (ok' := fun k_ => some k_ ≠ (va4 : Value).ownBlock ∧ some k_ ≠ (va7 : Value).ownBlock ∧ k_ ≠ gba1) ho2 (fun k_ hk_ => ⟨hk_.2.1, hk_.2.2, (Kd.freshB (g := gba1) (o := .cells #[.int .i64 a0_0, .int .i64 a0_1, .slice A0_2 l0_2.length c0_2] 24 (0, 0)) (zK BKa1.out) k_ hk_.1)⟩)) (below_size (zB1 HB.out GEa1.out))); replace BKa1 := yK BKa1 hb; replace HB := yS1 HB GEa1 hb; (try clear hb ho0); (try clear ho1); (try clear ho2)))
 go_ret
 exact ⟨zE, zB1 HB.out GEa1.out⟩
end Go.Proofs.Ytifkbghnmhineaa.PAll
section
namespace Mw
def sm : Nat → (Nat → Int) → Int
  | 0, _ => 0
  | n + 1, f => sm n f + f n
theorem sm_congr {n : Nat} {f g : Nat → Int} (h : ∀ i, i < n → f i = g i) : sm n f = sm n g := by
  induction n with
  | zero => rfl
  | succ n ih => simp only [sm]; rw [ih (fun i hi => h i (by omega)), h n (by omega)]
theorem sm_zero {n : Nat} {f : Nat → Int} (h : ∀ i, i < n → f i = 0) : sm n f = 0 := by
  induction n with
  | zero => rfl
  | succ n ih => simp only [sm]; rw [ih (fun i hi => h i (by omega)), h n (by omega)]; rfl
theorem sm_add (n : Nat) (f g : Nat → Int) : sm n (fun i => f i + g i) = sm n f + sm n g := by
  induction n with
  | zero => rfl
  | succ n ih => simp only [sm]; rw [ih]; omega
theorem sm_sub (n : Nat) (f g : Nat → Int) : sm n (fun i => f i - g i) = sm n f - sm n g := by
  induction n with
  | zero => rfl
  | succ n ih => simp only [sm]; rw [ih]; omega
theorem sm_mul (n : Nat) (c : Int) (f : Nat → Int) : sm n (fun i => c * f i) = c * sm n f := by
  induction n with
  | zero => simp [sm]
  | succ n ih => simp only [sm]; rw [ih, Int.mul_add]
theorem sm_mul_right (n : Nat) (c : Int) (f : Nat → Int) : sm n (fun i => f i * c) = sm n f * c := by
  induction n with
  | zero => simp [sm]
  | succ n ih => simp only [sm]; rw [ih, Int.add_mul]
theorem sm_head (n : Nat) (f : Nat → Int) : sm (n + 1) f = f 0 + sm n (fun i => f (i + 1)) := by
  induction n with
  | zero => simp [sm]
  | succ n ih => rw [sm, ih]; simp only [sm]; omega
theorem sm_swap (m n : Nat) (f : Nat → Nat → Int) : sm m (fun i => sm n (fun j => f i j)) = sm n (fun j => sm m (fun i => f i j)) := by
  induction m with
  | zero => simp only [sm]; exact (sm_zero (fun _ _ => rfl)).symm
  | succ m ih => simp only [sm]; rw [ih, sm_add]
theorem sm_single {n a : Nat} {f : Nat → Int} (ha : a < n) (h : ∀ i, i < n → i ≠ a → f i = 0) : sm n f = f a := by
  induction n with
  | zero => omega
  | succ n ih =>
    simp only [sm]
    by_cases e : a = n
    · subst e; rw [sm_zero (fun i hi => h i (by omega) (by omega))]; omega
    · rw [ih (by omega) (fun i hi hne => h i (by omega) hne), h n (by omega) (by omega)]; omega
theorem sm_more {m n : Nat} (h : m ≤ n) {f : Nat → Int} (hf : ∀ i, m ≤ i → f i = 0) : sm n f = sm m f := by
  induction n with
  | zero => have : m = 0 := by omega
            subst this; rfl
  | succ n ih =>
    by_cases e : m = n + 1
    · subst e; rfl
    · simp only [sm]; rw [ih (by omega), hf n (by omega)]; omega
theorem sm_more' {m n : Nat} (h : m ≤ n) {f : Nat → Int} (hf : ∀ i, m ≤ i → i < n → f i = 0) : sm n f = sm m f := by
  induction n with
  | zero => have : m = 0 := by omega
            subst this; rfl
  | succ n ih =>
    by_cases e : m = n + 1
    · subst e; rfl
    · simp only [sm]; rw [ih (by omega) (fun i h1 h2 => hf i h1 (by omega)), hf n (by omega) (by omega)]; omega
theorem sm_rev (n : Nat) (f : Nat → Int) : sm (n + 1) f = sm (n + 1) (fun i => f (n - i)) := by
  induction n generalizing f with
  | zero => rfl
  | succ n ih =>
    rw [sm_head (n + 1) (fun i => f (n + 1 - i))]
    rw [sm]
    rw [ih f]
    have : sm (n + 1) (fun i => f (n + 1 - (i + 1))) = sm (n + 1) (fun i => f (n - i)) := sm_congr (fun i _ => by rw [Nat.add_sub_add_right])
    rw [this]
    simp only [Nat.sub_zero]
    omega
theorem poly_zero : ∀ (n : Nat) (c : Nat → Int), (∀ z : Int, z ≠ 0 → sm n (fun i => c i * z ^ i) = 0) → ∀ i, i < n → c i = 0 := by
  intro n
  induction n with
  | zero => intro c _ i hi; omega
  | succ n ih =>
    intro c h
    have step : ∀ z : Int, c 0 + z * sm n (fun i => c (i + 1) * z ^ i) = sm (n + 1) (fun i => c i * z ^ i) := by
      intro z
      rw [sm_head, ← sm_mul]
      have : sm n (fun i => z * (c (i + 1) * z ^ i)) = sm n (fun i => c (i + 1) * z ^ (i + 1)) := sm_congr (fun i _ => by rw [Int.pow_succ]; grind)
      rw [this]; simp
    have h0 : c 0 = 0 := by
      have hsq : 0 ≤ c 0 * c 0 := by
        rcases Int.le_total 0 (c 0) with g | g
        · exact Int.mul_nonneg g g
        · exact Int.mul_nonneg_of_nonpos_of_nonpos g g
      have hz := h (c 0 * c 0 + 1) (by omega)
      rw [← step] at hz
      have hd : (c 0 * c 0 + 1) ∣ c 0 := ⟨-(sm n (fun i => c (i + 1) * (c 0 * c 0 + 1) ^ i)), by grind⟩
      refine Decidable.byContradiction fun hne => ?_
      have hle := Int.natAbs_dvd_natAbs.mpr hd
      have hpos : 0 < (c 0).natAbs := by omega
      have hle2 := Nat.le_of_dvd hpos hle
      have h1 : (c 0 * c 0 + 1).natAbs = (c 0).natAbs * (c 0).natAbs + 1 := by
        have e : c 0 * c 0 = (((c 0).natAbs * (c 0).natAbs : Nat) : Int) := by
          rw [Int.natCast_mul, ← Int.natAbs_mul_self' (c 0)]
        rw [e]; omega
      rw [h1] at hle2
      have : (c 0).natAbs * 1 ≤ (c 0).natAbs * (c 0).natAbs := Nat.mul_le_mul_left _ hpos
      omega
    have hrest := ih (fun i => c (i + 1)) (by
      intro z hz
      have := h z hz
      rw [← step, h0, Int.zero_add] at this
      rcases Int.mul_eq_zero.mp this with e | e
      · exact absurd e hz
      · exact e)
    intro i hi
    cases i with
    | zero => exact h0
    | succ i => exact hrest i (by omega)
theorem poly_eq {n : Nat} {c d : Nat → Int} (h : ∀ z : Int, sm n (fun i => c i * z ^ i) = sm n (fun i => d i * z ^ i)) : ∀ i, i < n → c i = d i := by
  intro i hi
  have := poly_zero n (fun i => c i - d i) (by
    intro z _
    have e : sm n (fun i => (c i - d i) * z ^ i) = sm n (fun i => c i * z ^ i - d i * z ^ i) := sm_congr (fun i _ => by rw [Int.sub_mul])
    rw [e, sm_sub, h z]; omega) i hi
  have this : c i - d i = 0 := this
  omega
def bin : Nat → Nat → Nat
  | _, 0 => 1
  | 0, _ + 1 => 0
  | n + 1, k + 1 => bin n k + bin n (k + 1)
theorem bin_zero (n : Nat) : bin n 0 = 1 := by cases n <;> rfl
theorem bin_succ (n k : Nat) : bin (n + 1) (k + 1) = bin n k + bin n (k + 1) := rfl
theorem bin_above : ∀ {n k : Nat}, n < k → bin n k = 0
  | 0, 0, h => by omega
  | 0, _ + 1, _ => rfl
  | n + 1, 0, h => by omega
  | n + 1, k + 1, h => by rw [bin_succ, bin_above (n := n) (k := k) (by omega), bin_above (n := n) (k := k + 1) (by omega)]
theorem bin_self (n : Nat) : bin n n = 1 := by
  induction n with
  | zero => rfl
  | succ n ih => rw [bin_succ, ih, bin_above (by omega)]
theorem bin_one (n : Nat) : bin n 1 = n := by
  induction n with
  | zero => rfl
  | succ n ih => rw [bin_succ, ih, bin_zero]; omega
theorem bin_pos : ∀ {n k : Nat}, k ≤ n → 0 < bin n k
  | _, 0, _ => by rw [bin_zero]; omega
  | 0, k + 1, h => by omega
  | n + 1, k + 1, h => by rw [bin_succ]; have := bin_pos (n := n) (k := k) (by omega); omega
theorem bin_step : ∀ (n k : Nat), (k + 1) * bin n (k + 1) = (n - k) * bin n k
  | 0, k => by rw [bin_above (by omega)]; simp
  | n + 1, 0 => by rw [bin_one, bin_zero]; omega
  | n + 1, k + 1 => by
    rw [bin_succ, bin_succ]
    have h1 := bin_step n k
    have h2 := bin_step n (k + 1)
    by_cases hk : k + 1 ≤ n
    · obtain ⟨m, rfl⟩ : ∃ m, n = m + (k + 1) := ⟨n - (k + 1), by omega⟩
      rw [show m + (k + 1) - k = m + 1 by omega] at h1
      rw [show m + (k + 1) - (k + 1) = m by omega] at h2
      rw [show m + (k + 1) + 1 - (k + 1) = m + 1 by omega]
      grind
    · by_cases hk2 : k = n
      · subst hk2
        rw [bin_above (n := k) (k := k + 1 + 1) (by omega), bin_above (n := k) (k := k + 1) (by omega)]; simp
      · rw [bin_above (n := n) (k := k + 1 + 1) (by omega), bin_above (n := n) (k := k + 1) (by omega), bin_above (n := n) (k := k) (by omega)]; simp
theorem bin_symm : ∀ {n k : Nat}, k ≤ n → bin n (n - k) = bin n k
  | 0, k, h => by have : k = 0 := by omega
                  subst this; rfl
  | n + 1, 0, _ => by rw [Nat.sub_zero, bin_self, bin_zero]
  | n + 1, k + 1, h => by
    rw [Nat.add_sub_add_right]
    by_cases e : k = n
    · subst e; rw [Nat.sub_self, bin_zero, bin_self]
    · obtain ⟨m, hm⟩ : ∃ m, n - k = m + 1 := ⟨n - k - 1, by omega⟩
      rw [hm, bin_succ, bin_succ]
      have h1 := bin_symm (n := n) (k := k) (by omega)
      have h2 := bin_symm (n := n) (k := k + 1) (by omega)
      rw [hm] at h1
      rw [show n - (k + 1) = m by omega] at h2
      omega
theorem binomial (n : Nat) (u w : Int) : (u + w) ^ n = sm (n + 1) (fun i => (bin n i : Int) * u ^ (n - i) * w ^ i) := by
  induction n with
  | zero => simp [sm, bin]
  | succ n ih =>
    have e1 : u * sm (n + 1) (fun i => (bin n i : Int) * u ^ (n - i) * w ^ i) = sm (n + 2) (fun i => (bin n i : Int) * u ^ (n + 1 - i) * w ^ i) := by
      rw [← sm_mul, sm.eq_def (n + 2)]
      simp only []
      rw [bin_above (n := n) (k := n + 1) (by omega)]
      simp only [Int.natCast_zero, Int.zero_mul, Int.add_zero]
      refine sm_congr fun i hi => ?_
      rw [show n + 1 - i = (n - i) + 1 by omega, Int.pow_succ]; grind
    have e2 : w * sm (n + 1) (fun i => (bin n i : Int) * u ^ (n - i) * w ^ i) = sm (n + 1) (fun i => (bin n i : Int) * u ^ (n + 1 - (i + 1)) * w ^ (i + 1)) := by
      rw [← sm_mul]
      refine sm_congr fun i hi => ?_
      rw [Nat.add_sub_add_right, Int.pow_succ]; grind
    rw [Int.pow_succ, Int.mul_comm, Int.add_mul, ih, e1, e2, sm_head (n + 1), sm_head (n + 1)]
    have e3 : sm (n + 1) (fun i => (bin (n + 1) (i + 1) : Int) * u ^ (n + 1 - (i + 1)) * w ^ (i + 1)) =
        sm (n + 1) (fun i => (bin n (i + 1) : Int) * u ^ (n + 1 - (i + 1)) * w ^ (i + 1)) + sm (n + 1) (fun i => (bin n i : Int) * u ^ (n + 1 - (i + 1)) * w ^ (i + 1)) := by
      rw [← sm_add]
      refine sm_congr fun i _ => ?_
      rw [bin_succ, Int.natCast_add]; grind
    rw [e3]
    simp only [bin_zero]
    omega
def kr (g : Int) : Nat → Nat → Nat → Int
  | 0, 0, 0 => 1
  | 0, 0, _ + 1 => 0
  | a + 1, 0, 0 => kr g a 0 0
  | a + 1, 0, k + 1 => kr g a 0 (k + 1) + g * kr g a 0 k
  | a, b + 1, 0 => kr g a b 0
  | a, b + 1, k + 1 => kr g a b (k + 1) - kr g a b k
theorem kr_b0 (g : Int) (a b : Nat) : kr g a (b + 1) 0 = kr g a b 0 := by cases a <;> simp [kr]
theorem kr_b (g : Int) (a b k : Nat) : kr g a (b + 1) (k + 1) = kr g a b (k + 1) - kr g a b k := by cases a <;> simp [kr]
theorem kr_zero (g : Int) (a b : Nat) : kr g a b 0 = 1 := by
  induction b with
  | zero => induction a with
    | zero => simp [kr]
    | succ a ih => simp [kr, ih]
  | succ b ih => rw [kr_b0, ih]
theorem kr_a (g : Int) (a b k : Nat) : kr g (a + 1) b (k + 1) = kr g a b (k + 1) + g * kr g a b k := by
  induction b generalizing k with
  | zero => simp [kr]
  | succ b ih =>
    rw [kr_b, kr_b, ih]
    cases k with
    | zero => rw [kr_zero, kr_zero, kr_zero]; omega
    | succ k => rw [ih, kr_b]; grind
theorem kr_above (g : Int) : ∀ (a b k : Nat), a + b < k → kr g a b k = 0 := by
  intro a
  induction a with
  | zero =>
    intro b
    induction b with
    | zero => intro k h; cases k with
      | zero => omega
      | succ k => simp [kr]
    | succ b ih => intro k h; cases k with
      | zero => omega
      | succ k => rw [kr_b, ih _ (by omega), ih _ (by omega)]; rfl
  | succ a ih => intro b k h; cases k with
    | zero => omega
    | succ k => rw [kr_a, ih _ _ (by omega), ih _ _ (by omega)]; simp
theorem kr_first (g : Int) (a k : Nat) : kr g a 0 k = (bin a k : Int) * g ^ k := by
  induction a generalizing k with
  | zero => cases k with
    | zero => simp [kr, bin]
    | succ k => simp [kr, bin]
  | succ a ih => cases k with
    | zero => simp [kr_zero, bin_zero]
    | succ k => rw [kr_a, ih, ih, bin_succ, Int.pow_succ, Int.natCast_add]; grind
theorem kr_row (g : Int) (a b k : Nat) : kr g a (b + 1) (k + 1) = kr g (a + 1) b (k + 1) - kr g (a + 1) b k - g * kr g a (b + 1) k := by
  have h := kr_a g a (b + 1) k
  rw [kr_b] at h
  omega
def krF (g : Int) (a b k : Nat) : Int := sm (k + 1) (fun j => (-1) ^ j * (g ^ (k - j) * ((bin b j : Int) * (bin a (k - j) : Int))))
theorem kr_formula (g : Int) (a b k : Nat) : kr g a b k = krF g a b k := by
  induction b generalizing k with
  | zero =>
    rw [kr_first, krF]
    rw [sm_single (a := 0) (by omega)]
    · simp [bin_zero]; grind
    · intro i _ hne
      obtain ⟨m, rfl⟩ : ∃ m, i = m + 1 := ⟨i - 1, by omega⟩
      simp [bin]
  | succ b ih =>
    cases k with
    | zero => rw [kr_zero]; simp [krF, sm, bin_zero]
    | succ k =>
      rw [kr_b, ih, ih, krF, krF, krF]
      rw [sm_head (k + 1) (fun j => (-1) ^ j * (g ^ (k + 1 - j) * ((bin (b + 1) j : Int) * (bin a (k + 1 - j) : Int))))]
      rw [sm_head (k + 1) (fun j => (-1) ^ j * (g ^ (k + 1 - j) * ((bin b j : Int) * (bin a (k + 1 - j) : Int))))]
      simp only [bin_zero, Nat.add_sub_add_right]
      rw [Int.add_sub_assoc]
      congr 1
      rw [← sm_sub]
      refine sm_congr fun i hi => ?_
      rw [bin_succ, Int.natCast_add, Int.pow_succ]
      grind
theorem kr_gen (g : Int) (a b : Nat) (u w : Int) : sm (a + b + 1) (fun i => kr g a b i * u ^ (a + b - i) * w ^ i) = (u + g * w) ^ a * (u - w) ^ b := by
  have shift : ∀ (m : Nat) (c : Nat → Int) (s : Int) (d : Nat → Int), d 0 = c 0 → (∀ k, d (k + 1) = c (k + 1) + s * c k) → (∀ k, m < k → c k = 0) →
      sm (m + 2) (fun i => d i * u ^ (m + 1 - i) * w ^ i) = (u + s * w) * sm (m + 1) (fun i => c i * u ^ (m - i) * w ^ i) := by
    intro m c s d h0 h1 h2
    have e1 : u * sm (m + 1) (fun i => c i * u ^ (m - i) * w ^ i) = sm (m + 2) (fun i => c i * u ^ (m + 1 - i) * w ^ i) := by
      rw [← sm_mul, sm.eq_def (m + 2)]
      simp only []
      rw [h2 (m + 1) (by omega)]
      simp only [Int.zero_mul, Int.add_zero]
      refine sm_congr fun i hi => ?_
      rw [show m + 1 - i = (m - i) + 1 by omega, Int.pow_succ]; grind
    have e2 : s * w * sm (m + 1) (fun i => c i * u ^ (m - i) * w ^ i) = sm (m + 1) (fun i => s * c i * u ^ (m + 1 - (i + 1)) * w ^ (i + 1)) := by
      rw [← sm_mul]
      refine sm_congr fun i hi => ?_
      rw [Nat.add_sub_add_right, Int.pow_succ]; grind
    rw [Int.add_mul, e1, e2, sm_head (m + 1), sm_head (m + 1), Int.add_assoc, ← sm_add, h0]
    congr 1
    refine sm_congr fun i _ => ?_
    rw [h1]; grind
  induction b with
  | zero =>
    induction a with
    | zero => simp [sm, kr]
    | succ a ih =>
      have := shift (a + 0) (kr g a 0) g (kr g (a + 1) 0) (by rw [kr_zero, kr_zero]) (fun k => kr_a g a 0 k) (fun k hk => kr_above g a 0 k hk)
      rw [show a + 1 + 0 + 1 = a + 0 + 2 by omega, show a + 1 + 0 = a + 0 + 1 by omega, this, ih]
      grind
  | succ b ih =>
    have := shift (a + b) (kr g a b) (-1) (kr g a (b + 1)) (by rw [kr_zero, kr_zero]) (fun k => by rw [kr_b]; omega) (fun k hk => kr_above g a b k hk)
    rw [show a + (b + 1) + 1 = a + b + 2 by omega, show a + (b + 1) = a + b + 1 by omega, this, ih]
    grind
end Mw
end
section
set_option linter.unusedVariables false
set_option linter.unusedSimpArgs false
namespace Mw
def El (q : Nat) (x : Int) : Prop := 0 ≤ x ∧ x < (q : Int)
structure Fld (q : Nat) (add mul : Int → Int → Int) : Prop where
  two : 2 ≤ q
  add_el : ∀ x y, El q x → El q y → El q (add x y)
  mul_el : ∀ x y, El q x → El q y → El q (mul x y)
  add_zero : ∀ x, El q x → add x 0 = x
  add_comm : ∀ x y, El q x → El q y → add x y = add y x
  add_assoc : ∀ x y z, El q x → El q y → El q z → add (add x y) z = add x (add y z)
  neg : ∀ x, El q x → ∃ y, El q y ∧ add x y = 0
  mul_one : ∀ x, El q x → mul x 1 = x
  mul_comm : ∀ x y, El q x → El q y → mul x y = mul y x
  mul_assoc : ∀ x y z, El q x → El q y → El q z → mul (mul x y) z = mul x (mul y z)
  distrib : ∀ x y z, El q x → El q y → El q z → mul x (add y z) = add (mul x y) (mul x z)
  nzd : ∀ x y, El q x → El q y → mul x y = 0 → x = 0 ∨ y = 0
noncomputable def ind (p : Prop) : Int := open Classical in if p then 1 else 0
theorem ind_true {p : Prop} (h : p) : ind p = 1 := by unfold ind; exact if_pos h
theorem ind_false {p : Prop} (h : ¬ p) : ind p = 0 := by unfold ind; exact if_neg h
theorem ind_congr {p r : Prop} (h : p ↔ r) : ind p = ind r := by rw [propext h]
theorem ind_and (p r : Prop) : ind (p ∧ r) = ind p * ind r := by
  by_cases h : p
  · by_cases g : r
    · rw [ind_true h, ind_true g, ind_true ⟨h, g⟩]; rfl
    · rw [ind_true h, ind_false g, ind_false (fun e => g e.2)]; rfl
  · rw [ind_false h, ind_false (fun e : p ∧ r => h e.1)]; simp
theorem ind_le_one (p : Prop) : ind p ≤ 1 := by
  by_cases h : p
  · rw [ind_true h]; omega
  · rw [ind_false h]; omega
theorem onto_of_inj {q : Nat} {σ : Nat → Nat} (hm : ∀ a, a < q → σ a < q) (hi : ∀ a b, a < q → b < q → σ a = σ b → a = b) :
    ∀ b, b < q → sm q (fun a => ind (σ a = b)) = 1 := by
  have le1 : ∀ b, b < q → sm q (fun a => ind (σ a = b)) ≤ 1 := by
    intro b _
    by_cases h : ∃ a, a < q ∧ σ a = b
    · obtain ⟨a, ha, e⟩ := h
      rw [sm_single ha (fun i hi2 hne => ind_false (fun e2 => hne (hi i a hi2 ha (by rw [e2, e]))))]
      exact ind_le_one _
    · rw [sm_zero (fun i hi2 => ind_false (fun e => h ⟨i, hi2, e⟩))]; omega
  have tot : sm q (fun b => sm q (fun a => ind (σ a = b))) = q := by
    rw [sm_swap]
    have : ∀ a, a < q → sm q (fun b => ind (σ a = b)) = 1 := by
      intro a ha
      rw [sm_single (hm a ha) (fun i _ hne => ind_false (fun e => hne e.symm))]
      exact ind_true rfl
    rw [sm_congr this]
    have : ∀ n : Nat, sm n (fun _ => 1) = n := by
      intro n
      induction n with
      | zero => rfl
      | succ n ih => simp only [sm]; rw [ih]; omega
    exact this q
  intro b hb
  refine Decidable.byContradiction fun hne => ?_
  have hlt : sm q (fun a => ind (σ a = b)) ≤ 0 := by have := le1 b hb; omega
  have : ∀ n : Nat, n ≤ q → sm n (fun b => sm q (fun a => ind (σ a = b))) ≤ (n : Int) - (if b < n then 1 else 0) := by
    intro n
    induction n with
    | zero => intro _; simp [sm]
    | succ n ih =>
      intro hn
      simp only [sm]
      have h1 := ih (by omega)
      have h2 := le1 n (by omega)
      by_cases e : b = n
      · subst e
        rw [if_neg (by omega)] at h1
        rw [if_pos (by omega)]; omega
      · by_cases g : b < n
        · rw [if_pos g] at h1; rw [if_pos (by omega)]; omega
        · rw [if_neg g] at h1; rw [if_neg (by omega)]; omega
  have := this q (Nat.le_refl q)
  rw [tot, if_pos hb] at this
  omega
theorem sm_perm {q : Nat} {σ : Nat → Nat} (hm : ∀ a, a < q → σ a < q) (hi : ∀ a b, a < q → b < q → σ a = σ b → a = b) (f : Nat → Int) :
    sm q (fun a => f (σ a)) = sm q f := by
  have e1 : ∀ a, a < q → f (σ a) = sm q (fun b => ind (σ a = b) * f b) := by
    intro a ha
    rw [sm_single (hm a ha) (fun i _ hne => by rw [ind_false (fun e => hne e.symm)]; simp)]
    rw [ind_true rfl]; simp
  rw [sm_congr e1, sm_swap]
  refine sm_congr fun b hb => ?_
  rw [sm_mul_right, onto_of_inj hm hi b hb]; simp
def se (q : Nat) (f : Int → Int) : Int := sm q (fun a => f (a : Int))
theorem se_congr {q : Nat} {f g : Int → Int} (h : ∀ a, El q a → f a = g a) : se q f = se q g :=
  sm_congr fun i hi => h _ ⟨by omega, by omega⟩
theorem se_zero {q : Nat} {f : Int → Int} (h : ∀ a, El q a → f a = 0) : se q f = 0 :=
  sm_zero fun i hi => h _ ⟨by omega, by omega⟩
theorem se_single {q : Nat} {a : Int} {f : Int → Int} (ha : El q a) (h : ∀ i, El q i → i ≠ a → f i = 0) : se q f = f a := by
  obtain ⟨h0, h1⟩ := ha
  unfold se
  rw [sm_single (a := a.toNat) (by omega) (fun i hi hne => h _ ⟨by omega, by omega⟩ (by omega))]
  rw [Int.toNat_of_nonneg h0]
theorem se_const (q : Nat) (c : Int) : se q (fun _ => c) = q * c := by
  unfold se
  induction q with
  | zero => simp [sm]
  | succ n ih => simp only [sm]; rw [ih, Int.natCast_add]; grind
theorem se_add (q : Nat) (f g : Int → Int) : se q (fun i => f i + g i) = se q f + se q g := sm_add _ _ _
theorem se_mul (q : Nat) (c : Int) (f : Int → Int) : se q (fun i => c * f i) = c * se q f := sm_mul _ _ _
theorem se_mul_right (q : Nat) (c : Int) (f : Int → Int) : se q (fun i => f i * c) = se q f * c := sm_mul_right _ _ _
theorem se_perm {q : Nat} {σ : Int → Int} (hm : ∀ a, El q a → El q (σ a)) (hi : ∀ a b, El q a → El q b → σ a = σ b → a = b) (f : Int → Int) :
    se q (fun a => f (σ a)) = se q f := by
  unfold se
  have := sm_perm (q := q) (σ := fun a => (σ (a : Int)).toNat)
    (fun a ha => by have := hm (a : Int) ⟨by omega, by omega⟩; unfold El at this; omega)
    (fun a b ha hb e => by
      have h1 := hm (a : Int) ⟨by omega, by omega⟩
      have h2 := hm (b : Int) ⟨by omega, by omega⟩
      unfold El at h1 h2
      have e : (σ (a : Int)).toNat = (σ (b : Int)).toNat := e
      have := hi a b ⟨by omega, by omega⟩ ⟨by omega, by omega⟩ (by omega)
      omega)
    (fun a => f (a : Int))
  rw [← this]
  refine sm_congr fun a ha => ?_
  have h1 := hm (a : Int) ⟨by omega, by omega⟩
  unfold El at h1
  rw [Int.toNat_of_nonneg h1.1]
theorem se_swap (q : Nat) (f : Int → Int → Int) : se q (fun i => se q (fun j => f i j)) = se q (fun j => se q (fun i => f i j)) := sm_swap _ _ _
def ws (q : Nat) : Nat → (List Int → Int) → Int
  | 0, f => f []
  | n + 1, f => se q (fun a => ws q n (fun w => f (a :: w)))
def Wd (q n : Nat) (w : List Int) : Prop := w.length = n ∧ ∀ x ∈ w, El q x
theorem wd_nil (q : Nat) : Wd q 0 [] := ⟨rfl, by simp⟩
theorem wd_cons {q n : Nat} {a : Int} {w : List Int} (ha : El q a) (hw : Wd q n w) : Wd q (n + 1) (a :: w) :=
  ⟨by simp [hw.1], by intro x hx; exact (List.mem_cons.mp hx).elim (fun e => e ▸ ha) (fun e => hw.2 x e)⟩
theorem wd_head {q n : Nat} {a : Int} {w : List Int} (h : Wd q (n + 1) (a :: w)) : El q a ∧ Wd q n w :=
  ⟨h.2 a (by simp), by have := h.1; simp at this; exact this, fun x hx => h.2 x (by simp [hx])⟩
theorem wd_zero {q : Nat} {w : List Int} (h : Wd q 0 w) : w = [] := List.length_eq_zero_iff.mp h.1
theorem ws_congr {q : Nat} : ∀ {n : Nat} {f g : List Int → Int}, (∀ w, Wd q n w → f w = g w) → ws q n f = ws q n g
  | 0, f, g, h => h [] (wd_nil q)
  | n + 1, f, g, h => se_congr fun a ha => ws_congr fun w hw => h (a :: w) (wd_cons ha hw)
theorem ws_zero {q : Nat} : ∀ {n : Nat} {f : List Int → Int}, (∀ w, Wd q n w → f w = 0) → ws q n f = 0
  | 0, f, h => h [] (wd_nil q)
  | n + 1, f, h => se_zero fun a ha => ws_zero fun w hw => h (a :: w) (wd_cons ha hw)
theorem ws_add {q : Nat} : ∀ (n : Nat) (f g : List Int → Int), ws q n (fun w => f w + g w) = ws q n f + ws q n g
  | 0, f, g => rfl
  | n + 1, f, g => by simp only [ws]; rw [se_congr (fun a _ => ws_add n _ _), se_add]
theorem ws_mul {q : Nat} : ∀ (n : Nat) (c : Int) (f : List Int → Int), ws q n (fun w => c * f w) = c * ws q n f
  | 0, c, f => rfl
  | n + 1, c, f => by simp only [ws]; rw [se_congr (fun a _ => ws_mul n c _), se_mul]
theorem ws_mul_right {q : Nat} (n : Nat) (c : Int) (f : List Int → Int) : ws q n (fun w => f w * c) = ws q n f * c := by
  rw [Int.mul_comm, ← ws_mul]; exact ws_congr fun w _ => Int.mul_comm _ _
theorem ws_se {q : Nat} : ∀ (n : Nat) (f : Int → List Int → Int), ws q n (fun w => se q (fun a => f a w)) = se q (fun a => ws q n (fun w => f a w))
  | 0, f => rfl
  | n + 1, f => by
    simp only [ws]
    rw [se_congr (fun a _ => ws_se n (fun b w => f b (a :: w))), se_swap]
theorem ws_sm {q : Nat} (m : Nat) : ∀ (n : Nat) (f : Nat → List Int → Int), ws q n (fun w => sm m (fun i => f i w)) = sm m (fun i => ws q n (fun w => f i w))
  | 0, f => rfl
  | n + 1, f => by
    simp only [ws]
    rw [se_congr (fun a _ => ws_sm m n (fun i w => f i (a :: w)))]
    unfold se
    rw [sm_swap]
theorem ws_single {q : Nat} : ∀ {n : Nat} {v : List Int} {f : List Int → Int}, Wd q n v → (∀ w, Wd q n w → w ≠ v → f w = 0) → ws q n f = f v
  | 0, v, f, hv, _ => by rw [wd_zero hv]; rfl
  | n + 1, [], f, hv, _ => by have := hv.1; simp at this
  | n + 1, b :: v, f, hv, h => by
    simp only [ws]
    have hb := wd_head hv
    rw [se_single hb.1 (fun a ha hne => ws_zero fun w hw => h _ (wd_cons ha hw) (fun e => hne (by injection e))),
      ws_single hb.2 (fun w hw hne => h _ (wd_cons hb.1 hw) (fun e => hne (by injection e)))]
section field
variable {q : Nat} {add mul : Int → Int → Int}
theorem Fld.el0 (F : Fld q add mul) : El q 0 := ⟨by omega, by have := F.two; omega⟩
theorem Fld.el1 (F : Fld q add mul) : El q 1 := ⟨by omega, by have := F.two; omega⟩
theorem Fld.zero_add (F : Fld q add mul) (x : Int) (hx : El q x) : add 0 x = x := by
  rw [F.add_comm 0 x F.el0 hx, F.add_zero x hx]
theorem Fld.cancel (F : Fld q add mul) (x y z : Int) (hx : El q x) (hy : El q y) (hz : El q z) (h : add x y = add x z) : y = z := by
  obtain ⟨n, hn, e⟩ := F.neg x hx
  have : add n (add x y) = add n (add x z) := by rw [h]
  rw [← F.add_assoc n x y hn hx hy, ← F.add_assoc n x z hn hx hz, F.add_comm n x hn hx, e, F.zero_add y hy, F.zero_add z hz] at this
  exact this
theorem Fld.mul_zero (F : Fld q add mul) (x : Int) (hx : El q x) : mul x 0 = 0 := by
  have h := F.distrib x 0 0 hx F.el0 F.el0
  rw [F.add_zero 0 F.el0] at h
  have hm := F.mul_el x 0 hx F.el0
  exact F.cancel (mul x 0) (mul x 0) 0 hm hm F.el0 (by rw [← h, F.add_zero _ hm])
theorem Fld.zero_mul (F : Fld q add mul) (x : Int) (hx : El q x) : mul 0 x = 0 := by
  rw [F.mul_comm 0 x F.el0 hx, F.mul_zero x hx]
theorem Fld.one_mul (F : Fld q add mul) (x : Int) (hx : El q x) : mul 1 x = x := by
  rw [F.mul_comm 1 x F.el1 hx, F.mul_one x hx]
theorem Fld.rdistrib (F : Fld q add mul) (x y z : Int) (hx : El q x) (hy : El q y) (hz : El q z) : mul (add y z) x = add (mul y x) (mul z x) := by
  rw [F.mul_comm _ x (F.add_el _ _ hy hz) hx, F.distrib x y z hx hy hz, F.mul_comm x y hx hy, F.mul_comm x z hx hz]
theorem Fld.inv (F : Fld q add mul) (x : Int) (hx : El q x) (h : x ≠ 0) : ∃ y, El q y ∧ mul x y = 1 := by
  have inj : ∀ a b, El q a → El q b → mul x a = mul x b → a = b := by
    intro a b ha hb e
    obtain ⟨n, hn, en⟩ := F.neg b hb
    have h0 : mul x (add a n) = 0 := by
      rw [F.distrib x a n hx ha hn, e, ← F.distrib x b n hx hb hn, en, F.mul_zero x hx]
    rcases F.nzd x (add a n) hx (F.add_el a n ha hn) h0 with g | g
    · exact absurd g h
    · have : add n a = add n b := by rw [F.add_comm n a hn ha, g, F.add_comm n b hn hb, en]
      exact F.cancel n a b hn ha hb this
  have := se_perm (q := q) (σ := mul x) (fun a ha => F.mul_el x a hx ha) inj (fun y => ind (y = 1))
  rw [se_single (f := fun y => ind (y = 1)) F.el1 (fun i _ hne => ind_false hne), ind_true rfl] at this
  refine Classical.byContradiction fun hno => ?_
  rw [se_zero (fun a ha => ind_false (fun e => hno ⟨a, ha, e⟩))] at this
  omega
def wadd (add : Int → Int → Int) (u v : List Int) : List Int := List.zipWith add u v
def wscl (mul : Int → Int → Int) (a : Int) (u : List Int) : List Int := u.map (mul a)
def dot (add mul : Int → Int → Int) : List Int → List Int → Int
  | a :: u, b :: v => add (mul a b) (dot add mul u v)
  | _, _ => 0
theorem wd_wadd (F : Fld q add mul) : ∀ {n : Nat} {u v : List Int}, Wd q n u → Wd q n v → Wd q n (wadd add u v)
  | 0, u, v, hu, hv => by rw [wd_zero hu]; exact wd_nil q
  | n + 1, [], _, hu, _ => by have := hu.1; simp at this
  | n + 1, _ :: _, [], _, hv => by have := hv.1; simp at this
  | n + 1, a :: u, b :: v, hu, hv => by
    have h1 := wd_head hu
    have h2 := wd_head hv
    exact wd_cons (F.add_el a b h1.1 h2.1) (wd_wadd F h1.2 h2.2)
theorem wd_wscl (F : Fld q add mul) {n : Nat} {a : Int} {u : List Int} (ha : El q a) (hu : Wd q n u) : Wd q n (wscl mul a u) :=
  ⟨by unfold wscl; rw [List.length_map]; exact hu.1, by
    intro x hx
    unfold wscl at hx
    obtain ⟨y, hy, rfl⟩ := List.mem_map.mp hx
    exact F.mul_el a y ha (hu.2 y hy)⟩
theorem wd_rep {n : Nat} (h : El q 0) : Wd q n (List.replicate n 0) :=
  ⟨by simp, fun x hx => by rw [(List.mem_replicate.mp hx).2]; exact h⟩
theorem dot_el (F : Fld q add mul) : ∀ {n : Nat} {u v : List Int}, Wd q n u → Wd q n v → El q (dot add mul u v)
  | 0, u, v, hu, hv => by rw [wd_zero hu]; exact F.el0
  | n + 1, [], _, hu, _ => by have := hu.1; simp at this
  | n + 1, _ :: _, [], _, hv => by have := hv.1; simp at this
  | n + 1, a :: u, b :: v, hu, hv => by
    have h1 := wd_head hu
    have h2 := wd_head hv
    exact F.add_el _ _ (F.mul_el a b h1.1 h2.1) (dot_el F h1.2 h2.2)
theorem dot_add (F : Fld q add mul) : ∀ {n : Nat} {u v y : List Int}, Wd q n u → Wd q n v → Wd q n y → dot add mul (wadd add u v) y = add (dot add mul u y) (dot add mul v y)
  | 0, u, v, y, hu, hv, hy => by rw [wd_zero hu, wd_zero hv, wd_zero hy]; exact (F.add_zero 0 F.el0).symm
  | n + 1, [], _, _, hu, _, _ => by have := hu.1; simp at this
  | n + 1, _ :: _, [], _, _, hv, _ => by have := hv.1; simp at this
  | n + 1, _ :: _, _ :: _, [], _, _, hy => by have := hy.1; simp at this
  | n + 1, a :: u, b :: v, c :: y, hu, hv, hy => by
    have h1 := wd_head hu
    have h2 := wd_head hv
    have h3 := wd_head hy
    have ih := dot_add F h1.2 h2.2 h3.2
    show add (mul (add a b) c) (dot add mul (wadd add u v) y) = add (add (mul a c) (dot add mul u y)) (add (mul b c) (dot add mul v y))
    rw [ih, F.rdistrib c a b h3.1 h1.1 h2.1]
    have e1 := F.mul_el a c h1.1 h3.1
    have e2 := F.mul_el b c h2.1 h3.1
    have e3 := dot_el F h1.2 h3.2
    have e4 := dot_el F h2.2 h3.2
    rw [F.add_assoc _ _ _ e1 e2 (F.add_el _ _ e3 e4), F.add_assoc _ _ _ e1 e3 (F.add_el _ _ e2 e4), ← F.add_assoc _ _ _ e2 e3 e4, F.add_comm _ _ e2 e3, F.add_assoc _ _ _ e3 e2 e4]
theorem dot_scl (F : Fld q add mul) : ∀ {n : Nat} {a : Int} {u y : List Int}, El q a → Wd q n u → Wd q n y → dot add mul (wscl mul a u) y = mul a (dot add mul u y)
  | 0, a, u, y, ha, hu, hy => by rw [wd_zero hu, wd_zero hy]; exact (F.mul_zero a ha).symm
  | n + 1, _, [], _, _, hu, _ => by have := hu.1; simp at this
  | n + 1, _, _ :: _, [], _, _, hy => by have := hy.1; simp at this
  | n + 1, a, b :: u, c :: y, ha, hu, hy => by
    have h1 := wd_head hu
    have h3 := wd_head hy
    have ih := dot_scl F ha h1.2 h3.2
    show add (mul (mul a b) c) (dot add mul (wscl mul a u) y) = mul a (add (mul b c) (dot add mul u y))
    rw [ih, F.distrib _ _ _ ha (F.mul_el _ _ h1.1 h3.1) (dot_el F h1.2 h3.2), F.mul_assoc a b c ha h1.1 h3.1]
theorem dot_comm (F : Fld q add mul) : ∀ {n : Nat} {u v : List Int}, Wd q n u → Wd q n v → dot add mul u v = dot add mul v u
  | 0, u, v, hu, hv => by rw [wd_zero hu, wd_zero hv]
  | n + 1, [], _, hu, _ => by have := hu.1; simp at this
  | n + 1, _ :: _, [], _, hv => by have := hv.1; simp at this
  | n + 1, a :: u, b :: v, hu, hv => by
    have h1 := wd_head hu
    have h2 := wd_head hv
    show add (mul a b) (dot add mul u v) = add (mul b a) (dot add mul v u)
    rw [F.mul_comm a b h1.1 h2.1, dot_comm F h1.2 h2.2]
theorem dot_rep (F : Fld q add mul) : ∀ {n : Nat} {y : List Int}, Wd q n y → dot add mul (List.replicate n 0) y = 0
  | 0, y, hy => by rw [wd_zero hy]; rfl
  | n + 1, [], hy => by have := hy.1; simp at this
  | n + 1, c :: y, hy => by
    have h := wd_head hy
    show add (mul 0 c) (dot add mul (List.replicate n 0) y) = 0
    rw [dot_rep F h.2, F.zero_mul c h.1, F.add_zero 0 F.el0]
theorem wadd_rep (F : Fld q add mul) : ∀ {n : Nat} {u : List Int}, Wd q n u → wadd add u (List.replicate n 0) = u
  | 0, u, hu => by rw [wd_zero hu]; rfl
  | n + 1, [], hu => by have := hu.1; simp at this
  | n + 1, a :: u, hu => by
    have h := wd_head hu
    show add a 0 :: wadd add u (List.replicate n 0) = a :: u
    rw [F.add_zero a h.1, wadd_rep F h.2]
theorem wadd_comm (F : Fld q add mul) : ∀ {n : Nat} {u v : List Int}, Wd q n u → Wd q n v → wadd add u v = wadd add v u
  | 0, u, v, hu, hv => by rw [wd_zero hu, wd_zero hv]
  | n + 1, [], _, hu, _ => by have := hu.1; simp at this
  | n + 1, _ :: _, [], _, hv => by have := hv.1; simp at this
  | n + 1, a :: u, b :: v, hu, hv => by
    have h1 := wd_head hu
    have h2 := wd_head hv
    show add a b :: wadd add u v = add b a :: wadd add v u
    rw [F.add_comm a b h1.1 h2.1, wadd_comm F h1.2 h2.2]
theorem wadd_assoc (F : Fld q add mul) : ∀ {n : Nat} {u v y : List Int}, Wd q n u → Wd q n v → Wd q n y → wadd add (wadd add u v) y = wadd add u (wadd add v y)
  | 0, u, v, y, hu, hv, hy => by rw [wd_zero hu, wd_zero hv, wd_zero hy]; rfl
  | n + 1, [], _, _, hu, _, _ => by have := hu.1; simp at this
  | n + 1, _ :: _, [], _, _, hv, _ => by have := hv.1; simp at this
  | n + 1, _ :: _, _ :: _, [], _, _, hy => by have := hy.1; simp at this
  | n + 1, a :: u, b :: v, c :: y, hu, hv, hy => by
    have h1 := wd_head hu
    have h2 := wd_head hv
    have h3 := wd_head hy
    show add (add a b) c :: wadd add (wadd add u v) y = add a (add b c) :: wadd add u (wadd add v y)
    rw [F.add_assoc a b c h1.1 h2.1 h3.1, wadd_assoc F h1.2 h2.2 h3.2]
theorem wscl_zero (F : Fld q add mul) : ∀ {n : Nat} {u : List Int}, Wd q n u → wscl mul 0 u = List.replicate n 0
  | 0, u, hu => by rw [wd_zero hu]; rfl
  | n + 1, [], hu => by have := hu.1; simp at this
  | n + 1, a :: u, hu => by
    have h := wd_head hu
    show mul 0 a :: wscl mul 0 u = 0 :: List.replicate n 0
    rw [F.zero_mul a h.1, wscl_zero F h.2]
theorem wscl_one (F : Fld q add mul) : ∀ {n : Nat} {u : List Int}, Wd q n u → wscl mul 1 u = u
  | 0, u, hu => by rw [wd_zero hu]; rfl
  | n + 1, [], hu => by have := hu.1; simp at this
  | n + 1, a :: u, hu => by
    have h := wd_head hu
    show mul 1 a :: wscl mul 1 u = a :: u
    rw [F.one_mul a h.1, wscl_one F h.2]
theorem wscl_rep (F : Fld q add mul) {a : Int} (ha : El q a) (n : Nat) : wscl mul a (List.replicate n 0) = List.replicate n 0 := by
  unfold wscl; rw [List.map_replicate, F.mul_zero a ha]
theorem wscl_wscl (F : Fld q add mul) {a b : Int} (ha : El q a) (hb : El q b) : ∀ {n : Nat} {u : List Int}, Wd q n u → wscl mul a (wscl mul b u) = wscl mul (mul a b) u
  | 0, u, hu => by rw [wd_zero hu]; rfl
  | n + 1, [], hu => by have := hu.1; simp at this
  | n + 1, c :: u, hu => by
    have h := wd_head hu
    show mul a (mul b c) :: wscl mul a (wscl mul b u) = mul (mul a b) c :: wscl mul (mul a b) u
    rw [F.mul_assoc a b c ha hb h.1, wscl_wscl F ha hb h.2]
theorem wscl_wadd (F : Fld q add mul) {a : Int} (ha : El q a) : ∀ {n : Nat} {u v : List Int}, Wd q n u → Wd q n v → wscl mul a (wadd add u v) = wadd add (wscl mul a u) (wscl mul a v)
  | 0, u, v, hu, hv => by rw [wd_zero hu, wd_zero hv]; rfl
  | n + 1, [], _, hu, _ => by have := hu.1; simp at this
  | n + 1, _ :: _, [], _, hv => by have := hv.1; simp at this
  | n + 1, b :: u, c :: v, hu, hv => by
    have h1 := wd_head hu
    have h2 := wd_head hv
    show mul a (add b c) :: wscl mul a (wadd add u v) = add (mul a b) (mul a c) :: wadd add (wscl mul a u) (wscl mul a v)
    rw [F.distrib a b c ha h1.1 h2.1, wscl_wadd F ha h1.2 h2.2]
theorem wscl_add (F : Fld q add mul) {a b : Int} (ha : El q a) (hb : El q b) : ∀ {n : Nat} {u : List Int}, Wd q n u → wscl mul (add a b) u = wadd add (wscl mul a u) (wscl mul b u)
  | 0, u, hu => by rw [wd_zero hu]; rfl
  | n + 1, [], hu => by have := hu.1; simp at this
  | n + 1, c :: u, hu => by
    have h1 := wd_head hu
    show mul (add a b) c :: wscl mul (add a b) u = add (mul a c) (mul b c) :: wadd add (wscl mul a u) (wscl mul b u)
    rw [F.rdistrib c a b h1.1 ha hb, wscl_add F ha hb h1.2]
theorem wneg (F : Fld q add mul) : ∃ m, El q m ∧ add 1 m = 0 ∧ ∀ {n : Nat} {u : List Int}, Wd q n u → wadd add u (wscl mul m u) = List.replicate n 0 := by
  obtain ⟨m, hm, e⟩ := F.neg 1 F.el1
  refine ⟨m, hm, e, fun {n u} hu => ?_⟩
  have := wscl_add F F.el1 hm hu
  rw [e, wscl_one F hu, wscl_zero F hu] at this
  exact this.symm
theorem ws_shift (F : Fld q add mul) : ∀ {n : Nat} {t : List Int}, Wd q n t → ∀ f, ws q n (fun w => f (wadd add t w)) = ws q n f
  | 0, t, ht, f => by rw [wd_zero ht]; rfl
  | n + 1, [], ht, _ => by have := ht.1; simp at this
  | n + 1, b :: t, ht, f => by
    have h := wd_head ht
    show se q (fun a => ws q n (fun w => f (add b a :: wadd add t w))) = se q (fun a => ws q n (fun w => f (a :: w)))
    rw [se_congr (fun a _ => ws_shift F h.2 (fun w => f (add b a :: w)))]
    exact se_perm (σ := add b) (fun a ha => F.add_el b a h.1 ha) (fun a c ha hc e => F.cancel b a c h.1 ha hc e) (fun a => ws q n (fun w => f (a :: w)))
structure Lin (q : Nat) (add mul : Int → Int → Int) (n : Nat) (C : List Int → Prop) : Prop where
  zero : C (List.replicate n 0)
  add : ∀ u v, Wd q n u → Wd q n v → C u → C v → C (wadd add u v)
  scl : ∀ a u, El q a → Wd q n u → C u → C (wscl mul a u)
def Dl (q : Nat) (add mul : Int → Int → Int) (n : Nat) (C : List Int → Prop) (d : List Int) : Prop := ∀ c, Wd q n c → C c → dot add mul c d = 0
def Van : List Bool → List Int → Prop
  | s :: S, a :: w => (s = true → a = 0) ∧ Van S w
  | _, _ => True
def cnt : List Bool → Nat
  | [] => 0
  | true :: S => cnt S + 1
  | false :: S => cnt S
theorem cnt_not : ∀ S : List Bool, cnt (S.map not) + cnt S = S.length
  | [] => rfl
  | true :: S => by have := cnt_not S; simp only [List.map_cons, Bool.not_true, cnt, List.length_cons]; omega
  | false :: S => by have := cnt_not S; simp only [List.map_cons, Bool.not_false, cnt, List.length_cons]; omega
theorem not_not_list : ∀ S : List Bool, (S.map not).map not = S
  | [] => rfl
  | s :: S => by have := not_not_list S; simp only [List.map_cons, Bool.not_not, this]
theorem ind_cons_true (C : List Int → Prop) (S : List Bool) (a : Int) (w : List Int) : ind (C (a :: w) ∧ Van (true :: S) (a :: w)) = ind (a = 0) * ind (C (a :: w) ∧ Van S w) := by
  rw [← ind_and]; refine ind_congr ⟨fun h => ⟨h.2.1 rfl, h.1, h.2.2⟩, fun h => ⟨h.2.1, fun _ => h.1, h.2.2⟩⟩
theorem ind_cons_false (C : List Int → Prop) (S : List Bool) (a : Int) (w : List Int) : ind (C (a :: w) ∧ Van (false :: S) (a :: w)) = ind (C (a :: w) ∧ Van S w) :=
  ind_congr ⟨fun h => ⟨h.1, h.2.2⟩, fun h => ⟨h.1, fun e => by simp at e, h.2⟩⟩
theorem ws_at0 (h0 : El q 0) (n : Nat) (C : List Int → Prop) (S : List Bool) :
    ws q (n + 1) (fun c => ind (C c ∧ Van (true :: S) c)) = ws q n (fun w => ind (C (0 :: w) ∧ Van S w)) := by
  simp only [ws]
  rw [se_congr (fun a _ => ws_congr (fun w _ => ind_cons_true C S a w))]
  rw [se_congr (fun a _ => ws_mul n (ind (a = 0)) _)]
  rw [se_single h0 (fun i _ hne => by rw [ind_false hne]; simp)]
  rw [ind_true rfl]; simp
theorem ws_any (n : Nat) (C : List Int → Prop) (S : List Bool) :
    ws q (n + 1) (fun c => ind (C c ∧ Van (false :: S) c)) = ws q n (fun w => ind (Van S w) * se q (fun a => ind (C (a :: w)))) := by
  simp only [ws]
  rw [se_congr (fun a _ => ws_congr (fun w _ => ind_cons_false C S a w))]
  rw [← ws_se]
  refine ws_congr fun w _ => ?_
  rw [← se_mul]
  refine se_congr fun a _ => ?_
  rw [← ind_and]
  exact ind_congr ⟨fun h => ⟨h.2, h.1⟩, fun h => ⟨h.2, h.1⟩⟩
theorem ws_all (n : Nat) (C : List Int → Prop) : ws q (n + 1) (fun c => ind (C c)) = ws q n (fun w => se q (fun a => ind (C (a :: w)))) := by
  simp only [ws]; rw [ws_se]
theorem ind_van_mul (C : List Int → Prop) (S : List Bool) (w : List Int) : ind (Van S w) * ind (C w) = ind (C w ∧ Van S w) := by
  rw [← ind_and]; exact ind_congr ⟨fun h => ⟨h.2, h.1⟩, fun h => ⟨h.2, h.1⟩⟩
theorem key (F : Fld q add mul) : ∀ (n : Nat) (C : List Int → Prop), Lin q add mul n C → ∀ S : List Bool, S.length = n →
    ws q n (fun c => ind (C c ∧ Van S c)) * (q : Int) ^ cnt S = ws q n (fun c => ind (C c)) * ws q n (fun d => ind (Dl q add mul n C d ∧ Van (S.map not) d)) := by
  intro n
  induction n with
  | zero =>
    intro C hC S hS
    have hS : S = [] := List.length_eq_zero_iff.mp hS
    subst hS
    have h0 : C [] := hC.zero
    show ind (C [] ∧ True) * (q : Int) ^ 0 = ind (C []) * ind (Dl q add mul 0 C [] ∧ True)
    rw [ind_true ⟨h0, trivial⟩, ind_true h0, ind_true ⟨fun c hc _ => by rw [wd_zero hc]; rfl, trivial⟩]
    rfl
  | succ n ih =>
    intro C hC S hS
    obtain ⟨s, S, rfl⟩ : ∃ s S', S = s :: S' := by
      cases S with
      | nil => simp at hS
      | cons s S => exact ⟨s, S, rfl⟩
    have hS' : S.length = n := by simp at hS; exact hS
    have two := F.two
    cases s with
    | true =>
      have hC0 : Lin q add mul n (fun w => C (0 :: w)) := ⟨hC.zero,
        fun u v hu hv h1 h2 => by
          have := hC.add (0 :: u) (0 :: v) (wd_cons F.el0 hu) (wd_cons F.el0 hv) h1 h2
          rw [show wadd add (0 :: u) (0 :: v) = add 0 0 :: wadd add u v from rfl, F.add_zero 0 F.el0] at this
          exact this,
        fun a u ha hu h1 => by
          have := hC.scl a (0 :: u) ha (wd_cons F.el0 hu) h1
          rw [show wscl mul a (0 :: u) = mul a 0 :: wscl mul a u from rfl, F.mul_zero a ha] at this
          exact this⟩
      have IH := ih _ hC0 S hS'
      rw [ws_at0 F.el0]
      show _ * (q : Int) ^ (cnt S + 1) = _ * ws q (n + 1) (fun d => ind (Dl q add mul (n + 1) C d ∧ Van (false :: S.map not) d))
      rw [ws_any, ws_all]
      by_cases hA : ∀ a w, El q a → Wd q n w → C (a :: w) → a = 0
      ·
        have e1 : ws q n (fun w => se q (fun a => ind (C (a :: w)))) = ws q n (fun w => ind (C (0 :: w))) := by
          refine ws_congr fun w hw => ?_
          exact se_single (f := fun a => ind (C (a :: w))) F.el0 (fun a ha hne => ind_false (fun h => hne (hA a w ha hw h)))
        have e2 : ws q n (fun w => ind (Van (S.map not) w) * se q (fun a => ind (Dl q add mul (n + 1) C (a :: w)))) =
            (q : Int) * ws q n (fun w => ind (Dl q add mul n (fun w => C (0 :: w)) w ∧ Van (S.map not) w)) := by
          rw [← ws_mul]
          refine ws_congr fun y hy => ?_
          have : ∀ b, El q b → ind (Dl q add mul (n + 1) C (b :: y)) = ind (Dl q add mul n (fun w => C (0 :: w)) y) := by
            intro b hb
            refine ind_congr ⟨fun h c hc h1 => ?_, fun h c hc h1 => ?_⟩
            · have := h (0 :: c) (wd_cons F.el0 hc) h1
              rw [show dot add mul (0 :: c) (b :: y) = add (mul 0 b) (dot add mul c y) from rfl, F.zero_mul b hb, F.zero_add _ (dot_el F hc hy)] at this
              exact this
            · cases c with
              | nil => have := hc.1; simp at this
              | cons a c =>
                have hh := wd_head hc
                have := hA a c hh.1 hh.2 h1
                subst this
                rw [show dot add mul (0 :: c) (b :: y) = add (mul 0 b) (dot add mul c y) from rfl, F.zero_mul b hb, F.zero_add _ (dot_el F hh.2 hy)]
                exact h c hh.2 h1
          rw [se_congr this, se_const, ← ind_van_mul]
          grind
        rw [e1, e2, Int.pow_succ, ← Int.mul_assoc, IH]
        grind
      ·
        have hB : ∃ w1, Wd q n w1 ∧ C (1 :: w1) := by
          refine Classical.byContradiction fun hno => hA fun a w ha hw h => Classical.byContradiction fun hne => hno ?_
          obtain ⟨i, hi, e⟩ := F.inv a ha hne
          refine ⟨wscl mul i w, wd_wscl F hi hw, ?_⟩
          have := hC.scl i (a :: w) hi (wd_cons ha hw) h
          rw [show wscl mul i (a :: w) = mul i a :: wscl mul i w from rfl, F.mul_comm i a hi ha, e] at this
          exact this
        obtain ⟨w1, hw1, h1⟩ := hB
        obtain ⟨m, hm, em, hneg⟩ := wneg F
        have move : ∀ a w, El q a → Wd q n w → (C (a :: wadd add (wscl mul a w1) w) ↔ C (0 :: w)) := by
          intro a w ha hw
          have hs : C (a :: wscl mul a w1) := by
            have := hC.scl a (1 :: w1) ha (wd_cons F.el1 hw1) h1
            rw [show wscl mul a (1 :: w1) = mul a 1 :: wscl mul a w1 from rfl, F.mul_one a ha] at this
            exact this
          have hsw := wd_wscl F ha hw1
          constructor
          · intro h
            have hn := hC.scl m _ hm (wd_cons ha hsw) hs
            have hadd := hC.add _ _ (wd_wscl F hm (wd_cons ha hsw)) (wd_cons ha (wd_wadd F hsw hw)) hn h
            have e : wadd add (wscl mul m (a :: wscl mul a w1)) (a :: wadd add (wscl mul a w1) w) = 0 :: w := by
              rw [show (a :: wadd add (wscl mul a w1) w) = wadd add (a :: wscl mul a w1) (0 :: w) from by
                show _ = add a 0 :: _; rw [F.add_zero a ha]; rfl]
              rw [← wadd_assoc F (wd_wscl F hm (wd_cons ha hsw)) (wd_cons ha hsw) (wd_cons F.el0 hw), wadd_comm F (wd_wscl F hm (wd_cons ha hsw)) (wd_cons ha hsw), hneg (wd_cons ha hsw),
                wadd_comm F (wd_rep F.el0) (wd_cons F.el0 hw), wadd_rep F (wd_cons F.el0 hw)]
            rw [e] at hadd
            exact hadd
          · intro h
            have hadd := hC.add _ _ (wd_cons ha hsw) (wd_cons F.el0 hw) hs h
            rw [show wadd add (a :: wscl mul a w1) (0 :: w) = add a 0 :: wadd add (wscl mul a w1) w from rfl, F.add_zero a ha] at hadd
            exact hadd
        have e1 : ws q n (fun w => se q (fun a => ind (C (a :: w)))) = (q : Int) * ws q n (fun w => ind (C (0 :: w))) := by
          rw [ws_se, ← se_const]
          refine se_congr fun a ha => ?_
          rw [← ws_shift F (wd_wscl F ha hw1) (fun w => ind (C (a :: w)))]
          exact ws_congr fun w hw => ind_congr (move a w ha hw)
        have e2 : ws q n (fun w => ind (Van (S.map not) w) * se q (fun a => ind (Dl q add mul (n + 1) C (a :: w)))) =
            ws q n (fun w => ind (Dl q add mul n (fun w => C (0 :: w)) w ∧ Van (S.map not) w)) := by
          refine ws_congr fun y hy => ?_
          have hd := dot_el F hw1 hy
          obtain ⟨b0, hb0, eb0⟩ := F.neg _ hd
          have : ∀ b, El q b → ind (Dl q add mul (n + 1) C (b :: y)) = ind (b = b0) * ind (Dl q add mul n (fun w => C (0 :: w)) y) := by
            intro b hb
            rw [← ind_and]
            refine ind_congr ⟨fun h => ⟨?_, fun c hc hcc => ?_⟩, fun h c hc hcc => ?_⟩
            · have := h (1 :: w1) (wd_cons F.el1 hw1) h1
              rw [show dot add mul (1 :: w1) (b :: y) = add (mul 1 b) (dot add mul w1 y) from rfl, F.one_mul b hb, F.add_comm _ _ hb hd] at this
              exact F.cancel _ _ _ hd hb hb0 (by rw [this, eb0])
            · have := h (0 :: c) (wd_cons F.el0 hc) hcc
              rw [show dot add mul (0 :: c) (b :: y) = add (mul 0 b) (dot add mul c y) from rfl, F.zero_mul b hb, F.zero_add _ (dot_el F hc hy)] at this
              exact this
            · cases c with
              | nil => have := hc.1; simp at this
              | cons a c =>
                have hh := wd_head hc
                obtain ⟨rfl, hdual⟩ := h
                have hmw := wd_wscl F hm (wd_wscl F hh.1 hw1)
                have hc' : c = wadd add (wscl mul a w1) (wadd add (wscl mul m (wscl mul a w1)) c) := by
                  rw [← wadd_assoc F (wd_wscl F hh.1 hw1) hmw hh.2, hneg (wd_wscl F hh.1 hw1), wadd_comm F (wd_rep F.el0) hh.2, wadd_rep F hh.2]
                have hin : C (0 :: wadd add (wscl mul m (wscl mul a w1)) c) := by
                  rw [← move a _ hh.1 (wd_wadd F hmw hh.2), ← hc']; exact hcc
                have hz := hdual _ (wd_wadd F hmw hh.2) hin
                have hdc : dot add mul c y = mul a (dot add mul w1 y) := by
                  rw [hc', dot_add F (wd_wscl F hh.1 hw1) (wd_wadd F hmw hh.2) hy, hz, F.add_zero _ (dot_el F (wd_wscl F hh.1 hw1) hy), dot_scl F hh.1 hw1 hy]
                show add (mul a b) (dot add mul c y) = 0
                rw [hdc, ← F.distrib a b _ hh.1 hb hd, F.add_comm b _ hb hd, eb0, F.mul_zero a hh.1]
          rw [se_congr this, se_mul_right, se_single (f := fun b => ind (b = b0)) hb0 (fun i _ hne => ind_false hne), ind_true rfl, ← ind_van_mul]
          simp
        rw [e1, e2, Int.pow_succ, ← Int.mul_assoc, IH]
        grind
    | false =>
      have hC1 : Lin q add mul n (fun w => ∃ a, El q a ∧ C (a :: w)) := ⟨⟨0, F.el0, hC.zero⟩,
        fun u v hu hv ⟨a, ha, h1⟩ ⟨b, hb, h2⟩ => ⟨add a b, F.add_el a b ha hb, hC.add _ _ (wd_cons ha hu) (wd_cons hb hv) h1 h2⟩,
        fun a u ha hu ⟨b, hb, h1⟩ => ⟨mul a b, F.mul_el a b ha hb, hC.scl a _ ha (wd_cons hb hu) h1⟩⟩
      have IH := ih _ hC1 S hS'
      rw [ws_any]
      show _ * (q : Int) ^ (cnt S) = _ * ws q (n + 1) (fun d => ind (Dl q add mul (n + 1) C d ∧ Van (true :: S.map not) d))
      rw [ws_at0 F.el0, ws_all]
      have e3 : ws q n (fun y => ind (Dl q add mul (n + 1) C (0 :: y) ∧ Van (S.map not) y)) = ws q n (fun y => ind (Dl q add mul n (fun w => ∃ a, El q a ∧ C (a :: w)) y ∧ Van (S.map not) y)) := by
        refine ws_congr fun y hy => ?_
        have : Dl q add mul (n + 1) C (0 :: y) ↔ Dl q add mul n (fun w => ∃ a, El q a ∧ C (a :: w)) y := by
          constructor
          · intro h c hc ⟨a, ha, hcc⟩
            have := h (a :: c) (wd_cons ha hc) hcc
            rw [show dot add mul (a :: c) (0 :: y) = add (mul a 0) (dot add mul c y) from rfl, F.mul_zero a ha, F.zero_add _ (dot_el F hc hy)] at this
            exact this
          · intro h c hc hcc
            cases c with
            | nil => have := hc.1; simp at this
            | cons a c =>
              have hh := wd_head hc
              show add (mul a 0) (dot add mul c y) = 0
              rw [F.mul_zero a hh.1, F.zero_add _ (dot_el F hh.2 hy)]
              exact h c hh.2 ⟨a, hh.1, hcc⟩
        exact ind_congr ⟨fun h => ⟨this.mp h.1, h.2⟩, fun h => ⟨this.mpr h.1, h.2⟩⟩
      rw [e3]
      obtain ⟨m, hm, em, hneg⟩ := wneg F
      by_cases hA : C (1 :: List.replicate n 0)
      ·
        have free : ∀ a b w, El q a → El q b → Wd q n w → C (a :: w) → C (b :: w) := by
          intro a b w ha hb hw h
          obtain ⟨na, hna, ena⟩ := F.neg a ha
          have hs := hC.scl (add na b) _ (F.add_el na b hna hb) (wd_cons F.el1 (wd_rep F.el0)) hA
          rw [show wscl mul (add na b) (1 :: List.replicate n 0) = mul (add na b) 1 :: wscl mul (add na b) (List.replicate n 0) from rfl, F.mul_one _ (F.add_el na b hna hb), wscl_rep F (F.add_el na b hna hb)] at hs
          have := hC.add _ _ (wd_cons ha hw) (wd_cons (F.add_el na b hna hb) (wd_rep F.el0)) h hs
          rw [show wadd add (a :: w) (add na b :: List.replicate n 0) = add a (add na b) :: wadd add w (List.replicate n 0) from rfl, ← F.add_assoc a na b ha hna hb, ena, F.zero_add b hb, wadd_rep F hw] at this
          exact this
        have e1 : ∀ w, Wd q n w → se q (fun a => ind (C (a :: w))) = (q : Int) * ind (∃ a, El q a ∧ C (a :: w)) := by
          intro w hw
          rw [← se_const]
          exact se_congr fun a ha => ind_congr ⟨fun h => ⟨a, ha, h⟩, fun ⟨b, hb, h⟩ => free b a w hb ha hw h⟩
        rw [ws_congr (fun w hw => by rw [e1 w hw]), ws_congr (f := fun w => se q (fun a => ind (C (a :: w)))) (fun w hw => e1 w hw), ws_mul]
        have e2 : ws q n (fun w => ind (Van S w) * ((q : Int) * ind (∃ a, El q a ∧ C (a :: w)))) = (q : Int) * ws q n (fun c => ind ((∃ a, El q a ∧ C (a :: c)) ∧ Van S c)) := by
          rw [← ws_mul]
          refine ws_congr fun w _ => ?_
          rw [← ind_van_mul (fun w => ∃ a, El q a ∧ C (a :: w))]; grind
        rw [e2, Int.mul_assoc, IH]
        grind
      ·
        have e1 : ∀ w, Wd q n w → se q (fun a => ind (C (a :: w))) = ind (∃ a, El q a ∧ C (a :: w)) := by
          intro w hw
          by_cases h : ∃ a, El q a ∧ C (a :: w)
          · obtain ⟨a, ha, hc⟩ := h
            rw [ind_true ⟨a, ha, hc⟩]
            rw [se_single (f := fun a => ind (C (a :: w))) ha, ind_true hc]
            intro b hb hne
            refine ind_false fun hcb => hA ?_
            have hn := hC.scl m _ hm (wd_cons ha hw) hc
            have hd := hC.add _ _ (wd_cons hb hw) (wd_wscl F hm (wd_cons ha hw)) hcb hn
            rw [show wadd add (b :: w) (wscl mul m (a :: w)) = add b (mul m a) :: wadd add w (wscl mul m w) from rfl, hneg hw] at hd
            have hma := F.mul_el m a hm ha
            have hne2 : add b (mul m a) ≠ 0 := by
              intro e
              have ea : add (mul m a) a = 0 := by
                have := F.rdistrib a m 1 ha hm F.el1
                rw [F.one_mul a ha, F.add_comm m 1 hm F.el1, em, F.zero_mul a ha] at this
                exact this.symm
              exact hne (F.cancel (mul m a) b a hma hb ha (by rw [F.add_comm _ b hma hb, e, ea]))
            have hel := F.add_el b _ hb hma
            obtain ⟨i, hi, ei⟩ := F.inv _ hel hne2
            have := hC.scl i _ hi (wd_cons hel (wd_rep F.el0)) hd
            rw [show wscl mul i (add b (mul m a) :: List.replicate n 0) = mul i (add b (mul m a)) :: wscl mul i (List.replicate n 0) from rfl, F.mul_comm i _ hi hel, ei, wscl_rep F hi] at this
            exact this
          · rw [ind_false h]
            exact se_zero fun a ha => ind_false fun hc => h ⟨a, ha, hc⟩
        rw [ws_congr (fun w hw => by rw [e1 w hw, ind_van_mul (fun w => ∃ a, El q a ∧ C (a :: w))]), ws_congr (f := fun w => se q (fun a => ind (C (a :: w)))) (fun w hw => e1 w hw)]
        exact IH
end field
end Mw
end
section
set_option linter.unusedVariables false
namespace Mw
def Dg (n : Nat) (f : Int → Int) : Prop := ∃ c : Nat → Int, ∀ z, f z = sm n (fun i => c i * z ^ i)
def Pol (f : Int → Int) : Prop := ∃ n, Dg n f
theorem dg_zero' (n : Nat) : Dg n (fun _ => 0) := ⟨fun _ => 0, fun z => (sm_zero (fun i _ => by simp)).symm⟩
theorem dg_mono {n k : Nat} {f : Int → Int} (h : Dg n f) (hk : n ≤ k) : Dg k f := by
  obtain ⟨c, hc⟩ := h
  refine ⟨fun i => if i < n then c i else 0, fun z => ?_⟩
  try dsimp only
  rw [hc z, sm_more (m := n) (n := k) hk (fun i hi => by rw [if_neg (by omega)]; simp)]
  exact sm_congr (fun i hi => by rw [if_pos hi])
theorem dg_add {n : Nat} {f g : Int → Int} (h : Dg n f) (k : Dg n g) : Dg n (fun z => f z + g z) := by
  obtain ⟨c, hc⟩ := h
  obtain ⟨d, hd⟩ := k
  refine ⟨fun i => c i + d i, fun z => ?_⟩
  try dsimp only
  rw [hc z, hd z, ← sm_add]
  exact sm_congr (fun i _ => by rw [Int.add_mul])
theorem dg_smul {n : Nat} {f : Int → Int} (a : Int) (h : Dg n f) : Dg n (fun z => a * f z) := by
  obtain ⟨c, hc⟩ := h
  refine ⟨fun i => a * c i, fun z => ?_⟩
  try dsimp only
  rw [hc z, ← sm_mul]
  exact sm_congr (fun i _ => by rw [Int.mul_assoc])
theorem dg_congr {n : Nat} {f g : Int → Int} (h : Dg n f) (e : ∀ z, g z = f z) : Dg n g := by
  obtain ⟨c, hc⟩ := h
  exact ⟨c, fun z => by rw [e z, hc z]⟩
theorem dg_sub {n : Nat} {f g : Int → Int} (h : Dg n f) (k : Dg n g) : Dg n (fun z => f z - g z) :=
  dg_congr (dg_add h (dg_smul (-1) k)) (fun z => by grind)
theorem dg_pow (k : Nat) : Dg (k + 1) (fun z => z ^ k) := by
  refine ⟨fun i => if i = k then 1 else 0, fun z => ?_⟩
  try dsimp only
  rw [sm_single (a := k) (by omega) (fun i _ hne => by rw [if_neg hne]; simp), if_pos rfl, Int.one_mul]
theorem dg_shift {n : Nat} {f : Int → Int} (k : Nat) (h : Dg n f) : Dg (n + k) (fun z => z ^ k * f z) := by
  induction k with
  | zero => exact dg_congr h (fun z => by simp)
  | succ k ih =>
    obtain ⟨c, hc⟩ := ih
    refine ⟨fun i => if i = 0 then 0 else c (i - 1), fun z => ?_⟩
    try dsimp only
    rw [show n + (k + 1) = (n + k) + 1 by omega, sm_head]
    have : z ^ (k + 1) * f z = z * (z ^ k * f z) := by rw [Int.pow_succ]; grind
    have hz : z ^ k * f z = sm (n + k) (fun i => c i * z ^ i) := hc z
    rw [this, hz, ← sm_mul]
    rw [if_pos rfl]
    have : sm (n + k) (fun i => z * (c i * z ^ i)) = sm (n + k) (fun i => (if i + 1 = 0 then 0 else c (i + 1 - 1)) * z ^ (i + 1)) := by
      refine sm_congr fun i _ => ?_
      rw [if_neg (by omega), Nat.add_sub_cancel, Int.pow_succ]
      grind
    rw [this]
    simp
theorem dg_sm {N : Nat} : ∀ (n : Nat) (h : Nat → Int → Int), (∀ i, i < n → Dg N (h i)) → Dg N (fun z => sm n (fun i => h i z)) := by
  intro n h
  induction n with
  | zero => intro _; exact dg_zero' N
  | succ n ih => intro hh; exact dg_add (ih (fun i hi => hh i (by omega))) (hh n (by omega))
theorem dg_mul {n k : Nat} {f g : Int → Int} (h : Dg n f) (hg : Dg k g) : Dg (n + k) (fun z => f z * g z) := by
  obtain ⟨c, hc⟩ := h
  refine dg_congr (dg_sm (N := n + k) n (fun i z => c i * (z ^ i * g z)) (fun i hi => dg_smul (c i) (dg_mono (dg_shift i hg) (by omega)))) (fun z => ?_)
  try dsimp only
  rw [hc z, ← sm_mul_right]
  exact sm_congr (fun i _ => by rw [Int.mul_assoc])
theorem dg_const (a : Int) : Dg 1 (fun _ => a) := ⟨fun _ => a, fun z => by simp [sm]⟩
theorem dg_sum {n : Nat} (c : Nat → Int) : Dg n (fun z => sm n (fun i => c i * z ^ i)) := ⟨c, fun _ => rfl⟩
theorem pol_zero : Pol (fun _ => 0) := ⟨0, dg_zero' 0⟩
theorem pol_const (a : Int) : Pol (fun _ => a) := ⟨1, dg_const a⟩
theorem pol_add {f g : Int → Int} (h : Pol f) (k : Pol g) : Pol (fun z => f z + g z) := by
  obtain ⟨n, hn⟩ := h
  obtain ⟨m, hm⟩ := k
  exact ⟨n + m, dg_add (dg_mono hn (by omega)) (dg_mono hm (by omega))⟩
theorem pol_mul {f g : Int → Int} (h : Pol f) (k : Pol g) : Pol (fun z => f z * g z) := by
  obtain ⟨n, hn⟩ := h
  obtain ⟨m, hm⟩ := k
  exact ⟨n + m, dg_mul hn hm⟩
theorem pol_smul {f : Int → Int} (a : Int) (h : Pol f) : Pol (fun z => a * f z) := by
  obtain ⟨n, hn⟩ := h
  exact ⟨n, dg_smul a hn⟩
theorem pol_pow (k : Nat) : Pol (fun z => z ^ k) := ⟨_, dg_pow k⟩
theorem pol_congr {f g : Int → Int} (h : Pol f) (e : ∀ z, g z = f z) : Pol g := by
  obtain ⟨n, hn⟩ := h
  exact ⟨n, dg_congr hn e⟩
def Cg (p : Int) (F f g : Int → Int) : Prop := ∃ A B, Pol A ∧ Pol B ∧ ∀ z, f z = g z + p * A z + F z * B z
section
variable {p : Int} {F f g h f' g' : Int → Int}
theorem cg_of (e : ∀ z, f z = g z) : Cg p F f g := ⟨_, _, pol_zero, pol_zero, fun z => by rw [e z]; simp⟩
theorem cg_symm (k : Cg p F f g) : Cg p F g f := by
  obtain ⟨A, B, hA, hB, e⟩ := k
  exact ⟨_, _, pol_smul (-1) hA, pol_smul (-1) hB, fun z => by rw [e z]; grind⟩
theorem cg_trans (k : Cg p F f g) (l : Cg p F g h) : Cg p F f h := by
  obtain ⟨A, B, hA, hB, e⟩ := k
  obtain ⟨A', B', hA', hB', e'⟩ := l
  exact ⟨_, _, pol_add hA hA', pol_add hB hB', fun z => by rw [e z, e' z]; grind⟩
theorem cg_add (k : Cg p F f g) (l : Cg p F f' g') : Cg p F (fun z => f z + f' z) (fun z => g z + g' z) := by
  obtain ⟨A, B, hA, hB, e⟩ := k
  obtain ⟨A', B', hA', hB', e'⟩ := l
  exact ⟨_, _, pol_add hA hA', pol_add hB hB', fun z => by show f z + f' z = (g z + g' z) + p * (A z + A' z) + F z * (B z + B' z); rw [e z, e' z]; grind⟩
theorem cg_mul (pf : Pol f') (pg : Pol g) (k : Cg p F f g) (l : Cg p F f' g') : Cg p F (fun z => f z * f' z) (fun z => g z * g' z) := by
  obtain ⟨A, B, hA, hB, e⟩ := k
  obtain ⟨A', B', hA', hB', e'⟩ := l
  refine ⟨_, _, pol_add (pol_mul hA pf) (pol_mul pg hA'), pol_add (pol_mul hB pf) (pol_mul pg hB'), fun z => ?_⟩
  show f z * f' z = g z * g' z + p * (A z * f' z + g z * A' z) + F z * (B z * f' z + g z * B' z)
  have e1 := e z
  have e2 := e' z
  have : f z * f' z = g z * g' z + (f z - g z) * f' z + g z * (f' z - g' z) := by grind
  rw [this, show f z - g z = p * A z + F z * B z by omega, show f' z - g' z = p * A' z + F z * B' z by omega]
  grind
theorem cg_p {A : Int → Int} (hA : Pol A) (e : ∀ z, f z = g z + p * A z) : Cg p F f g := ⟨_, _, hA, pol_zero, fun z => by rw [e z]; simp⟩
theorem cg_F {B : Int → Int} (hB : Pol B) (e : ∀ z, f z = g z + F z * B z) : Cg p F f g := ⟨_, _, pol_zero, hB, fun z => by rw [e z]; simp⟩
end
def Mon (m : Nat) (F : Int → Int) : Prop := ∃ G, Dg m G ∧ ∀ z, F z = z ^ m + G z
theorem coef_top {j : Nat} {b p : Int} {A E : Int → Int} (hA : Pol A) (hE : Dg j E) (h : ∀ z, b * z ^ j + p * A z = E z) : ∃ a, b = p * a := by
  obtain ⟨n, hn⟩ := hA
  obtain ⟨a, ha⟩ := dg_mono hn (show n ≤ n + j + 1 by omega)
  obtain ⟨c, hc⟩ := hE
  refine ⟨-a j, ?_⟩
  have key := poly_eq (n := n + j + 1) (c := fun i => (if i = j then b else 0) + p * a i) (d := fun i => if i < j then c i else 0) (fun z => ?_) j (by omega)
  · simp only [if_true, Nat.lt_irrefl, if_false] at key
    rw [Int.mul_neg]; omega
  · have e1 : sm (n + j + 1) (fun i => ((if i = j then b else 0) + p * a i) * z ^ i) = sm (n + j + 1) (fun i => (if i = j then b else 0) * z ^ i) + sm (n + j + 1) (fun i => p * (a i * z ^ i)) := by
      rw [← sm_add]
      exact sm_congr (fun i _ => by grind)
    rw [e1, sm_mul, ← ha z, sm_single (a := j) (by omega) (fun i _ hne => by rw [if_neg hne]; simp), if_pos rfl, h z, hc z]
    rw [sm_more (m := j) (n := n + j + 1) (by omega) (fun i hi => by rw [if_neg (by omega)]; simp)]
    exact sm_congr (fun i hi => by rw [if_pos hi])
theorem uniq {m : Nat} {p : Int} {F D : Int → Int} (hF : Mon m F) (hD : Dg m D) (h : Cg p F D (fun _ => 0)) : ∃ a : Nat → Int, ∀ z, D z = p * sm m (fun i => a i * z ^ i) := by
  obtain ⟨A, B, hA, ⟨k, hB⟩, e⟩ := h
  obtain ⟨G, hG, eF⟩ := hF
  have go : ∀ (k : Nat) (A B : Int → Int), Pol A → Dg k B → (∀ z, D z = p * A z + F z * B z) → ∃ a : Nat → Int, ∀ z, D z = p * sm m (fun i => a i * z ^ i) := by
    intro k
    induction k with
    | zero =>
      intro A B hA hB e
      obtain ⟨b, hb⟩ := hB
      obtain ⟨n, hn⟩ := hA
      obtain ⟨a, ha⟩ := dg_mono hn (show n ≤ n + m by omega)
      obtain ⟨d, hd⟩ := hD
      have key := poly_eq (n := n + m) (c := fun i => if i < m then d i else 0) (d := fun i => p * a i) (fun z => ?_)
      · refine ⟨a, fun z => ?_⟩
        rw [hd z, ← sm_mul]
        refine sm_congr fun i hi => ?_
        have := key i (by omega)
        simp only [if_pos hi] at this
        rw [this, Int.mul_assoc]
      · rw [sm_more (m := m) (n := n + m) (by omega) (fun i hi => by rw [if_neg (by omega)]; simp)]
        have e1 : sm m (fun i => (if i < m then d i else 0) * z ^ i) = D z := by
          rw [hd z]; exact sm_congr (fun i hi => by rw [if_pos hi])
        rw [e1, e z, hb z, ha z, ← sm_mul]
        simp only [sm, Int.mul_zero, Int.add_zero]
        exact sm_congr (fun i _ => by rw [Int.mul_assoc])
    | succ k ih =>
      intro A B hA hB e
      obtain ⟨b, hb⟩ := hB
      have hB' : Dg k (fun z => sm k (fun i => b i * z ^ i)) := dg_sum b
      have hE : Dg (m + k) (fun z => D z - (z ^ m * sm k (fun i => b i * z ^ i)) - G z * sm k (fun i => b i * z ^ i) - b k * (z ^ k * G z)) :=
        dg_sub (dg_sub (dg_sub (dg_mono hD (by omega)) (dg_mono (dg_shift m hB') (by omega))) (dg_mul hG hB')) (dg_smul (b k) (dg_shift k hG))
      obtain ⟨a, ha⟩ := coef_top (j := m + k) (b := b k) (p := p) hA hE (fun z => by
        rw [e z, eF z, hb z]
        simp only [sm, Int.pow_add]
        grind)
      refine ih (fun z => A z + a * (z ^ k * F z)) (fun z => sm k (fun i => b i * z ^ i)) (pol_add hA (pol_smul a (pol_mul (pol_pow k) (pol_congr (pol_add (pol_pow m) ⟨_, hG⟩) eF)))) hB' (fun z => ?_)
      try dsimp only
      rw [e z, hb z]
      simp only [sm]
      rw [ha]
      grind
  exact go k A B hA hB (fun z => by rw [e z]; simp)
theorem divide {d : Nat} {G : Int → Int} (hG : Dg d G) : ∀ (k : Nat) (f : Int → Int), Dg (d + k) f → ∃ h r, Dg k h ∧ Dg d r ∧ ∀ z, f z = (z ^ d + G z) * h z + r z := by
  intro k
  induction k with
  | zero => intro f hf; exact ⟨_, _, dg_zero' 0, hf, fun z => by simp⟩
  | succ k ih =>
    intro f hf
    obtain ⟨c, hc⟩ := hf
    have hf' : Dg (d + k) (fun z => sm (d + k) (fun i => c i * z ^ i) - c (d + k) * (z ^ k * G z)) := dg_sub (dg_sum c) (dg_smul _ (dg_shift k hG))
    obtain ⟨h, r, hh, hr, e⟩ := ih _ hf'
    refine ⟨fun z => h z + c (d + k) * z ^ k, r, dg_add (dg_mono hh (by omega)) (dg_smul _ (dg_pow k)), hr, fun z => ?_⟩
    try dsimp only
    have e1 := e z
    rw [hc z, show d + (k + 1) = (d + k) + 1 by omega]
    simp only [sm, Int.pow_add]
    grind
section
variable {p : Int} {m : Nat} {F : Int → Int}
theorem monic_of (unit : ∀ c : Int, ¬ p ∣ c → ∃ u t, c * u = 1 + p * t) {b : Int → Int} (hb : Pol b) : ∀ (n : Nat) (f : Int → Int), Dg n f → Cg p F (fun z => f z * b z) (fun _ => 0) → (¬ ∃ A, Pol A ∧ ∀ z, f z = p * A z) →
    ∃ d G, d < n ∧ Dg d G ∧ Cg p F (fun z => (z ^ d + G z) * b z) (fun _ => 0) := by
  intro n
  induction n with
  | zero =>
    intro f hf _ hn
    obtain ⟨c, hc⟩ := hf
    exact absurd ⟨_, pol_zero, fun z => by rw [hc z]; simp [sm]⟩ hn
  | succ n ih =>
    intro f hf hz hn
    obtain ⟨c, hc⟩ := hf
    have hf' : Dg n (fun z => sm n (fun i => c i * z ^ i)) := dg_sum c
    by_cases hp : p ∣ c n
    · obtain ⟨t, ht⟩ := hp
      obtain ⟨d, G, hd, hG, h⟩ := ih _ hf' (by
        refine cg_trans (cg_symm ?_) hz
        refine cg_p (pol_smul t (pol_mul (pol_pow n) hb)) (fun z => ?_)
        try dsimp only
        rw [hc z]
        simp only [sm]
        rw [ht]
        grind) (fun ⟨A, hA, e⟩ => hn ⟨_, pol_add hA (pol_smul t (pol_pow n)), fun z => by
          rw [hc z]
          simp only [sm]
          rw [e z, ht]
          grind⟩)
      exact ⟨d, G, by omega, hG, h⟩
    · obtain ⟨u, t, hu⟩ := unit _ hp
      refine ⟨n, fun z => u * sm n (fun i => c i * z ^ i), by omega, dg_smul u hf', ?_⟩
      have h1 : Cg p F (fun z => u * (f z * b z)) (fun _ => 0) := by
        have := cg_mul (f := fun _ => u) (g := fun _ => u) (f' := fun z => f z * b z) (g' := fun _ => 0) (pol_mul ⟨_, dg_sum (n := n + 1) c⟩ hb |> fun h => pol_congr h (fun z => by rw [hc z])) (pol_const u) (cg_of (fun _ => rfl)) hz
        exact cg_trans this (cg_of (fun z => by simp))
      refine cg_trans (cg_symm ?_) h1
      refine cg_p (pol_smul t (pol_mul (pol_pow n) hb)) (fun z => ?_)
      try dsimp only
      rw [hc z]
      simp only [sm]
      have : u * ((sm n (fun i => c i * z ^ i) + c n * z ^ n) * b z) = (c n * u) * (z ^ n * b z) + u * (sm n (fun i => c i * z ^ i)) * b z := by grind
      rw [this, hu]
      grind
theorem nzd_poly (hF : Mon m F) (unit : ∀ c : Int, ¬ p ∣ c → ∃ u t, c * u = 1 + p * t)
    (irr : ∀ e l, 1 ≤ e → 2 * e ≤ m → Mon e l → ∀ h A, Pol h → Pol A → ¬ ∀ z, F z = l z * h z + p * A z)
    {a b : Int → Int} (ha : Dg m a) (hb : Dg m b) (h : Cg p F (fun z => a z * b z) (fun _ => 0)) :
    (∃ A, Pol A ∧ ∀ z, a z = p * A z) ∨ (∃ A, Pol A ∧ ∀ z, b z = p * A z) := by
  refine Classical.byContradiction fun hn => ?_
  have hna : ¬ ∃ A, Pol A ∧ ∀ z, a z = p * A z := fun e => hn (.inl e)
  have hnb : ¬ ∃ A, Pol A ∧ ∀ z, b z = p * A z := fun e => hn (.inr e)
  have none : ∀ d, d < m → ¬ ∃ G, Dg d G ∧ Cg p F (fun z => (z ^ d + G z) * b z) (fun _ => 0) := by
    intro d
    induction d using Nat.strongRecOn with
    | _ d ih =>
      intro hd ⟨G, hG, hz⟩
      by_cases h0 : d = 0
      · subst h0
        obtain ⟨c, hc⟩ := hG
        have h1 : Cg p F b (fun _ => 0) := cg_trans (cg_of (fun z => by rw [hc z]; simp [sm])) hz
        obtain ⟨x, hx⟩ := uniq hF hb h1
        exact hnb ⟨_, ⟨m, dg_sum x⟩, hx⟩
      · obtain ⟨GF, hGF, eF⟩ := hF
        have hrest : Dg (d + (m - d)) (fun z => GF z - z ^ (m - d) * G z) := by
          rw [show d + (m - d) = m by omega]
          exact dg_sub hGF (dg_mono (dg_shift (m - d) hG) (by omega))
        obtain ⟨hh, r, hhd, hr, e⟩ := divide hG (m - d) _ hrest
        have hdiv : ∀ z, F z = (z ^ d + G z) * (z ^ (m - d) + hh z) + r z := by
          intro z
          have e1 := e z
          have e2 : z ^ m = z ^ (m - d) * z ^ d := by rw [← Int.pow_add]; congr 1; omega
          rw [eF z, e2]
          grind
        have hFp : Pol F := pol_congr (pol_add (pol_pow m) ⟨_, hGF⟩) eF
        have hbp : Pol b := ⟨_, hb⟩
        have hhp : Pol (fun z => z ^ (m - d) + hh z) := pol_add (pol_pow _) ⟨_, hhd⟩
        have hrz : Cg p F (fun z => r z * b z) (fun _ => 0) := by
          have h1 := cg_mul (f := fun z => z ^ (m - d) + hh z) (g := fun z => z ^ (m - d) + hh z) (f' := fun z => (z ^ d + G z) * b z) (g' := fun _ => 0) (pol_mul (pol_add (pol_pow d) ⟨_, hG⟩) hbp) hhp (cg_of (fun _ => rfl)) hz
          have h2 : Cg p F (fun z => r z * b z) (fun z => -1 * ((z ^ (m - d) + hh z) * ((z ^ d + G z) * b z))) := cg_F hbp (fun z => by rw [hdiv z]; grind)
          have h3 := cg_mul (f := fun _ => -1) (g := fun _ => -1) (f' := fun z => (z ^ (m - d) + hh z) * ((z ^ d + G z) * b z)) (g' := fun z => (z ^ (m - d) + hh z) * 0) (pol_mul hhp (pol_mul (pol_add (pol_pow d) ⟨_, hG⟩) hbp)) (pol_const (-1)) (cg_of (fun _ => rfl)) h1
          exact cg_trans h2 (cg_trans h3 (cg_of (fun z => by simp)))
        by_cases hr0 : ∃ A, Pol A ∧ ∀ z, r z = p * A z
        · obtain ⟨A, hA, eA⟩ := hr0
          by_cases h2 : 2 * d ≤ m
          · refine irr d (fun z => z ^ d + G z) (by omega) h2 ⟨G, hG, fun _ => rfl⟩ _ A hhp hA (fun z => ?_)
            rw [hdiv z, eA z]
          · refine irr (m - d) (fun z => z ^ (m - d) + hh z) (by omega) (by omega) ⟨hh, hhd, fun _ => rfl⟩ (fun z => z ^ d + G z) A (pol_add (pol_pow d) ⟨_, hG⟩) hA (fun z => ?_)
            rw [hdiv z, eA z]
            grind
        · obtain ⟨d', G', hd', hG', hz'⟩ := monic_of (F := F) unit hbp d r hr hrz hr0
          exact ih d' hd' (by omega) ⟨G', hG', hz'⟩
  obtain ⟨d, G, hd, hG, hz⟩ := monic_of (F := F) unit ⟨_, hb⟩ m a ha h hna
  exact none d hd ⟨G, hG, hz⟩
end
end Mw
end
