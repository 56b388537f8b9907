/- The statement MacwilliamsDesigns, proved for every input, and what it rests on. No condition. -/
import Derived.Test.YtifkbghnmhineaaQDesigns0

namespace Go.Proofs.Ytifkbghnmhineaa.PAll
open Go.RowKit Go.Proofs.YtifkbghnmhineaaW.PrintWords Go.Proofs.YtifkbghnmhineaaW.PrintLast Go.Proofs.YtifkbghnmhineaaW.PrintMore
attribute [local go_sem] max2_int min2_int max_two min_two max_three min_three max_four min_four
set_option linter.unusedVariables false
set_option linter.unusedSimpArgs false
set_option maxHeartbeats 8000000 in
set_option maxRecDepth 100000 in
theorem nat_Cmp.calls (k : Nat) (A0 : Option Addr) (c0 : Nat) (l0 : List Int) (A1 : Option Addr) (c1 : Nat) (l1 : List Int) (r : Int) (w : World) (hr0 : Kd.C (Kd.int .u32) w A0 l0.length l0) (hc0 : l0.length ≤ c0) (hr1 : Kd.C (Kd.int .u32) w A1 l1.length l1) (hc1 : l1.length ≤ c1) (h : nat_Cmp.f k l0 l1 = some r) :
    Calls Try.prog 79 #[.slice A0 l0.length c0, .slice A1 l1.length c1] w fun e w' => e = .returned (.int .i64 r) ∧ Below w.heap.size w w' := by
 have HR0 := zk hr0
 have HC0 := zk hc0
 clear hr0 hc0
 have HR1 := zk hr1
 have HC1 := zk hc1
 clear hr1 hc1
 have HB := zk (Below.refl w.heap.size w)
 have H := h
 clear h
 unfold nat_Cmp.f at H
 replace H := zb H
 obtain ⟨ta1, A3, H⟩ := H
 replace H := zb H
 obtain ⟨ta4, A4, H⟩ := H
 replace H := zi H
 rcases H with ⟨c5, H⟩ | ⟨c5, H⟩
 · have c5b0 := beq_iff_eq.mpr c5
   have c5b1 := bne_eq_false_iff_eq.mpr c5
   have c5b2 : (ta1.length == ta4.length) = true := by first | simpa using c5 | (simp at c5 ⊢; omega)
   clear c5
   have H' := zk H
   clear H
   go_enter Try.func79, Try.ntmps79
   go_wp2_with (first | (go_at_call 118; (with_reducible refine (nat_short.calls k (fun k_ => k_ < w.heap.size) _ _ l0 ta1 _ ?side1 A3.out).mono ?_); (case side1 => exact Kd.V_mk HC0.out (Kd.F_below (Kd.C_F (Kd.heap_int .u32) HR0.out) (zB HB.out))); rintro e w6 ⟨va2, rfl, ho0, hb⟩; have HOa3 := yVm ho0 HB; replace HB := yS HB hb; (try clear hb ho0)) | (go_at_call 118; (with_reducible refine (nat_short.calls k (fun k_ => k_ < w.heap.size) _ _ l1 ta4 _ ?side1 A4.out).mono ?_); (case side1 => exact Kd.V_mk HC1.out (Kd.F_below (Kd.C_F (Kd.heap_int .u32) HR1.out) (zB HB.out))); rintro e w7 ⟨va5, rfl, ho0, hb⟩; replace HOa3 := yVb HOa3 hb; have HOa6 := yVm ho0 HB; replace HB := yS HB hb; (try clear hb ho0); obtain ⟨Ao8, co8, rfl⟩ := Kd.V_slice HOa3.out; obtain ⟨Ao9, co9, rfl⟩ := Kd.V_slice HOa6.out))
   repeat (go_quiet (first | (go_at_call 118; (with_reducible refine (nat_short.calls k (fun k_ => k_ < w.heap.size) _ _ l0 ta1 _ ?side1 A3.out).mono ?_); (case side1 => exact Kd.V_mk HC0.out (Kd.F_below (Kd.C_F (Kd.heap_int .u32) HR0.out) (zB HB.out))); rintro e w6 ⟨va2, rfl, ho0, hb⟩; have HOa3 := yVm ho0 HB; replace HB := yS HB hb; (try clear hb ho0)) | (go_at_call 118; (with_reducible refine (nat_short.calls k (fun k_ => k_ < w.heap.size) _ _ l1 ta4 _ ?side1 A4.out).mono ?_); (case side1 => exact Kd.V_mk HC1.out (Kd.F_below (Kd.C_F (Kd.heap_int .u32) HR1.out) (zB HB.out))); rintro e w7 ⟨va5, rfl, ho0, hb⟩; replace HOa3 := yVb HOa3 hb; have HOa6 := yVm ho0 HB; replace HB := yS HB hb; (try clear hb ho0); obtain ⟨Ao8, co8, rfl⟩ := Kd.V_slice HOa3.out; obtain ⟨Ao9, co9, rfl⟩ := Kd.V_slice HOa6.out)); try go_wp2_with (first | (go_at_call 118; (with_reducible refine (nat_short.calls k (fun k_ => k_ < w.heap.size) _ _ l0 ta1 _ ?side1 A3.out).mono ?_); (case side1 => exact Kd.V_mk HC0.out (Kd.F_below (Kd.C_F (Kd.heap_int .u32) HR0.out) (zB HB.out))); rintro e w6 ⟨va2, rfl, ho0, hb⟩; have n0_ := yVm ho0 HB; have n1_ := yS HB hb; clear HB; have HOa3 := n0_; have HB := n1_; clear n0_ n1_; (try clear hb); (try clear hb2); (try clear hk); (try clear hi); (try clear ho0)) | (go_at_call 118; (with_reducible refine (nat_short.calls k (fun k_ => k_ < w.heap.size) _ _ l1 ta4 _ ?side1 A4.out).mono ?_); (case side1 => exact Kd.V_mk HC1.out (Kd.F_below (Kd.C_F (Kd.heap_int .u32) HR1.out) (zB HB.out))); rintro e w7 ⟨va5, rfl, ho0, hb⟩; have n0_ := yVb HOa3 hb; have n1_ := yVm ho0 HB; have n2_ := yS HB hb; clear HOa3; clear HB; have HOa3 := n0_; have HOa6 := n1_; have HB := n2_; clear n0_ n1_ n2_; (try clear hb); (try clear hb2); (try clear hk); (try clear hi); (try clear ho0); obtain ⟨Ao8, co8, eo8⟩ := Kd.V_slice HOa3.out; subst eo8; obtain ⟨Ao9, co9, eo9⟩ := Kd.V_slice HOa6.out; subst eo9)))
   go_loopg [5] k (fun kq v5 w' => ∃ (x5_1 : Int), v5 = .int .i64 x5_1 ∧ Aside0 (nat_Cmp.l0 kq ta1 ta4 x5_1 = some r) ∧ Aside0 (kq ≤ k) ∧ Aside0 (Kd.V (Kd.int .u32) 97 w' w.heap.size (fun _ => True) (.slice Ao8 ta1.length co8) ta1) ∧ Aside0 (Kd.V (Kd.int .u32) 97 w' w.heap.size (fun _ => True) (.slice Ao9 ta4.length co9) ta4) ∧ Aside0 (Below w.heap.size w w'))
   case atStart => exact ⟨(wrap64 ((ta1.length : Int) - 1)), zF, H', ⟨Nat.le_refl _⟩, ⟨zV HOa3.out⟩, ⟨zV HOa6.out⟩, ⟨zB HB.out⟩⟩
   clear H'
   (try clear c5);(try clear c5b0);(try clear c5b1);(try clear c5b2)
   obtain ⟨x5_1, rfl, HA, HK1, HO_0, HO_1, HB⟩ := hrel
   cases gk with | zero => exact absurd HA.out (by simp [nat_Cmp.l0]) | succ k1 => ?_
   have H := HA.out
   clear HA
   simp only [nat_Cmp.l0] at H
   replace H := zi H
   rcases H with ⟨c10, H⟩ | ⟨c10, H⟩
   · have c10b0 : decide (0 ≤ x5_1) = true := decide_eq_true c10
     clear c10
     replace H := zgd H
     obtain ⟨c11b0, H⟩ := H
     replace H := zgd H
     obtain ⟨c12b0, H⟩ := H
     replace H := zgd H
     obtain ⟨c13b0, H⟩ := H
     replace H := zid H
     rcases H with ⟨c14b0, H⟩ | ⟨c14b0, H⟩
     · obtain rfl := Option.some.inj H
       have pa7 : 0 ≤ (x5_1 : Int) := zd
       have qa7 : x5_1 < (ta1.length : Int) := zd
       obtain ⟨ada7, ea7, hxa7_0⟩ := Kd.at_int (Kd.V_reads' HO_0.out).2.2 x5_1 pa7 qa7
       cases ea7
       replace pa7 := eq_true pa7
       replace qa7 := eq_true qa7
       have pa8 : 0 ≤ (x5_1 : Int) := zd
       have qa8 : x5_1 < (ta4.length : Int) := zd
       obtain ⟨ada8, ea8, hxa8_0⟩ := Kd.at_int (Kd.V_reads' HO_1.out).2.2 x5_1 pa8 qa8
       cases ea8
       replace pa8 := eq_true pa8
       replace qa8 := eq_true qa8
       go_wp2
       repeat (go_quiet (fail); try go_wp2)
       go_ret
       exact ⟨zE, zB HB.out⟩
     replace H := zi H
     rcases H with ⟨c15, H⟩ | ⟨c15, H⟩
     · have c15b0 : decide ((rd ta4 x5_1) < (rd ta1 x5_1)) = true := decide_eq_true c15
       clear c15
       obtain rfl := Option.some.inj H
       have pa7 : 0 ≤ (x5_1 : Int) := zd
       have qa7 : x5_1 < (ta1.length : Int) := zd
       obtain ⟨ada7, ea7, hxa7_0⟩ := Kd.at_int (Kd.V_reads' HO_0.out).2.2 x5_1 pa7 qa7
       cases ea7
       replace pa7 := eq_true pa7
       replace qa7 := eq_true qa7
       have pa8 : 0 ≤ (x5_1 : Int) := zd
       have qa8 : x5_1 < (ta4.length : Int) := zd
       obtain ⟨ada8, ea8, hxa8_0⟩ := Kd.at_int (Kd.V_reads' HO_1.out).2.2 x5_1 pa8 qa8
       cases ea8
       replace pa8 := eq_true pa8
       replace qa8 := eq_true qa8
       have pa9 : 0 ≤ (x5_1 : Int) := zd
       have qa9 : x5_1 < (ta1.length : Int) := zd
       obtain ⟨ada9, ea9, hxa9_0⟩ := Kd.at_int (Kd.V_reads' HO_0.out).2.2 x5_1 pa9 qa9
       obtain rfl : ada7 = ada9 := (by injection ea9)
       replace pa9 := eq_true pa9
       replace qa9 := eq_true qa9
       have pb0 : 0 ≤ (x5_1 : Int) := zd
       have qb0 : x5_1 < (ta4.length : Int) := zd
       obtain ⟨adb0, eb0, hxb0_0⟩ := Kd.at_int (Kd.V_reads' HO_1.out).2.2 x5_1 pb0 qb0
       obtain rfl : ada8 = adb0 := (by injection eb0)
       replace pb0 := eq_true pb0
       replace qb0 := eq_true qb0
       go_wp2
       repeat (go_quiet (fail); try go_wp2)
       go_ret
       exact ⟨zE, zB HB.out⟩
     have c15b0 : decide ((rd ta4 x5_1) < (rd ta1 x5_1)) = false := decide_eq_false c15
     clear c15
     have H' := zk H
     clear H
     have pa7 : 0 ≤ (x5_1 : Int) := zd
     have qa7 : x5_1 < (ta1.length : Int) := zd
     obtain ⟨ada7, ea7, hxa7_0⟩ := Kd.at_int (Kd.V_reads' HO_0.out).2.2 x5_1 pa7 qa7
     cases ea7
     replace pa7 := eq_true pa7
     replace qa7 := eq_true qa7
     have pa8 : 0 ≤ (x5_1 : Int) := zd
     have qa8 : x5_1 < (ta4.length : Int) := zd
     obtain ⟨ada8, ea8, hxa8_0⟩ := Kd.at_int (Kd.V_reads' HO_1.out).2.2 x5_1 pa8 qa8
     cases ea8
     replace pa8 := eq_true pa8
     replace qa8 := eq_true qa8
     have pa9 : 0 ≤ (x5_1 : Int) := zd
     have qa9 : x5_1 < (ta1.length : Int) := zd
     obtain ⟨ada9, ea9, hxa9_0⟩ := Kd.at_int (Kd.V_reads' HO_0.out).2.2 x5_1 pa9 qa9
     obtain rfl : ada7 = ada9 := (by injection ea9)
     replace pa9 := eq_true pa9
     replace qa9 := eq_true qa9
     have pb0 : 0 ≤ (x5_1 : Int) := zd
     have qb0 : x5_1 < (ta4.length : Int) := zd
     obtain ⟨adb0, eb0, hxb0_0⟩ := Kd.at_int (Kd.V_reads' HO_1.out).2.2 x5_1 pb0 qb0
     obtain rfl : ada8 = adb0 := (by injection eb0)
     replace pb0 := eq_true pb0
     replace qb0 := eq_true qb0
     go_wp2
     repeat (go_quiet (fail); try go_wp2)
     go_roundg k1
     case measure => have := HK1.out; omega
     case rel => exact ⟨(wrap64 (x5_1 - 1)), zF, H', ⟨zo1 HK1⟩, ⟨zV HO_0.out⟩, ⟨zV HO_1.out⟩, ⟨zB HB.out⟩⟩
   have c10b0 : decide (0 ≤ x5_1) = false := decide_eq_false c10
   clear c10
   obtain rfl := Option.some.inj H
   go_wp2
   repeat (go_quiet (fail); try go_wp2)
   go_ret
   exact ⟨zE, zB HB.out⟩
 have c5b0 := beq_eq_false_iff_ne.mpr c5
 have c5b1 := bne_iff_ne.mpr c5
 have c5b2 : (ta1.length == ta4.length) = false := by first | simpa using c5 | (simp at c5 ⊢; omega)
 replace H := zi H
 rcases H with ⟨c16, H⟩ | ⟨c16, H⟩
 · have c16b0 := decide_eq_true c16
   have c16b1 : decide (ta1.length < ta4.length) = true := decide_eq_true (Int.ofNat_lt.mp c16)
   clear c16
   obtain rfl := Option.some.inj H
   go_enter Try.func79, Try.ntmps79
   go_wp2_with (first | (go_at_call 118; (with_reducible refine (nat_short.calls k (fun k_ => k_ < w.heap.size) _ _ l0 ta1 _ ?side1 A3.out).mono ?_); (case side1 => exact Kd.V_mk HC0.out (Kd.F_below (Kd.C_F (Kd.heap_int .u32) HR0.out) (zB HB.out))); rintro e w17 ⟨va2, rfl, ho0, hb⟩; have HOa3 := yVm ho0 HB; replace HB := yS HB hb; (try clear hb ho0)) | (go_at_call 118; (with_reducible refine (nat_short.calls k (fun k_ => k_ < w.heap.size) _ _ l1 ta4 _ ?side1 A4.out).mono ?_); (case side1 => exact Kd.V_mk HC1.out (Kd.F_below (Kd.C_F (Kd.heap_int .u32) HR1.out) (zB HB.out))); rintro e w18 ⟨va5, rfl, ho0, hb⟩; replace HOa3 := yVb HOa3 hb; have HOa6 := yVm ho0 HB; replace HB := yS HB hb; (try clear hb ho0); obtain ⟨Ao19, co19, rfl⟩ := Kd.V_slice HOa3.out; obtain ⟨Ao20, co20, rfl⟩ := Kd.V_slice HOa6.out))
   repeat (go_quiet (first | (go_at_call 118; (with_reducible refine (nat_short.calls k (fun k_ => k_ < w.heap.size) _ _ l0 ta1 _ ?side1 A3.out).mono ?_); (case side1 => exact Kd.V_mk HC0.out (Kd.F_below (Kd.C_F (Kd.heap_int .u32) HR0.out) (zB HB.out))); rintro e w17 ⟨va2, rfl, ho0, hb⟩; have HOa3 := yVm ho0 HB; replace HB := yS HB hb; (try clear hb ho0)) | (go_at_call 118; (with_reducible refine (nat_short.calls k (fun k_ => k_ < w.heap.size) _ _ l1 ta4 _ ?side1 A4.out).mono ?_); (case side1 => exact Kd.V_mk HC1.out (Kd.F_below (Kd.C_F (Kd.heap_int .u32) HR1.out) (zB HB.out))); rintro e w18 ⟨va5, rfl, ho0, hb⟩; replace HOa3 := yVb HOa3 hb; have HOa6 := yVm ho0 HB; replace HB := yS HB hb; (try clear hb ho0); obtain ⟨Ao19, co19, rfl⟩ := Kd.V_slice HOa3.out; obtain ⟨Ao20, co20, rfl⟩ := Kd.V_slice HOa6.out)); try go_wp2_with (first | (go_at_call 118; (with_reducible refine (nat_short.calls k (fun k_ => k_ < w.heap.size) _ _ l0 ta1 _ ?side1 A3.out).mono ?_); (case side1 => exact Kd.V_mk HC0.out (Kd.F_below (Kd.C_F (Kd.heap_int .u32) HR0.out) (zB HB.out))); rintro e w17 ⟨va2, rfl, ho0, hb⟩; have n0_ := yVm ho0 HB; have n1_ := yS HB hb; clear HB; have HOa3 := n0_; have HB := n1_; clear n0_ n1_; (try clear hb); (try clear hb2); (try clear hk); (try clear hi); (try clear ho0)) | (go_at_call 118; (with_reducible refine (nat_short.calls k (fun k_ => k_ < w.heap.size) _ _ l1 ta4 _ ?side1 A4.out).mono ?_); (case side1 => exact Kd.V_mk HC1.out (Kd.F_below (Kd.C_F (Kd.heap_int .u32) HR1.out) (zB HB.out))); rintro e w18 ⟨va5, rfl, ho0, hb⟩; have n0_ := yVb HOa3 hb; have n1_ := yVm ho0 HB; have n2_ := yS HB hb; clear HOa3; clear HB; have HOa3 := n0_; have HOa6 := n1_; have HB := n2_; clear n0_ n1_ n2_; (try clear hb); (try clear hb2); (try clear hk); (try clear hi); (try clear ho0); obtain ⟨Ao19, co19, eo19⟩ := Kd.V_slice HOa3.out; subst eo19; obtain ⟨Ao20, co20, eo20⟩ := Kd.V_slice HOa6.out; subst eo20)))
   go_ret
   exact ⟨zE, zB HB.out⟩
 have c16b0 := decide_eq_false c16
 have c16b1 : decide (ta1.length < ta4.length) = false := decide_eq_false (fun h => c16 (Int.ofNat_lt.mpr h))
 clear c16
 obtain rfl := Option.some.inj H
 go_enter Try.func79, Try.ntmps79
 go_wp2_with (first | (go_at_call 118; (with_reducible refine (nat_short.calls k (fun k_ => k_ < w.heap.size) _ _ l0 ta1 _ ?side1 A3.out).mono ?_); (case side1 => exact Kd.V_mk HC0.out (Kd.F_below (Kd.C_F (Kd.heap_int .u32) HR0.out) (zB HB.out))); rintro e w21 ⟨va2, rfl, ho0, hb⟩; have HOa3 := yVm ho0 HB; replace HB := yS HB hb; (try clear hb ho0)) | (go_at_call 118; (with_reducible refine (nat_short.calls k (fun k_ => k_ < w.heap.size) _ _ l1 ta4 _ ?side1 A4.out).mono ?_); (case side1 => exact Kd.V_mk HC1.out (Kd.F_below (Kd.C_F (Kd.heap_int .u32) HR1.out) (zB HB.out))); rintro e w22 ⟨va5, rfl, ho0, hb⟩; replace HOa3 := yVb HOa3 hb; have HOa6 := yVm ho0 HB; replace HB := yS HB hb; (try clear hb ho0); obtain ⟨Ao23, co23, rfl⟩ := Kd.V_slice HOa3.out; obtain ⟨Ao24, co24, rfl⟩ := Kd.V_slice HOa6.out))
 repeat (go_quiet (first | (go_at_call 118; (with_reducible refine (nat_short.calls k (fun k_ => k_ < w.heap.size) _ _ l0 ta1 _ ?side1 A3.out).mono ?_); (case side1 => exact Kd.V_mk HC0.out (Kd.F_below (Kd.C_F (Kd.heap_int .u32) HR0.out) (zB HB.out))); rintro e w21 ⟨va2, rfl, ho0, hb⟩; have HOa3 := yVm ho0 HB; replace HB := yS HB hb; (try clear hb ho0)) | (go_at_call 118; (with_reducible refine (nat_short.calls k (fun k_ => k_ < w.heap.size) _ _ l1 ta4 _ ?side1 A4.out).mono ?_); (case side1 => exact Kd.V_mk HC1.out (Kd.F_below (Kd.C_F (Kd.heap_int .u32) HR1.out) (zB HB.out))); rintro e w22 ⟨va5, rfl, ho0, hb⟩; replace HOa3 := yVb HOa3 hb; have HOa6 := yVm ho0 HB; replace HB := yS HB hb; (try clear hb ho0); obtain ⟨Ao23, co23, rfl⟩ := Kd.V_slice HOa3.out; obtain ⟨Ao24, co24, rfl⟩ := Kd.V_slice HOa6.out)); try go_wp2_with (first | (go_at_call 118; (with_reducible refine (nat_short.calls k (fun k_ => k_ < w.heap.size) _ _ l0 ta1 _ ?side1 A3.out).mono ?_); (case side1 => exact Kd.V_mk HC0.out (Kd.F_below (Kd.C_F (Kd.heap_int .u32) HR0.out) (zB HB.out))); rintro e w21 ⟨va2, rfl, ho0, hb⟩; have n0_ := yVm ho0 HB; have n1_ := yS HB hb; clear HB; have HOa3 := n0_; have HB := n1_; clear n0_ n1_; (try clear hb); (try clear hb2); (try clear hk); (try clear hi); (try clear ho0)) | (go_at_call 118; (with_reducible refine (nat_short.calls k (fun k_ => k_ < w.heap.size) _ _ l1 ta4 _ ?side1 A4.out).mono ?_); (case side1 => exact Kd.V_mk HC1.out (Kd.F_below (Kd.C_F (Kd.heap_int .u32) HR1.out) (zB HB.out))); rintro e w22 ⟨va5, rfl, ho0, hb⟩; have n0_ := yVb HOa3 hb; have n1_ := yVm ho0 HB; have n2_ := yS HB hb; clear HOa3; clear HB; have HOa3 := n0_; have HOa6 := n1_; have HB := n2_; clear n0_ n1_ n2_; (try clear hb); (try clear hb2); (try clear hk); (try clear hi); (try clear ho0); obtain ⟨Ao23, co23, eo23⟩ := Kd.V_slice HOa3.out; subst eo23; obtain ⟨Ao24, co24, eo24⟩ := Kd.V_slice HOa6.out; subst eo24)))
 go_ret
 exact ⟨zE, zB HB.out⟩
set_option maxHeartbeats 8000000 in
set_option maxRecDepth 100000 in
theorem nat_Of.calls (k : Nat) (a0 : Int) (r : List Int) (w : World) (h : nat_Of.f k a0 = some r) :
    Calls Try.prog 80 #[.int .u64 a0] w fun e w' => ∃ v0_ : Value, e = .returned (v0_) ∧ Kd.R (Kd.int .u32) 97 w' w.heap.size (fun _ => True) v0_ r ∧ Below w.heap.size w w' := by
 have HB := zk (Below.refl w.heap.size w)
 have H := h
 clear h
 unfold nat_Of.f at H
 obtain ⟨ya1, hya1⟩ : ∃ y_ : List Int, y_ = (([(a0) % 4294967296, (a0 / 4294967296) % 4294967296] : List Int)) := ⟨_, rfl⟩
 replace H : ((nat_Trim.f k ya1).bind fun ta4 => (some ta4)) = some r := zY hya1 H
 have Nya1 := zk hya1
 clear hya1
 replace H := zb H
 obtain ⟨ta4, A2, H⟩ := H
 obtain rfl := Option.some.inj H
 go_enter Try.func80, Try.ntmps80
 go_wp2_with (first | ((with_reducible refine gate_dst (N := 8) rfl ?_); refine Kd.R_lit (Kd.int .u32) _ 97 ?hg (N := 8) ?hd (xs := ([(a0) % 4294967296, (a0 / 4294967296) % 4294967296] : List Int)) (inner := [.int .u32 ((a0) % 4294967296), .int .u32 ((a0 / 4294967296) % 4294967296)]) (ok := fun _ => True) (okp := fun _ => True) ?hr ?hp (fun _ hk => hk) trivial (Below.refl _ _) (Nat.le_refl _) (by simp) ?_; (case hd => rfl); (case hg => rfl); (case hr => first | (go_simp; done) | (go_simp; rfl)); (case hp => exact (Reps.one (show Kd.M (Kd.int .u32) _ _ _ ((a0) % 4294967296) [.int .u32 ((a0) % 4294967296)] from rfl) (Reps.one (show Kd.M (Kd.int .u32) _ _ _ ((a0 / 4294967296) % 4294967296) [.int .u32 ((a0 / 4294967296) % 4294967296)] from rfl) (Reps.none _ _)))); intro va2 w3 ho4 hb hg_ hnew_; clear hg_ hnew_; (first | rw [← Nya1.out] at ho4 | (simp only [Int.reduceToNat] at ho4; rw [← Nya1.out] at ho4)); have HOa3 := yRl ho4 HB; replace HB := yS HB hb; clear hb ho4; obtain ⟨Ao5, co5, rfl⟩ := Kd.R_slice HOa3.out) | ((with_reducible refine gC 103 ?_); refine zG (some 9) Try.func103 #[.slice Ao5 ya1.length co5] ?_; (with_reducible refine (nat_Trim.calls k _ _ ya1 ta4 _ ?side1 ?side2 A2.out).mono ?_); (case side1 => exact zC (Kd.R_reads' HOa3.out).2.2); (case side2 => exact (Kd.R_reads' HOa3.out).2.1); rintro e w6 ⟨va5, rfl, ho0, hb⟩; refine ⟨_, rfl, ?_⟩; replace ho0 := yn ho0 HOa3; have HOa6 := yRl ho0 HB; replace HOa3 := yRe HOa3 ho0 hb; replace HB := yS HB hb; (try clear hb ho0)))
 go_ret
 exact ⟨_, zE, by (with_reducible repeat (first | apply Kd.R_alloc | apply Kd.R_drewN | apply Kd.R_drew)); exact Kd.R_mono HOa6.out (fun _ hk => trivial), zB HB.out⟩
mutual
def mw_Design.j0 : Nat → Int → List (List Int) → Int → Bool → Option (Int × Int)
  | 0, _, _, _, _ => none
  | k + 1, x0, x1, x2, x24 => if x24 = true then (some (0, 6)) else (mw_Design.l0 k x0 x2 ([] : List Int) x1 (x1.length : Int) 0)
def mw_Design.l0 : Nat → Int → Int → List Int → List (List Int) → Int → Int → Option (Int × Int)
  | 0, _, _, _, _, _, _ => none
  | k + 1, x0, x2, x8, x25, x26, x27 => if x27 < x26 then (if 0 ≤ x27 then (if x27 < (x25.length : Int) then (mw_Design.l1 k x0 x2 x8 0 (-1) x25 x26 x27 (rd_L1 x25 x27) ((rd_L1 x25 x27).length : Int) 0) else (none)) else (none)) else (if x2 < 0 then (mw_Design.j3 k x0 x2 x8 true) else (mw_Design.j3 k x0 x2 x8 (decide (x2 > x0))))
def mw_Design.l1 : Nat → Int → Int → List Int → Int → Int → List (List Int) → Int → Int → List Int → Int → Int → Option (Int × Int)
  | 0, _, _, _, _, _, _, _, _, _, _, _ => none
  | k + 1, x0, x2, x8, x11, x12, x25, x26, x27, x31, x32, x33 => if x33 < x32 then (if 0 ≤ x33 then (if x33 < (x31.length : Int) then (if (rd x31 x33) ≤ x12 then (some (0, 5)) else (if (rd x31 x33) ≥ x0 then (some (0, 5)) else (if 0 ≤ (rd x31 x33) then (mw_Design.l1 k x0 x2 x8 (Go.bits .or .u64 x11 (shl .u64 1 (rd x31 x33))) (rd x31 x33) x25 x26 x27 x31 x32 (wrap64 (x33 + 1))) else (none)))) else (none)) else (none)) else (if x8.length < 17592186044416 then (mw_Design.l0 k x0 x2 (x8 ++ [x11]) x25 x26 (wrap64 (x27 + 1))) else (none))
def mw_Design.j3 : Nat → Int → Int → List Int → Bool → Option (Int × Int)
  | 0, _, _, _, _ => none
  | k + 1, x0, x2, x8, x62 => if x62 = true then (some (0, 6)) else ((nat_Binomial.f k x0 x2).bind fun bta6 => ((nat_Of.f k 65536).bind fun tb0 => ((nat_Cmp.f k bta6.1 tb0).bind fun tb3 => (if tb3 > 0 then (some (0, 8)) else ((mw_subsets.f k x0 x2 0 0 x8 (-1) true).bind fun r => (if r.2.2 = true then (some (r.2.1, 0)) else (some (0, 11))))))))
end
def mw_Design.f (k : Nat) (a0 : Int) (l1 : List (List Int)) (a2 : Int) : Option (Int × Int) := if a0 < 0 then (mw_Design.j0 k a0 l1 a2 true) else (mw_Design.j0 k a0 l1 a2 (decide (a0 > 64)))
theorem info37 : (Try.prog.info? 37).map (fun i => (i.zero, i.size, i.bytes)) = some (some (.int .u64 0), 1, 8) := by kernel_rfl
theorem yM {W w1 : World} {b : Nat} {o : Obj} (h : Aside0 (W.heap[b]? = some o)) (k : Below W.heap.size W w1) : Aside0 (w1.heap[b]? = some o) := ⟨(k.block b (lt_of_block h.out)).trans h.out⟩
theorem cap_new {W : World} {Bm base : Nat} {ok : Nat → Prop} {A : Option Addr} {c : Nat} {l : List Int} (HM : W.heap[Bm]? = some (.cells #[.slice A l.length c] 101 (0, 0))) (HO : Kd.R (Kd.int .u64) 37 W base ok (.slice A l.length c) l) :
    Cap ((W.alloc (.cells #[.int .i64 (-1)] 3)).alloc (.cells #[.bool true] 4)) Bm W.heap.size (W.heap.size + 1) A c l (-1) true := by
  have hs : (W.alloc (.cells #[.int .i64 (-1)] 3)).heap.size = W.heap.size + 1 := by simp
  have hlt := lt_of_block HM
  refine ⟨?_, ?_, ?_, ?_, (Kd.R_reads' HO).2.1⟩
  · rw [Below.heap_alloc _ _ _ (by omega), Below.heap_alloc _ _ _ hlt]; exact HM
  · rw [Below.heap_alloc _ _ _ (by omega)]; exact heap_alloc_new _ _
  · rw [← hs]; exact heap_alloc_new _ _
  · have h1 := Kd.R_mono (ok' := fun k => k < W.heap.size) (Kd.R_bound HO) (fun k hk => hk.2.2.1)
    have h2 := Kd.R_alloc (Kd.R_alloc h1 (.cells #[.int .i64 (-1)] 3)) (.cells #[.bool true] 4)
    exact Kd.C_kept_own h2 (fun k hk e => by rcases e with e | e <;> omega)
theorem sub_below {w W w1 : World} {o o' : Obj} (HB : Below w.heap.size w W) (k : Kept2 ((W.alloc o).alloc o') w1 W.heap.size (W.heap.size + 1)) : Below w.heap.size w w1 :=
  Kept2.below (below_alloc (below_alloc HB o) o') k HB.size (Nat.le_succ_of_le HB.size)
set_option maxHeartbeats 8000000 in
set_option maxRecDepth 100000 in
theorem mw_Design.calls (k : Nat) (a0 : Int) (A1 : Option Addr) (c1 : Nat) (l1 : List (List Int)) (a2 : Int) (r1 : Int) (r2 : Int) (w : World) (hr1 : Kd.C (Kd.slice 3 (Kd.int .i64)) w A1 l1.length l1) (hc1 : l1.length ≤ c1) (h : mw_Design.f k a0 l1 a2 = some (r1, r2)) :
    Calls Try.prog 30 #[.int .i64 a0, .slice A1 l1.length c1, .int .i64 a2] w fun e w' => e = .returned (.tuple #[.int .i64 r1, .int .i64 r2]) ∧ Below w.heap.size w w' := by
 have HR1 := zk hr1
 have HC1 := zk hc1
 clear hr1 hc1
 have HB := zk (Below.refl w.heap.size w)
 have H := h
 clear h
 unfold mw_Design.f at H
 have HC4 := zk H
 clear H
 go_enter Try.func30, Try.ntmps30
 go_upto_region 1 with (fail)
 go_cut [24] (fun v24 wc => ∃ (kq : Nat) (x24_3 : Bool), v24 = .bool x24_3 ∧ Aside0 (mw_Design.j0 kq a0 l1 a2 x24_3 = some (r1, r2)) ∧ Aside0 (kq ≤ k) ∧ Aside0 (Below w.heap.size w wc))
 case first =>
  have H := HC4.out
  clear HC4
  replace H := zid H
  rcases H with ⟨c5b0, H⟩ | ⟨c5b0, H⟩
  · (first | rw [c5b0] | (simp only [i64_w, i32_w]; rw [c5b0]) | rw [c5b1] | skip)
    have H' := zk H
    clear H
    go_wp2
    go_meet
    case rel => exact ⟨_, (true), zF, H', ⟨zO⟩, ⟨zB HB.out⟩⟩
  (first | rw [c5b0] | (simp only [i64_w, i32_w]; rw [c5b0]) | rw [c5b1] | skip)
  have H' := zk H
  clear H
  go_wp2
  go_meet
  case rel => exact ⟨_, (decide (a0 > 64)), zF, H', ⟨zO⟩, ⟨zB HB.out⟩⟩
 clear HC4
 (try clear c5b0)
 obtain ⟨kq, x24_3, rfl, HA, HJ3, HB⟩ := hcut
 cases kq with | zero => exact absurd HA.out (by simp [mw_Design.j0]) | succ kj3 => ?_
 have H := HA.out
 clear HA
 simp only [mw_Design.j0] at H
 by_cases c6 : x24_3 = true
 · subst c6
   rw [if_pos rfl] at H
   simp only [Option.some.injEq, Prod.mk.injEq] at H
   obtain ⟨rfl, rfl⟩ := H
   go_wp2
   go_ret2
   exact ⟨zE, zB HB.out⟩
 replace c6 := Bool.eq_false_iff.mpr c6
 subst c6
 rw [if_neg Bool.false_ne_true] at H
 have H' := zk H
 clear H
 go_wp2
 have HLe := zk HB.out.size
 go_loopg [27] kj3 (fun kq v27 w' => ∃ (x8_2 : List Int) (x27_2 : Int) (u8 : Value), v27 = .int .i64 x27_2 ∧ Aside0 (mw_Design.l0 kq a0 a2 x8_2 l1 (l1.length : Int) x27_2 = some (r1, r2)) ∧ Aside0 (kq ≤ kj3) ∧ Aside0 (w'.heap[wc.heap.size]? = some (.cells #[u8] 101 (0, 0))) ∧ Aside0 (Kd.R (Kd.int .u64) 37 w' w.heap.size (fun k_ => k_ ≠ wc.heap.size) u8 x8_2) ∧ Aside0 (Below w.heap.size w w'))
 case atStart => exact ⟨(([] : List Int)), (0), _, zF, H', ⟨Nat.le_refl _⟩, ⟨heap_alloc_new _ _⟩, ⟨Kd.R_nil _ _ _ _ _⟩, ⟨zB HB.out⟩⟩
 clear H'
 (try clear c5b0);(try clear c6)
 obtain ⟨x8_2, x27_2, u8, rfl, HA, HK2, HM, HO_8, HB⟩ := hrel
 cases gk with | zero => exact absurd HA.out (by simp [mw_Design.l0]) | succ k2 => ?_
 have H := HA.out
 clear HA
 simp only [mw_Design.l0] at H
 replace H := zid H
 rcases H with ⟨c7b0, H⟩ | ⟨c7b0, H⟩
 · replace H := zgd H
   obtain ⟨c8b0, H⟩ := H
   replace H := zgd H
   obtain ⟨c9b0, H⟩ := H
   have H' := zk H
   clear H
   have pa1 : 0 ≤ (x27_2 : Int) := zd
   have qa1 : x27_2 < (l1.length : Int) := zd
   obtain ⟨ada1, Aa1_0, ca1_0, ea1, hxa1_0, hla1_0, hia1_0⟩ := at_L1 HR1.out x27_2 pa1 qa1
   cases ea1
   replace hxa1_0 := (HB.out.cell (World.block_lt_of_cell? w _ hxa1_0)).trans hxa1_0
   have HRa1_0 := zk hia1_0
   have HCa1_0 := zk hla1_0
   clear hia1_0 hla1_0
   replace pa1 := eq_true pa1
   replace qa1 := eq_true qa1
   go_wp2
   go_loopg [11, 12, 33] k2 (fun kq v11 v12 v33 w' => ∃ (x11_3 : Int) (x12_3 : Int) (x33_3 : Int), v11 = .int .u64 x11_3 ∧ v12 = .int .i64 x12_3 ∧ v33 = .int .i64 x33_3 ∧ Aside0 (mw_Design.l1 kq a0 a2 x8_2 x11_3 x12_3 l1 (l1.length : Int) x27_2 (rd_L1 l1 x27_2) ((rd_L1 l1 x27_2).length : Int) x33_3 = some (r1, r2)) ∧ Aside0 (kq ≤ k2) ∧ Aside0 (w'.heap[wc.heap.size]? = some (.cells #[u8] 101 (0, 0))) ∧ Aside0 (Kd.R (Kd.int .u64) 37 w' w.heap.size (fun k_ => k_ ≠ wc.heap.size) u8 x8_2) ∧ Aside0 (Below w.heap.size w w'))
   case atStart => exact ⟨(0), ((-1)), (0), zF, zF, zF, H', ⟨Nat.le_refl _⟩, HM, ⟨zR HO_8.out⟩, ⟨zB HB.out⟩⟩
   clear H'
   (try clear c5b0);(try clear c6);(try clear c7b0);(try clear c8b0);(try clear c9b0);(try clear hxa1_0);(try clear pa1);(try clear qa1)
   obtain ⟨x11_3, x12_3, x33_3, rfl, rfl, rfl, HA, HK3, HM, HO_8, HB⟩ := hrel
   cases gk with | zero => exact absurd HA.out (by simp [mw_Design.l1]) | succ k3 => ?_
   have H := HA.out
   clear HA
   simp only [mw_Design.l1] at H
   replace H := zid H
   rcases H with ⟨c10b0, H⟩ | ⟨c10b0, H⟩
   · replace H := zgd H
     obtain ⟨c11b0, H⟩ := H
     replace H := zgd H
     obtain ⟨c12b0, H⟩ := H
     replace H := zid H
     rcases H with ⟨c13b0, H⟩ | ⟨c13b0, H⟩
     · simp only [Option.some.injEq, Prod.mk.injEq] at H
       obtain ⟨rfl, rfl⟩ := H
       have pa2 : 0 ≤ (x33_3 : Int) := zd
       have qa2 : x33_3 < ((rd_L1 l1 x27_2).length : Int) := zd
       obtain ⟨ada2, ea2, hxa2_0⟩ := Kd.at_int HRa1_0.out x33_3 pa2 qa2
       cases ea2
       replace hxa2_0 := (HB.out.cell (World.block_lt_of_cell? w _ hxa2_0)).trans hxa2_0
       replace pa2 := eq_true pa2
       replace qa2 := eq_true qa2
       go_wp2
       go_ret2
       exact ⟨zE, zB HB.out⟩
     replace H := zi H
     rcases H with ⟨c14, H⟩ | ⟨c14, H⟩
     · have c14b0 : decide (a0 ≤ (rd (rd_L1 l1 x27_2) x33_3)) = true := decide_eq_true c14
       clear c14
       simp only [Option.some.injEq, Prod.mk.injEq] at H
       obtain ⟨rfl, rfl⟩ := H
       have pa2 : 0 ≤ (x33_3 : Int) := zd
       have qa2 : x33_3 < ((rd_L1 l1 x27_2).length : Int) := zd
       obtain ⟨ada2, ea2, hxa2_0⟩ := Kd.at_int HRa1_0.out x33_3 pa2 qa2
       cases ea2
       replace hxa2_0 := (HB.out.cell (World.block_lt_of_cell? w _ hxa2_0)).trans hxa2_0
       replace pa2 := eq_true pa2
       replace qa2 := eq_true qa2
       go_wp2
       go_ret2
       exact ⟨zE, zB HB.out⟩
     have c14b0 : decide (a0 ≤ (rd (rd_L1 l1 x27_2) x33_3)) = false := decide_eq_false c14
     clear c14
     replace H := zg H
     obtain ⟨c15, H⟩ := H
     have c15b0 := eq_true c15
     have c15b1 := decide_eq_true c15
     clear c15
     obtain ⟨ji16, hji16⟩ : ∃ j_ : Int, (shl .u64 1 (rd (rd_L1 l1 x27_2) x33_3)) = j_ := ⟨_, rfl⟩
     replace H : (mw_Design.l1 k3 a0 a2 x8_2 (Go.bits .or .u64 x11_3 (ji16)) (rd (rd_L1 l1 x27_2) x33_3) l1 (l1.length : Int) x27_2 (rd_L1 l1 x27_2) ((rd_L1 l1 x27_2).length : Int) (wrap64 (x33_3 + 1))) = some (r1, r2) := by first | (rw [hji16] at H; exact H) | (simp only [hji16] at H ⊢; exact H)
     have hji16_ : (IntKind.u64.wrap (1 * 2 ^ min (rd (rd_L1 l1 x27_2) x33_3).toNat 64)) = ji16 := hji16
     have hji16z : (rd (rd_L1 l1 x27_2) x33_3) ≤ 64 → (IntKind.u64.wrap (1 * 2 ^ (rd (rd_L1 l1 x27_2) x33_3).toNat)) = ji16 := shl_small hji16
     have hji16u : (IntKind.u64.wrap (2 ^ min (rd (rd_L1 l1 x27_2) x33_3).toNat 64)) = ji16 := by have h_ := hji16_; rw [Int.one_mul] at h_; exact h_
     have hji16v : (rd (rd_L1 l1 x27_2) x33_3) ≤ 64 → (IntKind.u64.wrap (2 ^ (rd (rd_L1 l1 x27_2) x33_3).toNat)) = ji16 := fun hle_ => by have h_ := hji16z hle_; rw [Int.one_mul] at h_; exact h_
     have H' := zk H
     clear H
     have pa2 : 0 ≤ (x33_3 : Int) := zd
     have qa2 : x33_3 < ((rd_L1 l1 x27_2).length : Int) := zd
     obtain ⟨ada2, ea2, hxa2_0⟩ := Kd.at_int HRa1_0.out x33_3 pa2 qa2
     cases ea2
     replace hxa2_0 := (HB.out.cell (World.block_lt_of_cell? w _ hxa2_0)).trans hxa2_0
     replace pa2 := eq_true pa2
     replace qa2 := eq_true qa2
     go_wp2
     go_roundg k3
     case measure => have := HJ3.out; have := HK2.out; have := HK3.out; omega
     case rel => exact ⟨(Go.bits .or .u64 x11_3 (ji16)), (rd (rd_L1 l1 x27_2) x33_3), (wrap64 (x33_3 + 1)), (by first | rfl | (simp; done) | (simp only [← hji16] <;> (first | rfl | simp)) | (simp [*]; done)), zF, zF, H', ⟨by have := HJ3.out; have := HK2.out; have := HK3.out; omega⟩, HM, ⟨zR HO_8.out⟩, ⟨zB HB.out⟩⟩
   replace H := zg H
   obtain ⟨c17, H⟩ := H
   have LMc17 := zk c17
   clear c17
   obtain ⟨ya3, hya3⟩ : ∃ y_ : List Int, y_ = (x8_2 ++ [x11_3]) := ⟨_, rfl⟩
   replace H : (mw_Design.l0 k3 a0 a2 ya3 l1 (l1.length : Int) (wrap64 (x27_2 + 1))) = some (r1, r2) := zY hya3 H
   have Nya3 := zk hya3
   clear hya3
   have H' := zk H
   clear H
   have cM := cell_of_one HM.out
   go_wp2_with (first | ((with_reducible refine gate_builtin (b := .append) (xs := #[.tmp 51, .tmp 53]) rfl ?_); at_builtin; refine Kd.R_append (Kd.int .u64) (w0 := w) w.heap.size rfl (.tmp 51) (.tmp 53) 101 37 (.int .u64 0) 8 rfl Try.underlying101 info37 rfl (by decide) (by omega) u8 x8_2 x11_3 [.int .u64 x11_3] (fun k_ => k_ ≠ wc.heap.size) (fun _ => False) rfl rfl ?aP (fun _ hk => hk.elim) ?aF ?aO ?aB ?aS ?aL ?_; (case aP => exact rfl); (case aB => exact (zB HB.out)); (case aF => exact (fun k_ hk_ e_ => by have h_ := lt_of_block HM.out; omega)); (case aO => exact (zR HO_8.out)); (case aS => exact (below_size (zB HB.out))); (case aL => have := LMc17.out; omega); intro va4 w18 ho hb hg hat; rw [← Nya3.out] at ho; replace HB := zk (hb); have HOa5 := zk (ho); have HM2 := zk ((hg.block _ (lt_of_block HM.out) (fun e => HO_8.out.1 _ e.symm rfl)).trans HM.out); have fM := free_of_one HM2.out; have cM2 := cell_of_one HM2.out; clear HO_8; clear ho hb hg hat; obtain ⟨Aoa5, coa5, rfl⟩ := Kd.R_slice HOa5.out))
   go_roundg k3
   case measure => have := HJ3.out; have := HK2.out; have := HK3.out; omega
   case rel => exact ⟨(ya3), (wrap64 (x27_2 + 1)), _, zF, H', ⟨by have := HJ3.out; have := HK2.out; have := HK3.out; omega⟩, ⟨one_setCell HM2.out⟩, ⟨Kd.R_far HOa5.out (p := ⟨wc.heap.size, 0, none⟩) (fun k_ hk_ => hk_) _⟩, ⟨HB.out.setCell HLe.out _⟩⟩
 have HC19 := zk H
 clear H
 go_upto_region 18 with (fail)
 go_cut [62] (fun v62 wd => ∃ (kq : Nat) (x62_18 : Bool), v62 = .bool x62_18 ∧ Aside0 (mw_Design.j3 kq a0 a2 x8_2 x62_18 = some (r1, r2)) ∧ Aside0 (kq ≤ k2) ∧ Aside0 (wd.heap[wc.heap.size]? = some (.cells #[u8] 101 (0, 0))) ∧ Aside0 (Kd.R (Kd.int .u64) 37 wd w.heap.size (fun k_ => k_ ≠ wc.heap.size) u8 x8_2) ∧ Aside0 (Below w.heap.size w wd))
 case first =>
  have H := HC19.out
  clear HC19
  replace H := zid H
  rcases H with ⟨c20b0, H⟩ | ⟨c20b0, H⟩
  · (first | rw [c20b0] | (simp only [i64_w, i32_w]; rw [c20b0]) | rw [c20b1] | skip)
    have H' := zk H
    clear H
    go_wp2
    go_meet
    case rel => exact ⟨_, (true), zF, H', ⟨by have := HJ3.out; have := HK2.out; first | omega | exact Nat.le_refl _⟩, HM, ⟨zR HO_8.out⟩, ⟨zB HB.out⟩⟩
  (first | rw [c20b0] | (simp only [i64_w, i32_w]; rw [c20b0]) | rw [c20b1] | skip)
  have H' := zk H
  clear H
  go_wp2
  go_meet
  case rel => exact ⟨_, (decide (a2 > a0)), zF, H', ⟨by have := HJ3.out; have := HK2.out; first | omega | exact Nat.le_refl _⟩, HM, ⟨zR HO_8.out⟩, ⟨zB HB.out⟩⟩
 clear HC19
 (try clear c5b0);(try clear c6);(try clear c7b0);(try clear c8b0);(try clear c9b0);(try clear c10b0);(try clear c11b0);(try clear c12b0);(try clear c13b0);(try clear c14);(try clear c14b0);(try clear c15);(try clear c15b0);(try clear c15b1);(try clear c17);(try clear c20b0);(try clear hxa1_0);(try clear hxa2_0);(try clear pa1);(try clear pa2);(try clear qa1);(try clear qa2)
 obtain ⟨kq, x62_18, rfl, HA, HJ18, HM, HO_8, HB⟩ := hcut
 cases kq with | zero => exact absurd HA.out (by simp [mw_Design.j3]) | succ kj18 => ?_
 have H := HA.out
 clear HA
 simp only [mw_Design.j3] at H
 by_cases c21 : x62_18 = true
 · subst c21
   rw [if_pos rfl] at H
   simp only [Option.some.injEq, Prod.mk.injEq] at H
   obtain ⟨rfl, rfl⟩ := H
   go_wp2
   go_ret2
   exact ⟨zE, zB HB.out⟩
 replace c21 := Bool.eq_false_iff.mpr c21
 subst c21
 rw [if_neg Bool.false_ne_true] at H
 replace H := zb H
 obtain ⟨⟨ta6, ta7⟩, A22, H⟩ := H
 dsimp only at H
 replace H := zb H
 obtain ⟨tb0, A23, H⟩ := H
 replace H := zb H
 obtain ⟨tb3, A24, H⟩ := H
 replace H := zi H
 rcases H with ⟨c25, H⟩ | ⟨c25, H⟩
 · have c25b0 : decide (0 < tb3) = true := decide_eq_true c25
   clear c25
   simp only [Option.some.injEq, Prod.mk.injEq] at H
   obtain ⟨rfl, rfl⟩ := H
   go_wp2_with (first | ((with_reducible refine gC 72 ?_); refine zG (some 66) Try.func72 #[.int .i64 a0, .int .i64 a2] ?_; (with_reducible refine (nat_Binomial.calls kj18 a0 a2 ta6 ta7 _ A22.out).mono ?_); rintro e w26 ⟨va8, rfl, ho0, hb⟩; refine ⟨_, rfl, ?_⟩; replace HO_8 := yRb HO_8 hb; have HOa9 := yRl ho0 HB; replace HB := yS HB hb; (try clear hb ho0)) | ((with_reducible refine gC 80 ?_); refine zG (some 70) Try.func80 #[.int .u64 65536] ?_; (with_reducible refine (nat_Of.calls kj18 65536 tb0 _ A23.out).mono ?_); rintro e w27 ⟨vb1, rfl, ho0, hb⟩; refine ⟨_, rfl, ?_⟩; replace HO_8 := yRb HO_8 hb; replace ho0 := yn ho0 HOa9; have HOb2 := yRl ho0 HB; replace HOa9 := yRe HOa9 ho0 hb; replace HB := yS HB hb; (try clear hb ho0); obtain ⟨Ao28, co28, rfl⟩ := Kd.R_slice HOa9.out; obtain ⟨Ao29, co29, rfl⟩ := Kd.R_slice HOb2.out) | ((with_reducible refine gC 79 ?_); refine zG (some 71) Try.func79 #[.slice Ao28 ta6.length co28, .slice Ao29 tb0.length co29] ?_; (with_reducible refine (nat_Cmp.calls kj18 _ _ ta6 _ _ tb0 tb3 _ ?side1 ?side2 ?side3 ?side4 A24.out).mono ?_); (case side1 => exact zC (Kd.R_reads' HOa9.out).2.2); (case side2 => exact (Kd.R_reads' HOa9.out).2.1); (case side3 => exact zC (Kd.R_reads' HOb2.out).2.2); (case side4 => exact (Kd.R_reads' HOb2.out).2.1); rintro e w30 ⟨rfl, hb⟩; refine ⟨_, rfl, ?_⟩; replace HO_8 := yRb HO_8 hb; replace HOa9 := yRb HOa9 hb; replace HOb2 := yRb HOb2 hb; replace HB := yS HB hb; (try clear hb); (try clear hb2); (try clear hk); (try clear hi)))
   go_ret2
   exact ⟨zE, zB HB.out⟩
 have c25b0 : decide (0 < tb3) = false := decide_eq_false c25
 clear c25
 obtain ⟨⟨q1, q2, q3⟩, A36, H⟩ := Option.bind_eq_some_iff.mp H
 have A37 := zk A36
 clear A36
 dsimp only at H
 cases q3 with
 | true =>
  rw [if_pos rfl] at H
  simp only [Option.some.injEq, Prod.mk.injEq] at H
  obtain ⟨rfl, rfl⟩ := H
  go_wp2_with (first | ((with_reducible refine gC 72 ?_); refine zG (some 66) Try.func72 #[.int .i64 a0, .int .i64 a2] ?_; (with_reducible refine (nat_Binomial.calls kj18 a0 a2 ta6 ta7 _ A22.out).mono ?_); rintro e w31 ⟨va8, rfl, ho0, hb⟩; refine ⟨_, rfl, ?_⟩; replace HO_8 := yRb HO_8 hb; replace HM := yM HM hb; have HOa9 := yRl ho0 HB; replace HB := yS HB hb; (try clear hb ho0)) | ((with_reducible refine gC 80 ?_); refine zG (some 70) Try.func80 #[.int .u64 65536] ?_; (with_reducible refine (nat_Of.calls kj18 65536 tb0 _ A23.out).mono ?_); rintro e w32 ⟨vb1, rfl, ho0, hb⟩; refine ⟨_, rfl, ?_⟩; replace HO_8 := yRb HO_8 hb; replace HM := yM HM hb; replace ho0 := yn ho0 HOa9; have HOb2 := yRl ho0 HB; replace HOa9 := yRe HOa9 ho0 hb; replace HB := yS HB hb; (try clear hb ho0); obtain ⟨Ao33, co33, rfl⟩ := Kd.R_slice HOa9.out; obtain ⟨Ao34, co34, rfl⟩ := Kd.R_slice HOb2.out) | ((with_reducible refine gC 79 ?_); refine zG (some 71) Try.func79 #[.slice Ao33 ta6.length co33, .slice Ao34 tb0.length co34] ?_; (with_reducible refine (nat_Cmp.calls kj18 _ _ ta6 _ _ tb0 tb3 _ ?side1 ?side2 ?side3 ?side4 A24.out).mono ?_); (case side1 => exact zC (Kd.R_reads' HOa9.out).2.2); (case side2 => exact (Kd.R_reads' HOa9.out).2.1); (case side3 => exact zC (Kd.R_reads' HOb2.out).2.2); (case side4 => exact (Kd.R_reads' HOb2.out).2.1); rintro e w35 ⟨rfl, hb⟩; refine ⟨_, rfl, ?_⟩; replace HO_8 := yRb HO_8 hb; replace HM := yM HM hb; replace HOa9 := yRb HOa9 hb; replace HOb2 := yRb HOb2 hb; replace HB := yS HB hb; (try clear hb); (try clear hb2); (try clear hk); (try clear hi); obtain ⟨Ao36, co36, rfl⟩ := Kd.R_slice HO_8.out) | (go_at_call 81; refine (mw_subsets.calls kj18 _ _ _ Ao36 co36 x8_2 a0 a2 0 0 (-1) true q1 q2 true _ (cap_new HM.out HO_8.out) A37.out).mono ?_; rintro e w38 ⟨rfl, h1, h2, h3⟩; have cS := cell_of_one h2; have cC := cell_of_one h1; replace HB := zk (sub_below HB.out h3); clear h1 h2 h3))
  go_ret2
  exact ⟨zE, zB HB.out⟩
 | false =>
  rw [if_neg Bool.false_ne_true] at H
  simp only [Option.some.injEq, Prod.mk.injEq] at H
  obtain ⟨rfl, rfl⟩ := H
  go_wp2_with (first | ((with_reducible refine gC 72 ?_); refine zG (some 66) Try.func72 #[.int .i64 a0, .int .i64 a2] ?_; (with_reducible refine (nat_Binomial.calls kj18 a0 a2 ta6 ta7 _ A22.out).mono ?_); rintro e w31 ⟨va8, rfl, ho0, hb⟩; refine ⟨_, rfl, ?_⟩; replace HO_8 := yRb HO_8 hb; replace HM := yM HM hb; have HOa9 := yRl ho0 HB; replace HB := yS HB hb; (try clear hb ho0)) | ((with_reducible refine gC 80 ?_); refine zG (some 70) Try.func80 #[.int .u64 65536] ?_; (with_reducible refine (nat_Of.calls kj18 65536 tb0 _ A23.out).mono ?_); rintro e w32 ⟨vb1, rfl, ho0, hb⟩; refine ⟨_, rfl, ?_⟩; replace HO_8 := yRb HO_8 hb; replace HM := yM HM hb; replace ho0 := yn ho0 HOa9; have HOb2 := yRl ho0 HB; replace HOa9 := yRe HOa9 ho0 hb; replace HB := yS HB hb; (try clear hb ho0); obtain ⟨Ao33, co33, rfl⟩ := Kd.R_slice HOa9.out; obtain ⟨Ao34, co34, rfl⟩ := Kd.R_slice HOb2.out) | ((with_reducible refine gC 79 ?_); refine zG (some 71) Try.func79 #[.slice Ao33 ta6.length co33, .slice Ao34 tb0.length co34] ?_; (with_reducible refine (nat_Cmp.calls kj18 _ _ ta6 _ _ tb0 tb3 _ ?side1 ?side2 ?side3 ?side4 A24.out).mono ?_); (case side1 => exact zC (Kd.R_reads' HOa9.out).2.2); (case side2 => exact (Kd.R_reads' HOa9.out).2.1); (case side3 => exact zC (Kd.R_reads' HOb2.out).2.2); (case side4 => exact (Kd.R_reads' HOb2.out).2.1); rintro e w35 ⟨rfl, hb⟩; refine ⟨_, rfl, ?_⟩; replace HO_8 := yRb HO_8 hb; replace HM := yM HM hb; replace HOa9 := yRb HOa9 hb; replace HOb2 := yRb HOb2 hb; replace HB := yS HB hb; (try clear hb); (try clear hb2); (try clear hk); (try clear hi); obtain ⟨Ao36, co36, rfl⟩ := Kd.R_slice HO_8.out) | (go_at_call 81; refine (mw_subsets.calls kj18 _ _ _ Ao36 co36 x8_2 a0 a2 0 0 (-1) true q1 q2 false _ (cap_new HM.out HO_8.out) A37.out).mono ?_; rintro e w38 ⟨rfl, h1, h2, h3⟩; have cS := cell_of_one h2; have cC := cell_of_one h1; replace HB := zk (sub_below HB.out h3); clear h1 h2 h3))
  go_ret2
  exact ⟨zE, zB HB.out⟩
set_option maxHeartbeats 8000000 in
set_option maxRecDepth 100000 in
theorem r24_Block.calls (k : Nat) (a0 : Int) (A1 : Option Addr) (c1 : Nat) (l1 : List Int) (r : Bool) (w : World) (hr1 : Kd.C (Kd.int .i64) w A1 l1.length l1) (hc1 : l1.length ≤ c1) (h : r24_Block.f k a0 l1 = some r) :
    Calls Try.prog 32 #[.int .i64 a0, .slice A1 l1.length c1] w fun e w' => e = .returned (.bool r) ∧ Drawn0 w w' := by
 have HR1 := zk hr1
 have HC1 := zk hc1
 clear hr1 hc1
 have H := h
 clear h
 unfold r24_Block.f at H
 have H' := zk H
 clear H
 go_enter Try.func32, Try.ntmps32
 go_wp2
 repeat (go_quiet (fail); try go_wp2)
 go_loopg [5] k (fun kq v5 w' => ∃ (x5_1 : Int), v5 = .int .i64 x5_1 ∧ Aside0 (r24_Block.l0 kq a0 l1 x5_1 = some r) ∧ Aside0 (kq ≤ k) ∧ Drawn0 w w')
 case atStart => exact ⟨(0), zF, H', ⟨Nat.le_refl _⟩, by repeat (first | exact Drawn0.refl _ | apply Drawn0.step)⟩
 clear H'
 obtain ⟨x5_1, rfl, HA, HK1, ⟨m1, rfl⟩⟩ := hrel
 cases gk with | zero => exact absurd HA.out (by simp [r24_Block.l0]) | succ k1 => ?_
 have H := HA.out
 clear HA
 simp only [r24_Block.l0] at H
 replace H := zid H
 rcases H with ⟨c3b0, H⟩ | ⟨c3b0, H⟩
 · replace H := zgd H
   obtain ⟨c4b0, H⟩ := H
   replace H := zid H
   rcases H with ⟨c5b0, H⟩ | ⟨c5b0, H⟩
   · obtain rfl := Option.some.inj H
     have pa1 : 0 ≤ (x5_1 : Int) := zd
     have qa1 : x5_1 < (l1.length : Int) := zd
     obtain ⟨ada1, ea1, hxa1_0⟩ := Kd.at_int HR1.out x5_1 pa1 qa1
     cases ea1
     replace pa1 := eq_true pa1
     replace qa1 := eq_true qa1
     go_wp2
     repeat (go_quiet (fail); try go_wp2)
     go_ret
     exact ⟨zF, by repeat (first | exact Drawn0.refl _ | apply Drawn0.step)⟩
   replace H := zi H
   rcases H with ⟨c6, H⟩ | ⟨c6, H⟩
   · have c6b0 : decide (a0 ≤ (rd l1 x5_1)) = true := decide_eq_true c6
     clear c6
     obtain rfl := Option.some.inj H
     have pa1 : 0 ≤ (x5_1 : Int) := zd
     have qa1 : x5_1 < (l1.length : Int) := zd
     obtain ⟨ada1, ea1, hxa1_0⟩ := Kd.at_int HR1.out x5_1 pa1 qa1
     cases ea1
     replace pa1 := eq_true pa1
     replace qa1 := eq_true qa1
     have pa2 : 0 ≤ (x5_1 : Int) := zd
     have qa2 : x5_1 < (l1.length : Int) := zd
     obtain ⟨ada2, ea2, hxa2_0⟩ := Kd.at_int HR1.out x5_1 pa2 qa2
     obtain rfl : ada1 = ada2 := (by injection ea2)
     replace pa2 := eq_true pa2
     replace qa2 := eq_true qa2
     go_wp2
     repeat (go_quiet (fail); try go_wp2)
     go_ret
     exact ⟨zF, by repeat (first | exact Drawn0.refl _ | apply Drawn0.step)⟩
   have c6b0 : decide (a0 ≤ (rd l1 x5_1)) = false := decide_eq_false c6
   clear c6
   replace H := zi H
   rcases H with ⟨c7, H⟩ | ⟨c7, H⟩
   · have c7b0 : decide (0 < x5_1) = true := decide_eq_true c7
     clear c7
     obtain ⟨ji8, hji8⟩ : ∃ j_ : Int, (wrap64 (x5_1 - 1)) = j_ := ⟨_, rfl⟩
     replace H : (if 0 ≤ (ji8) then (if (ji8) < (l1.length : Int) then (if (rd l1 x5_1) ≤ (rd l1 (ji8)) then (some false) else (r24_Block.l0 k1 a0 l1 (wrap64 (x5_1 + 1)))) else (none)) else (none)) = some r := by first | (rw [hji8] at H; exact H) | (simp only [hji8] at H ⊢; exact H)
     have hji8w : (IntKind.i64.wrap (x5_1 - 1)) = ji8 := (i64_w _).trans hji8
     replace H := zgd H
     obtain ⟨c9b0, H⟩ := H
     replace H := zgd H
     obtain ⟨c10b0, H⟩ := H
     replace H := zid H
     rcases H with ⟨c11b0, H⟩ | ⟨c11b0, H⟩
     · obtain rfl := Option.some.inj H
       have pa1 : 0 ≤ (x5_1 : Int) := zd
       have qa1 : x5_1 < (l1.length : Int) := zd
       obtain ⟨ada1, ea1, hxa1_0⟩ := Kd.at_int HR1.out x5_1 pa1 qa1
       cases ea1
       replace pa1 := eq_true pa1
       replace qa1 := eq_true qa1
       have pa2 : 0 ≤ (x5_1 : Int) := zd
       have qa2 : x5_1 < (l1.length : Int) := zd
       obtain ⟨ada2, ea2, hxa2_0⟩ := Kd.at_int HR1.out x5_1 pa2 qa2
       obtain rfl : ada1 = ada2 := (by injection ea2)
       replace pa2 := eq_true pa2
       replace qa2 := eq_true qa2
       have pa3 : 0 ≤ (x5_1 : Int) := zd
       have qa3 : x5_1 < (l1.length : Int) := zd
       obtain ⟨ada3, ea3, hxa3_0⟩ := Kd.at_int HR1.out x5_1 pa3 qa3
       obtain rfl : ada1 = ada3 := (by injection ea3)
       replace pa3 := eq_true pa3
       replace qa3 := eq_true qa3
       have pa4 : 0 ≤ ((ji8) : Int) := zd
       have qa4 : (ji8) < (l1.length : Int) := zd
       obtain ⟨ada4, ea4, hxa4_0⟩ := Kd.at_int HR1.out (ji8) pa4 qa4
       obtain rfl : ada1 = ada4 := (by injection ea4)
       replace pa4 := eq_true pa4
       replace qa4 := eq_true qa4
       go_wp2
       repeat (go_quiet (fail); try go_wp2)
       go_ret
       exact ⟨by first | rfl | (simp; done) | (simp only [← hji8] <;> (first | rfl | simp)) | (simp [*]; done), by repeat (first | exact Drawn0.refl _ | apply Drawn0.step)⟩
     have H' := zk H
     clear H
     have pa1 : 0 ≤ (x5_1 : Int) := zd
     have qa1 : x5_1 < (l1.length : Int) := zd
     obtain ⟨ada1, ea1, hxa1_0⟩ := Kd.at_int HR1.out x5_1 pa1 qa1
     cases ea1
     replace pa1 := eq_true pa1
     replace qa1 := eq_true qa1
     have pa2 : 0 ≤ (x5_1 : Int) := zd
     have qa2 : x5_1 < (l1.length : Int) := zd
     obtain ⟨ada2, ea2, hxa2_0⟩ := Kd.at_int HR1.out x5_1 pa2 qa2
     obtain rfl : ada1 = ada2 := (by injection ea2)
     replace pa2 := eq_true pa2
     replace qa2 := eq_true qa2
     have pa3 : 0 ≤ (x5_1 : Int) := zd
     have qa3 : x5_1 < (l1.length : Int) := zd
     obtain ⟨ada3, ea3, hxa3_0⟩ := Kd.at_int HR1.out x5_1 pa3 qa3
     obtain rfl : ada1 = ada3 := (by injection ea3)
     replace pa3 := eq_true pa3
     replace qa3 := eq_true qa3
     have pa4 : 0 ≤ ((ji8) : Int) := zd
     have qa4 : (ji8) < (l1.length : Int) := zd
     obtain ⟨ada4, ea4, hxa4_0⟩ := Kd.at_int HR1.out (ji8) pa4 qa4
     obtain rfl : ada1 = ada4 := (by injection ea4)
     replace pa4 := eq_true pa4
     replace qa4 := eq_true qa4
     go_wp2
     repeat (go_quiet (fail); try go_wp2)
     go_roundg k1
     case measure => have := HK1.out; omega
     case rel => exact ⟨(wrap64 (x5_1 + 1)), zF, H', ⟨zo1 HK1⟩, by repeat (first | exact Drawn0.refl _ | apply Drawn0.step)⟩
   have c7b0 : decide (0 < x5_1) = false := decide_eq_false c7
   clear c7
   have H' := zk H
   clear H
   have pa1 : 0 ≤ (x5_1 : Int) := zd
   have qa1 : x5_1 < (l1.length : Int) := zd
   obtain ⟨ada1, ea1, hxa1_0⟩ := Kd.at_int HR1.out x5_1 pa1 qa1
   cases ea1
   replace pa1 := eq_true pa1
   replace qa1 := eq_true qa1
   have pa2 : 0 ≤ (x5_1 : Int) := zd
   have qa2 : x5_1 < (l1.length : Int) := zd
   obtain ⟨ada2, ea2, hxa2_0⟩ := Kd.at_int HR1.out x5_1 pa2 qa2
   obtain rfl : ada1 = ada2 := (by injection ea2)
   replace pa2 := eq_true pa2
   replace qa2 := eq_true qa2
   go_wp2
   repeat (go_quiet (fail); try go_wp2)
   go_roundg k1
   case measure => have := HK1.out; omega
   case rel => exact ⟨(wrap64 (x5_1 + 1)), zF, H', ⟨zo1 HK1⟩, by repeat (first | exact Drawn0.refl _ | apply Drawn0.step)⟩
 obtain rfl := Option.some.inj H
 go_wp2
 repeat (go_quiet (fail); try go_wp2)
 go_ret
 exact ⟨zF, by repeat (first | exact Drawn0.refl _ | apply Drawn0.step)⟩
set_option maxHeartbeats 8000000 in
set_option maxRecDepth 100000 in
theorem r24_sets.calls (k : Nat) : ∀ (a0 : Int) (a1 : Int) (a2 : Int) (r : List (List Int)) (w : World) (h : r24_sets.f k a0 a1 a2 = some r),
    Calls Try.prog 83 #[.int .i64 a0, .int .i64 a1, .int .i64 a2] w fun e w' => ∃ v0_ : Value, e = .returned (v0_) ∧ Kd.N (Kd.slice 3 (Kd.int .i64)) 22 w' w.heap.size (fun k_ => (w.heap.size ≤ k_)) v0_ r ∧ Below w.heap.size w w' := by
 induction k using Nat.strongRecOn with
 | _ k ih =>
 intro a0 a1 a2 r w h
 cases k with
 | zero => exact absurd h (by simp [r24_sets.f])
 | succ k =>
 simp only [r24_sets.f] at h
 have HB := zk (Below.refl w.heap.size w)
 have H := h
 clear h
 unfold r24_sets.f at H
 replace H := zi H
 rcases H with ⟨c4, H⟩ | ⟨c4, H⟩
 · have c4b0 := beq_iff_eq.mpr c4
   have c4b1 := bne_eq_false_iff_eq.mpr c4
   clear c4
   obtain ⟨ya1, hya1⟩ : ∃ y_ : List Int, y_ = (([] : List Int)) := ⟨_, rfl⟩
   replace H : (some (([ya1] : List (List Int)))) = some r := zY hya1 H
   have Nya1 := zk hya1
   clear hya1
   obtain ⟨ya4, hya4⟩ : ∃ y_ : List (List Int), y_ = (([ya1] : List (List Int))) := ⟨_, rfl⟩
   replace H : (some ya4) = some r := zY hya4 H
   have Nya4 := zk hya4
   clear hya4
   obtain rfl := Option.some.inj H
   go_enter Try.func83, Try.ntmps83
   go_wp2_with (first | ((with_reducible refine gate_dst (N := 13) rfl ?_); refine Kd.R_lit (Kd.int .i64) _ 3 ?hg (N := 13) ?hd (xs := ([] : List Int)) (inner := []) (ok := fun _ => True) (okp := fun _ => True) ?hr ?hp (fun _ hk => hk) trivial (Below.refl _ _) (Nat.le_refl _) (by simp) ?_; (case hd => rfl); (case hg => rfl); (case hr => first | (go_simp; done) | (go_simp; rfl)); (case hp => exact (Reps.none _ _)); intro va2 w5 ho6 hb hg_ hnew_; clear hg_ hnew_; (first | rw [← Nya1.out] at ho6 | (simp only [Int.reduceToNat] at ho6; rw [← Nya1.out] at ho6)); replace ho6 := Kd.R_newM (M := fun k_ => (w.heap.size ≤ k_)) ho6 (below_size (zB HB.out)) (fun k_ h_ => h_); have HOa3 := yRl ho6 HB; replace HB := yS HB hb; clear hb ho6; obtain ⟨Ao7, co7, rfl⟩ := Kd.R_slice HOa3.out) | ((with_reducible refine gate_dst (N := 14) rfl ?_); refine Kd.N_lit (Kd.slice 3 (Kd.int .i64)) _ 22 ?hg (N' := 14) ?hd (xs := ([ya1] : List (List Int))) (inner := [.slice Ao7 ya1.length co7]) (ok := (fun k_ => (w.heap.size ≤ k_))) (okp := (fun k_ => (w.heap.size ≤ k_))) ?hr ?hp (fun _ hk => hk) ((show ∀ k_, w5.heap.size ≤ k_ → (fun k_ => (w.heap.size ≤ k_)) k_ from fun k_ hk => (Nat.le_trans (below_size (zB HB.out)) hk)) _ (Nat.le_refl _)) (Below.refl _ _) (Nat.le_refl _) (by simp) ?_; (case hd => rfl); (case hg => rfl); (case hr => first | (go_simp; done) | (go_simp; rfl)); (case hp => exact (Reps.one (show Kd.FK (Kd.slice 3 (Kd.int .i64)) _ _ ya1 [.slice Ao7 ya1.length co7] from (Mw.FK_of_R (Kd.R_mono (ok' := (fun k_ => (w.heap.size ≤ k_))) (HOa3.out) (fun k_ hk => by exact hk.1)))) (Reps.none _ _))); intro va5 w8 ho9 hb hg_ hnew_; clear hg_ hnew_; (first | rw [← Nya4.out] at ho9 | (simp only [Int.reduceToNat] at ho9; rw [← Nya4.out] at ho9)); have HOa6 := zk (Kd.N_lower ho9 (below_size (zB HB.out))); replace HB := yS HB hb; clear HOa3; clear hb ho9))
   go_ret
   exact ⟨_, zE, zN HOa6.out, zB HB.out⟩
 have c4b0 := beq_eq_false_iff_ne.mpr c4
 have c4b1 := bne_iff_ne.mpr c4
 have H' := zk H
 clear H
 go_enter Try.func83, Try.ntmps83
 go_wp2
 go_loopg [7, 8] k (fun kq v7 v8 w' => ∃ (x7_1 : List (List Int)) (x8_1 : Int), v8 = .int .i64 x8_1 ∧ Aside0 (r24_sets.l0 kq a1 a2 x7_1 x8_1 = some r) ∧ Aside0 (kq ≤ k) ∧ Aside0 (Kd.N (Kd.slice 3 (Kd.int .i64)) 22 w' w.heap.size (fun k_ => (w.heap.size ≤ k_)) v7 x7_1) ∧ Aside0 (Below w.heap.size w w'))
 case atStart => exact ⟨(([] : List (List Int))), (a0), zF, H', ⟨Nat.le_refl _⟩, ⟨by first | exact Kd.S_nil _ _ _ _ _ | exact Kd.N_nil _ _ _ _ _ | exact Kd.V_nil _ _ _ _ _ | exact Kd.Q_nil _ _ _ _ _ | exact Kd.R_nil _ _ _ _ _⟩, ⟨zB HB.out⟩⟩
 clear H'
 (try clear c4);(try clear c4b0);(try clear c4b1)
 obtain ⟨x7_1, x8_1, rfl, HA, HK1, HO_7, HB⟩ := hrel
 cases gk with | zero => exact absurd HA.out (by simp [r24_sets.l0]) | succ k1 => ?_
 have H := HA.out
 clear HA
 simp only [r24_sets.l0] at H
 replace H := zid H
 rcases H with ⟨c10b0, H⟩ | ⟨c10b0, H⟩
 · replace H := zb H
   obtain ⟨ta7, A11, H⟩ := H
   have H' := zk H
   clear H
   go_wp2_with (first | ((with_reducible refine gC 83 ?_); refine zG (some 28) Try.func83 #[.int .i64 (wrap64 (x8_1 + 1)), .int .i64 a1, .int .i64 (wrap64 (a2 - 1))] ?_; (with_reducible refine (ih k1 (zo1 HK1) (wrap64 (x8_1 + 1)) a1 (wrap64 (a2 - 1)) ta7 _ A11.out).mono ?_); rintro e w12 ⟨va8, rfl, ho0, hb⟩; refine ⟨_, rfl, ?_⟩; have HOa9 := zk (Kd.N_lower (Kd.N_mono (ok' := fun k_ => (w.heap.size ≤ k_) ∧ some k_ ≠ (u7 : Value).ownBlock) ho0 (fun k_ hk_ => ⟨(Nat.le_trans (below_size (zB HB.out)) hk_), (Kd.fresh' (Kd.N_lt (zN HO_7.out)) k_ hk_)⟩)) (below_size (zB HB.out))); replace HO_7 := zk (Kd.N_elder' (zN HO_7.out) (Kd.N_base ho0) hb); replace HB := yS HB hb; (try clear hb ho0)))
   go_loopg [7, 10] k1 (fun kq v7 v10 w' => ∃ (x7_2 : List (List Int)) (x10_2 : Int), v10 = .int .i64 x10_2 ∧ Aside0 (r24_sets.l1 kq a1 a2 x7_2 x8_1 ta7 x10_2 = some r) ∧ Aside0 (kq ≤ k1) ∧ Aside0 (Kd.N (Kd.slice 3 (Kd.int .i64)) 22 w' w.heap.size (fun k_ => (w.heap.size ≤ k_) ∧ some k_ ≠ (va8 : Value).ownBlock) v7 x7_2) ∧ Aside0 (Kd.N (Kd.slice 3 (Kd.int .i64)) 22 w' w.heap.size (fun k_ => (w.heap.size ≤ k_) ∧ some k_ ≠ (v7 : Value).ownBlock) va8 ta7) ∧ Aside0 (Below w.heap.size w w'))
   case atStart => exact ⟨(x7_1), (0), zF, H', ⟨Nat.le_refl _⟩, ⟨zN HO_7.out⟩, ⟨zN HOa9.out⟩, ⟨zB HB.out⟩⟩
   clear H'
   (try clear c4);(try clear c4b0);(try clear c4b1);(try clear c10b0)
   obtain ⟨x7_2, x10_2, rfl, HA, HK2, HO_7, HO_9, HB⟩ := hrel
   cases gk with | zero => exact absurd HA.out (by simp [r24_sets.l1]) | succ k2 => ?_
   have H := HA.out
   clear HA
   simp only [r24_sets.l1] at H
   replace H := zid H
   rcases H with ⟨c13b0, H⟩ | ⟨c13b0, H⟩
   · obtain ⟨yb0, hyb0⟩ : ∃ y_ : List Int, y_ = (([x8_1] : List Int)) := ⟨_, rfl⟩
     replace H : (if 0 ≤ x10_2 then (if yb0.length + (rd_L1 ta7 x10_2).length < 17592186044416 then (if x7_2.length < 5864062014805 then (r24_sets.l1 k2 a1 a2 (x7_2 ++ [(yb0 ++ (rd_L1 ta7 x10_2))]) x8_1 ta7 (wrap64 (x10_2 + 1))) else (none)) else (none)) else (none)) = some r := zY hyb0 H
     have Nyb0 := zk hyb0
     clear hyb0
     replace H := zgd H
     obtain ⟨c14b0, H⟩ := H
     replace H := zg H
     obtain ⟨c15, H⟩ := H
     have LMc15 := zk c15
     clear c15
     obtain ⟨yb4, hyb4⟩ : ∃ y_ : List Int, y_ = (yb0 ++ (rd_L1 ta7 x10_2)) := ⟨_, rfl⟩
     replace H : (if x7_2.length < 5864062014805 then (r24_sets.l1 k2 a1 a2 (x7_2 ++ [yb4]) x8_1 ta7 (wrap64 (x10_2 + 1))) else (none)) = some r := zY hyb4 H
     have Nyb4 := zk hyb4
     clear hyb4
     replace H := zg H
     obtain ⟨c16, H⟩ := H
     have LMc16 := zk c16
     clear c16
     obtain ⟨yb7, hyb7⟩ : ∃ y_ : List (List Int), y_ = (x7_2 ++ [yb4]) := ⟨_, rfl⟩
     replace H : (r24_sets.l1 k2 a1 a2 yb7 x8_1 ta7 (wrap64 (x10_2 + 1))) = some r := zY hyb7 H
     have Nyb7 := zk hyb7
     clear hyb7
     have H' := zk H
     clear H
     obtain ⟨Ao17, co17, rfl⟩ := Kd.N_slice HO_9.out
     go_wp2_with (first | ((with_reducible refine gate_dst (N := 37) rfl ?_); refine Kd.R_lit (Kd.int .i64) _ 3 ?hg (N := 37) ?hd (xs := ([x8_1] : List Int)) (inner := [.int .i64 x8_1]) (ok := fun _ => True) (okp := fun _ => True) ?hr ?hp (fun _ hk => hk) trivial (Below.refl _ _) (Nat.le_refl _) (by simp) ?_; (case hd => rfl); (case hg => rfl); (case hr => first | (go_simp; done) | (go_simp; rfl)); (case hp => exact (Reps.one (show Kd.M (Kd.int .i64) _ _ _ x8_1 [.int .i64 x8_1] from rfl) (Reps.none _ _))); intro vb1 w18 ho19 hb hg_ hnew_; clear hg_ hnew_; (first | rw [← Nyb0.out] at ho19 | (simp only [Int.reduceToNat] at ho19; rw [← Nyb0.out] at ho19)); replace HO_7 := yNe HO_7 ho19 hb; replace HO_9 := yNe HO_9 ho19 hb; replace ho19 := Kd.R_newM (M := fun k_ => (w.heap.size ≤ k_)) ho19 (below_size (zB HB.out)) (fun k_ h_ => h_); have HOb2 := yRl ho19 HB; replace HB := yS HB hb; clear hb ho19; have pb3 : 0 ≤ (x10_2 : Int) := zd; have qb3 : x10_2 < (ta7.length : Int) := zd; obtain ⟨adb3, Ab3_0, cb3_0, eb3, hxb3_0, hlb3_0, hib3_0⟩ := at_L1 (Kd.N_reads' HO_9.out).2.2 x10_2 pb3 qb3; cases eb3; obtain ⟨ceb3, hceb3, hMeb3, hccb3⟩ := Kd.N_get HO_9.out [] x10_2 pb3 (by first | exact qb3 | exact zd | (have e_ := (Kd.N_reads' HO_9.out).1; omega)); obtain ⟨uab3_0, ucb3_0, rfl, ulb3_0, geb3_0⟩ := Kd.FK_slice_open hMeb3; have hvb3_0 := hccb3 0 _ rfl; rw [Nat.add_zero, show ((Kd.slice 3 (Kd.int .i64))).sz = 1 from rfl, Nat.mul_one] at hvb3_0; replace hvb3_0 := Option.some.inj (hvb3_0.symm.trans hxb3_0); injection hvb3_0 with hva_ hvn_ hvc_; rw [hva_] at geb3_0; rw [hvc_] at ulb3_0; have HLb3_0 := zk (show Kd.V (Kd.int .i64) 3 _ w.heap.size _ _ (rd_L1 ta7 x10_2) from Kd.V_mk ulb3_0 geb3_0); clear hva_ hvn_ hvc_ geb3_0 ulb3_0; clear hccb3 hceb3; have HRb3_0 := zk hib3_0; have HCb3_0 := zk hlb3_0; clear hib3_0 hlb3_0; replace pb3 := eq_true pb3; replace qb3 := eq_true qb3) | ((with_reducible refine gate_builtin (b := .append) (xs := #[.tmp 37, .tmp 41]) rfl ?_); at_builtin; refine Kd.R_append_rows (Kd.int .i64) (w0 := w) w.heap.size rfl (.tmp 37) (.tmp 41) 22 3 (.int .i64 0) 8 rfl Try.underlying22 info3 rfl (by decide) (by omega) vb1 yb0 (rd_L1 ta7 x10_2) _ _ _ (fun k_ => (w.heap.size ≤ k_)) (fun _ => False) rfl rfl ?aO ?aR (fun _ _ h => h) (fun _ h => h.elim) ?aF ?aB ?aS ?aL ?_; (case aR => repeat (first | exact (zCr HRb3_0.out) | (with_reducible refine Kd.C_alloc ?_ _) | (with_reducible refine Kd.C_drewN ?_ _) | (with_reducible refine Kd.C_drew ?_))); (case aB => exact (zB HB.out)); (case aF => exact (fun k_ hk => (Nat.le_trans (below_size (zB HB.out)) hk))); (case aO => exact (by (with_reducible repeat (first | apply Kd.R_alloc | apply Kd.R_drewN | apply Kd.R_drew)); exact Kd.R_mono HOb2.out (fun _ hk => hk.1))); (case aS => exact (below_size (zB HB.out))); (case aL => have := LMc15.out; omega); intro vb5 w20 ho hb hg hat; rw [← Nyb4.out] at ho; replace HO_7 := zk (Kd.N_afterv (ok := (fun k_ => (w.heap.size ≤ k_) ∧ some k_ ≠ (.slice (some adb3) ta7.length co17 : Value).ownBlock)) (zN HO_7.out) hg hat); replace HO_9 := zk (Kd.N_afterv (ok := (fun k_ => (w.heap.size ≤ k_) ∧ some k_ ≠ (u7 : Value).ownBlock)) (zN HO_9.out) hg hat); replace HLb3_0 := zk (Kd.V_afterv (ok := (fun k_ => (w.heap.size ≤ k_) ∧ some k_ ≠ (u7 : Value).ownBlock ∧ some k_ ≠ (.slice (some adb3) ta7.length co17 : Value).ownBlock)) (by (with_reducible repeat (first | apply Kd.V_alloc | apply Kd.V_drewN | apply Kd.V_drew)); exact Kd.V_mono HLb3_0.out (fun _ hk => ⟨⟨hk.1.1.1, ⟨hk.1.1.2, hk.2⟩⟩, hk.1.2⟩)) hg hat); replace HB := zk (hb); have HOb6 := zk (ho); clear HOb2; clear ho hb hg hat; obtain ⟨Ao22, co22, rfl⟩ := Kd.R_slice HOb6.out) | ((with_reducible refine gate_builtin (b := .append) (xs := #[.tmp 35, .tmp 43]) rfl ?_); at_builtin; refine Kd.N_append (Kd.slice 3 (Kd.int .i64)) (w0 := w) w.heap.size rfl (.tmp 35) (.tmp 43) 25 22 (.slice none 0 0) 24 rfl Try.underlying25 info22 rfl (by decide) (by omega) u7 x7_2 yb4 [.slice Ao22 yb4.length co22] (fun k_ => (w.heap.size ≤ k_) ∧ some k_ ≠ (.slice (some adb3) ta7.length co17 : Value).ownBlock) (fun k_ => ((fun k_ => (w.heap.size ≤ k_) ∧ some k_ ≠ (.slice (some adb3) ta7.length co17 : Value).ownBlock)) k_ ∧ some k_ ≠ (u7 : Value).ownBlock) rfl rfl ?aP (fun _ hk => hk) ?aF ?aO ?aB ?aS ?aL ?_; (case aP => exact (Mw.FK_of_R (Kd.R_mono (ok' := (fun k_ => ((fun k_ => (w.heap.size ≤ k_) ∧ some k_ ≠ (.slice (some adb3) ta7.length co17 : Value).ownBlock)) k_ ∧ some k_ ≠ (u7 : Value).ownBlock)) (Kd.R_apart' (Kd.R_apart' (HOb6.out) (Kd.N_typed HO_9.out) (by decide)) (Kd.N_typed HO_7.out) (by decide)) (fun k_ hk => by exact ⟨⟨hk.1.1, hk.1.2⟩, hk.2⟩)))); (case aB => exact (zB HB.out)); (case aF => exact (fun k_ hk => ⟨(Nat.le_trans (below_size (zB HB.out)) hk), Kd.fresh' (Kd.N_lt (zN HO_9.out)) k_ hk⟩)); (case aO => exact (by (with_reducible repeat (first | apply Kd.N_alloc | apply Kd.N_drewN | apply Kd.N_drew)); exact Kd.N_mono HO_7.out (fun _ hk => ⟨hk.1.1, hk.1.2⟩))); (case aS => exact (below_size (zB HB.out))); (case aL => have := LMc16.out; omega); intro vb8 w21 ho hb hg hat; rw [← Nyb7.out] at ho; replace HO_9 := zk (Kd.N_afterv (ok := (fun k_ => (w.heap.size ≤ k_) ∧ some k_ ≠ (.slice Ao22 yb4.length co22 : Value).ownBlock)) (by (with_reducible repeat (first | apply Kd.N_alloc | apply Kd.N_drewN | apply Kd.N_drew)); exact Kd.N_mono HO_9.out (fun _ hk => ⟨⟨hk.1.1, hk.2⟩, hk.1.2⟩)) hg hat); replace HLb3_0 := zk (Kd.V_afterv (ok := (fun k_ => (w.heap.size ≤ k_) ∧ some k_ ≠ (.slice (some adb3) ta7.length co17 : Value).ownBlock ∧ some k_ ≠ (.slice Ao22 yb4.length co22 : Value).ownBlock)) (by (with_reducible repeat (first | apply Kd.V_alloc | apply Kd.V_drewN | apply Kd.V_drew)); exact Kd.V_mono HLb3_0.out (fun _ hk => ⟨⟨hk.1.1, ⟨hk.1.2.2, hk.2⟩⟩, hk.1.2.1⟩)) hg hat); replace HB := zk (hb); have HOb9 := zk (ho); clear HO_7 HOb6; clear ho hb hg hat))
     go_roundg k2
     case measure => have := HK1.out; have := HK2.out; omega
     case rel => exact ⟨(yb7), (wrap64 (x10_2 + 1)), zF, H', ⟨zo2 HK1 HK2⟩, ⟨zN HOb9.out⟩, ⟨by (with_reducible repeat (first | apply Kd.N_alloc | apply Kd.N_drewN | apply Kd.N_drew)); exact Kd.N_mono HO_9.out (fun _ hk => ⟨hk.1.1, hk.2⟩)⟩, ⟨zB HB.out⟩⟩
   have H' := zk H
   clear H
   obtain ⟨Ao23, co23, rfl⟩ := Kd.N_slice HO_9.out
   go_wp2
   go_roundg k2
   case measure => have := HK1.out; have := HK2.out; omega
   case rel => exact ⟨(x7_2), (wrap64 (x8_1 + 1)), zF, H', ⟨zo2 HK1 HK2⟩, ⟨by (with_reducible repeat (first | apply Kd.N_alloc | apply Kd.N_drewN | apply Kd.N_drew)); exact Kd.N_mono HO_7.out (fun _ hk => hk.1)⟩, ⟨zB HB.out⟩⟩
 obtain rfl := Option.some.inj H
 go_wp2
 go_ret
 exact ⟨_, zE, zN HO_7.out, zB HB.out⟩
set_option maxHeartbeats 8000000 in
set_option maxRecDepth 100000 in
theorem r24_Inside.calls (k : Nat) (A0 : Option Addr) (c0 : Nat) (l0 : List Int) (A1 : Option Addr) (c1 : Nat) (l1 : List Int) (r : Bool) (w : World) (hr0 : Kd.C (Kd.int .i64) w A0 l0.length l0) (hc0 : l0.length ≤ c0) (hr1 : Kd.C (Kd.int .i64) w A1 l1.length l1) (hc1 : l1.length ≤ c1) (h : r24_Inside.f k l0 l1 = some r) :
    Calls Try.prog 84 #[.slice A0 l0.length c0, .slice A1 l1.length c1] w fun e w' => e = .returned (.bool r) ∧ Drawn0 w w' := by
 have HR0 := zk hr0
 have HC0 := zk hc0
 clear hr0 hc0
 have HR1 := zk hr1
 have HC1 := zk hc1
 clear hr1 hc1
 have H := h
 clear h
 unfold r24_Inside.f at H
 have H' := zk H
 clear H
 go_enter Try.func84, Try.ntmps84
 go_wp2
 repeat (go_quiet (fail); try go_wp2)
 go_loopg [5] k (fun kq v5 w' => ∃ (x5_1 : Int), v5 = .int .i64 x5_1 ∧ Aside0 (r24_Inside.l0 kq l0 l1 x5_1 = some r) ∧ Aside0 (kq ≤ k) ∧ Drawn0 w w')
 case atStart => exact ⟨(0), zF, H', ⟨Nat.le_refl _⟩, by repeat (first | exact Drawn0.refl _ | apply Drawn0.step)⟩
 clear H'
 obtain ⟨x5_1, rfl, HA, HK1, ⟨m1, rfl⟩⟩ := hrel
 cases gk with | zero => exact absurd HA.out (by simp [r24_Inside.l0]) | succ k1 => ?_
 have H := HA.out
 clear HA
 simp only [r24_Inside.l0] at H
 replace H := zid H
 rcases H with ⟨c3b0, H⟩ | ⟨c3b0, H⟩
 · have H' := zk H
   clear H
   go_wp2
   repeat (go_quiet (fail); try go_wp2)
   go_loopg [6, 7] k1 (fun kq v6 v7 w' => ∃ (x6_2 : Bool) (x7_2 : Int), v6 = .bool x6_2 ∧ v7 = .int .i64 x7_2 ∧ Aside0 (r24_Inside.l1 kq l0 l1 x5_1 x6_2 x7_2 = some r) ∧ Aside0 (kq ≤ k1) ∧ Drawn0 w w')
   case atStart => exact ⟨(false), (0), zF, zF, H', ⟨Nat.le_refl _⟩, by repeat (first | exact Drawn0.refl _ | apply Drawn0.step)⟩
   clear H'
   (try clear c3b0)
   obtain ⟨x6_2, x7_2, rfl, rfl, HA, HK2, ⟨m2, rfl⟩⟩ := hrel
   cases gk with | zero => exact absurd HA.out (by simp [r24_Inside.l1]) | succ k2 => ?_
   have H := HA.out
   clear HA
   simp only [r24_Inside.l1] at H
   replace H := zid H
   rcases H with ⟨c4b0, H⟩ | ⟨c4b0, H⟩
   · by_cases c5 : x6_2 = true
     · subst c5
       rw [if_pos rfl] at H
       have H' := zk H
       clear H
       go_wp2
       repeat (go_quiet (fail); try go_wp2)
       go_roundg k2
       case measure => have := HK1.out; have := HK2.out; omega
       case rel => exact ⟨(true), (wrap64 (x7_2 + 1)), zF, zF, H', ⟨zo2 HK1 HK2⟩, by repeat (first | exact Drawn0.refl _ | apply Drawn0.step)⟩
     replace c5 := Bool.eq_false_iff.mpr c5
     subst c5
     rw [if_neg Bool.false_ne_true] at H
     replace H := zgd H
     obtain ⟨c6b0, H⟩ := H
     replace H := zgd H
     obtain ⟨c7b0, H⟩ := H
     replace H := zgd H
     obtain ⟨c8b0, H⟩ := H
     have H' := zk H
     clear H
     have pa1 : 0 ≤ (x7_2 : Int) := zd
     have qa1 : x7_2 < (l1.length : Int) := zd
     obtain ⟨ada1, ea1, hxa1_0⟩ := Kd.at_int HR1.out x7_2 pa1 qa1
     cases ea1
     replace pa1 := eq_true pa1
     replace qa1 := eq_true qa1
     have pa2 : 0 ≤ (x5_1 : Int) := zd
     have qa2 : x5_1 < (l0.length : Int) := zd
     obtain ⟨ada2, ea2, hxa2_0⟩ := Kd.at_int HR0.out x5_1 pa2 qa2
     cases ea2
     replace pa2 := eq_true pa2
     replace qa2 := eq_true qa2
     go_wp2
     repeat (go_quiet (fail); try go_wp2)
     go_roundg k2
     case measure => have := HK1.out; have := HK2.out; omega
     case rel => exact ⟨(((rd l1 x7_2) == (rd l0 x5_1))), (wrap64 (x7_2 + 1)), zF, zF, H', ⟨zo2 HK1 HK2⟩, by repeat (first | exact Drawn0.refl _ | apply Drawn0.step)⟩
   by_cases c9 : x6_2 = true
   · subst c9
     rw [if_pos rfl] at H
     have H' := zk H
     clear H
     go_wp2
     repeat (go_quiet (fail); try go_wp2)
     go_roundg k2
     case measure => have := HK1.out; have := HK2.out; omega
     case rel => exact ⟨(wrap64 (x5_1 + 1)), zF, H', ⟨zo2 HK1 HK2⟩, by repeat (first | exact Drawn0.refl _ | apply Drawn0.step)⟩
   replace c9 := Bool.eq_false_iff.mpr c9
   subst c9
   rw [if_neg Bool.false_ne_true] at H
   obtain rfl := Option.some.inj H
   go_wp2
   repeat (go_quiet (fail); try go_wp2)
   go_ret
   exact ⟨zF, by repeat (first | exact Drawn0.refl _ | apply Drawn0.step)⟩
 obtain rfl := Option.some.inj H
 go_wp2
 repeat (go_quiet (fail); try go_wp2)
 go_ret
 exact ⟨zF, by repeat (first | exact Drawn0.refl _ | apply Drawn0.step)⟩
set_option maxHeartbeats 8000000 in
set_option maxRecDepth 100000 in
theorem r24_Design.calls (k : Nat) (a0 : Int) (A1 : Option Addr) (c1 : Nat) (l1 : List (List Int)) (a2 : Int) (r1 : Int) (r2 : Int) (w : World) (hr1 : Kd.C (Kd.slice 3 (Kd.int .i64)) w A1 l1.length l1) (hc1 : l1.length ≤ c1) (h : r24_Design.f k a0 l1 a2 = some (r1, r2)) :
    Calls Try.prog 31 #[.int .i64 a0, .slice A1 l1.length c1, .int .i64 a2] w fun e w' => e = .returned (.tuple #[.int .i64 r1, .int .i64 r2]) ∧ Below w.heap.size w w' := by
 have HR1 := zk hr1
 have HC1 := zk hc1
 clear hr1 hc1
 have HB := zk (Below.refl w.heap.size w)
 have H := h
 clear h
 unfold r24_Design.f at H
 have HC4 := zk H
 clear H
 go_enter Try.func31, Try.ntmps31
 go_upto_region 1 with (fail)
 repeat (go_quiet (fail); go_upto_region 1 with (fail))
 go_cut [19] (fun v19 wc => ∃ (kq : Nat) (x19_3 : Bool), v19 = .bool x19_3 ∧ Aside0 (r24_Design.j0 kq a0 l1 a2 x19_3 = some (r1, r2)) ∧ Aside0 (kq ≤ k) ∧ Aside0 (Below w.heap.size w wc))
 case first =>
  have H := HC4.out
  clear HC4
  replace H := zid H
  rcases H with ⟨c5b0, H⟩ | ⟨c5b0, H⟩
  · (first | rw [c5b0] | (simp only [i64_w, i32_w]; rw [c5b0]) | rw [c5b1] | skip)
    have H' := zk H
    clear H
    go_wp2
    repeat (go_quiet (fail); try go_wp2)
    go_meet
    case rel => exact ⟨_, (true), zF, H', ⟨zO⟩, ⟨zB HB.out⟩⟩
  (first | rw [c5b0] | (simp only [i64_w, i32_w]; rw [c5b0]) | rw [c5b1] | skip)
  have H' := zk H
  clear H
  go_wp2
  repeat (go_quiet (fail); try go_wp2)
  go_meet
  case rel => exact ⟨_, (decide (a0 > 64)), zF, H', ⟨zO⟩, ⟨zB HB.out⟩⟩
 clear HC4
 (try clear c5b0)
 obtain ⟨kq, x19_3, rfl, HA, HJ3, HB⟩ := hcut
 cases kq with | zero => exact absurd HA.out (by simp [r24_Design.j0]) | succ kj3 => ?_
 have H := HA.out
 clear HA
 simp only [r24_Design.j0] at H
 by_cases c6 : x19_3 = true
 · subst c6
   rw [if_pos rfl] at H
   simp only [Option.some.injEq, Prod.mk.injEq] at H
   obtain ⟨rfl, rfl⟩ := H
   go_wp2
   repeat (go_quiet (fail); try go_wp2)
   go_ret2
   exact ⟨zE, zB HB.out⟩
 replace c6 := Bool.eq_false_iff.mpr c6
 subst c6
 rw [if_neg Bool.false_ne_true] at H
 have H' := zk H
 clear H
 go_wp2
 repeat (go_quiet (fail); try go_wp2)
 go_loopg [8] kj3 (fun kq v8 w' => ∃ (x8_2 : Int), v8 = .int .i64 x8_2 ∧ Aside0 (r24_Design.l0 kq a0 l1 a2 x8_2 = some (r1, r2)) ∧ Aside0 (kq ≤ kj3) ∧ Aside0 (Below w.heap.size w w'))
 case atStart => exact ⟨(0), zF, H', ⟨Nat.le_refl _⟩, ⟨zB HB.out⟩⟩
 clear H'
 (try clear c5b0);(try clear c6)
 obtain ⟨x8_2, rfl, HA, HK2, HB⟩ := hrel
 cases gk with | zero => exact absurd HA.out (by simp [r24_Design.l0]) | succ k2 => ?_
 have H := HA.out
 clear HA
 simp only [r24_Design.l0] at H
 replace H := zid H
 rcases H with ⟨c7b0, H⟩ | ⟨c7b0, H⟩
 · replace H := zgd H
   obtain ⟨c8b0, H⟩ := H
   replace H := zb H
   obtain ⟨ta2, A9, H⟩ := H
   by_cases c10 : ta2 = true
   · subst c10
     rw [if_pos rfl] at H
     have H' := zk H
     clear H
     have pa1 : 0 ≤ (x8_2 : Int) := zd
     have qa1 : x8_2 < (l1.length : Int) := zd
     obtain ⟨ada1, Aa1_0, ca1_0, ea1, hxa1_0, hla1_0, hia1_0⟩ := at_L1 HR1.out x8_2 pa1 qa1
     cases ea1
     replace hxa1_0 := (HB.out.cell (World.block_lt_of_cell? w _ hxa1_0)).trans hxa1_0
     have HRa1_0 := zk hia1_0
     have HCa1_0 := zk hla1_0
     clear hia1_0 hla1_0
     replace pa1 := eq_true pa1
     replace qa1 := eq_true qa1
     go_wp2_with (first | (go_at_call 32; (with_reducible refine (r24_Block.calls k2 a0 _ _ (rd_L1 l1 x8_2) true _ ?side1 ?side2 A9.out).mono ?_); (case side1 => exact zC (Kd.C_below HRa1_0.out HB.out)); (case side2 => exact HCa1_0.out); rintro e w' ⟨rfl, ⟨nd, rfl⟩⟩; (try first | exact ⟨rfl, _, World.drewN_drewN _ _ _⟩ | exact ⟨rfl, _, Eq.trans (World.drewN_drewN _ _ _) (congrArg (World.drewN _) (Nat.add_assoc _ _ _))⟩)))
     repeat (go_quiet (first | (go_at_call 32; (with_reducible refine (r24_Block.calls k2 a0 _ _ (rd_L1 l1 x8_2) true _ ?side1 ?side2 A9.out).mono ?_); (case side1 => exact zC (Kd.C_below HRa1_0.out HB.out)); (case side2 => exact HCa1_0.out); rintro e w' ⟨rfl, ⟨nd, rfl⟩⟩; (try first | exact ⟨rfl, _, World.drewN_drewN _ _ _⟩ | exact ⟨rfl, _, Eq.trans (World.drewN_drewN _ _ _) (congrArg (World.drewN _) (Nat.add_assoc _ _ _))⟩))); try go_wp2_with (first | (go_at_call 32; (with_reducible refine (r24_Block.calls k2 a0 _ _ (rd_L1 l1 x8_2) true _ ?side1 ?side2 A9.out).mono ?_); (case side1 => exact zC (Kd.C_below HRa1_0.out HB.out)); (case side2 => exact HCa1_0.out); rintro e w' ⟨rfl, ⟨nd, rfl⟩⟩; (try first | exact ⟨rfl, _, World.drewN_drewN _ _ _⟩ | exact ⟨rfl, _, Eq.trans (World.drewN_drewN _ _ _) (congrArg (World.drewN _) (Nat.add_assoc _ _ _))⟩))))
     go_roundg k2
     case measure => have := HJ3.out; have := HK2.out; omega
     case rel => exact ⟨(wrap64 (x8_2 + 1)), zF, H', ⟨zo2 HJ3 HK2⟩, ⟨zB HB.out⟩⟩
   replace c10 := Bool.eq_false_iff.mpr c10
   subst c10
   rw [if_neg Bool.false_ne_true] at H
   simp only [Option.some.injEq, Prod.mk.injEq] at H
   obtain ⟨rfl, rfl⟩ := H
   have pa1 : 0 ≤ (x8_2 : Int) := zd
   have qa1 : x8_2 < (l1.length : Int) := zd
   obtain ⟨ada1, Aa1_0, ca1_0, ea1, hxa1_0, hla1_0, hia1_0⟩ := at_L1 HR1.out x8_2 pa1 qa1
   cases ea1
   replace hxa1_0 := (HB.out.cell (World.block_lt_of_cell? w _ hxa1_0)).trans hxa1_0
   have HRa1_0 := zk hia1_0
   have HCa1_0 := zk hla1_0
   clear hia1_0 hla1_0
   replace pa1 := eq_true pa1
   replace qa1 := eq_true qa1
   go_wp2_with (first | (go_at_call 32; (with_reducible refine (r24_Block.calls k2 a0 _ _ (rd_L1 l1 x8_2) false _ ?side1 ?side2 A9.out).mono ?_); (case side1 => exact zC (Kd.C_below HRa1_0.out HB.out)); (case side2 => exact HCa1_0.out); rintro e w' ⟨rfl, ⟨nd, rfl⟩⟩; (try first | exact ⟨rfl, _, World.drewN_drewN _ _ _⟩ | exact ⟨rfl, _, Eq.trans (World.drewN_drewN _ _ _) (congrArg (World.drewN _) (Nat.add_assoc _ _ _))⟩)))
   repeat (go_quiet (first | (go_at_call 32; (with_reducible refine (r24_Block.calls k2 a0 _ _ (rd_L1 l1 x8_2) false _ ?side1 ?side2 A9.out).mono ?_); (case side1 => exact zC (Kd.C_below HRa1_0.out HB.out)); (case side2 => exact HCa1_0.out); rintro e w' ⟨rfl, ⟨nd, rfl⟩⟩; (try first | exact ⟨rfl, _, World.drewN_drewN _ _ _⟩ | exact ⟨rfl, _, Eq.trans (World.drewN_drewN _ _ _) (congrArg (World.drewN _) (Nat.add_assoc _ _ _))⟩))); try go_wp2_with (first | (go_at_call 32; (with_reducible refine (r24_Block.calls k2 a0 _ _ (rd_L1 l1 x8_2) false _ ?side1 ?side2 A9.out).mono ?_); (case side1 => exact zC (Kd.C_below HRa1_0.out HB.out)); (case side2 => exact HCa1_0.out); rintro e w' ⟨rfl, ⟨nd, rfl⟩⟩; (try first | exact ⟨rfl, _, World.drewN_drewN _ _ _⟩ | exact ⟨rfl, _, Eq.trans (World.drewN_drewN _ _ _) (congrArg (World.drewN _) (Nat.add_assoc _ _ _))⟩))))
   go_ret2
   exact ⟨zE, zB HB.out⟩
 have HC11 := zk H
 clear H
 go_upto_region 8 with (fail)
 repeat (go_quiet (fail); go_upto_region 8 with (fail))
 go_cut [39] (fun v39 wc => ∃ (kq : Nat) (x39_10 : Bool), v39 = .bool x39_10 ∧ Aside0 (r24_Design.j2 kq a0 l1 a2 x39_10 = some (r1, r2)) ∧ Aside0 (kq ≤ k2) ∧ Aside0 (Below w.heap.size w wc))
 case first =>
  have H := HC11.out
  clear HC11
  replace H := zid H
  rcases H with ⟨c12b0, H⟩ | ⟨c12b0, H⟩
  · (first | rw [c12b0] | (simp only [i64_w, i32_w]; rw [c12b0]) | rw [c12b1] | skip)
    have H' := zk H
    clear H
    go_wp2
    repeat (go_quiet (fail); try go_wp2)
    go_meet
    case rel => exact ⟨_, (true), zF, H', ⟨by have := HJ3.out; have := HK2.out; first | omega | exact Nat.le_refl _⟩, ⟨zB HB.out⟩⟩
  (first | rw [c12b0] | (simp only [i64_w, i32_w]; rw [c12b0]) | rw [c12b1] | skip)
  have H' := zk H
  clear H
  go_wp2
  repeat (go_quiet (fail); try go_wp2)
  go_meet
  case rel => exact ⟨_, (decide (a2 > a0)), zF, H', ⟨by have := HJ3.out; have := HK2.out; first | omega | exact Nat.le_refl _⟩, ⟨zB HB.out⟩⟩
 clear HC11
 (try clear c5b0);(try clear c6);(try clear c7b0);(try clear c8b0);(try clear c10);(try clear c12b0);(try clear hxa1_0);(try clear pa1);(try clear qa1)
 obtain ⟨kq, x39_10, rfl, HA, HJ10, HB⟩ := hcut
 cases kq with | zero => exact absurd HA.out (by simp [r24_Design.j2]) | succ kj10 => ?_
 have H := HA.out
 clear HA
 simp only [r24_Design.j2] at H
 by_cases c13 : x39_10 = true
 · subst c13
   rw [if_pos rfl] at H
   simp only [Option.some.injEq, Prod.mk.injEq] at H
   obtain ⟨rfl, rfl⟩ := H
   go_wp2
   repeat (go_quiet (fail); try go_wp2)
   go_ret2
   exact ⟨zE, zB HB.out⟩
 replace c13 := Bool.eq_false_iff.mpr c13
 subst c13
 rw [if_neg Bool.false_ne_true] at H
 replace H := zb H
 obtain ⟨ta3, A14, H⟩ := H
 by_cases c15 : ta3 = true
 · subst c15
   rw [if_pos rfl] at H
   simp only [Option.some.injEq, Prod.mk.injEq] at H
   obtain ⟨rfl, rfl⟩ := H
   go_wp2_with (first | (go_at_call 29; (with_reducible refine (r24_Many.calls kj10 a0 a2 true _ A14.out).mono ?_); rintro e w16 ⟨rfl, hb⟩; replace HB := yS HB hb; (try clear hb); (try clear hb2); (try clear hk); (try clear hi)))
   repeat (go_quiet (first | (go_at_call 29; (with_reducible refine (r24_Many.calls kj10 a0 a2 true _ A14.out).mono ?_); rintro e w16 ⟨rfl, hb⟩; replace HB := yS HB hb; (try clear hb); (try clear hb2); (try clear hk); (try clear hi))); try go_wp2_with (first | (go_at_call 29; (with_reducible refine (r24_Many.calls kj10 a0 a2 true _ A14.out).mono ?_); rintro e w16 ⟨rfl, hb⟩; have n0_ := yS HB hb; clear HB; have HB := n0_; clear n0_; (try clear hb); (try clear hb2); (try clear hk); (try clear hi))))
   go_ret2
   exact ⟨zE, zB HB.out⟩
 replace c15 := Bool.eq_false_iff.mpr c15
 subst c15
 rw [if_neg Bool.false_ne_true] at H
 replace H := zb H
 obtain ⟨ta4, A17, H⟩ := H
 have H' := zk H
 clear H
 go_wp2_with (first | (go_at_call 29; (with_reducible refine (r24_Many.calls kj10 a0 a2 false _ A14.out).mono ?_); rintro e w18 ⟨rfl, hb⟩; replace HB := yS HB hb; (try clear hb); (try clear hb2); (try clear hk); (try clear hi)) | (go_at_call 83; (with_reducible refine (r24_sets.calls kj10 0 a0 a2 ta4 _ A17.out).mono ?_); rintro e w19 ⟨va5, rfl, ho0, hb⟩; have HOa6 := zk (Kd.N_lower (Kd.N_mono (ok' := fun k_ => True) ho0 (fun k_ hk_ => trivial)) (below_size (zB HB.out))); replace HB := yS HB hb; (try clear hb ho0)))
 repeat (go_quiet (first | (go_at_call 29; (with_reducible refine (r24_Many.calls kj10 a0 a2 false _ A14.out).mono ?_); rintro e w18 ⟨rfl, hb⟩; replace HB := yS HB hb; (try clear hb); (try clear hb2); (try clear hk); (try clear hi)) | (go_at_call 83; (with_reducible refine (r24_sets.calls kj10 0 a0 a2 ta4 _ A17.out).mono ?_); rintro e w19 ⟨va5, rfl, ho0, hb⟩; have HOa6 := zk (Kd.N_lower (Kd.N_mono (ok' := fun k_ => True) ho0 (fun k_ hk_ => trivial)) (below_size (zB HB.out))); replace HB := yS HB hb; (try clear hb ho0))); try go_wp2_with (first | (go_at_call 29; (with_reducible refine (r24_Many.calls kj10 a0 a2 false _ A14.out).mono ?_); rintro e w18 ⟨rfl, hb⟩; have n0_ := yS HB hb; clear HB; have HB := n0_; clear n0_; (try clear hb); (try clear hb2); (try clear hk); (try clear hi)) | (go_at_call 83; (with_reducible refine (r24_sets.calls kj10 0 a0 a2 ta4 _ A17.out).mono ?_); rintro e w19 ⟨va5, rfl, ho0, hb⟩; have n0_ := zk (Kd.N_lower (Kd.N_mono (ok' := fun k_ => True) ho0 (fun k_ hk_ => trivial)) (below_size (zB HB.out))); have n1_ := yS HB hb; clear HB; have HOa6 := n0_; have HB := n1_; clear n0_ n1_; (try clear hb); (try clear hb2); (try clear hk); (try clear hi); (try clear ho0))))
 go_loopg [10, 11] kj10 (fun kq v10 v11 w' => ∃ (x10_4 : Int) (x11_4 : Int), v10 = .int .i64 x10_4 ∧ v11 = .int .i64 x11_4 ∧ Aside0 (r24_Design.l1 kq l1 ta4 x10_4 x11_4 = some (r1, r2)) ∧ Aside0 (kq ≤ kj10) ∧ Aside0 (Kd.N (Kd.slice 3 (Kd.int .i64)) 22 w' w.heap.size (fun _ => True) va5 ta4) ∧ Aside0 (Below w.heap.size w w'))
 case atStart => exact ⟨((-1)), (0), zF, zF, H', ⟨Nat.le_refl _⟩, ⟨zN HOa6.out⟩, ⟨zB HB.out⟩⟩
 clear H'
 (try clear c5b0);(try clear c6);(try clear c7b0);(try clear c8b0);(try clear c10);(try clear c12b0);(try clear c13);(try clear c15);(try clear hxa1_0);(try clear pa1);(try clear qa1)
 obtain ⟨x10_4, x11_4, rfl, rfl, HA, HK4, HO_9, HB⟩ := hrel
 cases gk with | zero => exact absurd HA.out (by simp [r24_Design.l1]) | succ k4 => ?_
 have H := HA.out
 clear HA
 simp only [r24_Design.l1] at H
 replace H := zid H
 rcases H with ⟨c20b0, H⟩ | ⟨c20b0, H⟩
 · have H' := zk H
   clear H
   obtain ⟨Ao21, co21, rfl⟩ := Kd.N_slice HO_9.out
   go_wp2
   repeat (go_quiet (fail); try go_wp2)
   go_loopg [12, 13] k4 (fun kq v12 v13 w' => ∃ (x12_5 : Int) (x13_5 : Int), v12 = .int .i64 x12_5 ∧ v13 = .int .i64 x13_5 ∧ Aside0 (r24_Design.l2 kq l1 ta4 x10_4 x11_4 x12_5 x13_5 = some (r1, r2)) ∧ Aside0 (kq ≤ k4) ∧ Aside0 (Kd.N (Kd.slice 3 (Kd.int .i64)) 22 w' w.heap.size (fun _ => True) (.slice Ao21 ta4.length co21) ta4) ∧ Aside0 (Below w.heap.size w w'))
   case atStart => exact ⟨(0), (0), zF, zF, H', ⟨Nat.le_refl _⟩, ⟨zN HO_9.out⟩, ⟨zB HB.out⟩⟩
   clear H'
   (try clear c5b0);(try clear c6);(try clear c7b0);(try clear c8b0);(try clear c10);(try clear c12b0);(try clear c13);(try clear c15);(try clear c20b0);(try clear hxa1_0);(try clear pa1);(try clear qa1)
   obtain ⟨x12_5, x13_5, rfl, rfl, HA, HK5, HO_9, HB⟩ := hrel
   cases gk with | zero => exact absurd HA.out (by simp [r24_Design.l2]) | succ k5 => ?_
   have H := HA.out
   clear HA
   simp only [r24_Design.l2] at H
   replace H := zid H
   rcases H with ⟨c22b0, H⟩ | ⟨c22b0, H⟩
   · replace H := zgd H
     obtain ⟨c23b0, H⟩ := H
     replace H := zgd H
     obtain ⟨c24b0, H⟩ := H
     replace H := zgd H
     obtain ⟨c25b0, H⟩ := H
     replace H := zb H
     obtain ⟨ta9, A26, H⟩ := H
     by_cases c27 : ta9 = true
     · subst c27
       rw [if_pos rfl] at H
       have H' := zk H
       clear H
       have pa7 : 0 ≤ (x11_4 : Int) := zd
       have qa7 : x11_4 < (ta4.length : Int) := zd
       obtain ⟨ada7, Aa7_0, ca7_0, ea7, hxa7_0, hla7_0, hia7_0⟩ := at_L1 (Kd.N_reads' HO_9.out).2.2 x11_4 pa7 qa7
       cases ea7
       obtain ⟨cea7, hcea7, hMea7, hcca7⟩ := Kd.N_get HO_9.out [] x11_4 pa7 (by first | exact qa7 | exact zd | (have e_ := (Kd.N_reads' HO_9.out).1; omega))
       obtain ⟨uaa7_0, uca7_0, rfl, ula7_0, gea7_0⟩ := Kd.FK_slice_open hMea7
       have hva7_0 := hcca7 0 _ rfl
       rw [Nat.add_zero, show ((Kd.slice 3 (Kd.int .i64))).sz = 1 from rfl, Nat.mul_one] at hva7_0
       replace hva7_0 := Option.some.inj (hva7_0.symm.trans hxa7_0)
       injection hva7_0 with hva_ hvn_ hvc_
       rw [hva_] at gea7_0
       rw [hvc_] at ula7_0
       have HLa7_0 := zk (show Kd.V (Kd.int .i64) 3 _ w.heap.size _ _ (rd_L1 ta4 x11_4) from Kd.V_mk ula7_0 gea7_0)
       clear hva_ hvn_ hvc_ gea7_0 ula7_0
       clear hcca7 hcea7
       have HRa7_0 := zk hia7_0
       have HCa7_0 := zk hla7_0
       clear hia7_0 hla7_0
       replace pa7 := eq_true pa7
       replace qa7 := eq_true qa7
       have pa8 : 0 ≤ (x13_5 : Int) := zd
       have qa8 : x13_5 < (l1.length : Int) := zd
       obtain ⟨ada8, Aa8_0, ca8_0, ea8, hxa8_0, hla8_0, hia8_0⟩ := at_L1 HR1.out x13_5 pa8 qa8
       cases ea8
       replace hxa8_0 := (HB.out.cell (World.block_lt_of_cell? w _ hxa8_0)).trans hxa8_0
       have HRa8_0 := zk hia8_0
       have HCa8_0 := zk hla8_0
       clear hia8_0 hla8_0
       replace pa8 := eq_true pa8
       replace qa8 := eq_true qa8
       go_wp2_with (first | (go_at_call 84; (with_reducible refine (r24_Inside.calls k5 _ _ (rd_L1 ta4 x11_4) _ _ (rd_L1 l1 x13_5) true _ ?side1 ?side2 ?side3 ?side4 A26.out).mono ?_); (case side1 => repeat (first | exact (zCr HRa7_0.out) | (with_reducible refine Kd.C_alloc ?_ _) | (with_reducible refine Kd.C_drewN ?_ _) | (with_reducible refine Kd.C_drew ?_))); (case side2 => exact HCa7_0.out); (case side3 => exact zC (Kd.C_below HRa8_0.out HB.out)); (case side4 => exact HCa8_0.out); rintro e w' ⟨rfl, ⟨nd, rfl⟩⟩; (try first | exact ⟨rfl, _, World.drewN_drewN _ _ _⟩ | exact ⟨rfl, _, Eq.trans (World.drewN_drewN _ _ _) (congrArg (World.drewN _) (Nat.add_assoc _ _ _))⟩)))
       repeat (go_quiet (first | (go_at_call 84; (with_reducible refine (r24_Inside.calls k5 _ _ (rd_L1 ta4 x11_4) _ _ (rd_L1 l1 x13_5) true _ ?side1 ?side2 ?side3 ?side4 A26.out).mono ?_); (case side1 => repeat (first | exact (zCr HRa7_0.out) | (with_reducible refine Kd.C_alloc ?_ _) | (with_reducible refine Kd.C_drewN ?_ _) | (with_reducible refine Kd.C_drew ?_))); (case side2 => exact HCa7_0.out); (case side3 => exact zC (Kd.C_below HRa8_0.out HB.out)); (case side4 => exact HCa8_0.out); rintro e w' ⟨rfl, ⟨nd, rfl⟩⟩; (try first | exact ⟨rfl, _, World.drewN_drewN _ _ _⟩ | exact ⟨rfl, _, Eq.trans (World.drewN_drewN _ _ _) (congrArg (World.drewN _) (Nat.add_assoc _ _ _))⟩))); try go_wp2_with (first | (go_at_call 84; (with_reducible refine (r24_Inside.calls k5 _ _ (rd_L1 ta4 x11_4) _ _ (rd_L1 l1 x13_5) true _ ?side1 ?side2 ?side3 ?side4 A26.out).mono ?_); (case side1 => repeat (first | exact (zCr HRa7_0.out) | (with_reducible refine Kd.C_alloc ?_ _) | (with_reducible refine Kd.C_drewN ?_ _) | (with_reducible refine Kd.C_drew ?_))); (case side2 => exact HCa7_0.out); (case side3 => exact zC (Kd.C_below HRa8_0.out HB.out)); (case side4 => exact HCa8_0.out); rintro e w' ⟨rfl, ⟨nd, rfl⟩⟩; (try first | exact ⟨rfl, _, World.drewN_drewN _ _ _⟩ | exact ⟨rfl, _, Eq.trans (World.drewN_drewN _ _ _) (congrArg (World.drewN _) (Nat.add_assoc _ _ _))⟩))))
       go_roundg k5
       case measure => have := HJ3.out; have := HK2.out; have := HJ10.out; have := HK4.out; have := HK5.out; omega
       case rel => exact ⟨(wrap64 (x12_5 + 1)), (wrap64 (x13_5 + 1)), zF, zF, H', ⟨by have := HJ3.out; have := HK2.out; have := HJ10.out; have := HK4.out; have := HK5.out; omega⟩, ⟨zN HO_9.out⟩, ⟨zB HB.out⟩⟩
     replace c27 := Bool.eq_false_iff.mpr c27
     subst c27
     rw [if_neg Bool.false_ne_true] at H
     have H' := zk H
     clear H
     have pa7 : 0 ≤ (x11_4 : Int) := zd
     have qa7 : x11_4 < (ta4.length : Int) := zd
     obtain ⟨ada7, Aa7_0, ca7_0, ea7, hxa7_0, hla7_0, hia7_0⟩ := at_L1 (Kd.N_reads' HO_9.out).2.2 x11_4 pa7 qa7
     cases ea7
     obtain ⟨cea7, hcea7, hMea7, hcca7⟩ := Kd.N_get HO_9.out [] x11_4 pa7 (by first | exact qa7 | exact zd | (have e_ := (Kd.N_reads' HO_9.out).1; omega))
     obtain ⟨uaa7_0, uca7_0, rfl, ula7_0, gea7_0⟩ := Kd.FK_slice_open hMea7
     have hva7_0 := hcca7 0 _ rfl
     rw [Nat.add_zero, show ((Kd.slice 3 (Kd.int .i64))).sz = 1 from rfl, Nat.mul_one] at hva7_0
     replace hva7_0 := Option.some.inj (hva7_0.symm.trans hxa7_0)
     injection hva7_0 with hva_ hvn_ hvc_
     rw [hva_] at gea7_0
     rw [hvc_] at ula7_0
     have HLa7_0 := zk (show Kd.V (Kd.int .i64) 3 _ w.heap.size _ _ (rd_L1 ta4 x11_4) from Kd.V_mk ula7_0 gea7_0)
     clear hva_ hvn_ hvc_ gea7_0 ula7_0
     clear hcca7 hcea7
     have HRa7_0 := zk hia7_0
     have HCa7_0 := zk hla7_0
     clear hia7_0 hla7_0
     replace pa7 := eq_true pa7
     replace qa7 := eq_true qa7
     have pa8 : 0 ≤ (x13_5 : Int) := zd
     have qa8 : x13_5 < (l1.length : Int) := zd
     obtain ⟨ada8, Aa8_0, ca8_0, ea8, hxa8_0, hla8_0, hia8_0⟩ := at_L1 HR1.out x13_5 pa8 qa8
     cases ea8
     replace hxa8_0 := (HB.out.cell (World.block_lt_of_cell? w _ hxa8_0)).trans hxa8_0
     have HRa8_0 := zk hia8_0
     have HCa8_0 := zk hla8_0
     clear hia8_0 hla8_0
     replace pa8 := eq_true pa8
     replace qa8 := eq_true qa8
     go_wp2_with (first | (go_at_call 84; (with_reducible refine (r24_Inside.calls k5 _ _ (rd_L1 ta4 x11_4) _ _ (rd_L1 l1 x13_5) false _ ?side1 ?side2 ?side3 ?side4 A26.out).mono ?_); (case side1 => repeat (first | exact (zCr HRa7_0.out) | (with_reducible refine Kd.C_alloc ?_ _) | (with_reducible refine Kd.C_drewN ?_ _) | (with_reducible refine Kd.C_drew ?_))); (case side2 => exact HCa7_0.out); (case side3 => exact zC (Kd.C_below HRa8_0.out HB.out)); (case side4 => exact HCa8_0.out); rintro e w' ⟨rfl, ⟨nd, rfl⟩⟩; (try first | exact ⟨rfl, _, World.drewN_drewN _ _ _⟩ | exact ⟨rfl, _, Eq.trans (World.drewN_drewN _ _ _) (congrArg (World.drewN _) (Nat.add_assoc _ _ _))⟩)))
     repeat (go_quiet (first | (go_at_call 84; (with_reducible refine (r24_Inside.calls k5 _ _ (rd_L1 ta4 x11_4) _ _ (rd_L1 l1 x13_5) false _ ?side1 ?side2 ?side3 ?side4 A26.out).mono ?_); (case side1 => repeat (first | exact (zCr HRa7_0.out) | (with_reducible refine Kd.C_alloc ?_ _) | (with_reducible refine Kd.C_drewN ?_ _) | (with_reducible refine Kd.C_drew ?_))); (case side2 => exact HCa7_0.out); (case side3 => exact zC (Kd.C_below HRa8_0.out HB.out)); (case side4 => exact HCa8_0.out); rintro e w' ⟨rfl, ⟨nd, rfl⟩⟩; (try first | exact ⟨rfl, _, World.drewN_drewN _ _ _⟩ | exact ⟨rfl, _, Eq.trans (World.drewN_drewN _ _ _) (congrArg (World.drewN _) (Nat.add_assoc _ _ _))⟩))); try go_wp2_with (first | (go_at_call 84; (with_reducible refine (r24_Inside.calls k5 _ _ (rd_L1 ta4 x11_4) _ _ (rd_L1 l1 x13_5) false _ ?side1 ?side2 ?side3 ?side4 A26.out).mono ?_); (case side1 => repeat (first | exact (zCr HRa7_0.out) | (with_reducible refine Kd.C_alloc ?_ _) | (with_reducible refine Kd.C_drewN ?_ _) | (with_reducible refine Kd.C_drew ?_))); (case side2 => exact HCa7_0.out); (case side3 => exact zC (Kd.C_below HRa8_0.out HB.out)); (case side4 => exact HCa8_0.out); rintro e w' ⟨rfl, ⟨nd, rfl⟩⟩; (try first | exact ⟨rfl, _, World.drewN_drewN _ _ _⟩ | exact ⟨rfl, _, Eq.trans (World.drewN_drewN _ _ _) (congrArg (World.drewN _) (Nat.add_assoc _ _ _))⟩))))
     go_roundg k5
     case measure => have := HJ3.out; have := HK2.out; have := HJ10.out; have := HK4.out; have := HK5.out; omega
     case rel => exact ⟨(x12_5), (wrap64 (x13_5 + 1)), zF, zF, H', ⟨by have := HJ3.out; have := HK2.out; have := HJ10.out; have := HK4.out; have := HK5.out; omega⟩, ⟨zN HO_9.out⟩, ⟨zB HB.out⟩⟩
   replace H := zi H
   rcases H with ⟨c28, H⟩ | ⟨c28, H⟩
   · have c28b0 : decide (0 ≤ x10_4) = true := decide_eq_true c28
     clear c28
     replace H := zi H
     rcases H with ⟨c29, H⟩ | ⟨c29, H⟩
     · have c29b0 := beq_iff_eq.mpr c29
       have c29b1 := bne_eq_false_iff_eq.mpr c29
       clear c29
       have H' := zk H
       clear H
       go_wp2
       repeat (go_quiet (fail); try go_wp2)
       go_roundg k5
       case measure => have := HJ3.out; have := HK2.out; have := HJ10.out; have := HK4.out; have := HK5.out; omega
       case rel => exact ⟨(x12_5), (wrap64 (x11_4 + 1)), zF, zF, H', ⟨by have := HJ3.out; have := HK2.out; have := HJ10.out; have := HK4.out; have := HK5.out; omega⟩, ⟨zN HO_9.out⟩, ⟨zB HB.out⟩⟩
     have c29b0 := beq_eq_false_iff_ne.mpr c29
     have c29b1 := bne_iff_ne.mpr c29
     simp only [Option.some.injEq, Prod.mk.injEq] at H
     obtain ⟨rfl, rfl⟩ := H
     go_wp2
     repeat (go_quiet (fail); try go_wp2)
     go_ret2
     exact ⟨zE, zB HB.out⟩
   have c28b0 : decide (0 ≤ x10_4) = false := decide_eq_false c28
   clear c28
   have H' := zk H
   clear H
   go_wp2
   repeat (go_quiet (fail); try go_wp2)
   go_roundg k5
   case measure => have := HJ3.out; have := HK2.out; have := HJ10.out; have := HK4.out; have := HK5.out; omega
   case rel => exact ⟨(x12_5), (wrap64 (x11_4 + 1)), zF, zF, H', ⟨by have := HJ3.out; have := HK2.out; have := HJ10.out; have := HK4.out; have := HK5.out; omega⟩, ⟨zN HO_9.out⟩, ⟨zB HB.out⟩⟩
 simp only [Option.some.injEq, Prod.mk.injEq] at H
 obtain ⟨rfl, rfl⟩ := H
 obtain ⟨Ao30, co30, rfl⟩ := Kd.N_slice HO_9.out
 go_wp2
 repeat (go_quiet (fail); try go_wp2)
 go_ret2
 exact ⟨zE, zB HB.out⟩
def w24_MacwilliamsDesigns.j0 : Nat → Int → List (List Int) → Int → Bool → Option (Bool)
  | 0, _, _, _, _ => none
  | k + 1, x0, x1, x2, x37 => if x37 = true then (some true) else ((mw_Design.f k x0 x1 x2).bind fun bta3 => ((r24_Design.f k x0 x1 x2).bind fun bta5 => (if bta3.1 = bta5.1 then (some (bta3.2 == bta5.2)) else (some false))))
def w24_MacwilliamsDesigns.f (k : Nat) (a0 : Int) (l1 : List (List Int)) (a2 : Int) : Option (Bool) := (w24_crowded.f k l1).bind fun ta1 => (if ta1 = true then (some true) else (if a0 ≥ 0 then (if a0 ≤ 64 then (if a2 ≥ 0 then (if a2 ≤ a0 then ((r24_Many.f k a0 a2).bind fun ta2 => (if ta2 = true then (w24_MacwilliamsDesigns.j0 k a0 l1 a2 false) else (w24_MacwilliamsDesigns.j0 k a0 l1 a2 (decide (a0 > 14))))) else (w24_MacwilliamsDesigns.j0 k a0 l1 a2 false)) else (w24_MacwilliamsDesigns.j0 k a0 l1 a2 false)) else (w24_MacwilliamsDesigns.j0 k a0 l1 a2 false)) else (w24_MacwilliamsDesigns.j0 k a0 l1 a2 false)))
set_option maxHeartbeats 8000000 in
set_option maxRecDepth 100000 in
theorem w24_MacwilliamsDesigns.calls (k : Nat) (a0 : Int) (A1 : Option Addr) (c1 : Nat) (l1 : List (List Int)) (a2 : Int) (r : Bool) (w : World) (hr1 : Kd.C (Kd.slice 3 (Kd.int .i64)) w A1 l1.length l1) (hc1 : l1.length ≤ c1) (h : w24_MacwilliamsDesigns.f k a0 l1 a2 = some r) :
    Calls Try.prog 4 #[.int .i64 a0, .slice A1 l1.length c1, .int .i64 a2] w fun e w' => e = .returned (.bool r) ∧ Below w.heap.size w w' := by
 have HR1 := zk hr1
 have HC1 := zk hc1
 clear hr1 hc1
 have HB := zk (Below.refl w.heap.size w)
 have H := h
 clear h
 unfold w24_MacwilliamsDesigns.f at H
 replace H := zb H
 obtain ⟨ta1, A4, H⟩ := H
 by_cases c5 : ta1 = true
 · subst c5
   rw [if_pos rfl] at H
   obtain rfl := Option.some.inj H
   go_enter Try.func4, Try.ntmps4
   go_wp2_with (first | ((with_reducible refine gC 28 ?_); refine zG (some 12) Try.func28 #[.slice A1 l1.length c1] ?_; (with_reducible refine (w24_crowded.calls k _ _ l1 true _ ?side1 ?side2 A4.out).mono ?_); (case side1 => exact zC HR1.out); (case side2 => exact HC1.out); rintro e w' ⟨rfl, ⟨nd, rfl⟩⟩; refine ⟨_, rfl, ?_⟩))
   go_ret
   exact ⟨zE, zB HB.out⟩
 replace c5 := Bool.eq_false_iff.mpr c5
 subst c5
 rw [if_neg Bool.false_ne_true] at H
 have HC6 := zk H
 clear H
 go_enter Try.func4, Try.ntmps4
 go_upto_region 3 with (first | ((with_reducible refine gC 28 ?_); refine zG (some 12) Try.func28 #[.slice A1 l1.length c1] ?_; (with_reducible refine (w24_crowded.calls k _ _ l1 false _ ?side1 ?side2 A4.out).mono ?_); (case side1 => exact zC HR1.out); (case side2 => exact HC1.out); rintro e w' ⟨rfl, ⟨nd, rfl⟩⟩; refine ⟨_, rfl, ?_⟩))
 (try simp only [Act.put, List.setIfInBounds_toArray, List.set_cons_zero, List.set_cons_succ])
 go_cut [37] (fun v37 wc => ∃ (kq : Nat) (x37_5 : Bool), v37 = .bool x37_5 ∧ Aside0 (w24_MacwilliamsDesigns.j0 kq a0 l1 a2 x37_5 = some r) ∧ Aside0 (kq ≤ k) ∧ Aside0 (Below w.heap.size w wc))
 case first =>
  have H := HC6.out
  clear HC6
  replace H := zi H
  rcases H with ⟨c7, H⟩ | ⟨c7, H⟩
  · have c7b0 : decide (0 ≤ a0) = true := decide_eq_true c7
    clear c7
    (first | rw [c7b0] | (simp only [i64_w, i32_w]; rw [c7b0]) | rw [c7b1] | skip)
    replace H := zid H
    rcases H with ⟨c8b0, H⟩ | ⟨c8b0, H⟩
    · replace H := zi H
      rcases H with ⟨c9, H⟩ | ⟨c9, H⟩
      · have c9b0 : decide (0 ≤ a2) = true := decide_eq_true c9
        clear c9
        replace H := zid H
        rcases H with ⟨c10b0, H⟩ | ⟨c10b0, H⟩
        · replace H := zb H
          obtain ⟨ta2, A11, H⟩ := H
          by_cases c12 : ta2 = true
          · subst c12
            rw [if_pos rfl] at H
            have H' := zk H
            clear H
            go_wp2_with (first | (go_at_call 29; (with_reducible refine (r24_Many.calls k a0 a2 true _ A11.out).mono ?_); rintro e w13 ⟨rfl, hb⟩; replace HB := yS HB hb; (try clear hb); (try clear hb2); (try clear hk); (try clear hi)))
            go_meet
            case rel => exact ⟨_, (false), zF, H', ⟨zO⟩, ⟨zB HB.out⟩⟩
          replace c12 := Bool.eq_false_iff.mpr c12
          subst c12
          rw [if_neg Bool.false_ne_true] at H
          have H' := zk H
          clear H
          go_wp2_with (first | (go_at_call 29; (with_reducible refine (r24_Many.calls k a0 a2 false _ A11.out).mono ?_); rintro e w14 ⟨rfl, hb⟩; replace HB := yS HB hb; (try clear hb); (try clear hb2); (try clear hk); (try clear hi)))
          go_meet
          case rel => exact ⟨_, (decide (a0 > 14)), zF, H', ⟨zO⟩, ⟨zB HB.out⟩⟩
        have H' := zk H
        clear H
        go_wp2
        go_meet
        case rel => exact ⟨_, (false), zF, H', ⟨zO⟩, ⟨zB HB.out⟩⟩
      have c9b0 : decide (0 ≤ a2) = false := decide_eq_false c9
      clear c9
      have H' := zk H
      clear H
      go_wp2
      go_meet
      case rel => exact ⟨_, (false), zF, H', ⟨zO⟩, ⟨zB HB.out⟩⟩
    have H' := zk H
    clear H
    go_wp2
    go_meet
    case rel => exact ⟨_, (false), zF, H', ⟨zO⟩, ⟨zB HB.out⟩⟩
  have c7b0 : decide (0 ≤ a0) = false := decide_eq_false c7
  clear c7
  (first | rw [c7b0] | (simp only [i64_w, i32_w]; rw [c7b0]) | rw [c7b1] | skip)
  have H' := zk H
  clear H
  go_wp2
  go_meet
  case rel => exact ⟨_, (false), zF, H', ⟨zO⟩, ⟨zB HB.out⟩⟩
 clear HC6
 (try clear c5);(try clear c7);(try clear c7b0);(try clear c8b0);(try clear c9);(try clear c9b0);(try clear c10b0);(try clear c12)
 obtain ⟨kq, x37_5, rfl, HA, HJ5, HB⟩ := hcut
 cases kq with | zero => exact absurd HA.out (by simp [w24_MacwilliamsDesigns.j0]) | succ kj5 => ?_
 have H := HA.out
 clear HA
 simp only [w24_MacwilliamsDesigns.j0] at H
 by_cases c15 : x37_5 = true
 · subst c15
   rw [if_pos rfl] at H
   obtain rfl := Option.some.inj H
   go_wp2
   go_ret
   exact ⟨zE, zB HB.out⟩
 replace c15 := Bool.eq_false_iff.mpr c15
 subst c15
 rw [if_neg Bool.false_ne_true] at H
 replace H := zb H
 obtain ⟨⟨ta3, ta4⟩, A16, H⟩ := H
 dsimp only at H
 replace H := zb H
 obtain ⟨⟨ta5, ta6⟩, A17, H⟩ := H
 dsimp only at H
 replace H := zi H
 rcases H with ⟨c18, H⟩ | ⟨c18, H⟩
 · have c18b0 := beq_iff_eq.mpr c18
   have c18b1 := bne_eq_false_iff_eq.mpr c18
   clear c18
   obtain rfl := Option.some.inj H
   go_wp2_with (first | ((with_reducible refine gC 30 ?_); refine zG (some 42) Try.func30 #[.int .i64 a0, .slice A1 l1.length c1, .int .i64 a2] ?_; (with_reducible refine (mw_Design.calls kj5 a0 _ _ l1 a2 ta3 ta4 _ ?side1 ?side2 A16.out).mono ?_); (case side1 => exact zC (Kd.C_below HR1.out HB.out)); (case side2 => exact HC1.out); rintro e w19 ⟨rfl, hb⟩; refine ⟨_, rfl, ?_⟩; replace HB := yS HB hb; (try clear hb); (try clear hb2); (try clear hk); (try clear hi)) | ((with_reducible refine gC 31 ?_); refine zG (some 49) Try.func31 #[.int .i64 a0, .slice A1 l1.length c1, .int .i64 a2] ?_; (with_reducible refine (r24_Design.calls kj5 a0 _ _ l1 a2 ta5 ta6 _ ?side1 ?side2 A17.out).mono ?_); (case side1 => exact zC (Kd.C_below HR1.out HB.out)); (case side2 => exact HC1.out); rintro e w20 ⟨rfl, hb⟩; refine ⟨_, rfl, ?_⟩; replace HB := yS HB hb; (try clear hb); (try clear hb2); (try clear hk); (try clear hi)))
   go_ret
   exact ⟨zE, zB HB.out⟩
 have c18b0 := beq_eq_false_iff_ne.mpr c18
 have c18b1 := bne_iff_ne.mpr c18
 obtain rfl := Option.some.inj H
 go_wp2_with (first | ((with_reducible refine gC 30 ?_); refine zG (some 42) Try.func30 #[.int .i64 a0, .slice A1 l1.length c1, .int .i64 a2] ?_; (with_reducible refine (mw_Design.calls kj5 a0 _ _ l1 a2 ta3 ta4 _ ?side1 ?side2 A16.out).mono ?_); (case side1 => exact zC (Kd.C_below HR1.out HB.out)); (case side2 => exact HC1.out); rintro e w21 ⟨rfl, hb⟩; refine ⟨_, rfl, ?_⟩; replace HB := yS HB hb; (try clear hb); (try clear hb2); (try clear hk); (try clear hi)) | ((with_reducible refine gC 31 ?_); refine zG (some 49) Try.func31 #[.int .i64 a0, .slice A1 l1.length c1, .int .i64 a2] ?_; (with_reducible refine (r24_Design.calls kj5 a0 _ _ l1 a2 ta5 ta6 _ ?side1 ?side2 A17.out).mono ?_); (case side1 => exact zC (Kd.C_below HR1.out HB.out)); (case side2 => exact HC1.out); rintro e w22 ⟨rfl, hb⟩; refine ⟨_, rfl, ?_⟩; replace HB := yS HB hb; (try clear hb); (try clear hb2); (try clear hk); (try clear hi)))
 go_ret
 exact ⟨zE, zB HB.out⟩
end Go.Proofs.Ytifkbghnmhineaa.PAll
section
set_option linter.unusedVariables false
set_option linter.unusedSimpArgs false
namespace Mw
open Go Go.RowKit Go.Proofs.YtifkbghnmhineaaW.PrintWords
def Ev {α : Type} (g : Nat → Option α) (r : α) : Prop := ∃ K, ∀ k, K ≤ k → g k = some r
theorem Ev.some {α : Type} (r : α) : Ev (fun _ => some r) r := ⟨0, fun _ _ => rfl⟩
theorem Ev.succ {α : Type} {g : Nat → Option α} {r : α} (h : Ev (fun k => g (k + 1)) r) : Ev g r := by
  obtain ⟨K, h⟩ := h
  refine ⟨K + 1, fun k hk => ?_⟩
  obtain ⟨m, rfl⟩ : ∃ m, k = m + 1 := ⟨k - 1, by omega⟩
  exact h m (by omega)
theorem Ev.bind {α β : Type} {g : Nat → Option α} {f : Nat → α → Option β} {a : α} {r : β} (hg : Ev g a) (hf : Ev (fun k => f k a) r) : Ev (fun k => (g k).bind (f k)) r := by
  obtain ⟨K, hg⟩ := hg
  obtain ⟨L, hf⟩ := hf
  refine ⟨K + L, fun k hk => ?_⟩
  show (g k).bind (f k) = _
  rw [hg k (by omega)]
  exact hf k (by omega)
theorem Ev.cast {α : Type} {g : Nat → Option α} {r s : α} (h : Ev g r) (e : r = s) : Ev g s := e ▸ h
theorem Ev.get {α : Type} {g : Nat → Option α} {r : α} (h : Ev g r) : ∃ k, g k = Option.some r := by
  obtain ⟨K, h⟩ := h
  exact ⟨K, h K (Nat.le_refl K)⟩
theorem w64 {x : Int} (h0 : -9223372036854775808 ≤ x) (h1 : x ≤ 9223372036854775807) : wrap64 x = x := by unfold wrap64; omega
theorem wn {x : Int} {n : Nat} (h : x = (n : Int)) (hn : n < 9223372036854775808) : wrap64 x = (n : Int) := by subst h; exact w64 (by omega) (by omega)
theorem u64w {x : Int} (h0 : 0 ≤ x) (h1 : x < 18446744073709551616) : IntKind.u64.wrap x = x := by
  simp [IntKind.wrap, IntKind.bits, IntKind.signed]; omega
def bp : Nat → Nat
  | 0 => 1
  | n + 1 => 4294967296 * bp n
theorem bp_pos : ∀ n, 0 < bp n
  | 0 => by decide
  | n + 1 => by have := bp_pos n; simp only [bp]; omega
theorem bp_mono : ∀ {m n : Nat}, m ≤ n → bp m ≤ bp n := by
  intro m n h
  induction n with
  | zero => have : m = 0 := by omega
            subst this; exact Nat.le_refl _
  | succ n ih =>
    by_cases e : m = n + 1
    · subst e; exact Nat.le_refl _
    · have := ih (by omega); simp only [bp]; omega
theorem bp_add : ∀ (m n : Nat), bp (m + n) = bp m * bp n
  | m, 0 => by simp [bp]
  | m, n + 1 => by rw [← Nat.add_assoc, bp, bp, bp_add m n, Nat.mul_left_comm]
def lv : List Int → Int
  | [] => 0
  | a :: l => a + 4294967296 * lv l
def Lm (l : List Int) : Prop := ∀ x ∈ l, 0 ≤ x ∧ x < 4294967296
def dg (n : Nat) : List Int := if n = 0 then [] else ((n % 4294967296 : Nat) : Int) :: dg (n / 4294967296)
termination_by n
decreasing_by omega
theorem dg_zero : dg 0 = [] := by rw [dg]; rfl
theorem dg_pos {n : Nat} (h : n ≠ 0) : dg n = ((n % 4294967296 : Nat) : Int) :: dg (n / 4294967296) := by rw [dg, if_neg h]
theorem lv_dg : ∀ n : Nat, lv (dg n) = n := by
  intro n
  induction n using Nat.strongRecOn with
  | _ n ih =>
    by_cases h : n = 0
    · subst h; rw [dg_zero]; rfl
    · rw [dg_pos h, lv, ih _ (by omega)]; omega
theorem lm_nil : Lm [] := by intro x hx; simp at hx
theorem lm_cons {a : Int} {l : List Int} : Lm (a :: l) ↔ (0 ≤ a ∧ a < 4294967296) ∧ Lm l := by
  constructor
  · intro h; exact ⟨h a (by simp), fun x hx => h x (by simp [hx])⟩
  · intro h x hx
    exact (List.mem_cons.mp hx).elim (fun e => e ▸ h.1) (fun e => h.2 x e)
theorem lm_dg : ∀ n : Nat, Lm (dg n) := by
  intro n
  induction n using Nat.strongRecOn with
  | _ n ih =>
    by_cases h : n = 0
    · subst h; rw [dg_zero]; exact lm_nil
    · rw [dg_pos h, lm_cons]; exact ⟨by omega, ih _ (by omega)⟩
theorem lv_nonneg : ∀ {l : List Int}, Lm l → 0 ≤ lv l
  | [], _ => Int.le_refl 0
  | a :: l, h => by have := lv_nonneg (lm_cons.mp h).2; have := (lm_cons.mp h).1; simp only [lv]; omega
theorem lv_lt : ∀ {l : List Int}, Lm l → lv l < bp l.length
  | [], _ => by simp [lv, bp]
  | a :: l, h => by
    have h1 := lv_lt (lm_cons.mp h).2
    have h2 := (lm_cons.mp h).1
    simp only [lv, List.length_cons, bp]
    omega
theorem lv_append : ∀ (l m : List Int), lv (l ++ m) = lv l + (bp l.length : Int) * lv m
  | [], m => by simp [lv, bp]
  | a :: l, m => by
    simp only [List.cons_append, lv, List.length_cons, bp, Int.natCast_mul]
    rw [lv_append l m, Int.mul_add, Int.mul_assoc]
    omega
theorem lv_rep : ∀ n : Nat, lv (List.replicate n 0) = 0
  | 0 => rfl
  | n + 1 => by rw [List.replicate_succ, lv, lv_rep n]; rfl
theorem lm_rep (n : Nat) : Lm (List.replicate n 0) := by
  intro x hx; rw [(List.mem_replicate.mp hx).2]; omega
theorem dg_lv : ∀ {l : List Int}, Lm l → (∀ h : l ≠ [], l.getLast h ≠ 0) → dg (lv l).toNat = l
  | [], _, _ => by simp only [lv]; exact dg_zero
  | a :: l, h, hl => by
    have h1 := lm_cons.mp h
    have h0 := lv_nonneg h1.2
    have ih : l ≠ [] → dg (lv l).toNat = l := fun hne => dg_lv h1.2 (fun hh => by
      have := hl (by simp)
      rwa [List.getLast_cons hh] at this)
    by_cases hne : l = []
    · subst hne
      have ha := hl (by simp)
      simp only [List.getLast_singleton] at ha
      simp only [lv]
      rw [dg_pos (by omega), show (a + 4294967296 * 0).toNat / 4294967296 = 0 by omega, dg_zero]
      congr 1
      omega
    · have ih := ih hne
      have hpos : lv l ≠ 0 := by
        intro e
        rw [e] at ih
        rw [show (0 : Int).toNat = 0 from rfl, dg_zero] at ih
        exact hne ih.symm
      simp only [lv]
      rw [dg_pos (by omega), show (a + 4294967296 * lv l).toNat / 4294967296 = (lv l).toNat by omega, ih]
      congr 1
      omega
theorem dg_len_le {n m : Nat} (h : n < bp m) : (dg n).length ≤ m := by
  induction m generalizing n with
  | zero => have : n = 0 := by simp only [bp] at h; omega
            subst this; rw [dg_zero]; simp
  | succ m ih =>
    by_cases h0 : n = 0
    · subst h0; rw [dg_zero]; simp
    · rw [dg_pos h0, List.length_cons]
      have := ih (n := n / 4294967296) (by simp only [bp] at h; omega)
      omega
theorem dg_lt_len (n : Nat) : n < bp (dg n).length := by
  have h := lv_lt (lm_dg n)
  rw [lv_dg] at h
  omega
theorem dg_len_mono {m n : Nat} (h : m ≤ n) : (dg m).length ≤ (dg n).length := dg_len_le (Nat.lt_of_le_of_lt h (dg_lt_len n))
theorem dg_small {n : Nat} (h0 : n ≠ 0) (h : n < 4294967296) : dg n = [(n : Int)] := by
  rw [dg_pos h0, show n / 4294967296 = 0 by omega, dg_zero, show n % 4294967296 = n by omega]
theorem dg_one : dg 1 = [1] := dg_small (by decide) (by decide)
theorem lv_le_of_len {l : List Int} (h : Lm l) {m : Nat} (hm : l.length ≤ m) : (lv l).toNat < bp m := by
  have h1 := lv_lt h
  have h2 := bp_mono hm
  have h3 := lv_nonneg h
  omega
theorem rd_lt {l : List Int} {i : Nat} (h : i < l.length) : rd l (i : Int) = l[i] := by
  unfold rd
  simp [List.getD_eq_getElem?_getD, h]
theorem rd_ge {l : List Int} {i : Nat} (h : l.length ≤ i) : rd l (i : Int) = 0 := by
  unfold rd
  simp [List.getD_eq_getElem?_getD, h]
theorem rd_lm {l : List Int} (hl : Lm l) (i : Int) : 0 ≤ rd l i ∧ rd l i < 4294967296 := by
  unfold rd
  rw [List.getD_eq_getElem?_getD]
  by_cases h : i.toNat < l.length
  · rw [List.getElem?_eq_getElem h]
    exact hl _ (List.getElem_mem h)
  · rw [List.getElem?_eq_none (by omega)]; simp
theorem take_succ_rd {l : List Int} {i : Nat} (h : i < l.length) : l.take (i + 1) = l.take i ++ [rd l (i : Int)] := by
  rw [List.take_succ_eq_append_getElem h, rd_lt h]
theorem lv_take_succ {l : List Int} {i : Nat} (h : i < l.length) : lv (l.take (i + 1)) = lv (l.take i) + (bp i : Int) * rd l (i : Int) := by
  rw [take_succ_rd h, lv_append, List.length_take, Nat.min_eq_left (by omega)]
  simp [lv]
theorem lv_set : ∀ {l : List Int} {i : Nat} (v : Int), i < l.length → lv (l.set i v) = lv l + (bp i : Int) * (v - rd l (i : Int))
  | [], i, v, h => by simp at h
  | a :: l, 0, v, _ => by
    rw [show ((0 : Nat) : Int) = ((0 : Nat) : Int) from rfl, rd_lt (by simp)]
    simp only [List.set_cons_zero, lv, List.getElem_cons_zero, bp]; omega
  | a :: l, i + 1, v, h => by
    have h' : i < l.length := by simpa using h
    have ih := lv_set v h'
    rw [rd_lt h'] at ih
    rw [rd_lt h]
    simp only [List.set_cons_succ, lv, List.getElem_cons_succ, bp, Int.natCast_mul]
    rw [ih, Int.mul_add, Int.mul_assoc]
    omega
theorem lm_set {l : List Int} {i : Nat} {v : Int} (h : Lm l) (h0 : 0 ≤ v) (h1 : v < 4294967296) : Lm (l.set i v) := by
  intro x hx
  rcases List.mem_or_eq_of_mem_set hx with e | e
  · exact h x e
  · subst e; exact ⟨h0, h1⟩
theorem rd_set_ne {l : List Int} {i j : Nat} (v : Int) (h : i ≠ j) : rd (l.set i v) (j : Int) = rd l (j : Int) := by
  unfold rd
  simp [List.getD_eq_getElem?_getD, h]
theorem lm_take {l : List Int} (h : Lm l) (n : Nat) : Lm (l.take n) := fun x hx => h x (List.mem_of_mem_take hx)
theorem dg_take {l : List Int} (h : Lm l) {n : Nat} (hn : n ≤ l.length) (hz : ∀ i : Nat, n ≤ i → i < l.length → rd l (i : Int) = 0) (hl : n = 0 ∨ rd l ((n - 1 : Nat) : Int) ≠ 0) :
    l.take n = dg (lv l).toNat := by
  have hv : lv l = lv (l.take n) := by
    have : ∀ m : Nat, n + m ≤ l.length → lv (l.take (n + m)) = lv (l.take n) := by
      intro m
      induction m with
      | zero => intro _; rfl
      | succ m ih =>
        intro hm
        rw [← Nat.add_assoc, lv_take_succ (by omega), hz (n + m) (by omega) (by omega), ih (by omega)]; simp
    have := this (l.length - n) (by omega)
    rw [show n + (l.length - n) = l.length by omega, List.take_of_length_le (Nat.le_refl _)] at this
    exact this
  rw [hv]
  symm
  refine dg_lv (lm_take h n) (fun hne => ?_)
  rcases hl with e | e
  · subst e; simp at hne
  · rw [List.getLast_eq_getElem]
    simp only [List.length_take, Nat.min_eq_left hn]
    have hp : n ≠ 0 := by intro e0; subst e0; simp at hne
    rw [List.getElem_take]
    rw [rd_lt (by omega)] at e
    exact e
theorem lv_nil : lv [] = 0 := rfl
theorem lv_cons (a : Int) (l : List Int) : lv (a :: l) = a + 4294967296 * lv l := rfl
theorem bp_zero : bp 0 = 1 := rfl
theorem bp_succ (n : Nat) : bp (n + 1) = 4294967296 * bp n := rfl
attribute [irreducible] lv bp
end Mw
end
section
set_option linter.unusedVariables false
set_option linter.unusedSimpArgs false
namespace Mw
open Go Go.RowKit Go.Proofs.YtifkbghnmhineaaW.PrintWords Go.Proofs.YtifkbghnmhineaaW.PrintLast Go.Proofs.YtifkbghnmhineaaW.PrintMore Go.Proofs.Ytifkbghnmhineaa.PAll
theorem short_loop {l : List Int} (hl : Lm l) (hlen : l.length < 1099511627776) : ∀ n : Nat, n ≤ l.length → (∀ i : Nat, n ≤ i → i < l.length → rd l (i : Int) = 0) →
    Ev (fun k => nat_short.l0 k l (n : Int)) (dg (lv l).toNat) := by
  intro n
  induction n with
  | zero =>
    intro hn hz
    refine Ev.succ ?_
    simp only [nat_short.l0, if_neg (show ¬ ((0 : Nat) : Int) > 0 by omega), if_pos (show (0 : Int) ≤ ((0 : Nat) : Int) by omega), if_pos (show ((0 : Nat) : Int) ≤ (l.length : Int) by omega)]
    refine Ev.cast (Ev.some _) ?_
    rw [show (((0 : Nat) : Int)).toNat = 0 from rfl]
    exact dg_take hl hn hz (.inl rfl)
  | succ n ih =>
    intro hn hz
    refine Ev.succ ?_
    have e : wrap64 (((n + 1 : Nat) : Int) - 1) = (n : Int) := by rw [w64 (by omega) (by omega)]; omega
    by_cases h : rd l (n : Int) = 0
    · simp only [nat_short.l0, e, if_pos (show ((n + 1 : Nat) : Int) > 0 by omega), if_pos (show (0 : Int) ≤ (n : Int) by omega), if_pos (show (n : Int) < (l.length : Int) by omega), if_pos h]
      exact ih (by omega) (fun i h1 h2 => by
        by_cases e2 : i = n
        · subst e2; exact h
        · exact hz i (by omega) h2)
    · simp only [nat_short.l0, e, if_pos (show ((n + 1 : Nat) : Int) > 0 by omega), if_pos (show (0 : Int) ≤ (n : Int) by omega), if_pos (show (n : Int) < (l.length : Int) by omega), if_neg h, if_pos (show (0 : Int) ≤ ((n + 1 : Nat) : Int) by omega), if_pos (show ((n + 1 : Nat) : Int) ≤ (l.length : Int) by omega)]
      refine Ev.cast (Ev.some _) ?_
      rw [show (((n + 1 : Nat) : Int)).toNat = n + 1 by omega]
      exact dg_take hl hn hz (.inr h)
theorem short_ev {l : List Int} (hl : Lm l) (hlen : l.length < 1099511627776) : Ev (fun k => nat_short.f k l) (dg (lv l).toNat) := by
  simp only [nat_short.f]
  exact short_loop hl hlen l.length (Nat.le_refl _) (fun i h1 h2 => by omega)
theorem dg_len_of {l : List Int} (hl : Lm l) : (dg (lv l).toNat).length ≤ l.length := dg_len_le (lv_le_of_len hl (Nat.le_refl _))
theorem trim_ev {l : List Int} (hl : Lm l) (hlen : l.length < 1099511627776) : Ev (fun k => nat_Trim.f k l) (dg (lv l).toNat) := by
  simp only [nat_Trim.f]
  refine Ev.bind (short_ev hl hlen) ?_
  have := dg_len_of hl
  simp only [List.length_nil, List.nil_append, if_pos (show 0 + (dg (lv l).toNat).length < 35184372088832 by omega)]
  exact Ev.some _
theorem of_ev {n : Nat} (hn : n < 18446744073709551616) : Ev (fun k => nat_Of.f k (n : Int)) (dg n) := by
  simp only [nat_Of.f]
  have hl : Lm [(n : Int) % 4294967296, ((n : Int) / 4294967296) % 4294967296] := by
    rw [lm_cons, lm_cons]
    exact ⟨by omega, by omega, lm_nil⟩
  refine Ev.bind (trim_ev hl (by simp)) ?_
  refine Ev.cast (Ev.some _) ?_
  congr 1
  simp only [lv_cons, lv_nil]
  omega
end Mw
end
section
namespace Mw
def sm : Nat → (Nat → Int) → Int
  | 0, _ => 0
  | n + 1, f => sm n f + f n
theorem sm_congr {n : Nat} {f g : Nat → Int} (h : ∀ i, i < n → f i = g i) : sm n f = sm n g := by
  induction n with
  | zero => rfl
  | succ n ih => simp only [sm]; rw [ih (fun i hi => h i (by omega)), h n (by omega)]
theorem sm_zero {n : Nat} {f : Nat → Int} (h : ∀ i, i < n → f i = 0) : sm n f = 0 := by
  induction n with
  | zero => rfl
  | succ n ih => simp only [sm]; rw [ih (fun i hi => h i (by omega)), h n (by omega)]; rfl
theorem sm_add (n : Nat) (f g : Nat → Int) : sm n (fun i => f i + g i) = sm n f + sm n g := by
  induction n with
  | zero => rfl
  | succ n ih => simp only [sm]; rw [ih]; omega
theorem sm_mul (n : Nat) (c : Int) (f : Nat → Int) : sm n (fun i => c * f i) = c * sm n f := by
  induction n with
  | zero => simp [sm]
  | succ n ih => simp only [sm]; rw [ih, Int.mul_add]
theorem sm_mul_right (n : Nat) (c : Int) (f : Nat → Int) : sm n (fun i => f i * c) = sm n f * c := by
  induction n with
  | zero => simp [sm]
  | succ n ih => simp only [sm]; rw [ih, Int.add_mul]
theorem sm_swap (m n : Nat) (f : Nat → Nat → Int) : sm m (fun i => sm n (fun j => f i j)) = sm n (fun j => sm m (fun i => f i j)) := by
  induction m with
  | zero => simp only [sm]; exact (sm_zero (fun _ _ => rfl)).symm
  | succ m ih => simp only [sm]; rw [ih, sm_add]
theorem sm_single {n a : Nat} {f : Nat → Int} (ha : a < n) (h : ∀ i, i < n → i ≠ a → f i = 0) : sm n f = f a := by
  induction n with
  | zero => omega
  | succ n ih =>
    simp only [sm]
    by_cases e : a = n
    · subst e; rw [sm_zero (fun i hi => h i (by omega) (by omega))]; omega
    · rw [ih (by omega) (fun i hi hne => h i (by omega) hne), h n (by omega) (by omega)]; omega
def bin : Nat → Nat → Nat
  | _, 0 => 1
  | 0, _ + 1 => 0
  | n + 1, k + 1 => bin n k + bin n (k + 1)
theorem bin_zero (n : Nat) : bin n 0 = 1 := by cases n <;> rfl
theorem bin_succ (n k : Nat) : bin (n + 1) (k + 1) = bin n k + bin n (k + 1) := rfl
theorem bin_above : ∀ {n k : Nat}, n < k → bin n k = 0
  | 0, 0, h => by omega
  | 0, _ + 1, _ => rfl
  | n + 1, 0, h => by omega
  | n + 1, k + 1, h => by rw [bin_succ, bin_above (n := n) (k := k) (by omega), bin_above (n := n) (k := k + 1) (by omega)]
theorem bin_self (n : Nat) : bin n n = 1 := by
  induction n with
  | zero => rfl
  | succ n ih => rw [bin_succ, ih, bin_above (by omega)]
theorem bin_one (n : Nat) : bin n 1 = n := by
  induction n with
  | zero => rfl
  | succ n ih => rw [bin_succ, ih, bin_zero]; omega
theorem bin_step : ∀ (n k : Nat), (k + 1) * bin n (k + 1) = (n - k) * bin n k
  | 0, k => by rw [bin_above (by omega)]; simp
  | n + 1, 0 => by rw [bin_one, bin_zero]; omega
  | n + 1, k + 1 => by
    rw [bin_succ, bin_succ]
    have h1 := bin_step n k
    have h2 := bin_step n (k + 1)
    by_cases hk : k + 1 ≤ n
    · obtain ⟨m, rfl⟩ : ∃ m, n = m + (k + 1) := ⟨n - (k + 1), by omega⟩
      rw [show m + (k + 1) - k = m + 1 by omega] at h1
      rw [show m + (k + 1) - (k + 1) = m by omega] at h2
      rw [show m + (k + 1) + 1 - (k + 1) = m + 1 by omega]
      grind
    · by_cases hk2 : k = n
      · subst hk2
        rw [bin_above (n := k) (k := k + 1 + 1) (by omega), bin_above (n := k) (k := k + 1) (by omega)]; simp
      · rw [bin_above (n := n) (k := k + 1 + 1) (by omega), bin_above (n := n) (k := k + 1) (by omega), bin_above (n := n) (k := k) (by omega)]; simp
theorem bin_symm : ∀ {n k : Nat}, k ≤ n → bin n (n - k) = bin n k
  | 0, k, h => by have : k = 0 := by omega
                  subst this; rfl
  | n + 1, 0, _ => by rw [Nat.sub_zero, bin_self, bin_zero]
  | n + 1, k + 1, h => by
    rw [Nat.add_sub_add_right]
    by_cases e : k = n
    · subst e; rw [Nat.sub_self, bin_zero, bin_self]
    · obtain ⟨m, hm⟩ : ∃ m, n - k = m + 1 := ⟨n - k - 1, by omega⟩
      rw [hm, bin_succ, bin_succ]
      have h1 := bin_symm (n := n) (k := k) (by omega)
      have h2 := bin_symm (n := n) (k := k + 1) (by omega)
      rw [hm] at h1
      rw [show n - (k + 1) = m by omega] at h2
      omega
end Mw
end
section
set_option linter.unusedVariables false
set_option linter.unusedSimpArgs false
namespace Mw
open Go Go.RowKit Go.Proofs.YtifkbghnmhineaaW.PrintWords Go.Proofs.YtifkbghnmhineaaW.PrintLast Go.Proofs.YtifkbghnmhineaaW.PrintMore Go.Proofs.Ytifkbghnmhineaa.PAll
theorem rd_rep (n : Nat) (j : Nat) : rd (List.replicate n 0) (j : Int) = 0 := by
  by_cases h : j < n
  · rw [rd_lt (by simpa using h)]; simp
  · exact rd_ge (by simp; omega)
theorem mac_bound {x y z c : Int} (hx0 : 0 ≤ x) (hx1 : x < 4294967296) (hy0 : 0 ≤ y) (hy1 : y < 4294967296) (hz0 : 0 ≤ z) (hz1 : z < 4294967296) (hc0 : 0 ≤ c) (hc1 : c < 4294967296) :
    0 ≤ x * y ∧ x * y + z + c < 18446744073709551616 := by
  have hp0 : 0 ≤ x * y := Int.mul_nonneg hx0 hy0
  have hp1 : x * y ≤ 4294967295 * 4294967295 := Int.mul_le_mul (by omega) (by omega) hy0 (by decide)
  generalize x * y = p at *
  omega
theorem mac_wrap {x y z c : Int} (hx0 : 0 ≤ x) (hx1 : x < 4294967296) (hy0 : 0 ≤ y) (hy1 : y < 4294967296) (hz0 : 0 ≤ z) (hz1 : z < 4294967296) (hc0 : 0 ≤ c) (hc1 : c < 4294967296) :
    IntKind.u64.wrap (IntKind.u64.wrap (IntKind.u64.wrap (IntKind.u64.wrap x * IntKind.u64.wrap y) + IntKind.u64.wrap z) + c) = x * y + z + c := by
  have hb := mac_bound hx0 hx1 hy0 hy1 hz0 hz1 hc0 hc1
  rw [u64w (x := x) (by omega) (by omega), u64w (x := y) (by omega) (by omega), u64w (x := z) (by omega) (by omega)]
  generalize x * y = p at *
  rw [u64w (x := p) (by omega) (by omega), u64w (x := p + z) (by omega) (by omega), u64w (x := p + z + c) (by omega) (by omega)]
theorem split_div (s : Int) : s % 4294967296 + 4294967296 * (s / 4294967296) = s := by omega
theorem div_bound {s : Int} (h0 : 0 ≤ s) (h1 : s < 18446744073709551616) : 0 ≤ s % 4294967296 ∧ s % 4294967296 < 4294967296 ∧ 0 ≤ s / 4294967296 ∧ s / 4294967296 < 4294967296 := by omega
theorem times_inner {x : Int} {b l18 : List Int} (hx0 : 0 ≤ x) (hx1 : x < 4294967296) (hb : Lm b) (hbl : b.length < 536870912) (x19 : Int) (i L : Nat) (hL : i + b.length + 1 ≤ L) (hL2 : L < 1073741824) (V : Int) (R : List Int)
    (next : ∀ o : List Int, o.length = L → Lm o → (∀ j : Nat, i + 1 + b.length ≤ j → rd o (j : Int) = 0) → Aside0 (lv o = V + (bp i : Int) * (x * lv b)) → Ev (fun k => nat_times.l0 k b o l18 x19 ((i + 1 : Nat) : Int)) R) :
    ∀ (d j : Nat) (o : List Int) (c : Int), j + d = b.length → o.length = L → Lm o → 0 ≤ c → c < 4294967296 → (∀ m : Nat, i + b.length ≤ m → rd o (m : Int) = 0) →
      Aside0 (lv o + (bp (i + j) : Int) * c = V + (bp i : Int) * (x * lv (b.take j))) →
      Ev (fun k => nat_times.l1 k b o (i : Int) x c l18 x19 (i : Int) b (b.length : Int) (j : Int)) R := by
  intro d
  induction d with
  | zero =>
    intro j o c hj ho hol hc0 hc1 hz hv
    have hj : j = b.length := by omega
    subst hj
    refine Ev.succ ?_
    simp only [nat_times.l1, wn (show (i : Int) + (b.length : Int) = ((i + b.length : Nat) : Int) by omega) (by omega), wn (show (i : Int) + 1 = ((i + 1 : Nat) : Int) by omega) (by omega), if_neg (show ¬ ((b.length : Nat) : Int) < (b.length : Int) by omega), if_pos (show (0 : Int) ≤ ((i + b.length : Nat) : Int) by omega), if_pos (show ((i + b.length : Nat) : Int) < (o.length : Int) by omega)]
    rw [Int.toNat_natCast, show c % 4294967296 = c by omega]
    refine next _ (by rw [List.length_set]; omega) (lm_set hol hc0 hc1) (fun m hm => ?_) ⟨?_⟩
    · rw [rd_set_ne _ (by omega)]; exact hz m (by omega)
    · rw [lv_set _ (by omega), hz _ (Nat.le_refl _), Int.sub_zero, hv.out, List.take_of_length_le (Nat.le_refl _)]
  | succ d ih =>
    intro j o c hj ho hol hc0 hc1 hz hv
    have hjb : j < b.length := by omega
    refine Ev.succ ?_
    have rb := rd_lm hb (j : Int)
    have ro := rd_lm hol ((i + j : Nat) : Int)
    simp only [nat_times.l1, wn (show (i : Int) + (j : Int) = ((i + j : Nat) : Int) by omega) (by omega), wn (show (j : Int) + 1 = ((j + 1 : Nat) : Int) by omega) (by omega), if_pos (show (j : Int) < (b.length : Int) by omega), if_pos (show (0 : Int) ≤ (j : Int) by omega), if_pos (show (0 : Int) ≤ ((i + j : Nat) : Int) by omega), if_pos (show ((i + j : Nat) : Int) < (o.length : Int) by omega), mac_wrap hx0 hx1 rb.1 rb.2 ro.1 ro.2 hc0 hc1]
    have hb2 := mac_bound hx0 hx1 rb.1 rb.2 ro.1 ro.2 hc0 hc1
    have hdef : ∃ s, s = x * rd b (j : Int) + rd o ((i + j : Nat) : Int) + c := ⟨_, rfl⟩
    obtain ⟨s, hs⟩ := hdef
    have hs0 : 0 ≤ s := by rw [hs]; exact Int.add_nonneg (Int.add_nonneg hb2.1 ro.1) hc0
    have hs1 : s < 18446744073709551616 := by rw [hs]; exact hb2.2
    have hd := div_bound hs0 hs1
    clear hb2
    rw [← hs]
    rw [Int.toNat_natCast]
    have hs := Aside0.mk hs
    refine ih (j + 1) _ _ (by omega) (by rw [List.length_set]; omega) (lm_set hol hd.1 hd.2.1) hd.2.2.1 hd.2.2.2 (fun m hm => ?_) ⟨?_⟩
    · rw [rd_set_ne _ (by omega)]; exact hz m hm
    · rw [lv_set _ (by omega), lv_take_succ hjb, ← Nat.add_assoc, bp_succ, Int.natCast_mul]
      have hdiv : s % 4294967296 + 4294967296 * (s / 4294967296) = x * rd b (j : Int) + rd o ((i + j : Nat) : Int) + c := by rw [split_div]; exact hs.out
      have hv := hv.out
      have hbp : ((bp (i + j) : Nat) : Int) = (bp i : Int) * (bp j : Int) := by rw [bp_add, Int.natCast_mul]
      clear ih hz next hs hs0 hs1 hd rb ro hc0 hc1
      generalize s % 4294967296 = y at *
      generalize s / 4294967296 = u at *
      generalize (bp (i + j) : Int) = p at *
      generalize (bp i : Int) = pi at *
      generalize (bp j : Int) = pj at *
      generalize rd b (j : Int) = rb at *
      generalize rd o ((i + j : Nat) : Int) = ro at *
      generalize lv o = lo at *
      generalize lv (b.take j) = lt at *
      subst hbp
      have h1 : lo + pi * pj * c = V + pi * (x * lt) := hv
      have h2 : y + 4294967296 * u = x * rb + ro + c := hdiv
      show lo + pi * pj * (y - ro) + 4294967296 * (pi * pj) * u = V + pi * (x * (lt + pj * rb))
      have h3 : pi * pj * (y + 4294967296 * u) = pi * pj * (x * rb + ro + c) := by rw [h2]
      grind
theorem times_outer {b l : List Int} (hb : Lm b) (hl : Lm l) (hbl : b.length < 268435456) (hll : l.length < 268435456) : ∀ (d i : Nat) (o : List Int), i + d = l.length → o.length = l.length + b.length → Lm o → (∀ m : Nat, i + b.length ≤ m → rd o (m : Int) = 0) →
    Aside0 (lv o = lv (l.take i) * lv b) → Ev (fun k => nat_times.l0 k b o l (l.length : Int) (i : Int)) (dg (lv l * lv b).toNat) := by
  intro d
  induction d with
  | zero =>
    intro i o hi ho hol hz hv
    have hi : i = l.length := by omega
    subst hi
    refine Ev.succ ?_
    simp only [nat_times.l0, if_neg (show ¬ ((l.length : Nat) : Int) < (l.length : Int) by omega)]
    refine Ev.bind (short_ev hol (by omega)) ?_
    refine Ev.cast (Ev.some _) ?_
    rw [hv.out, List.take_of_length_le (Nat.le_refl _)]
  | succ d ih =>
    intro i o hi ho hol hz hv
    have hil : i < l.length := by omega
    refine Ev.succ ?_
    have rl := rd_lm hl (i : Int)
    simp only [nat_times.l0, if_pos (show (i : Int) < (l.length : Int) by omega), if_pos (show (0 : Int) ≤ (i : Int) by omega)]
    refine times_inner (l18 := l) rl.1 rl.2 hb (by omega) (l.length : Int) i (l.length + b.length) (by omega) (by omega) (lv (l.take i) * lv b) _ (fun o2 h1 h2 h3 h4 => ?_) b.length 0 o 0 (by omega) ho hol (by omega) (by omega) hz ⟨?_⟩
    · refine ih (i + 1) o2 (by omega) h1 h2 (fun m hm => h3 m hm) ⟨?_⟩
      rw [h4.out, lv_take_succ hil, Int.add_mul, Int.mul_assoc]
    · rw [hv.out]; simp [lv_nil]
theorem times_ev {a b : List Int} (ha : Lm a) (hb : Lm b) (h1 : a.length < 268435456) (h2 : b.length < 268435456) : Ev (fun k => nat_times.f k a b) (dg (lv a * lv b).toNat) := by
  simp only [nat_times.f]
  simp only [wn (show (a.length : Int) + (b.length : Int) = ((a.length + b.length : Nat) : Int) by omega) (by omega), Int.toNat_natCast, if_pos (show (0 : Int) ≤ ((a.length + b.length : Nat) : Int) by omega), if_pos (show a.length + b.length ≤ 70368744177664 by omega)]
  exact times_outer hb ha h2 h1 a.length 0 _ (by omega) (by simp) (lm_rep _) (fun m _ => rd_rep _ m) ⟨by rw [lv_rep]; simp [lv_nil]⟩
theorem wraps_u64 (n : Int) (h0 : 0 ≤ n) (h1 : n < 2 ^ 64) : IntKind.u64.wrap n = n := u64w h0 (by omega)
theorem join32 {x y : Int} (hx0 : 0 ≤ x) (hx1 : x < 4294967296) (hy0 : 0 ≤ y) (hy1 : y < 4294967296) : Go.bits .or .u64 (IntKind.u64.wrap (x * 4294967296)) (IntKind.u64.wrap y) = x * 4294967296 + y := by
  rw [u64w (x := x * 4294967296) (by omega) (by omega), u64w (x := y) (by omega) (by omega)]
  exact bits_join .u64 64 (by decide) wraps_u64 32 _ _ (by omega) (by omega) (by omega) hy0 (by omega) (by omega)
theorem digit_bounds {r b y : Int} (hr0 : 0 ≤ r) (hrb : r < b) (hb : b < 4294967296) (hy0 : 0 ≤ y) (hy1 : y < 4294967296) :
    0 ≤ (r * 4294967296 + y) / b ∧ (r * 4294967296 + y) / b < 4294967296 ∧ 0 ≤ (r * 4294967296 + y) % b ∧ (r * 4294967296 + y) % b < b := by
  have hbp : 0 < b := by omega
  refine ⟨Int.ediv_nonneg (by omega) (by omega), ?_, Int.emod_nonneg _ (by omega), Int.emod_lt_of_pos _ hbp⟩
  refine Int.ediv_lt_of_lt_mul hbp ?_
  have : (r + 1) * 4294967296 ≤ b * 4294967296 := by omega
  omega
theorem digit_loop {a : List Int} {b : Int} (ha : Lm a) (hb0 : 0 < b) (hb1 : b < 4294967296) (hlen : a.length < 1073741824) : ∀ (n : Nat) (o : List Int) (r : Int), n ≤ a.length → o.length = a.length → Lm o → (∀ j : Nat, j < n → rd o (j : Int) = 0) → 0 ≤ r → r < b →
    Aside0 (lv o * b + (bp n : Int) * r = lv a - lv (a.take n)) → Ev (fun k => nat_digit.l0 k a b o r ((n : Int) - 1)) (dg (lv a / b).toNat, lv a % b) := by
  intro n
  induction n with
  | zero =>
    intro o r hn ho hol hz hr0 hr1 hv
    refine Ev.succ ?_
    simp only [nat_digit.l0, if_neg (show ¬ ((0 : Nat) : Int) - 1 ≥ 0 by omega)]
    refine Ev.bind (short_ev hol (by omega)) ?_
    refine Ev.cast (Ev.some _) ?_
    have hv := hv.out
    rw [List.take_zero, lv_nil, bp_zero] at hv
    have e : lv a = b * lv o + r := by rw [Int.mul_comm]; omega
    have h1 : lv a / b = lv o := by
      rw [e, Int.add_comm, Int.add_mul_ediv_left _ _ (by omega), Int.ediv_eq_zero_of_lt hr0 hr1]; omega
    have h2 : lv a % b = r := by
      rw [e, Int.add_comm, Int.add_mul_emod_self_left, Int.emod_eq_of_lt hr0 hr1]
    rw [h1, h2]
    clear hv e h1 h2
    congr 1
    omega
  | succ n ih =>
    intro o r hn ho hol hz hr0 hr1 hv
    refine Ev.succ ?_
    have ra := rd_lm ha (n : Int)
    have hd := digit_bounds hr0 hr1 hb1 ra.1 ra.2
    have hdiv : b * ((r * 4294967296 + rd a (n : Int)) / b) + (r * 4294967296 + rd a (n : Int)) % b = r * 4294967296 + rd a (n : Int) := Int.mul_ediv_add_emod _ _
    have t0 : 0 ≤ r * 4294967296 + rd a (n : Int) := by omega
    simp only [nat_digit.l0, show ((n + 1 : Nat) : Int) - 1 = (n : Int) from by omega, if_pos (show (n : Int) ≥ 0 by omega), if_pos (show (0 : Int) ≤ (n : Int) by omega), if_pos (show (n : Int) < (a.length : Int) by omega), if_pos (show (n : Int) < (o.length : Int) by omega), if_neg (show ¬ b = 0 by omega),
      join32 hr0 (by omega) ra.1 ra.2, w64 (x := (n : Int) - 1) (by omega) (by omega), u64w (x := b) (by omega) (by omega)]
    rw [Int.tdiv_eq_ediv_of_nonneg t0, Int.tmod_eq_emod_of_nonneg t0]
    generalize (r * 4294967296 + rd a (n : Int)) / b = q at *
    generalize (r * 4294967296 + rd a (n : Int)) % b = s at *
    rw [u64w (x := q) hd.1 (by omega), show q % 4294967296 = q by omega, Int.toNat_natCast]
    refine ih _ _ (by omega) (by rw [List.length_set]; exact ho) (lm_set hol hd.1 hd.2.1) (fun j hj => ?_) hd.2.2.1 hd.2.2.2 ⟨?_⟩
    · rw [rd_set_ne _ (by omega)]; exact hz j (by omega)
    · have hv := hv.out
      rw [lv_take_succ (l := a) (i := n) (by omega), bp_succ, Int.natCast_mul] at hv
      rw [lv_set (l := o) (i := n) _ (by omega), hz n (by omega)]
      clear ih hz hd ra t0
      generalize lv o = x at *
      generalize (bp n : Int) = p at *
      generalize rd a (n : Int) = y at *
      generalize lv a = A at *
      generalize lv (a.take n) = T at *
      have hv : x * b + 4294967296 * p * r = A - (T + p * y) := hv
      have h3 : p * (b * q + s) = p * (r * 4294967296 + y) := by rw [hdiv]
      grind
theorem digit_ev {a : List Int} {b : Int} (ha : Lm a) (hb0 : 0 < b) (hb1 : b < 4294967296) (hlen : a.length < 1073741824) : Ev (fun k => nat_digit.f k a b) (dg (lv a / b).toNat, lv a % b) := by
  simp only [nat_digit.f, Int.toNat_natCast, if_pos (show (0 : Int) ≤ (a.length : Int) by omega), if_pos (show a.length ≤ 70368744177664 by omega), w64 (x := (a.length : Int) - 1) (by omega) (by omega)]
  exact digit_loop ha hb0 hb1 hlen a.length _ 0 (Nat.le_refl _) (by simp) (lm_rep _) (fun j _ => rd_rep _ j) (by omega) (by omega) ⟨by rw [lv_rep, List.take_of_length_le (Nat.le_refl _)]; simp⟩
theorem bin_mul (n i : Nat) : bin n i * (n - i) = (i + 1) * bin n (i + 1) := by rw [bin_step, Nat.mul_comm]
theorem bin_lt (n k : Nat) : bin n k ≤ 2 ^ n := by
  induction n generalizing k with
  | zero => cases k <;> simp [bin]
  | succ n ih => cases k with
    | zero => rw [bin_zero]; exact Nat.one_le_two_pow
    | succ k => rw [bin_succ, Nat.pow_succ]; have h1 := ih k; have h2 := ih (k + 1); omega
theorem pow2_bp (m : Nat) : 2 ^ (32 * m) = bp m := by
  induction m with
  | zero => rw [bp_zero]
  | succ m ih => rw [Nat.mul_succ, Nat.pow_add, ih, bp_succ, Nat.mul_comm]
theorem bin_len {n : Nat} (hn : n ≤ 4096) (k : Nat) : (dg (bin n k)).length ≤ 129 := by
  refine dg_len_le ?_
  have h1 := bin_lt n k
  have h2 : ∀ m, n ≤ 32 * m → 2 ^ n ≤ bp m := fun m h => by rw [← pow2_bp]; exact Nat.pow_le_pow_right (by decide) h
  have h2 := h2 128 (by omega)
  have h3 := bp_pos 128
  rw [show 129 = 128 + 1 from rfl, bp_succ]
  generalize 2 ^ n = p at *
  generalize bp 128 = u at *
  omega
theorem binomial_loop {n : Nat} (hn : n ≤ 4096) : ∀ (d i m : Nat), i + d = m → m ≤ n → Ev (fun k => nat_Binomial.l0 k (n : Int) (dg (bin n i)) (m : Int) (i : Int)) (dg (bin n m), 0) := by
  intro d
  induction d with
  | zero =>
    intro i m hi hm
    have hi : i = m := by omega
    subst hi
    refine Ev.succ ?_
    simp only [nat_Binomial.l0, if_neg (show ¬ (i : Int) < (i : Int) by omega)]
    have := bin_len hn i
    refine Ev.bind (trim_ev (lm_dg _) (by omega)) ?_
    rw [lv_dg, Int.toNat_natCast]
    exact Ev.some _
  | succ d ih =>
    intro i m hi hm
    refine Ev.succ ?_
    have hl := bin_len hn i
    have e0 : ((n : Int) - (i : Int)) % 4294967296 = ((n - i : Nat) : Int) := by omega
    have e1 : ((i + 1 : Nat) : Int) % 4294967296 = ((i + 1 : Nat) : Int) := by omega
    simp only [nat_Binomial.l0, w64 (x := (n : Int) - (i : Int)) (by omega) (by omega), wn (show (i : Int) + 1 = ((i + 1 : Nat) : Int) by omega) (by omega), if_pos (show (i : Int) < (m : Int) by omega), e0, e1]
    have l1 : Lm [((n - i : Nat) : Int)] := by rw [lm_cons]; exact ⟨by omega, lm_nil⟩
    refine Ev.bind (times_ev (lm_dg _) l1 (by omega) (by simp)) ?_
    have v1 : lv (dg (bin n i)) * lv [((n - i : Nat) : Int)] = ((bin n i * (n - i) : Nat) : Int) := by rw [lv_dg, lv_cons, lv_nil, Int.natCast_mul]; simp
    rw [v1, Int.toNat_natCast, bin_mul]
    have hl2 : (dg ((i + 1) * bin n (i + 1))).length ≤ 130 := by
      refine dg_len_le ?_
      rw [← bin_mul]
      have h1 := dg_lt_len (bin n i)
      have h2 := bp_mono hl
      have h3 : bin n i < bp 129 := by omega
      rw [show 130 = 129 + 1 from rfl, bp_succ, Nat.mul_comm]
      have h4 : n - i ≤ 4294967296 := by omega
      exact Nat.lt_of_le_of_lt (Nat.mul_le_mul_right _ h4) (Nat.mul_lt_mul_of_pos_left h3 (by decide))
    refine Ev.bind (digit_ev (lm_dg _) (by omega) (by omega) (by omega)) ?_
    rw [lv_dg]
    have v2 : (((i + 1) * bin n (i + 1) : Nat) : Int) / ((i + 1 : Nat) : Int) = ((bin n (i + 1) : Nat) : Int) := by
      rw [Int.natCast_mul, Int.mul_ediv_cancel_left _ (by omega)]
    rw [v2, Int.toNat_natCast]
    exact ih (i + 1) m (by omega) hm
theorem binomial_ev {n m : Nat} (hn : n ≤ 4096) (hm : m ≤ n) : Ev (fun k => nat_Binomial.f k (n : Int) (m : Int)) (dg (bin n m), 0) := by
  simp only [nat_Binomial.f, if_neg (show ¬ (n : Int) < 0 by omega), decide_eq_false (show ¬ (n : Int) > 4096 by omega)]
  refine Ev.succ ?_
  simp only [nat_Binomial.j0, Bool.false_eq_true, if_false, if_neg (show ¬ (m : Int) < 0 by omega), decide_eq_false (show ¬ (m : Int) > (n : Int) by omega)]
  refine Ev.succ ?_
  simp only [nat_Binomial.j1, Bool.false_eq_true, if_false, wn (show (n : Int) - (m : Int) = ((n - m : Nat) : Int) by omega) (by omega)]
  have hone : ([1] : List Int) = dg (bin n 0) := by rw [bin_zero, dg_one]
  rw [hone]
  have hz : (0 : Int) = ((0 : Nat) : Int) := rfl
  by_cases h : m ≤ n - m
  · rw [show mn (m : Int) ((n - m : Nat) : Int) = (m : Int) from by unfold mn; split <;> omega]
    exact binomial_loop hn m 0 m (by omega) hm
  · rw [show mn (m : Int) ((n - m : Nat) : Int) = ((n - m : Nat) : Int) from by unfold mn; split <;> omega, ← bin_symm hm]
    exact binomial_loop hn (n - m) 0 (n - m) (by omega) (by omega)
def bl (n : Nat) : Nat := if n = 0 then 0 else 32 * ((dg n).length - 1) + Lib.bitLen (rd (dg n) (((dg n).length - 1 : Nat) : Int)).toNat
theorem mul_len (x y : Nat) : (dg (x * y)).length ≤ (dg x).length + (dg y).length := by
  refine dg_len_le ?_
  rw [bp_add]
  exact Nat.mul_lt_mul'' (dg_lt_len x) (dg_lt_len y)
theorem rtrim_loop {l : List Int} (hl : Lm l) (hlen : l.length < 1099511627776) : ∀ n : Nat, n ≤ l.length → (∀ i : Nat, n ≤ i → i < l.length → rd l (i : Int) = 0) →
    Ev (fun k => r1_Trim.l0 k l (n : Int)) (dg (lv l).toNat) := by
  intro n
  induction n with
  | zero =>
    intro hn hz
    refine Ev.succ ?_
    simp only [r1_Trim.l0, Option.bind_some, if_neg (show ¬ ((0 : Nat) : Int) > 0 by omega), if_pos (show (0 : Int) ≤ ((0 : Nat) : Int) by omega), if_pos (show ((0 : Nat) : Int) ≤ (l.length : Int) by omega), if_pos (show ([] : List Int).length + (l.take ((0 : Nat) : Int).toNat).length < 35184372088832 by simp), List.nil_append]
    refine Ev.cast (Ev.some _) ?_
    rw [show (((0 : Nat) : Int)).toNat = 0 from rfl]
    exact dg_take hl hn hz (.inl rfl)
  | succ n ih =>
    intro hn hz
    refine Ev.succ ?_
    have e : wrap64 (((n + 1 : Nat) : Int) - 1) = (n : Int) := by rw [w64 (by omega) (by omega)]; omega
    by_cases h : rd l (n : Int) = 0
    · simp only [r1_Trim.l0, e, if_pos (show ((n + 1 : Nat) : Int) > 0 by omega), if_pos (show (0 : Int) ≤ (n : Int) by omega), if_pos (show (n : Int) < (l.length : Int) by omega), if_pos h]
      exact ih (by omega) (fun i h1 h2 => by
        by_cases e2 : i = n
        · subst e2; exact h
        · exact hz i (by omega) h2)
    · have hlt : ([] : List Int).length + (l.take ((n + 1 : Nat) : Int).toNat).length < 35184372088832 := by
        rw [List.length_take, List.length_nil]; clear e; omega
      simp only [r1_Trim.l0, Option.bind_some, e, if_pos (show ((n + 1 : Nat) : Int) > 0 by omega), if_pos (show (0 : Int) ≤ (n : Int) by omega), if_pos (show (n : Int) < (l.length : Int) by omega), if_neg h, if_pos (show (0 : Int) ≤ ((n + 1 : Nat) : Int) by omega), if_pos (show ((n + 1 : Nat) : Int) ≤ (l.length : Int) by omega), if_pos hlt, List.nil_append]
      refine Ev.cast (Ev.some _) ?_
      rw [show (((n + 1 : Nat) : Int)).toNat = n + 1 by omega]
      exact dg_take hl hn hz (.inr h)
theorem rtrim_ev {l : List Int} (hl : Lm l) (hlen : l.length < 1099511627776) : Ev (fun k => r1_Trim.f k l) (dg (lv l).toNat) := by
  simp only [r1_Trim.f]
  exact rtrim_loop hl hlen l.length (Nat.le_refl _) (fun i h1 h2 => by omega)
theorem rof_ev {n : Nat} (hn : n < 18446744073709551616) : Ev (fun k => r1_Of.f k (n : Int)) (dg n) := by
  simp only [r1_Of.f]
  have e1 : Int.tmod (n : Int) 4294967296 = (n : Int) % 4294967296 := Int.tmod_eq_emod_of_nonneg (by omega)
  have e2 : Int.tdiv (n : Int) 4294967296 = (n : Int) / 4294967296 := Int.tdiv_eq_ediv_of_nonneg (by omega)
  rw [e1, e2, u64w (x := (n : Int) / 4294967296) (by clear e1 e2; omega) (by clear e1 e2; omega)]
  have hl : Lm [(n : Int) % 4294967296 % 4294967296, ((n : Int) / 4294967296) % 4294967296] := by
    rw [lm_cons, lm_cons]
    clear e1 e2
    exact ⟨by omega, by omega, lm_nil⟩
  refine Ev.bind (rtrim_ev hl (by simp)) ?_
  refine Ev.cast (Ev.some _) ?_
  congr 1
  simp only [lv_cons, lv_nil]
  clear e1 e2
  omega
theorem limb_eq {l : List Int} (hl : Lm l) (i : Nat) : r1_limb.f l (i : Int) = some (rd l (i : Int)) := by
  unfold r1_limb.f
  have r := rd_lm hl (i : Int)
  by_cases h : i < l.length
  · rw [if_pos (by omega), if_pos (by omega), u64w r.1 (by omega)]
  · rw [if_neg (by omega), rd_ge (by omega)]
theorem lv_take_any (l : List Int) (i : Nat) : lv (l.take (i + 1)) = lv (l.take i) + (bp i : Int) * rd l (i : Int) := by
  by_cases h : i < l.length
  · exact lv_take_succ h
  · rw [rd_ge (by omega), List.take_of_length_le (by omega), List.take_of_length_le (by omega)]; simp
theorem tmod_nn {a : Int} (b : Int) (h : 0 ≤ a) : Int.tmod a b = a % b := Int.tmod_eq_emod_of_nonneg h
theorem tdiv_nn {a : Int} (b : Int) (h : 0 ≤ a) : Int.tdiv a b = a / b := Int.tdiv_eq_ediv_of_nonneg h
theorem rmul_inner {b l : List Int} (hl : Lm l) (hb : Lm b) (hbl : b.length < 268435456) (hll : l.length < 268435456) (i : Nat) (hi : i < l.length) (V : Int) (R : List Int)
    (next : ∀ o : List Int, o.length = l.length + b.length → Lm o → (∀ j : Nat, i + 1 + b.length ≤ j → rd o (j : Int) = 0) → Aside0 (lv o = V + (bp i : Int) * (rd l (i : Int) * lv b)) → Ev (fun k => r1_Mul.l0 k l b o ((i + 1 : Nat) : Int)) R) :
    ∀ (d j : Nat) (o : List Int) (c : Int), j + d = b.length → o.length = l.length + b.length → Lm o → 0 ≤ c → c < 4294967296 → (∀ m : Nat, i + b.length ≤ m → rd o (m : Int) = 0) →
      Aside0 (lv o + (bp (i + j) : Int) * c = V + (bp i : Int) * (rd l (i : Int) * lv (b.take j))) →
      Ev (fun k => r1_Mul.l1 k l b o (i : Int) c (j : Int)) R := by
  intro d
  induction d with
  | zero =>
    intro j o c hj ho hol hc0 hc1 hz hv
    have hj : j = b.length := by omega
    subst hj
    refine Ev.succ ?_
    simp only [r1_Mul.l1, wn (show (i : Int) + (b.length : Int) = ((i + b.length : Nat) : Int) by omega) (by omega), wn (show (i : Int) + 1 = ((i + 1 : Nat) : Int) by omega) (by omega), if_neg (show ¬ ((b.length : Nat) : Int) < (b.length : Int) by omega), if_pos (show (0 : Int) ≤ ((i + b.length : Nat) : Int) by omega), if_pos (show ((i + b.length : Nat) : Int) < (o.length : Int) by omega)]
    rw [Int.toNat_natCast, show c % 4294967296 = c by omega]
    refine next _ (by rw [List.length_set]; omega) (lm_set hol hc0 hc1) (fun m hm => ?_) ⟨?_⟩
    · rw [rd_set_ne _ (by omega)]; exact hz m (by omega)
    · rw [lv_set _ (by omega), hz _ (Nat.le_refl _), Int.sub_zero, hv.out, List.take_of_length_le (Nat.le_refl _)]
  | succ d ih =>
    intro j o c hj ho hol hc0 hc1 hz hv
    have hjb : j < b.length := by omega
    have rl := rd_lm hl (i : Int)
    refine Ev.succ ?_
    have rb := rd_lm hb (j : Int)
    have ro := rd_lm hol ((i + j : Nat) : Int)
    have hb2 := mac_bound rl.1 rl.2 rb.1 rb.2 ro.1 ro.2 hc0 hc1
    have hs00 : 0 ≤ rd l (i : Int) * rd b (j : Int) + rd o ((i + j : Nat) : Int) + c := Int.add_nonneg (Int.add_nonneg hb2.1 ro.1) hc0
    simp only [r1_Mul.l1, wn (show (i : Int) + (j : Int) = ((i + j : Nat) : Int) by omega) (by omega), wn (show (j : Int) + 1 = ((j + 1 : Nat) : Int) by omega) (by omega), if_pos (show (j : Int) < (b.length : Int) by omega), if_pos (show (0 : Int) ≤ (i : Int) by omega), if_pos (show (i : Int) < (l.length : Int) by omega), if_pos (show (0 : Int) ≤ (j : Int) by omega), if_pos (show (0 : Int) ≤ ((i + j : Nat) : Int) by omega), if_pos (show ((i + j : Nat) : Int) < (o.length : Int) by omega), mac_wrap rl.1 rl.2 rb.1 rb.2 ro.1 ro.2 hc0 hc1, tmod_nn 4294967296 hs00, tdiv_nn 4294967296 hs00]
    have hdef : ∃ s, s = rd l (i : Int) * rd b (j : Int) + rd o ((i + j : Nat) : Int) + c := ⟨_, rfl⟩
    obtain ⟨s, hs⟩ := hdef
    have hs0 : 0 ≤ s := by rw [hs]; exact hs00
    have hs1 : s < 18446744073709551616 := by rw [hs]; exact hb2.2
    have hd := div_bound hs0 hs1
    clear hb2
    rw [← hs]
    rw [Int.toNat_natCast]
    have hs := Aside0.mk hs
    have hq : IntKind.u64.wrap (s / 4294967296) = s / 4294967296 := u64w hd.2.2.1 (by omega)
    rw [hq]
    clear hq
    rw [show s % 4294967296 % 4294967296 = s % 4294967296 by omega]
    refine ih (j + 1) _ _ (by omega) (by rw [List.length_set]; omega) (lm_set hol hd.1 hd.2.1) hd.2.2.1 hd.2.2.2 (fun m hm => ?_) ⟨?_⟩
    · rw [rd_set_ne _ (by omega)]; exact hz m hm
    · rw [lv_set _ (by omega), lv_take_succ hjb, ← Nat.add_assoc, bp_succ, Int.natCast_mul]
      have hdiv : s % 4294967296 + 4294967296 * (s / 4294967296) = rd l (i : Int) * rd b (j : Int) + rd o ((i + j : Nat) : Int) + c := by rw [split_div]; exact hs.out
      have hv := hv.out
      have hbp : ((bp (i + j) : Nat) : Int) = (bp i : Int) * (bp j : Int) := by rw [bp_add, Int.natCast_mul]
      clear ih hz next hs hs0 hs1 hd rb ro hc0 hc1 hs00 rl
      generalize s % 4294967296 = y at *
      generalize s / 4294967296 = u at *
      generalize (bp (i + j) : Int) = p at *
      generalize (bp i : Int) = pi at *
      generalize (bp j : Int) = pj at *
      generalize rd b (j : Int) = rb at *
      generalize rd l (i : Int) = x at *
      generalize rd o ((i + j : Nat) : Int) = ro at *
      generalize lv o = lo at *
      generalize lv (b.take j) = lt at *
      subst hbp
      have h1 : lo + pi * pj * c = V + pi * (x * lt) := hv
      have h2 : y + 4294967296 * u = x * rb + ro + c := hdiv
      show lo + pi * pj * (y - ro) + 4294967296 * (pi * pj) * u = V + pi * (x * (lt + pj * rb))
      have h3 : pi * pj * (y + 4294967296 * u) = pi * pj * (x * rb + ro + c) := by rw [h2]
      grind
theorem rmul_outer {b l : List Int} (hb : Lm b) (hl : Lm l) (hbl : b.length < 268435456) (hll : l.length < 268435456) : ∀ (d i : Nat) (o : List Int), i + d = l.length → o.length = l.length + b.length → Lm o → (∀ m : Nat, i + b.length ≤ m → rd o (m : Int) = 0) →
    Aside0 (lv o = lv (l.take i) * lv b) → Ev (fun k => r1_Mul.l0 k l b o (i : Int)) (dg (lv l * lv b).toNat) := by
  intro d
  induction d with
  | zero =>
    intro i o hi ho hol hz hv
    have hi : i = l.length := by omega
    subst hi
    refine Ev.succ ?_
    simp only [r1_Mul.l0, if_neg (show ¬ ((l.length : Nat) : Int) < (l.length : Int) by omega)]
    refine Ev.bind (rtrim_ev hol (by omega)) ?_
    refine Ev.cast (Ev.some _) ?_
    rw [hv.out, List.take_of_length_le (Nat.le_refl _)]
  | succ d ih =>
    intro i o hi ho hol hz hv
    have hil : i < l.length := by omega
    refine Ev.succ ?_
    simp only [r1_Mul.l0, if_pos (show (i : Int) < (l.length : Int) by omega)]
    refine rmul_inner hl hb hbl hll i hil (lv (l.take i) * lv b) _ (fun o2 h1 h2 h3 h4 => ?_) b.length 0 o 0 (by omega) ho hol (by omega) (by omega) hz ⟨?_⟩
    · refine ih (i + 1) o2 (by omega) h1 h2 (fun m hm => h3 m hm) ⟨?_⟩
      rw [h4.out, lv_take_succ hil, Int.add_mul, Int.mul_assoc]
    · rw [hv.out]; simp [lv_nil]
theorem rmul_ev {a b : List Int} (ha : Lm a) (hb : Lm b) (h1 : a.length < 268435456) (h2 : b.length < 268435456) : Ev (fun k => r1_Mul.f k a b) (dg (lv a * lv b).toNat) := by
  simp only [r1_Mul.f]
  simp only [wn (show (a.length : Int) + (b.length : Int) = ((a.length + b.length : Nat) : Int) by omega) (by omega), Int.toNat_natCast, if_pos (show (0 : Int) ≤ ((a.length + b.length : Nat) : Int) by omega), if_pos (show a.length + b.length ≤ 70368744177664 by omega)]
  exact rmul_outer hb ha h2 h1 a.length 0 _ (by omega) (by simp) (lm_rep _) (fun m _ => rd_rep _ m) ⟨by rw [lv_rep]; simp [lv_nil]⟩
theorem rmul2_ev {a b : Nat} (h1 : (dg a).length < 268435456) (h2 : (dg b).length < 268435456) : Ev (fun k => r1_Mul.f k (dg a) (dg b)) (dg (a * b)) := by
  refine Ev.cast (rmul_ev (lm_dg a) (lm_dg b) h1 h2) ?_
  rw [lv_dg, lv_dg, ← Int.natCast_mul, Int.toNat_natCast]
theorem rsmall_loop {a : List Int} {b : Int} (ha : Lm a) (hb0 : 0 < b) (hb1 : b < 4294967296) (hlen : a.length < 1073741824) : ∀ (n : Nat) (o : List Int) (r : Int), n ≤ a.length → o.length = a.length → Lm o → (∀ j : Nat, j < n → rd o (j : Int) = 0) → 0 ≤ r → r < b →
    Aside0 (lv o * b + (bp n : Int) * r = lv a - lv (a.take n)) → Ev (fun k => r1_small.l0 k a b o r ((n : Int) - 1)) (dg (lv a / b).toNat) := by
  intro n
  induction n with
  | zero =>
    intro o r hn ho hol hz hr0 hr1 hv
    refine Ev.succ ?_
    simp only [r1_small.l0, if_neg (show ¬ ((0 : Nat) : Int) - 1 ≥ 0 by omega)]
    refine Ev.bind (rtrim_ev hol (by omega)) ?_
    refine Ev.cast (Ev.some _) ?_
    have hv := hv.out
    rw [List.take_zero, lv_nil, bp_zero] at hv
    have e : lv a = b * lv o + r := by rw [Int.mul_comm]; omega
    have h1 : lv a / b = lv o := by
      rw [e, Int.add_comm, Int.add_mul_ediv_left _ _ (by omega), Int.ediv_eq_zero_of_lt hr0 hr1]; omega
    rw [h1]
  | succ n ih =>
    intro o r hn ho hol hz hr0 hr1 hv
    refine Ev.succ ?_
    have ra := rd_lm ha (n : Int)
    have hd := digit_bounds hr0 hr1 hb1 ra.1 ra.2
    have hdiv : b * ((r * 4294967296 + rd a (n : Int)) / b) + (r * 4294967296 + rd a (n : Int)) % b = r * 4294967296 + rd a (n : Int) := Int.mul_ediv_add_emod _ _
    have t0 : 0 ≤ r * 4294967296 + rd a (n : Int) := by omega
    simp only [r1_small.l0, show ((n + 1 : Nat) : Int) - 1 = (n : Int) from by omega, if_pos (show (n : Int) ≥ 0 by omega), if_pos (show (0 : Int) ≤ (n : Int) by omega), if_pos (show (n : Int) < (a.length : Int) by omega), if_pos (show (n : Int) < (o.length : Int) by omega), u64w (x := b) (by omega) (by omega), if_neg (show ¬ b = 0 by omega),
      u64w (x := rd a (n : Int)) ra.1 (by omega), u64w (x := r * 4294967296) (by omega) (by omega), u64w (x := r * 4294967296 + rd a (n : Int)) (by omega) (by omega), w64 (x := (n : Int) - 1) (by omega) (by omega)]
    rw [Int.tdiv_eq_ediv_of_nonneg t0, Int.tmod_eq_emod_of_nonneg t0]
    generalize (r * 4294967296 + rd a (n : Int)) / b = q at *
    generalize (r * 4294967296 + rd a (n : Int)) % b = s at *
    rw [u64w (x := q) hd.1 (by omega), show q % 4294967296 = q by omega, Int.toNat_natCast]
    refine ih _ _ (by omega) (by rw [List.length_set]; exact ho) (lm_set hol hd.1 hd.2.1) (fun j hj => ?_) hd.2.2.1 hd.2.2.2 ⟨?_⟩
    · rw [rd_set_ne _ (by omega)]; exact hz j (by omega)
    · have hv := hv.out
      rw [lv_take_succ (l := a) (i := n) (by omega), bp_succ, Int.natCast_mul] at hv
      rw [lv_set (l := o) (i := n) _ (by omega), hz n (by omega)]
      clear ih hz hd ra t0
      generalize lv o = x at *
      generalize (bp n : Int) = p at *
      generalize rd a (n : Int) = y at *
      generalize lv a = A at *
      generalize lv (a.take n) = T at *
      have hv : x * b + 4294967296 * p * r = A - (T + p * y) := hv
      have h3 : p * (b * q + s) = p * (r * 4294967296 + y) := by rw [hdiv]
      grind
theorem rsmall_ev {a n d : Nat} (ha : (dg a).length < 134217728) (hn : n < 4294967296) (hd0 : 0 < d) (hd1 : d < 4294967296) : Ev (fun k => r1_small.f k (dg a) (n : Int) (d : Int)) (dg (a * n / d)) := by
  simp only [r1_small.f, u64w (x := (n : Int)) (by omega) (by omega)]
  refine Ev.bind (rof_ev (by omega)) ?_
  have hnl : (dg n).length ≤ 1 := dg_len_le (by rw [show (1 : Nat) = 0 + 1 from rfl, bp_succ, bp_zero]; omega)
  refine Ev.bind (rmul2_ev (by omega) (by omega)) ?_
  have hl := mul_len a n
  simp only [if_pos (show (0 : Int) ≤ ((dg (a * n)).length : Int) by omega), Int.toNat_natCast, if_pos (show (dg (a * n)).length ≤ 70368744177664 by omega), w64 (x := ((dg (a * n)).length : Int) - 1) (by omega) (by omega)]
  refine Ev.cast (rsmall_loop (lm_dg _) (b := (d : Int)) (by omega) (by omega) (by omega) _ _ 0 (Nat.le_refl _) (by simp) (lm_rep _) (fun j _ => rd_rep _ j) (by omega) (by omega) ⟨by rw [lv_rep, List.take_of_length_le (Nat.le_refl _)]; simp⟩) ?_
  rw [lv_dg, ← Int.natCast_ediv, Int.toNat_natCast]
theorem choose_loop {n : Nat} (hn : n ≤ 4096) : ∀ (d i m : Nat), i + d = m → m ≤ n → Ev (fun k => r1_Choose.l0 k (n : Int) (m : Int) (dg (bin n i)) (i : Int)) (dg (bin n m)) := by
  intro d
  induction d with
  | zero =>
    intro i m hi hm
    have hi : i = m := by omega
    subst hi
    refine Ev.succ ?_
    simp only [r1_Choose.l0, if_neg (show ¬ (i : Int) < (i : Int) by omega)]
    exact Ev.some _
  | succ d ih =>
    intro i m hi hm
    refine Ev.succ ?_
    have hl := bin_len hn i
    simp only [r1_Choose.l0, wn (show (n : Int) - (i : Int) = ((n - i : Nat) : Int) by omega) (by omega), wn (show (i : Int) + 1 = ((i + 1 : Nat) : Int) by omega) (by omega), if_pos (show (i : Int) < (m : Int) by omega)]
    refine Ev.bind (rsmall_ev (by omega) (by omega) (by omega) (by omega)) ?_
    rw [bin_mul, Nat.mul_div_cancel_left _ (by omega)]
    exact ih (i + 1) m (by omega) hm
theorem choose_ev {n m : Nat} (hn : n ≤ 4096) (hm : m < 9223372036854775808) : Ev (fun k => r1_Choose.f k (n : Int) (m : Int)) (dg (bin n m)) := by
  simp only [r1_Choose.f, if_neg (show ¬ (m : Int) < 0 by omega)]
  by_cases h : n < m
  · simp only [decide_eq_true (show (m : Int) > (n : Int) by omega)]
    refine Ev.succ ?_
    simp only [r1_Choose.j0, if_true, bin_above h, dg_zero]
    exact Ev.some _
  · simp only [decide_eq_false (show ¬ (m : Int) > (n : Int) by omega)]
    refine Ev.succ ?_
    simp only [r1_Choose.j0, Bool.false_eq_true, if_false]
    rw [show ([1] : List Int) = dg (bin n 0) by rw [bin_zero, dg_one]]
    exact choose_loop hn m 0 m (by omega) (by omega)
def cmpZ (x y : Int) : Int := if x < y then -1 else if y < x then 1 else 0
theorem take_bound {a : List Int} (ha : Lm a) (n : Nat) : 0 ≤ lv (a.take n) ∧ lv (a.take n) < bp n := by
  have h1 := lv_nonneg (lm_take ha n)
  have h2 := lv_le_of_len (lm_take ha n) (m := n) (by rw [List.length_take]; omega)
  omega
theorem cmp_lt {a b : List Int} (ha : Lm a) (hb : Lm b) (n : Nat) (h : rd a (n : Int) < rd b (n : Int)) : lv (a.take (n + 1)) < lv (b.take (n + 1)) := by
  have h1 := take_bound ha n
  have h2 := take_bound hb n
  have h3 : (bp n : Int) * (rd a (n : Int) + 1) ≤ (bp n : Int) * rd b (n : Int) := Int.mul_le_mul_of_nonneg_left (by omega) (by omega)
  rw [lv_take_any, lv_take_any]
  rw [Int.mul_add, Int.mul_one] at h3
  generalize (bp n : Int) * rd a (n : Int) = x at *
  generalize (bp n : Int) * rd b (n : Int) = y at *
  omega
theorem cmp_step {a b : List Int} (ha : Lm a) (hb : Lm b) (n : Nat) : cmpZ (lv (a.take (n + 1))) (lv (b.take (n + 1))) = if rd a (n : Int) < rd b (n : Int) then -1 else if rd b (n : Int) < rd a (n : Int) then 1 else cmpZ (lv (a.take n)) (lv (b.take n)) := by
  by_cases h : rd a (n : Int) < rd b (n : Int)
  · rw [if_pos h]
    unfold cmpZ
    rw [if_pos (cmp_lt ha hb n h)]
  · rw [if_neg h]
    by_cases g : rd b (n : Int) < rd a (n : Int)
    · rw [if_pos g]
      have := cmp_lt hb ha n g
      unfold cmpZ
      rw [if_neg (by omega), if_pos this]
    · rw [if_neg g]
      have e : rd a (n : Int) = rd b (n : Int) := by omega
      rw [lv_take_any, lv_take_any, e]
      unfold cmpZ
      generalize (bp n : Int) * rd b (n : Int) = y at *
      by_cases h1 : lv (a.take n) < lv (b.take n)
      · rw [if_pos h1, if_pos (by omega)]
      · rw [if_neg h1, if_neg (by omega)]
        by_cases h2 : lv (b.take n) < lv (a.take n)
        · rw [if_pos h2, if_pos (by omega)]
        · rw [if_neg h2, if_neg (by omega)]
theorem ncmp_loop {a b : List Int} (ha : Lm a) (hb : Lm b) (hlen : a.length < 1073741824) (hab : a.length = b.length) : ∀ n : Nat, n ≤ a.length → Ev (fun k => nat_Cmp.l0 k a b ((n : Int) - 1)) (cmpZ (lv (a.take n)) (lv (b.take n))) := by
  intro n
  induction n with
  | zero =>
    intro _
    refine Ev.succ ?_
    simp only [nat_Cmp.l0, if_neg (show ¬ ((0 : Nat) : Int) - 1 ≥ 0 by omega)]
    exact Ev.cast (Ev.some _) (by simp [cmpZ])
  | succ n ih =>
    intro hn
    refine Ev.succ ?_
    rw [cmp_step ha hb n]
    simp only [nat_Cmp.l0, show ((n + 1 : Nat) : Int) - 1 = (n : Int) from by omega, if_pos (show (n : Int) ≥ 0 by omega), if_pos (show (0 : Int) ≤ (n : Int) by omega), if_pos (show (n : Int) < (a.length : Int) by omega), if_pos (show (n : Int) < (b.length : Int) by omega), w64 (x := (n : Int) - 1) (by omega) (by omega)]
    by_cases h : rd a (n : Int) < rd b (n : Int)
    · simp only [if_pos h]; exact Ev.some _
    · simp only [if_neg h]
      by_cases g : rd b (n : Int) < rd a (n : Int)
      · simp only [if_pos g, if_pos (show rd a (n : Int) > rd b (n : Int) from g)]; exact Ev.some _
      · simp only [if_neg g, if_neg (show ¬ rd a (n : Int) > rd b (n : Int) from g)]; exact ih (by omega)
theorem ncmp_ev {a b : Nat} (h1 : (dg a).length < 268435456) (h2 : (dg b).length < 268435456) : Ev (fun k => nat_Cmp.f k (dg a) (dg b)) (cmpZ (a : Int) (b : Int)) := by
  simp only [nat_Cmp.f]
  refine Ev.bind (short_ev (lm_dg a) (by omega)) ?_
  refine Ev.bind (short_ev (lm_dg b) (by omega)) ?_
  rw [lv_dg, lv_dg, Int.toNat_natCast, Int.toNat_natCast]
  by_cases h : (dg a).length = (dg b).length
  · simp only [if_pos (show ((dg a).length : Int) = ((dg b).length : Int) by omega), w64 (x := ((dg a).length : Int) - 1) (by omega) (by omega)]
    have := ncmp_loop (lm_dg a) (lm_dg b) (by omega) h _ (Nat.le_refl _)
    rw [List.take_of_length_le (Nat.le_refl _), List.take_of_length_le (by omega), lv_dg, lv_dg] at this
    exact this
  · simp only [if_neg (show ¬ ((dg a).length : Int) = ((dg b).length : Int) by omega)]
    by_cases g : (dg a).length < (dg b).length
    · simp only [if_pos (show ((dg a).length : Int) < ((dg b).length : Int) by omega)]
      have hlt : a < b := by
        by_cases e : b ≤ a
        · have := dg_len_mono e; omega
        · omega
      exact Ev.cast (Ev.some _) (by unfold cmpZ; rw [if_pos (by omega)])
    · simp only [if_neg (show ¬ ((dg a).length : Int) < ((dg b).length : Int) by omega)]
      have hlt : b < a := by
        by_cases e : a ≤ b
        · have := dg_len_mono e; omega
        · omega
      exact Ev.cast (Ev.some _) (by unfold cmpZ; rw [if_neg (by omega), if_pos (by omega)])
theorem rcmp_loop {a b : List Int} (ha : Lm a) (hb : Lm b) : ∀ n : Nat, n < 1073741824 → Ev (fun k => r1_Cmp.l0 k a b ((n : Int) - 1)) (cmpZ (lv (a.take n)) (lv (b.take n))) := by
  intro n
  induction n with
  | zero =>
    intro _
    refine Ev.succ ?_
    simp only [r1_Cmp.l0, if_neg (show ¬ ((0 : Nat) : Int) - 1 ≥ 0 by omega)]
    exact Ev.cast (Ev.some _) (by simp [cmpZ])
  | succ n ih =>
    intro hn
    refine Ev.succ ?_
    rw [cmp_step ha hb n]
    simp only [r1_Cmp.l0, show ((n + 1 : Nat) : Int) - 1 = (n : Int) from by omega, if_pos (show (n : Int) ≥ 0 by omega), limb_eq ha, limb_eq hb, Option.bind_some, w64 (x := (n : Int) - 1) (by omega) (by omega)]
    by_cases h : rd a (n : Int) < rd b (n : Int)
    · simp only [if_pos h]; exact Ev.some _
    · simp only [if_neg h]
      by_cases g : rd b (n : Int) < rd a (n : Int)
      · simp only [if_pos g, if_pos (show rd a (n : Int) > rd b (n : Int) from g)]; exact Ev.some _
      · simp only [if_neg g, if_neg (show ¬ rd a (n : Int) > rd b (n : Int) from g)]; exact ih (by omega)
theorem rcmp_ev {a b : Nat} (h1 : (dg a).length < 268435456) (h2 : (dg b).length < 268435456) : Ev (fun k => r1_Cmp.f k (dg a) (dg b)) (cmpZ (a : Int) (b : Int)) := by
  simp only [r1_Cmp.f]
  have hm : mx ((dg a).length : Int) ((dg b).length : Int) = ((max (dg a).length (dg b).length : Nat) : Int) := by unfold mx; split <;> omega
  rw [hm, w64 (x := ((max (dg a).length (dg b).length : Nat) : Int) - 1) (by clear hm; omega) (by clear hm; omega)]
  have := rcmp_loop (lm_dg a) (lm_dg b) (max (dg a).length (dg b).length) (by clear hm; omega)
  rw [List.take_of_length_le (by clear hm; omega), List.take_of_length_le (by clear hm; omega), lv_dg, lv_dg] at this
  exact this
end Mw
end
section
set_option linter.unusedVariables false
set_option linter.unusedSimpArgs false
namespace Mw
def El (q : Nat) (x : Int) : Prop := 0 ≤ x ∧ x < (q : Int)
structure Fld (q : Nat) (add mul : Int → Int → Int) : Prop where
  two : 2 ≤ q
  add_el : ∀ x y, El q x → El q y → El q (add x y)
  mul_el : ∀ x y, El q x → El q y → El q (mul x y)
  add_zero : ∀ x, El q x → add x 0 = x
  add_comm : ∀ x y, El q x → El q y → add x y = add y x
  add_assoc : ∀ x y z, El q x → El q y → El q z → add (add x y) z = add x (add y z)
  neg : ∀ x, El q x → ∃ y, El q y ∧ add x y = 0
  mul_one : ∀ x, El q x → mul x 1 = x
  mul_comm : ∀ x y, El q x → El q y → mul x y = mul y x
  mul_assoc : ∀ x y z, El q x → El q y → El q z → mul (mul x y) z = mul x (mul y z)
  distrib : ∀ x y z, El q x → El q y → El q z → mul x (add y z) = add (mul x y) (mul x z)
  nzd : ∀ x y, El q x → El q y → mul x y = 0 → x = 0 ∨ y = 0
noncomputable def ind (p : Prop) : Int := open Classical in if p then 1 else 0
theorem ind_true {p : Prop} (h : p) : ind p = 1 := by unfold ind; exact if_pos h
theorem ind_false {p : Prop} (h : ¬ p) : ind p = 0 := by unfold ind; exact if_neg h
theorem ind_congr {p r : Prop} (h : p ↔ r) : ind p = ind r := by rw [propext h]
theorem ind_and (p r : Prop) : ind (p ∧ r) = ind p * ind r := by
  by_cases h : p
  · by_cases g : r
    · rw [ind_true h, ind_true g, ind_true ⟨h, g⟩]; rfl
    · rw [ind_true h, ind_false g, ind_false (fun e => g e.2)]; rfl
  · rw [ind_false h, ind_false (fun e : p ∧ r => h e.1)]; simp
theorem ind_le_one (p : Prop) : ind p ≤ 1 := by
  by_cases h : p
  · rw [ind_true h]; omega
  · rw [ind_false h]; omega
theorem onto_of_inj {q : Nat} {σ : Nat → Nat} (hm : ∀ a, a < q → σ a < q) (hi : ∀ a b, a < q → b < q → σ a = σ b → a = b) :
    ∀ b, b < q → sm q (fun a => ind (σ a = b)) = 1 := by
  have le1 : ∀ b, b < q → sm q (fun a => ind (σ a = b)) ≤ 1 := by
    intro b _
    by_cases h : ∃ a, a < q ∧ σ a = b
    · obtain ⟨a, ha, e⟩ := h
      rw [sm_single ha (fun i hi2 hne => ind_false (fun e2 => hne (hi i a hi2 ha (by rw [e2, e]))))]
      exact ind_le_one _
    · rw [sm_zero (fun i hi2 => ind_false (fun e => h ⟨i, hi2, e⟩))]; omega
  have tot : sm q (fun b => sm q (fun a => ind (σ a = b))) = q := by
    rw [sm_swap]
    have : ∀ a, a < q → sm q (fun b => ind (σ a = b)) = 1 := by
      intro a ha
      rw [sm_single (hm a ha) (fun i _ hne => ind_false (fun e => hne e.symm))]
      exact ind_true rfl
    rw [sm_congr this]
    have : ∀ n : Nat, sm n (fun _ => 1) = n := by
      intro n
      induction n with
      | zero => rfl
      | succ n ih => simp only [sm]; rw [ih]; omega
    exact this q
  intro b hb
  refine Decidable.byContradiction fun hne => ?_
  have hlt : sm q (fun a => ind (σ a = b)) ≤ 0 := by have := le1 b hb; omega
  have : ∀ n : Nat, n ≤ q → sm n (fun b => sm q (fun a => ind (σ a = b))) ≤ (n : Int) - (if b < n then 1 else 0) := by
    intro n
    induction n with
    | zero => intro _; simp [sm]
    | succ n ih =>
      intro hn
      simp only [sm]
      have h1 := ih (by omega)
      have h2 := le1 n (by omega)
      by_cases e : b = n
      · subst e
        rw [if_neg (by omega)] at h1
        rw [if_pos (by omega)]; omega
      · by_cases g : b < n
        · rw [if_pos g] at h1; rw [if_pos (by omega)]; omega
        · rw [if_neg g] at h1; rw [if_neg (by omega)]; omega
  have := this q (Nat.le_refl q)
  rw [tot, if_pos hb] at this
  omega
theorem sm_perm {q : Nat} {σ : Nat → Nat} (hm : ∀ a, a < q → σ a < q) (hi : ∀ a b, a < q → b < q → σ a = σ b → a = b) (f : Nat → Int) :
    sm q (fun a => f (σ a)) = sm q f := by
  have e1 : ∀ a, a < q → f (σ a) = sm q (fun b => ind (σ a = b) * f b) := by
    intro a ha
    rw [sm_single (hm a ha) (fun i _ hne => by rw [ind_false (fun e => hne e.symm)]; simp)]
    rw [ind_true rfl]; simp
  rw [sm_congr e1, sm_swap]
  refine sm_congr fun b hb => ?_
  rw [sm_mul_right, onto_of_inj hm hi b hb]; simp
def se (q : Nat) (f : Int → Int) : Int := sm q (fun a => f (a : Int))
theorem se_congr {q : Nat} {f g : Int → Int} (h : ∀ a, El q a → f a = g a) : se q f = se q g :=
  sm_congr fun i hi => h _ ⟨by omega, by omega⟩
theorem se_zero {q : Nat} {f : Int → Int} (h : ∀ a, El q a → f a = 0) : se q f = 0 :=
  sm_zero fun i hi => h _ ⟨by omega, by omega⟩
theorem se_single {q : Nat} {a : Int} {f : Int → Int} (ha : El q a) (h : ∀ i, El q i → i ≠ a → f i = 0) : se q f = f a := by
  obtain ⟨h0, h1⟩ := ha
  unfold se
  rw [sm_single (a := a.toNat) (by omega) (fun i hi hne => h _ ⟨by omega, by omega⟩ (by omega))]
  rw [Int.toNat_of_nonneg h0]
theorem se_const (q : Nat) (c : Int) : se q (fun _ => c) = q * c := by
  unfold se
  induction q with
  | zero => simp [sm]
  | succ n ih => simp only [sm]; rw [ih, Int.natCast_add]; grind
theorem se_mul (q : Nat) (c : Int) (f : Int → Int) : se q (fun i => c * f i) = c * se q f := sm_mul _ _ _
theorem se_mul_right (q : Nat) (c : Int) (f : Int → Int) : se q (fun i => f i * c) = se q f * c := sm_mul_right _ _ _
theorem se_perm {q : Nat} {σ : Int → Int} (hm : ∀ a, El q a → El q (σ a)) (hi : ∀ a b, El q a → El q b → σ a = σ b → a = b) (f : Int → Int) :
    se q (fun a => f (σ a)) = se q f := by
  unfold se
  have := sm_perm (q := q) (σ := fun a => (σ (a : Int)).toNat)
    (fun a ha => by have := hm (a : Int) ⟨by omega, by omega⟩; unfold El at this; omega)
    (fun a b ha hb e => by
      have h1 := hm (a : Int) ⟨by omega, by omega⟩
      have h2 := hm (b : Int) ⟨by omega, by omega⟩
      unfold El at h1 h2
      have e : (σ (a : Int)).toNat = (σ (b : Int)).toNat := e
      have := hi a b ⟨by omega, by omega⟩ ⟨by omega, by omega⟩ (by omega)
      omega)
    (fun a => f (a : Int))
  rw [← this]
  refine sm_congr fun a ha => ?_
  have h1 := hm (a : Int) ⟨by omega, by omega⟩
  unfold El at h1
  rw [Int.toNat_of_nonneg h1.1]
theorem se_swap (q : Nat) (f : Int → Int → Int) : se q (fun i => se q (fun j => f i j)) = se q (fun j => se q (fun i => f i j)) := sm_swap _ _ _
def ws (q : Nat) : Nat → (List Int → Int) → Int
  | 0, f => f []
  | n + 1, f => se q (fun a => ws q n (fun w => f (a :: w)))
def Wd (q n : Nat) (w : List Int) : Prop := w.length = n ∧ ∀ x ∈ w, El q x
theorem wd_nil (q : Nat) : Wd q 0 [] := ⟨rfl, by simp⟩
theorem wd_cons {q n : Nat} {a : Int} {w : List Int} (ha : El q a) (hw : Wd q n w) : Wd q (n + 1) (a :: w) :=
  ⟨by simp [hw.1], by intro x hx; exact (List.mem_cons.mp hx).elim (fun e => e ▸ ha) (fun e => hw.2 x e)⟩
theorem wd_head {q n : Nat} {a : Int} {w : List Int} (h : Wd q (n + 1) (a :: w)) : El q a ∧ Wd q n w :=
  ⟨h.2 a (by simp), by have := h.1; simp at this; exact this, fun x hx => h.2 x (by simp [hx])⟩
theorem wd_zero {q : Nat} {w : List Int} (h : Wd q 0 w) : w = [] := List.length_eq_zero_iff.mp h.1
theorem ws_congr {q : Nat} : ∀ {n : Nat} {f g : List Int → Int}, (∀ w, Wd q n w → f w = g w) → ws q n f = ws q n g
  | 0, f, g, h => h [] (wd_nil q)
  | n + 1, f, g, h => se_congr fun a ha => ws_congr fun w hw => h (a :: w) (wd_cons ha hw)
theorem ws_mul {q : Nat} : ∀ (n : Nat) (c : Int) (f : List Int → Int), ws q n (fun w => c * f w) = c * ws q n f
  | 0, c, f => rfl
  | n + 1, c, f => by simp only [ws]; rw [se_congr (fun a _ => ws_mul n c _), se_mul]
theorem ws_se {q : Nat} : ∀ (n : Nat) (f : Int → List Int → Int), ws q n (fun w => se q (fun a => f a w)) = se q (fun a => ws q n (fun w => f a w))
  | 0, f => rfl
  | n + 1, f => by
    simp only [ws]
    rw [se_congr (fun a _ => ws_se n (fun b w => f b (a :: w))), se_swap]
section field
variable {q : Nat} {add mul : Int → Int → Int}
theorem Fld.el0 (F : Fld q add mul) : El q 0 := ⟨by omega, by have := F.two; omega⟩
theorem Fld.el1 (F : Fld q add mul) : El q 1 := ⟨by omega, by have := F.two; omega⟩
theorem Fld.zero_add (F : Fld q add mul) (x : Int) (hx : El q x) : add 0 x = x := by
  rw [F.add_comm 0 x F.el0 hx, F.add_zero x hx]
theorem Fld.cancel (F : Fld q add mul) (x y z : Int) (hx : El q x) (hy : El q y) (hz : El q z) (h : add x y = add x z) : y = z := by
  obtain ⟨n, hn, e⟩ := F.neg x hx
  have : add n (add x y) = add n (add x z) := by rw [h]
  rw [← F.add_assoc n x y hn hx hy, ← F.add_assoc n x z hn hx hz, F.add_comm n x hn hx, e, F.zero_add y hy, F.zero_add z hz] at this
  exact this
theorem Fld.mul_zero (F : Fld q add mul) (x : Int) (hx : El q x) : mul x 0 = 0 := by
  have h := F.distrib x 0 0 hx F.el0 F.el0
  rw [F.add_zero 0 F.el0] at h
  have hm := F.mul_el x 0 hx F.el0
  exact F.cancel (mul x 0) (mul x 0) 0 hm hm F.el0 (by rw [← h, F.add_zero _ hm])
theorem Fld.zero_mul (F : Fld q add mul) (x : Int) (hx : El q x) : mul 0 x = 0 := by
  rw [F.mul_comm 0 x F.el0 hx, F.mul_zero x hx]
theorem Fld.one_mul (F : Fld q add mul) (x : Int) (hx : El q x) : mul 1 x = x := by
  rw [F.mul_comm 1 x F.el1 hx, F.mul_one x hx]
theorem Fld.rdistrib (F : Fld q add mul) (x y z : Int) (hx : El q x) (hy : El q y) (hz : El q z) : mul (add y z) x = add (mul y x) (mul z x) := by
  rw [F.mul_comm _ x (F.add_el _ _ hy hz) hx, F.distrib x y z hx hy hz, F.mul_comm x y hx hy, F.mul_comm x z hx hz]
theorem Fld.inv (F : Fld q add mul) (x : Int) (hx : El q x) (h : x ≠ 0) : ∃ y, El q y ∧ mul x y = 1 := by
  have inj : ∀ a b, El q a → El q b → mul x a = mul x b → a = b := by
    intro a b ha hb e
    obtain ⟨n, hn, en⟩ := F.neg b hb
    have h0 : mul x (add a n) = 0 := by
      rw [F.distrib x a n hx ha hn, e, ← F.distrib x b n hx hb hn, en, F.mul_zero x hx]
    rcases F.nzd x (add a n) hx (F.add_el a n ha hn) h0 with g | g
    · exact absurd g h
    · have : add n a = add n b := by rw [F.add_comm n a hn ha, g, F.add_comm n b hn hb, en]
      exact F.cancel n a b hn ha hb this
  have := se_perm (q := q) (σ := mul x) (fun a ha => F.mul_el x a hx ha) inj (fun y => ind (y = 1))
  rw [se_single (f := fun y => ind (y = 1)) F.el1 (fun i _ hne => ind_false hne), ind_true rfl] at this
  refine Classical.byContradiction fun hno => ?_
  rw [se_zero (fun a ha => ind_false (fun e => hno ⟨a, ha, e⟩))] at this
  omega
def wadd (add : Int → Int → Int) (u v : List Int) : List Int := List.zipWith add u v
def wscl (mul : Int → Int → Int) (a : Int) (u : List Int) : List Int := u.map (mul a)
def dot (add mul : Int → Int → Int) : List Int → List Int → Int
  | a :: u, b :: v => add (mul a b) (dot add mul u v)
  | _, _ => 0
theorem wd_wadd (F : Fld q add mul) : ∀ {n : Nat} {u v : List Int}, Wd q n u → Wd q n v → Wd q n (wadd add u v)
  | 0, u, v, hu, hv => by rw [wd_zero hu]; exact wd_nil q
  | n + 1, [], _, hu, _ => by have := hu.1; simp at this
  | n + 1, _ :: _, [], _, hv => by have := hv.1; simp at this
  | n + 1, a :: u, b :: v, hu, hv => by
    have h1 := wd_head hu
    have h2 := wd_head hv
    exact wd_cons (F.add_el a b h1.1 h2.1) (wd_wadd F h1.2 h2.2)
theorem wd_wscl (F : Fld q add mul) {n : Nat} {a : Int} {u : List Int} (ha : El q a) (hu : Wd q n u) : Wd q n (wscl mul a u) :=
  ⟨by unfold wscl; rw [List.length_map]; exact hu.1, by
    intro x hx
    unfold wscl at hx
    obtain ⟨y, hy, rfl⟩ := List.mem_map.mp hx
    exact F.mul_el a y ha (hu.2 y hy)⟩
theorem wd_rep {n : Nat} (h : El q 0) : Wd q n (List.replicate n 0) :=
  ⟨by simp, fun x hx => by rw [(List.mem_replicate.mp hx).2]; exact h⟩
theorem dot_el (F : Fld q add mul) : ∀ {n : Nat} {u v : List Int}, Wd q n u → Wd q n v → El q (dot add mul u v)
  | 0, u, v, hu, hv => by rw [wd_zero hu]; exact F.el0
  | n + 1, [], _, hu, _ => by have := hu.1; simp at this
  | n + 1, _ :: _, [], _, hv => by have := hv.1; simp at this
  | n + 1, a :: u, b :: v, hu, hv => by
    have h1 := wd_head hu
    have h2 := wd_head hv
    exact F.add_el _ _ (F.mul_el a b h1.1 h2.1) (dot_el F h1.2 h2.2)
theorem dot_add (F : Fld q add mul) : ∀ {n : Nat} {u v y : List Int}, Wd q n u → Wd q n v → Wd q n y → dot add mul (wadd add u v) y = add (dot add mul u y) (dot add mul v y)
  | 0, u, v, y, hu, hv, hy => by rw [wd_zero hu, wd_zero hv, wd_zero hy]; exact (F.add_zero 0 F.el0).symm
  | n + 1, [], _, _, hu, _, _ => by have := hu.1; simp at this
  | n + 1, _ :: _, [], _, _, hv, _ => by have := hv.1; simp at this
  | n + 1, _ :: _, _ :: _, [], _, _, hy => by have := hy.1; simp at this
  | n + 1, a :: u, b :: v, c :: y, hu, hv, hy => by
    have h1 := wd_head hu
    have h2 := wd_head hv
    have h3 := wd_head hy
    have ih := dot_add F h1.2 h2.2 h3.2
    show add (mul (add a b) c) (dot add mul (wadd add u v) y) = add (add (mul a c) (dot add mul u y)) (add (mul b c) (dot add mul v y))
    rw [ih, F.rdistrib c a b h3.1 h1.1 h2.1]
    have e1 := F.mul_el a c h1.1 h3.1
    have e2 := F.mul_el b c h2.1 h3.1
    have e3 := dot_el F h1.2 h3.2
    have e4 := dot_el F h2.2 h3.2
    rw [F.add_assoc _ _ _ e1 e2 (F.add_el _ _ e3 e4), F.add_assoc _ _ _ e1 e3 (F.add_el _ _ e2 e4), ← F.add_assoc _ _ _ e2 e3 e4, F.add_comm _ _ e2 e3, F.add_assoc _ _ _ e3 e2 e4]
theorem dot_scl (F : Fld q add mul) : ∀ {n : Nat} {a : Int} {u y : List Int}, El q a → Wd q n u → Wd q n y → dot add mul (wscl mul a u) y = mul a (dot add mul u y)
  | 0, a, u, y, ha, hu, hy => by rw [wd_zero hu, wd_zero hy]; exact (F.mul_zero a ha).symm
  | n + 1, _, [], _, _, hu, _ => by have := hu.1; simp at this
  | n + 1, _, _ :: _, [], _, _, hy => by have := hy.1; simp at this
  | n + 1, a, b :: u, c :: y, ha, hu, hy => by
    have h1 := wd_head hu
    have h3 := wd_head hy
    have ih := dot_scl F ha h1.2 h3.2
    show add (mul (mul a b) c) (dot add mul (wscl mul a u) y) = mul a (add (mul b c) (dot add mul u y))
    rw [ih, F.distrib _ _ _ ha (F.mul_el _ _ h1.1 h3.1) (dot_el F h1.2 h3.2), F.mul_assoc a b c ha h1.1 h3.1]
theorem wadd_rep (F : Fld q add mul) : ∀ {n : Nat} {u : List Int}, Wd q n u → wadd add u (List.replicate n 0) = u
  | 0, u, hu => by rw [wd_zero hu]; rfl
  | n + 1, [], hu => by have := hu.1; simp at this
  | n + 1, a :: u, hu => by
    have h := wd_head hu
    show add a 0 :: wadd add u (List.replicate n 0) = a :: u
    rw [F.add_zero a h.1, wadd_rep F h.2]
theorem wadd_comm (F : Fld q add mul) : ∀ {n : Nat} {u v : List Int}, Wd q n u → Wd q n v → wadd add u v = wadd add v u
  | 0, u, v, hu, hv => by rw [wd_zero hu, wd_zero hv]
  | n + 1, [], _, hu, _ => by have := hu.1; simp at this
  | n + 1, _ :: _, [], _, hv => by have := hv.1; simp at this
  | n + 1, a :: u, b :: v, hu, hv => by
    have h1 := wd_head hu
    have h2 := wd_head hv
    show add a b :: wadd add u v = add b a :: wadd add v u
    rw [F.add_comm a b h1.1 h2.1, wadd_comm F h1.2 h2.2]
theorem wadd_assoc (F : Fld q add mul) : ∀ {n : Nat} {u v y : List Int}, Wd q n u → Wd q n v → Wd q n y → wadd add (wadd add u v) y = wadd add u (wadd add v y)
  | 0, u, v, y, hu, hv, hy => by rw [wd_zero hu, wd_zero hv, wd_zero hy]; rfl
  | n + 1, [], _, _, hu, _, _ => by have := hu.1; simp at this
  | n + 1, _ :: _, [], _, _, hv, _ => by have := hv.1; simp at this
  | n + 1, _ :: _, _ :: _, [], _, _, hy => by have := hy.1; simp at this
  | n + 1, a :: u, b :: v, c :: y, hu, hv, hy => by
    have h1 := wd_head hu
    have h2 := wd_head hv
    have h3 := wd_head hy
    show add (add a b) c :: wadd add (wadd add u v) y = add a (add b c) :: wadd add u (wadd add v y)
    rw [F.add_assoc a b c h1.1 h2.1 h3.1, wadd_assoc F h1.2 h2.2 h3.2]
theorem wscl_zero (F : Fld q add mul) : ∀ {n : Nat} {u : List Int}, Wd q n u → wscl mul 0 u = List.replicate n 0
  | 0, u, hu => by rw [wd_zero hu]; rfl
  | n + 1, [], hu => by have := hu.1; simp at this
  | n + 1, a :: u, hu => by
    have h := wd_head hu
    show mul 0 a :: wscl mul 0 u = 0 :: List.replicate n 0
    rw [F.zero_mul a h.1, wscl_zero F h.2]
theorem wscl_one (F : Fld q add mul) : ∀ {n : Nat} {u : List Int}, Wd q n u → wscl mul 1 u = u
  | 0, u, hu => by rw [wd_zero hu]; rfl
  | n + 1, [], hu => by have := hu.1; simp at this
  | n + 1, a :: u, hu => by
    have h := wd_head hu
    show mul 1 a :: wscl mul 1 u = a :: u
    rw [F.one_mul a h.1, wscl_one F h.2]
theorem wscl_rep (F : Fld q add mul) {a : Int} (ha : El q a) (n : Nat) : wscl mul a (List.replicate n 0) = List.replicate n 0 := by
  unfold wscl; rw [List.map_replicate, F.mul_zero a ha]
theorem wscl_add (F : Fld q add mul) {a b : Int} (ha : El q a) (hb : El q b) : ∀ {n : Nat} {u : List Int}, Wd q n u → wscl mul (add a b) u = wadd add (wscl mul a u) (wscl mul b u)
  | 0, u, hu => by rw [wd_zero hu]; rfl
  | n + 1, [], hu => by have := hu.1; simp at this
  | n + 1, c :: u, hu => by
    have h1 := wd_head hu
    show mul (add a b) c :: wscl mul (add a b) u = add (mul a c) (mul b c) :: wadd add (wscl mul a u) (wscl mul b u)
    rw [F.rdistrib c a b h1.1 ha hb, wscl_add F ha hb h1.2]
theorem wneg (F : Fld q add mul) : ∃ m, El q m ∧ add 1 m = 0 ∧ ∀ {n : Nat} {u : List Int}, Wd q n u → wadd add u (wscl mul m u) = List.replicate n 0 := by
  obtain ⟨m, hm, e⟩ := F.neg 1 F.el1
  refine ⟨m, hm, e, fun {n u} hu => ?_⟩
  have := wscl_add F F.el1 hm hu
  rw [e, wscl_one F hu, wscl_zero F hu] at this
  exact this.symm
theorem ws_shift (F : Fld q add mul) : ∀ {n : Nat} {t : List Int}, Wd q n t → ∀ f, ws q n (fun w => f (wadd add t w)) = ws q n f
  | 0, t, ht, f => by rw [wd_zero ht]; rfl
  | n + 1, [], ht, _ => by have := ht.1; simp at this
  | n + 1, b :: t, ht, f => by
    have h := wd_head ht
    show se q (fun a => ws q n (fun w => f (add b a :: wadd add t w))) = se q (fun a => ws q n (fun w => f (a :: w)))
    rw [se_congr (fun a _ => ws_shift F h.2 (fun w => f (add b a :: w)))]
    exact se_perm (σ := add b) (fun a ha => F.add_el b a h.1 ha) (fun a c ha hc e => F.cancel b a c h.1 ha hc e) (fun a => ws q n (fun w => f (a :: w)))
structure Lin (q : Nat) (add mul : Int → Int → Int) (n : Nat) (C : List Int → Prop) : Prop where
  zero : C (List.replicate n 0)
  add : ∀ u v, Wd q n u → Wd q n v → C u → C v → C (wadd add u v)
  scl : ∀ a u, El q a → Wd q n u → C u → C (wscl mul a u)
def Dl (q : Nat) (add mul : Int → Int → Int) (n : Nat) (C : List Int → Prop) (d : List Int) : Prop := ∀ c, Wd q n c → C c → dot add mul c d = 0
def Van : List Bool → List Int → Prop
  | s :: S, a :: w => (s = true → a = 0) ∧ Van S w
  | _, _ => True
def cnt : List Bool → Nat
  | [] => 0
  | true :: S => cnt S + 1
  | false :: S => cnt S
theorem ind_cons_true (C : List Int → Prop) (S : List Bool) (a : Int) (w : List Int) : ind (C (a :: w) ∧ Van (true :: S) (a :: w)) = ind (a = 0) * ind (C (a :: w) ∧ Van S w) := by
  rw [← ind_and]; refine ind_congr ⟨fun h => ⟨h.2.1 rfl, h.1, h.2.2⟩, fun h => ⟨h.2.1, fun _ => h.1, h.2.2⟩⟩
theorem ind_cons_false (C : List Int → Prop) (S : List Bool) (a : Int) (w : List Int) : ind (C (a :: w) ∧ Van (false :: S) (a :: w)) = ind (C (a :: w) ∧ Van S w) :=
  ind_congr ⟨fun h => ⟨h.1, h.2.2⟩, fun h => ⟨h.1, fun e => by simp at e, h.2⟩⟩
theorem ws_at0 (h0 : El q 0) (n : Nat) (C : List Int → Prop) (S : List Bool) :
    ws q (n + 1) (fun c => ind (C c ∧ Van (true :: S) c)) = ws q n (fun w => ind (C (0 :: w) ∧ Van S w)) := by
  simp only [ws]
  rw [se_congr (fun a _ => ws_congr (fun w _ => ind_cons_true C S a w))]
  rw [se_congr (fun a _ => ws_mul n (ind (a = 0)) _)]
  rw [se_single h0 (fun i _ hne => by rw [ind_false hne]; simp)]
  rw [ind_true rfl]; simp
theorem ws_any (n : Nat) (C : List Int → Prop) (S : List Bool) :
    ws q (n + 1) (fun c => ind (C c ∧ Van (false :: S) c)) = ws q n (fun w => ind (Van S w) * se q (fun a => ind (C (a :: w)))) := by
  simp only [ws]
  rw [se_congr (fun a _ => ws_congr (fun w _ => ind_cons_false C S a w))]
  rw [← ws_se]
  refine ws_congr fun w _ => ?_
  rw [← se_mul]
  refine se_congr fun a _ => ?_
  rw [← ind_and]
  exact ind_congr ⟨fun h => ⟨h.2, h.1⟩, fun h => ⟨h.2, h.1⟩⟩
theorem ws_all (n : Nat) (C : List Int → Prop) : ws q (n + 1) (fun c => ind (C c)) = ws q n (fun w => se q (fun a => ind (C (a :: w)))) := by
  simp only [ws]; rw [ws_se]
theorem ind_van_mul (C : List Int → Prop) (S : List Bool) (w : List Int) : ind (Van S w) * ind (C w) = ind (C w ∧ Van S w) := by
  rw [← ind_and]; exact ind_congr ⟨fun h => ⟨h.2, h.1⟩, fun h => ⟨h.2, h.1⟩⟩
theorem key (F : Fld q add mul) : ∀ (n : Nat) (C : List Int → Prop), Lin q add mul n C → ∀ S : List Bool, S.length = n →
    ws q n (fun c => ind (C c ∧ Van S c)) * (q : Int) ^ cnt S = ws q n (fun c => ind (C c)) * ws q n (fun d => ind (Dl q add mul n C d ∧ Van (S.map not) d)) := by
  intro n
  induction n with
  | zero =>
    intro C hC S hS
    have hS : S = [] := List.length_eq_zero_iff.mp hS
    subst hS
    have h0 : C [] := hC.zero
    show ind (C [] ∧ True) * (q : Int) ^ 0 = ind (C []) * ind (Dl q add mul 0 C [] ∧ True)
    rw [ind_true ⟨h0, trivial⟩, ind_true h0, ind_true ⟨fun c hc _ => by rw [wd_zero hc]; rfl, trivial⟩]
    rfl
  | succ n ih =>
    intro C hC S hS
    obtain ⟨s, S, rfl⟩ : ∃ s S', S = s :: S' := by
      cases S with
      | nil => simp at hS
      | cons s S => exact ⟨s, S, rfl⟩
    have hS' : S.length = n := by simp at hS; exact hS
    have two := F.two
    cases s with
    | true =>
      have hC0 : Lin q add mul n (fun w => C (0 :: w)) := ⟨hC.zero,
        fun u v hu hv h1 h2 => by
          have := hC.add (0 :: u) (0 :: v) (wd_cons F.el0 hu) (wd_cons F.el0 hv) h1 h2
          rw [show wadd add (0 :: u) (0 :: v) = add 0 0 :: wadd add u v from rfl, F.add_zero 0 F.el0] at this
          exact this,
        fun a u ha hu h1 => by
          have := hC.scl a (0 :: u) ha (wd_cons F.el0 hu) h1
          rw [show wscl mul a (0 :: u) = mul a 0 :: wscl mul a u from rfl, F.mul_zero a ha] at this
          exact this⟩
      have IH := ih _ hC0 S hS'
      rw [ws_at0 F.el0]
      show _ * (q : Int) ^ (cnt S + 1) = _ * ws q (n + 1) (fun d => ind (Dl q add mul (n + 1) C d ∧ Van (false :: S.map not) d))
      rw [ws_any, ws_all]
      by_cases hA : ∀ a w, El q a → Wd q n w → C (a :: w) → a = 0
      ·
        have e1 : ws q n (fun w => se q (fun a => ind (C (a :: w)))) = ws q n (fun w => ind (C (0 :: w))) := by
          refine ws_congr fun w hw => ?_
          exact se_single (f := fun a => ind (C (a :: w))) F.el0 (fun a ha hne => ind_false (fun h => hne (hA a w ha hw h)))
        have e2 : ws q n (fun w => ind (Van (S.map not) w) * se q (fun a => ind (Dl q add mul (n + 1) C (a :: w)))) =
            (q : Int) * ws q n (fun w => ind (Dl q add mul n (fun w => C (0 :: w)) w ∧ Van (S.map not) w)) := by
          rw [← ws_mul]
          refine ws_congr fun y hy => ?_
          have : ∀ b, El q b → ind (Dl q add mul (n + 1) C (b :: y)) = ind (Dl q add mul n (fun w => C (0 :: w)) y) := by
            intro b hb
            refine ind_congr ⟨fun h c hc h1 => ?_, fun h c hc h1 => ?_⟩
            · have := h (0 :: c) (wd_cons F.el0 hc) h1
              rw [show dot add mul (0 :: c) (b :: y) = add (mul 0 b) (dot add mul c y) from rfl, F.zero_mul b hb, F.zero_add _ (dot_el F hc hy)] at this
              exact this
            · cases c with
              | nil => have := hc.1; simp at this
              | cons a c =>
                have hh := wd_head hc
                have := hA a c hh.1 hh.2 h1
                subst this
                rw [show dot add mul (0 :: c) (b :: y) = add (mul 0 b) (dot add mul c y) from rfl, F.zero_mul b hb, F.zero_add _ (dot_el F hh.2 hy)]
                exact h c hh.2 h1
          rw [se_congr this, se_const, ← ind_van_mul]
          grind
        rw [e1, e2, Int.pow_succ, ← Int.mul_assoc, IH]
        grind
      ·
        have hB : ∃ w1, Wd q n w1 ∧ C (1 :: w1) := by
          refine Classical.byContradiction fun hno => hA fun a w ha hw h => Classical.byContradiction fun hne => hno ?_
          obtain ⟨i, hi, e⟩ := F.inv a ha hne
          refine ⟨wscl mul i w, wd_wscl F hi hw, ?_⟩
          have := hC.scl i (a :: w) hi (wd_cons ha hw) h
          rw [show wscl mul i (a :: w) = mul i a :: wscl mul i w from rfl, F.mul_comm i a hi ha, e] at this
          exact this
        obtain ⟨w1, hw1, h1⟩ := hB
        obtain ⟨m, hm, em, hneg⟩ := wneg F
        have move : ∀ a w, El q a → Wd q n w → (C (a :: wadd add (wscl mul a w1) w) ↔ C (0 :: w)) := by
          intro a w ha hw
          have hs : C (a :: wscl mul a w1) := by
            have := hC.scl a (1 :: w1) ha (wd_cons F.el1 hw1) h1
            rw [show wscl mul a (1 :: w1) = mul a 1 :: wscl mul a w1 from rfl, F.mul_one a ha] at this
            exact this
          have hsw := wd_wscl F ha hw1
          constructor
          · intro h
            have hn := hC.scl m _ hm (wd_cons ha hsw) hs
            have hadd := hC.add _ _ (wd_wscl F hm (wd_cons ha hsw)) (wd_cons ha (wd_wadd F hsw hw)) hn h
            have e : wadd add (wscl mul m (a :: wscl mul a w1)) (a :: wadd add (wscl mul a w1) w) = 0 :: w := by
              rw [show (a :: wadd add (wscl mul a w1) w) = wadd add (a :: wscl mul a w1) (0 :: w) from by
                show _ = add a 0 :: _; rw [F.add_zero a ha]; rfl]
              rw [← wadd_assoc F (wd_wscl F hm (wd_cons ha hsw)) (wd_cons ha hsw) (wd_cons F.el0 hw), wadd_comm F (wd_wscl F hm (wd_cons ha hsw)) (wd_cons ha hsw), hneg (wd_cons ha hsw),
                wadd_comm F (wd_rep F.el0) (wd_cons F.el0 hw), wadd_rep F (wd_cons F.el0 hw)]
            rw [e] at hadd
            exact hadd
          · intro h
            have hadd := hC.add _ _ (wd_cons ha hsw) (wd_cons F.el0 hw) hs h
            rw [show wadd add (a :: wscl mul a w1) (0 :: w) = add a 0 :: wadd add (wscl mul a w1) w from rfl, F.add_zero a ha] at hadd
            exact hadd
        have e1 : ws q n (fun w => se q (fun a => ind (C (a :: w)))) = (q : Int) * ws q n (fun w => ind (C (0 :: w))) := by
          rw [ws_se, ← se_const]
          refine se_congr fun a ha => ?_
          rw [← ws_shift F (wd_wscl F ha hw1) (fun w => ind (C (a :: w)))]
          exact ws_congr fun w hw => ind_congr (move a w ha hw)
        have e2 : ws q n (fun w => ind (Van (S.map not) w) * se q (fun a => ind (Dl q add mul (n + 1) C (a :: w)))) =
            ws q n (fun w => ind (Dl q add mul n (fun w => C (0 :: w)) w ∧ Van (S.map not) w)) := by
          refine ws_congr fun y hy => ?_
          have hd := dot_el F hw1 hy
          obtain ⟨b0, hb0, eb0⟩ := F.neg _ hd
          have : ∀ b, El q b → ind (Dl q add mul (n + 1) C (b :: y)) = ind (b = b0) * ind (Dl q add mul n (fun w => C (0 :: w)) y) := by
            intro b hb
            rw [← ind_and]
            refine ind_congr ⟨fun h => ⟨?_, fun c hc hcc => ?_⟩, fun h c hc hcc => ?_⟩
            · have := h (1 :: w1) (wd_cons F.el1 hw1) h1
              rw [show dot add mul (1 :: w1) (b :: y) = add (mul 1 b) (dot add mul w1 y) from rfl, F.one_mul b hb, F.add_comm _ _ hb hd] at this
              exact F.cancel _ _ _ hd hb hb0 (by rw [this, eb0])
            · have := h (0 :: c) (wd_cons F.el0 hc) hcc
              rw [show dot add mul (0 :: c) (b :: y) = add (mul 0 b) (dot add mul c y) from rfl, F.zero_mul b hb, F.zero_add _ (dot_el F hc hy)] at this
              exact this
            · cases c with
              | nil => have := hc.1; simp at this
              | cons a c =>
                have hh := wd_head hc
                obtain ⟨rfl, hdual⟩ := h
                have hmw := wd_wscl F hm (wd_wscl F hh.1 hw1)
                have hc' : c = wadd add (wscl mul a w1) (wadd add (wscl mul m (wscl mul a w1)) c) := by
                  rw [← wadd_assoc F (wd_wscl F hh.1 hw1) hmw hh.2, hneg (wd_wscl F hh.1 hw1), wadd_comm F (wd_rep F.el0) hh.2, wadd_rep F hh.2]
                have hin : C (0 :: wadd add (wscl mul m (wscl mul a w1)) c) := by
                  rw [← move a _ hh.1 (wd_wadd F hmw hh.2), ← hc']; exact hcc
                have hz := hdual _ (wd_wadd F hmw hh.2) hin
                have hdc : dot add mul c y = mul a (dot add mul w1 y) := by
                  rw [hc', dot_add F (wd_wscl F hh.1 hw1) (wd_wadd F hmw hh.2) hy, hz, F.add_zero _ (dot_el F (wd_wscl F hh.1 hw1) hy), dot_scl F hh.1 hw1 hy]
                show add (mul a b) (dot add mul c y) = 0
                rw [hdc, ← F.distrib a b _ hh.1 hb hd, F.add_comm b _ hb hd, eb0, F.mul_zero a hh.1]
          rw [se_congr this, se_mul_right, se_single (f := fun b => ind (b = b0)) hb0 (fun i _ hne => ind_false hne), ind_true rfl, ← ind_van_mul]
          simp
        rw [e1, e2, Int.pow_succ, ← Int.mul_assoc, IH]
        grind
    | false =>
      have hC1 : Lin q add mul n (fun w => ∃ a, El q a ∧ C (a :: w)) := ⟨⟨0, F.el0, hC.zero⟩,
        fun u v hu hv ⟨a, ha, h1⟩ ⟨b, hb, h2⟩ => ⟨add a b, F.add_el a b ha hb, hC.add _ _ (wd_cons ha hu) (wd_cons hb hv) h1 h2⟩,
        fun a u ha hu ⟨b, hb, h1⟩ => ⟨mul a b, F.mul_el a b ha hb, hC.scl a _ ha (wd_cons hb hu) h1⟩⟩
      have IH := ih _ hC1 S hS'
      rw [ws_any]
      show _ * (q : Int) ^ (cnt S) = _ * ws q (n + 1) (fun d => ind (Dl q add mul (n + 1) C d ∧ Van (true :: S.map not) d))
      rw [ws_at0 F.el0, ws_all]
      have e3 : ws q n (fun y => ind (Dl q add mul (n + 1) C (0 :: y) ∧ Van (S.map not) y)) = ws q n (fun y => ind (Dl q add mul n (fun w => ∃ a, El q a ∧ C (a :: w)) y ∧ Van (S.map not) y)) := by
        refine ws_congr fun y hy => ?_
        have : Dl q add mul (n + 1) C (0 :: y) ↔ Dl q add mul n (fun w => ∃ a, El q a ∧ C (a :: w)) y := by
          constructor
          · intro h c hc ⟨a, ha, hcc⟩
            have := h (a :: c) (wd_cons ha hc) hcc
            rw [show dot add mul (a :: c) (0 :: y) = add (mul a 0) (dot add mul c y) from rfl, F.mul_zero a ha, F.zero_add _ (dot_el F hc hy)] at this
            exact this
          · intro h c hc hcc
            cases c with
            | nil => have := hc.1; simp at this
            | cons a c =>
              have hh := wd_head hc
              show add (mul a 0) (dot add mul c y) = 0
              rw [F.mul_zero a hh.1, F.zero_add _ (dot_el F hh.2 hy)]
              exact h c hh.2 ⟨a, hh.1, hcc⟩
        exact ind_congr ⟨fun h => ⟨this.mp h.1, h.2⟩, fun h => ⟨this.mpr h.1, h.2⟩⟩
      rw [e3]
      obtain ⟨m, hm, em, hneg⟩ := wneg F
      by_cases hA : C (1 :: List.replicate n 0)
      ·
        have free : ∀ a b w, El q a → El q b → Wd q n w → C (a :: w) → C (b :: w) := by
          intro a b w ha hb hw h
          obtain ⟨na, hna, ena⟩ := F.neg a ha
          have hs := hC.scl (add na b) _ (F.add_el na b hna hb) (wd_cons F.el1 (wd_rep F.el0)) hA
          rw [show wscl mul (add na b) (1 :: List.replicate n 0) = mul (add na b) 1 :: wscl mul (add na b) (List.replicate n 0) from rfl, F.mul_one _ (F.add_el na b hna hb), wscl_rep F (F.add_el na b hna hb)] at hs
          have := hC.add _ _ (wd_cons ha hw) (wd_cons (F.add_el na b hna hb) (wd_rep F.el0)) h hs
          rw [show wadd add (a :: w) (add na b :: List.replicate n 0) = add a (add na b) :: wadd add w (List.replicate n 0) from rfl, ← F.add_assoc a na b ha hna hb, ena, F.zero_add b hb, wadd_rep F hw] at this
          exact this
        have e1 : ∀ w, Wd q n w → se q (fun a => ind (C (a :: w))) = (q : Int) * ind (∃ a, El q a ∧ C (a :: w)) := by
          intro w hw
          rw [← se_const]
          exact se_congr fun a ha => ind_congr ⟨fun h => ⟨a, ha, h⟩, fun ⟨b, hb, h⟩ => free b a w hb ha hw h⟩
        rw [ws_congr (fun w hw => by rw [e1 w hw]), ws_congr (f := fun w => se q (fun a => ind (C (a :: w)))) (fun w hw => e1 w hw), ws_mul]
        have e2 : ws q n (fun w => ind (Van S w) * ((q : Int) * ind (∃ a, El q a ∧ C (a :: w)))) = (q : Int) * ws q n (fun c => ind ((∃ a, El q a ∧ C (a :: c)) ∧ Van S c)) := by
          rw [← ws_mul]
          refine ws_congr fun w _ => ?_
          rw [← ind_van_mul (fun w => ∃ a, El q a ∧ C (a :: w))]; grind
        rw [e2, Int.mul_assoc, IH]
        grind
      ·
        have e1 : ∀ w, Wd q n w → se q (fun a => ind (C (a :: w))) = ind (∃ a, El q a ∧ C (a :: w)) := by
          intro w hw
          by_cases h : ∃ a, El q a ∧ C (a :: w)
          · obtain ⟨a, ha, hc⟩ := h
            rw [ind_true ⟨a, ha, hc⟩]
            rw [se_single (f := fun a => ind (C (a :: w))) ha, ind_true hc]
            intro b hb hne
            refine ind_false fun hcb => hA ?_
            have hn := hC.scl m _ hm (wd_cons ha hw) hc
            have hd := hC.add _ _ (wd_cons hb hw) (wd_wscl F hm (wd_cons ha hw)) hcb hn
            rw [show wadd add (b :: w) (wscl mul m (a :: w)) = add b (mul m a) :: wadd add w (wscl mul m w) from rfl, hneg hw] at hd
            have hma := F.mul_el m a hm ha
            have hne2 : add b (mul m a) ≠ 0 := by
              intro e
              have ea : add (mul m a) a = 0 := by
                have := F.rdistrib a m 1 ha hm F.el1
                rw [F.one_mul a ha, F.add_comm m 1 hm F.el1, em, F.zero_mul a ha] at this
                exact this.symm
              exact hne (F.cancel (mul m a) b a hma hb ha (by rw [F.add_comm _ b hma hb, e, ea]))
            have hel := F.add_el b _ hb hma
            obtain ⟨i, hi, ei⟩ := F.inv _ hel hne2
            have := hC.scl i _ hi (wd_cons hel (wd_rep F.el0)) hd
            rw [show wscl mul i (add b (mul m a) :: List.replicate n 0) = mul i (add b (mul m a)) :: wscl mul i (List.replicate n 0) from rfl, F.mul_comm i _ hi hel, ei, wscl_rep F hi] at this
            exact this
          · rw [ind_false h]
            exact se_zero fun a ha => ind_false fun hc => h ⟨a, ha, hc⟩
        rw [ws_congr (fun w hw => by rw [e1 w hw, ind_van_mul (fun w => ∃ a, El q a ∧ C (a :: w))]), ws_congr (f := fun w => se q (fun a => ind (C (a :: w)))) (fun w hw => e1 w hw)]
        exact IH
end field
end Mw
end
section
set_option linter.unusedVariables false
set_option linter.unusedSimpArgs false
namespace Mw
open Go Go.RowKit Go.Proofs.YtifkbghnmhineaaW.PrintWords Go.Proofs.YtifkbghnmhineaaW.PrintLast Go.Proofs.YtifkbghnmhineaaW.PrintMore Go.Proofs.Ytifkbghnmhineaa.PAll
def Rz {α : Type} (P : α → Prop) (g : Nat → Option α) : Prop := ∃ r, Ev g r ∧ P r
theorem Rz.succ {α : Type} {P : α → Prop} {g : Nat → Option α} (h : Rz P (fun k => g (k + 1))) : Rz P g := by
  obtain ⟨r, h1, h2⟩ := h
  exact ⟨r, Ev.succ h1, h2⟩
theorem Rz.bind {α β : Type} {P : β → Prop} {g : Nat → Option α} {f : Nat → α → Option β} {a : α} (hg : Ev g a) (hf : Rz P (fun k => f k a)) : Rz P (fun k => (g k).bind (f k)) := by
  obtain ⟨r, h1, h2⟩ := hf
  exact ⟨r, Ev.bind hg h1, h2⟩
theorem Rz.some {α : Type} {P : α → Prop} {r : α} (h : P r) : Rz P (fun _ => Option.some r) := ⟨r, Ev.some r, h⟩
theorem Rz.mono {α : Type} {P Q : α → Prop} {g : Nat → Option α} (h : Rz P g) (hq : ∀ a, P a → Q a) : Rz Q g := by
  obtain ⟨a, h1, h2⟩ := h
  exact ⟨a, h1, hq a h2⟩
end Mw
end
section
set_option linter.unusedVariables false
set_option linter.unusedSimpArgs false
namespace Mw
def wt : List Int → Nat
  | [] => 0
  | a :: w => (if a = 0 then 0 else 1) + wt w
section codes
variable {q : Nat} {add mul : Int → Int → Int}
noncomputable def wd (q n : Nat) (C : List Int → Prop) (T : List Bool) (j : Nat) : Int := ws q n (fun c => ind (C c) * (ind (Van T c) * ind (wt c = j)))
end codes
end Mw
end
section
set_option linter.unusedVariables false
set_option linter.unusedSimpArgs false
namespace Mw
open Go Go.RowKit Go.Proofs.YtifkbghnmhineaaW.PrintWords Go.Proofs.YtifkbghnmhineaaW.PrintLast Go.Proofs.YtifkbghnmhineaaW.PrintMore Go.Proofs.Ytifkbghnmhineaa.PAll
theorem rd1_lt {l : List (List Int)} {i : Nat} (h : i < l.length) : rd_L1 l (i : Int) = l[i] := by
  unfold rd_L1
  simp [List.getD_eq_getElem?_getD, h]
theorem u64wr (n : Int) (h0 : 0 ≤ n) (h1 : n < 2 ^ 64) : IntKind.u64.wrap n = n := u64w h0 (by omega)
theorem or_nat {a b : Nat} (ha : a < 2 ^ 64) (hb : b < 2 ^ 64) : Go.bits .or .u64 (a : Int) (b : Int) = ((a ||| b : Nat) : Int) := (bits_nat .u64 64 (by decide) u64wr a b ha hb).2
theorem and_nat {a b : Nat} (ha : a < 2 ^ 64) (hb : b < 2 ^ 64) : Go.bits .and .u64 (a : Int) (b : Int) = ((a &&& b : Nat) : Int) := (bits_nat .u64 64 (by decide) u64wr a b ha hb).1
theorem shl_one {p : Nat} (hp : p < 64) : shl .u64 1 (p : Int) = ((2 ^ p : Nat) : Int) := by
  unfold shl
  rw [Int.toNat_natCast, show min p IntKind.u64.bits = p from Nat.min_eq_left (by show p ≤ 64; omega), Int.one_mul]
  have h : (2 : Nat) ^ p < 2 ^ 64 := Nat.pow_lt_pow_right (by omega) hp
  have e : ((2 ^ p : Nat) : Int) = (2 : Int) ^ p := by rw [Int.natCast_pow]; rfl
  rw [← e]
  exact u64w (Int.natCast_nonneg _) (by omega)
def bm : Nat → List Int → Nat
  | m, [] => m
  | m, p :: l => bm (m ||| 2 ^ p.toNat) l
theorem bm_app (m : Nat) (u v : List Int) : bm m (u ++ v) = bm (bm m u) v := by
  induction u generalizing m with
  | nil => rfl
  | cons p u ih => rw [List.cons_append, bm, bm, ih]
def P64 (l : List Int) : Prop := ∀ x ∈ l, 0 ≤ x ∧ x < 64
theorem or_lt {m p : Nat} (hm : m < 2 ^ 64) (hp : p < 64) : m ||| 2 ^ p < 2 ^ 64 := Nat.or_lt_two_pow hm (Nat.pow_lt_pow_right (by omega) hp)
theorem bm_lt : ∀ {l : List Int} {m : Nat}, P64 l → m < 2 ^ 64 → bm m l < 2 ^ 64
  | [], _, _, hm => hm
  | p :: l, m, h, hm => by
    have hp := h p (List.mem_cons_self ..)
    show bm (m ||| 2 ^ p.toNat) l < 2 ^ 64
    exact bm_lt (fun x hx => h x (List.mem_cons_of_mem _ hx)) (or_lt hm (by omega))
theorem bm_bit : ∀ {l : List Int} {m j : Nat}, P64 l → ((bm m l).testBit j = true ↔ m.testBit j = true ∨ (j : Int) ∈ l)
  | [], m, j, _ => by rw [bm]; simp
  | p :: l, m, j, h => by
    have hp := h p (List.mem_cons_self ..)
    rw [bm, bm_bit (fun x hx => h x (List.mem_cons_of_mem _ hx)), Nat.testBit_or, Nat.testBit_two_pow, List.mem_cons]
    simp only [Bool.or_eq_true, decide_eq_true_eq]
    constructor
    · rintro ((h1 | h1) | h1)
      · exact .inl h1
      · exact .inr (.inl (by omega))
      · exact .inr (.inr h1)
    · rintro (h1 | h1 | h1)
      · exact .inl (.inl h1)
      · exact .inl (.inr (by omega))
      · exact .inr h1
def inb (s b : List Int) : Bool := s.all (fun x => decide (x ∈ b))
theorem inb_iff {s b : List Int} : inb s b = true ↔ ∀ x, x ∈ s → x ∈ b := by
  unfold inb
  rw [List.all_eq_true]
  exact ⟨fun h x hx => of_decide_eq_true (h x hx), fun h x hx => decide_eq_true (h x hx)⟩
theorem and_iff {s b : List Int} (hs : P64 s) (hb : P64 b) : bm 0 b &&& bm 0 s = bm 0 s ↔ inb s b = true := by
  rw [inb_iff]
  constructor
  · intro h x hx
    have h0 := hs x hx
    have h1 : (bm 0 s).testBit x.toNat = true := (bm_bit hs).mpr (.inr (by rw [Int.toNat_of_nonneg h0.1]; exact hx))
    rw [← h, Nat.testBit_and, Bool.and_eq_true] at h1
    have h2 := ((bm_bit hb).mp h1.1).resolve_left (by simp)
    rw [Int.toNat_of_nonneg h0.1] at h2
    exact h2
  · intro h
    refine Nat.eq_of_testBit_eq fun j => ?_
    rw [Nat.testBit_and]
    by_cases g : (bm 0 s).testBit j = true
    · have h1 := ((bm_bit hs).mp g).resolve_left (by simp)
      rw [g, (bm_bit hb).mpr (.inr (h _ h1))]; rfl
    · rw [Bool.eq_false_iff.mpr g, Bool.and_false]
def Kc (s : List Int) : List (List Int) → Nat
  | [] => 0
  | b :: l => Kc s l + if inb s b = true then 1 else 0
theorem Kc_app (s : List Int) (b : List Int) : ∀ l, Kc s (l ++ [b]) = Kc s l + if inb s b = true then 1 else 0
  | [] => by simp [Kc]
  | a :: l => by rw [List.cons_append, Kc, Kc_app s b l, Kc]; omega
theorem Kc_le (s : List Int) : ∀ l, Kc s l ≤ l.length
  | [] => Nat.le_refl 0
  | a :: l => by have := Kc_le s l; rw [Kc, List.length_cons]; split <;> omega
def msk (bl : List (List Int)) : List Int := bl.map (fun b => ((bm 0 b : Nat) : Int))
theorem visit_ev {bl : List (List Int)} (hb : ∀ b ∈ bl, P64 b) (hlen : bl.length ≤ 4096) {s : List Int} (hs : P64 s) (c : Int) :
    Ev (fun k => mw_visit.f k ((bm 0 s : Nat) : Int) (msk bl) c) (decide (c < 0) || (((Kc s bl : Nat) : Int) == c), ((Kc s bl : Nat) : Int)) := by
  have ml : (msk bl).length = bl.length := by simp [msk]
  have loop : ∀ (d i : Nat), i + d = bl.length → Ev (fun k => mw_visit.l0 k ((bm 0 s : Nat) : Int) (msk bl) ((Kc s (bl.take i) : Nat) : Int) (i : Int)) ((Kc s bl : Nat) : Int) := by
    intro d
    induction d with
    | zero =>
      intro i hi
      refine Ev.succ ?_
      simp only [mw_visit.l0, ml, if_neg (show ¬ (i : Int) < (bl.length : Int) by omega)]
      exact Ev.cast (Ev.some _) (by rw [List.take_of_length_le (by omega)])
    | succ d ih =>
      intro i hi
      have hil : i < bl.length := by omega
      have hB := hb _ (List.getElem_mem hil)
      have nx := ih (i + 1) (by omega)
      rw [List.take_succ_eq_append_getElem hil, Kc_app] at nx
      have hr : rd (msk bl) (i : Int) = ((bm 0 bl[i] : Nat) : Int) := by rw [rd_lt (by rw [ml]; exact hil)]; simp [msk]
      have hk := Kc_le s (bl.take i)
      rw [List.length_take] at hk
      have h0 : (0 : Nat) < 2 ^ 64 := by decide
      have e : (Go.bits .and .u64 (rd (msk bl) (i : Int)) ((bm 0 s : Nat) : Int) = ((bm 0 s : Nat) : Int)) ↔ inb s bl[i] = true := by
        rw [hr, and_nat (bm_lt hB h0) (bm_lt hs h0), ← and_iff hs hB]
        omega
      refine Ev.succ ?_
      simp only [mw_visit.l0, ml, if_pos (show (i : Int) < (bl.length : Int) by omega), if_pos (show (0 : Int) ≤ (i : Int) from Int.natCast_nonneg _), wn (show (i : Int) + 1 = ((i + 1 : Nat) : Int) by omega) (by omega), wn (show ((Kc s (bl.take i) : Nat) : Int) + 1 = ((Kc s (bl.take i) + 1 : Nat) : Int) by omega) (by omega)]
      by_cases g : inb s bl[i] = true
      · simp only [if_pos (e.mpr g)]
        rw [if_pos g] at nx
        exact nx
      · simp only [if_neg (fun h => g (e.mp h))]
        rw [if_neg g, Nat.add_zero] at nx
        exact nx
  have l0 := loop bl.length 0 (by omega)
  simp only [mw_visit.f]
  refine Ev.bind l0 ?_
  by_cases g : c < 0
  · simp only [if_pos g]
    exact Ev.cast (Ev.some _) (by simp [g])
  · simp only [if_neg g]
    exact Ev.cast (Ev.some _) (by simp [g])
def sets (n : Nat) : Nat → Nat → List (List Int)
  | 0, _ => [[]]
  | t + 1, lo => (List.range' lo (n - t - lo)).flatMap (fun i : Nat => (sets n t (i + 1)).map (fun s => (i : Int) :: s))
theorem sets_rng {n : Nat} : ∀ {t lo : Nat} {s : List Int}, s ∈ sets n t lo → s.length = t ∧ s.Pairwise (· < ·) ∧ ∀ x ∈ s, (lo : Int) ≤ x ∧ x < (n : Int)
  | 0, lo, s, h => by
    rw [sets, List.mem_singleton] at h
    subst h
    exact ⟨rfl, List.Pairwise.nil, fun x hx => by simp at hx⟩
  | t + 1, lo, s, h => by
    rw [sets, List.mem_flatMap] at h
    obtain ⟨i, hi, h⟩ := h
    obtain ⟨u, hu, rfl⟩ := List.mem_map.mp h
    obtain ⟨h1, h2, h3⟩ := sets_rng hu
    have hi := List.mem_range'_1.mp hi
    refine ⟨by rw [List.length_cons, h1], List.pairwise_cons.mpr ⟨fun x hx => by have := h3 x hx; omega, h2⟩, fun x hx => ?_⟩
    rcases List.mem_cons.mp hx with e | hx
    · omega
    · have := h3 x hx; omega
def run : List Nat → Int → Bool → Bool × Int × Bool
  | [], c, s => (true, c, s)
  | k :: ks, c, s => if (decide (c < 0) || ((k : Int) == c)) = true then run ks (k : Int) true else (false, (k : Int), false)
theorem run_app : ∀ (a b : List Nat) (c : Int) (s : Bool), run (a ++ b) c s = if (run a c s).1 = true then run b (run a c s).2.1 (run a c s).2.2 else run a c s
  | [], b, c, s => by simp [run]
  | k :: a, b, c, s => by
    rw [List.cons_append, run, run]
    by_cases g : (decide (c < 0) || ((k : Int) == c)) = true
    · rw [if_pos g, if_pos g, run_app a b]
    · rw [if_neg g, if_neg g, if_neg (by simp)]
theorem run_false : ∀ (a : List Nat) (c : Int) (s : Bool), (run a c s).1 = false → run a c s = (false, (run a c s).2)
  | a, c, s, h => by rw [← h]
theorem subsets_ev {n : Nat} (hn : n ≤ 64) {bl : List (List Int)} (hb : ∀ b ∈ bl, P64 b) (hlen : bl.length ≤ 4096) : ∀ (t : Nat), t ≤ n → ∀ (lo : Nat), lo ≤ 65 → ∀ (u : List Int), P64 u → ∀ (c : Int) (s : Bool),
    Ev (fun k => mw_subsets.f k (n : Int) (t : Int) (lo : Int) ((bm 0 u : Nat) : Int) (msk bl) c s) (run ((sets n t lo).map (fun v => Kc (u ++ v) bl)) c s) := by
  intro t
  induction t with
  | zero =>
    intro _ lo _ u hu c s
    refine Ev.succ ?_
    simp only [mw_subsets.f, show ((0 : Nat) : Int) = 0 from rfl, if_true]
    refine Ev.bind (visit_ev hb hlen hu c) ?_
    refine Ev.cast (Ev.some _) ?_
    simp only [sets, List.map_cons, List.map_nil, List.append_nil, run]
    cases hx : (decide (c < 0) || (((Kc u bl : Nat) : Int) == c)) <;> rfl
  | succ t ih =>
    intro ht lo hlo u hu c s
    have w1 : wrap64 (((t + 1 : Nat) : Int) - 1) = (t : Int) := wn (by omega) (by omega)
    have w2 : wrap64 ((n : Int) - ((t + 1 : Nat) : Int)) = ((n - (t + 1) : Nat) : Int) := wn (by omega) (by omega)
    have loop : ∀ (d p : Nat), n - t - p = d → p ≤ 65 → ∀ (c : Int) (s : Bool),
        Ev (fun k => mw_subsets.l0 k (n : Int) ((t + 1 : Nat) : Int) ((bm 0 u : Nat) : Int) (msk bl) (p : Int) c s) (run (((List.range' p d).flatMap (fun i : Nat => (sets n t (i + 1)).map (fun s => (i : Int) :: s))).map (fun v => Kc (u ++ v) bl)) c s) := by
      intro d
      induction d with
      | zero =>
        intro p hp hp2 c s
        refine Ev.succ ?_
        simp only [mw_subsets.l0, w2, if_neg (show ¬ (p : Int) ≤ ((n - (t + 1) : Nat) : Int) by clear w1 w2; omega)]
        exact Ev.some _
      | succ d ihd =>
        intro p hp hp2 c s
        have w3 : wrap64 ((p : Int) + 1) = ((p + 1 : Nat) : Int) := wn (by clear w1 w2; omega) (by clear w1 w2; omega)
        have hp63 : p < 64 := by clear w1 w2 w3; omega
        have h0 : (0 : Nat) < 2 ^ 64 := by decide
        have hm : bm 0 (u ++ [(p : Int)]) = bm 0 u ||| 2 ^ p := by rw [bm_app, bm, bm, Int.toNat_natCast]
        have hu2 : P64 (u ++ [(p : Int)]) := fun x hx => by
          rcases List.mem_append.mp hx with h | h
          · exact hu x h
          · have := List.mem_singleton.mp h; clear w1 w2 w3; omega
        have hor : Go.bits .or .u64 ((bm 0 u : Nat) : Int) (shl .u64 1 (p : Int)) = ((bm 0 (u ++ [(p : Int)]) : Nat) : Int) := by
          rw [shl_one hp63, or_nat (bm_lt hu h0) (Nat.pow_lt_pow_right (by omega) hp63), hm]
        have inner := ih (by clear w1 w2 w3; omega) (p + 1) (by clear w1 w2 w3; omega) (u ++ [(p : Int)]) hu2 c s
        have hlist : ((List.range' p (d + 1)).flatMap (fun i : Nat => (sets n t (i + 1)).map (fun s => (i : Int) :: s))).map (fun v => Kc (u ++ v) bl) =
            ((sets n t (p + 1)).map (fun v => Kc (u ++ [(p : Int)] ++ v) bl)) ++ (((List.range' (p + 1) d).flatMap (fun i : Nat => (sets n t (i + 1)).map (fun s => (i : Int) :: s))).map (fun v => Kc (u ++ v) bl)) := by
          rw [List.range'_succ, List.flatMap_cons, List.map_append, List.map_map]
          congr 1
          refine List.map_congr_left fun v _ => ?_
          show Kc (u ++ ((p : Int) :: v)) bl = _
          rw [List.append_assoc]; rfl
        rw [hlist, run_app]
        refine Ev.succ ?_
        simp only [mw_subsets.l0, w1, w2, w3, if_pos (show (p : Int) ≤ ((n - (t + 1) : Nat) : Int) by clear w1 w2 w3; omega), if_pos (show (0 : Int) ≤ (p : Int) from Int.natCast_nonneg _), hor]
        refine Ev.bind inner ?_
        by_cases g : (run ((sets n t (p + 1)).map (fun v => Kc (u ++ [(p : Int)] ++ v) bl)) c s).1 = true
        · simp only [if_pos g]
          exact ihd (p + 1) (by clear w1 w2 w3; omega) (by clear w1 w2 w3; omega) _ _
        · simp only [if_neg g]
          exact Ev.cast (Ev.some _) (run_false _ _ _ (Bool.eq_false_iff.mpr g)).symm
    refine Ev.succ ?_
    simp only [mw_subsets.f, if_neg (show ¬ ((t + 1 : Nat) : Int) = 0 by omega)]
    rw [sets]
    exact loop (n - t - lo) lo rfl hlo c s
def chk (n : Int) : Int → List Int → Bool
  | _, [] => true
  | last, p :: l => decide (last < p ∧ p < n) && chk n p l
theorem chk_inc {n : Int} : ∀ {l : List Int} {last : Int}, chk n last l = true → l.Pairwise (· < ·) ∧ ∀ x ∈ l, last < x ∧ x < n
  | [], _, _ => ⟨List.Pairwise.nil, fun x hx => by simp at hx⟩
  | p :: l, last, h => by
    rw [chk, Bool.and_eq_true] at h
    have h1 := of_decide_eq_true h.1
    obtain ⟨h2, h3⟩ := chk_inc h.2
    refine ⟨List.pairwise_cons.mpr ⟨fun x hx => (h3 x hx).1, h2⟩, fun x hx => ?_⟩
    rcases List.mem_cons.mp hx with e | hx
    · rw [e]; exact h1
    · have := h3 x hx; omega
theorem drop_rd {l : List Int} {i : Nat} (h : i < l.length) : l.drop i = rd l (i : Int) :: l.drop (i + 1) := by rw [List.drop_eq_getElem_cons h, rd_lt h]
theorem points_ev {n : Nat} (hn : n ≤ 64) {t : Int} {bl : List (List Int)} {acc : List Int} {x : Int} {b : List Int} (hbl : b.length ≤ 4096) (hacc : acc.length < 17592186044416) {r : Int × Int} :
    ∀ (d i : Nat), i + d = b.length → ∀ (last : Int), -1 ≤ last → ∀ m : Nat, m < 2 ^ 64 → (chk (n : Int) last (b.drop i) = true → Ev (fun k => mw_Design.l0 k (n : Int) t (acc ++ [((bm m (b.drop i) : Nat) : Int)]) bl (bl.length : Int) (wrap64 (x + 1))) r) →
      (chk (n : Int) last (b.drop i) = false → r = (0, 5)) → Ev (fun k => mw_Design.l1 k (n : Int) t acc (m : Int) last bl (bl.length : Int) x b (b.length : Int) (i : Int)) r := by
  intro d
  induction d with
  | zero =>
    intro i hi last hlast m hm h1 h2
    rw [List.drop_eq_nil_of_le (by omega)] at h1
    refine Ev.succ ?_
    simp only [mw_Design.l1, if_neg (show ¬ (i : Int) < (b.length : Int) by omega), if_pos hacc]
    exact h1 rfl
  | succ d ih =>
    intro i hi last hlast m hm h1 h2
    have hil : i < b.length := by omega
    rw [drop_rd hil] at h1 h2
    obtain ⟨p, hp⟩ : ∃ p, p = rd b (i : Int) := ⟨_, rfl⟩
    rw [← hp] at h1 h2
    simp only [chk, bm] at h1 h2
    have wi : wrap64 ((i : Int) + 1) = ((i + 1 : Nat) : Int) := wn (by omega) (by omega)
    refine Ev.succ ?_
    simp only [mw_Design.l1, if_pos (show (i : Int) < (b.length : Int) by clear wi; omega), if_pos (show (0 : Int) ≤ (i : Int) from Int.natCast_nonneg _), ← hp, wi]
    by_cases g1 : p ≤ last
    · simp only [if_pos g1]
      exact Ev.cast (Ev.some _) (h2 (by rw [decide_eq_false (by clear wi; omega), Bool.false_and])).symm
    · simp only [if_neg g1]
      by_cases g2 : p ≥ (n : Int)
      · simp only [if_pos g2]
        exact Ev.cast (Ev.some _) (h2 (by rw [decide_eq_false (by clear wi; omega), Bool.false_and])).symm
      · simp only [if_neg g2, if_pos (show 0 ≤ p by clear wi; omega)]
        obtain ⟨q, hq⟩ : ∃ q : Nat, p = (q : Int) := ⟨p.toNat, by clear wi; omega⟩
        have hq64 : q < 64 := by clear wi; omega
        have hor : Go.bits .or .u64 (m : Int) (shl .u64 1 p) = ((m ||| 2 ^ p.toNat : Nat) : Int) := by
          rw [hq, Int.toNat_natCast, shl_one hq64, or_nat hm (Nat.pow_lt_pow_right (by omega) hq64)]
        simp only [hor]
        rw [decide_eq_true (show last < p ∧ p < (n : Int) by clear wi; omega), Bool.true_and] at h1 h2
        exact ih (i + 1) (by clear wi; omega) p (by clear wi; omega) _ (by rw [hq, Int.toNat_natCast]; exact or_lt hm hq64) h1 h2
theorem blocks_ev {n : Nat} (hn : n ≤ 64) {t : Int} {bl : List (List Int)} (hlen : bl.length ≤ 4096) (hb : ∀ b ∈ bl, b.length ≤ 4096) {r : Int × Int}
    (hr : bl.all (chk (n : Int) (-1)) = true → Ev (fun k => if t < 0 then mw_Design.j3 k (n : Int) t (msk bl) true else mw_Design.j3 k (n : Int) t (msk bl) (decide (t > (n : Int)))) r)
    (hbad : bl.all (chk (n : Int) (-1)) = false → r = (0, 5)) : ∀ (d i : Nat), i + d = bl.length → (bl.take i).all (chk (n : Int) (-1)) = true →
      Ev (fun k => mw_Design.l0 k (n : Int) t (msk (bl.take i)) bl (bl.length : Int) (i : Int)) r := by
  intro d
  induction d with
  | zero =>
    intro i hi ha
    have : i = bl.length := by omega
    subst this
    rw [List.take_of_length_le (Nat.le_refl _)] at ha ⊢
    refine Ev.succ ?_
    simp only [mw_Design.l0, if_neg (Int.lt_irrefl (bl.length : Int))]
    exact hr ha
  | succ d ih =>
    intro i hi ha
    have hil : i < bl.length := by omega
    have nx := ih (i + 1) (by omega)
    rw [List.take_succ_eq_append_getElem hil, List.all_append] at nx
    have hm : msk (bl.take i ++ [bl[i]]) = msk (bl.take i) ++ [((bm 0 bl[i] : Nat) : Int)] := by unfold msk; rw [List.map_append]; rfl
    rw [hm] at nx
    refine Ev.succ ?_
    simp only [mw_Design.l0, if_pos (show (i : Int) < (bl.length : Int) by omega), if_pos (show (0 : Int) ≤ (i : Int) from Int.natCast_nonneg _), rd1_lt hil]
    refine points_ev hn (hb _ (List.getElem_mem hil)) (by unfold msk; rw [List.length_map, List.length_take]; omega) bl[i].length 0 (by omega) (-1) (by omega) 0 (by decide) (fun h => ?_) (fun h => ?_)
    · rw [List.drop_zero] at h ⊢
      rw [wn (show (i : Int) + 1 = ((i + 1 : Nat) : Int) by omega) (by omega)]
      exact nx (by rw [ha]; simp [h])
    · rw [List.drop_zero] at h
      refine hbad ?_
      rw [Bool.eq_false_iff]
      intro e
      rw [List.all_eq_true.mp e _ (List.getElem_mem hil)] at h
      cases h
def desr (ks : List Nat) : Int × Int := if (run ks (-1) true).2.2 = true then ((run ks (-1) true).2.1, 0) else (0, 11)
def ksl (n t : Nat) (bl : List (List Int)) : List Nat := (sets n t 0).map (fun v => Kc v bl)
def dspec (n t : Int) (bl : List (List Int)) : Int × Int :=
  if n < 0 ∨ 64 < n then (0, 6) else if bl.all (chk n (-1)) = false then (0, 5) else if t < 0 ∨ n < t then (0, 6) else if 65536 < bin n.toNat t.toNat then (0, 8) else desr (ksl n.toNat t.toNat bl)
theorem cmp_gt {a b : Nat} : (cmpZ (a : Int) (b : Int) > 0) ↔ b < a := by
  unfold cmpZ
  split
  · constructor <;> intro h <;> omega
  · split
    · constructor <;> intro h <;> omega
    · constructor <;> intro h <;> omega
theorem ndesign_ev {n t : Int} {bl : List (List Int)} (hlen : bl.length ≤ 4096) (hb : ∀ b ∈ bl, b.length ≤ 4096) : Ev (fun k => mw_Design.f k n bl t) (dspec n t bl) := by
  by_cases hn : n < 0 ∨ 64 < n
  · have e : dspec n t bl = (0, 6) := if_pos hn
    rw [e]
    have bad : Ev (fun k => mw_Design.j0 k n bl t true) (0, 6) := by
      refine Ev.succ ?_
      simp only [mw_Design.j0, if_true]
      exact Ev.some _
    simp only [mw_Design.f]
    by_cases g : n < 0
    · simp only [if_pos g]; exact bad
    · simp only [if_neg g, decide_eq_true (show n > 64 by omega)]; exact bad
  · obtain ⟨m, rfl⟩ : ∃ m : Nat, n = (m : Int) := ⟨n.toNat, by omega⟩
    have hm : m ≤ 64 := by omega
    have go : Ev (fun k => mw_Design.j0 k (m : Int) bl t false) (dspec (m : Int) t bl) := by
      refine Ev.succ ?_
      simp only [mw_Design.j0, Bool.false_eq_true, if_false]
      refine blocks_ev hm hlen hb (fun hall => ?_) (fun hall => ?_) bl.length 0 (by omega) rfl
      · have e : dspec (m : Int) t bl = if t < 0 ∨ (m : Int) < t then (0, 6) else if 65536 < bin m t.toNat then (0, 8) else desr (ksl m t.toNat bl) := by
          unfold dspec
          rw [if_neg hn, if_neg (by rw [hall]; simp), Int.toNat_natCast]
        rw [e]
        by_cases ht : t < 0 ∨ (m : Int) < t
        · rw [if_pos ht]
          have bad : Ev (fun k => mw_Design.j3 k (m : Int) t (msk bl) true) (0, 6) := by
            refine Ev.succ ?_
            simp only [mw_Design.j3, if_true]
            exact Ev.some _
          by_cases g : t < 0
          · simp only [if_pos g]; exact bad
          · simp only [if_neg g, decide_eq_true (show t > (m : Int) by omega)]; exact bad
        · rw [if_neg ht]
          obtain ⟨u, rfl⟩ : ∃ u : Nat, t = (u : Int) := ⟨t.toNat, by omega⟩
          have hu : u ≤ m := by omega
          have hb64 : ∀ b ∈ bl, P64 b := fun b hbm x hx => by
            have := (chk_inc (List.all_eq_true.mp hall b hbm)).2 x hx
            omega
          simp only [if_neg (show ¬ (u : Int) < 0 by omega), decide_eq_false (show ¬ (u : Int) > (m : Int) by omega), Int.toNat_natCast]
          refine Ev.succ ?_
          simp only [mw_Design.j3, Bool.false_eq_true, if_false]
          refine Ev.bind (binomial_ev (by omega) hu) ?_
          refine Ev.bind (of_ev (n := 65536) (by omega)) ?_
          refine Ev.bind (ncmp_ev (by have := bin_len (n := m) (by omega) u; omega) (by have := dg_len_le (n := 65536) (m := 1) (by rw [show (1 : Nat) = 0 + 1 from rfl, bp_succ, bp_zero]; omega); omega)) ?_
          by_cases gm : 65536 < bin m u
          · simp only [if_pos (cmp_gt.mpr gm), if_pos gm]
            exact Ev.some _
          · simp only [if_neg (fun h => gm (cmp_gt.mp h)), if_neg gm]
            have sv := subsets_ev hm hb64 hlen u hu 0 (by omega) [] (fun x hx => by simp at hx) (-1) true
            refine Ev.bind sv ?_
            have el : (sets m u 0).map (fun v => Kc ([] ++ v) bl) = ksl m u bl := rfl
            simp only [el, desr]
            by_cases gr : (run (ksl m u bl) (-1) true).2.2 = true
            · simp only [if_pos gr]; exact Ev.some _
            · simp only [if_neg gr]; exact Ev.some _
      · unfold dspec
        rw [if_neg hn, if_pos hall]
    simp only [mw_Design.f, if_neg (show ¬ (m : Int) < 0 by omega), decide_eq_false (show ¬ (m : Int) > 64 by omega)]
    exact go
theorem rblock_ev {n : Int} {b : List Int} (hb : b.length ≤ 4096) : Ev (fun k => r24_Block.f k n b) (chk n (-1) b) := by
  have loop : ∀ (d i : Nat), i + d = b.length → ∀ last : Int, -1 ≤ last → (i = 0 → last = -1) → (0 < i → last = rd b ((i - 1 : Nat) : Int)) → Ev (fun k => r24_Block.l0 k n b (i : Int)) (chk n last (b.drop i)) := by
    intro d
    induction d with
    | zero =>
      intro i hi last _ _ _
      refine Ev.succ ?_
      simp only [r24_Block.l0, if_neg (show ¬ (i : Int) < (b.length : Int) by omega)]
      exact Ev.cast (Ev.some _) (by rw [List.drop_eq_nil_of_le (by omega), chk])
    | succ d ih =>
      intro i hi last h0 h1 h2
      have hil : i < b.length := by omega
      rw [drop_rd hil, chk]
      obtain ⟨p, hp⟩ : ∃ p, p = rd b (i : Int) := ⟨_, rfl⟩
      have wi : wrap64 ((i : Int) + 1) = ((i + 1 : Nat) : Int) := wn (by omega) (by omega)
      refine Ev.succ ?_
      simp only [r24_Block.l0, if_pos (show (i : Int) < (b.length : Int) by clear wi; omega), if_pos (show (0 : Int) ≤ (i : Int) from Int.natCast_nonneg _), wi, ← hp]
      by_cases g1 : p < 0
      · simp only [if_pos g1]
        exact Ev.cast (Ev.some _) (by rw [decide_eq_false (by clear wi; omega), Bool.false_and])
      simp only [if_neg g1]
      by_cases g2 : p ≥ n
      · simp only [if_pos g2]
        exact Ev.cast (Ev.some _) (by rw [decide_eq_false (by clear wi; omega), Bool.false_and])
      simp only [if_neg g2]
      have nx := ih (i + 1) (by clear wi; omega) p (by clear wi; omega) (fun h => by clear wi; omega) (fun _ => by rw [hp, show i + 1 - 1 = i by clear wi; omega])
      by_cases g3 : i = 0
      · simp only [if_neg (show ¬ (i : Int) > 0 by clear wi; omega)]
        have := h1 g3
        rw [decide_eq_true (show last < p ∧ p < n by clear wi; omega), Bool.true_and]
        exact nx
      · have wj : wrap64 ((i : Int) - 1) = ((i - 1 : Nat) : Int) := wn (by clear wi; omega) (by clear wi; omega)
        simp only [if_pos (show (i : Int) > 0 by clear wi wj; omega), wj, if_pos (show (0 : Int) ≤ ((i - 1 : Nat) : Int) from Int.natCast_nonneg _), if_pos (show ((i - 1 : Nat) : Int) < (b.length : Int) by clear wi wj; omega), ← h2 (by clear wi wj; omega)]
        by_cases g4 : p ≤ last
        · simp only [if_pos g4]
          exact Ev.cast (Ev.some _) (by rw [decide_eq_false (by clear wi wj; omega), Bool.false_and])
        · simp only [if_neg g4]
          rw [decide_eq_true (show last < p ∧ p < n by clear wi wj; omega), Bool.true_and]
          exact nx
  simp only [r24_Block.f]
  exact loop b.length 0 (by omega) (-1) (by omega) (fun _ => rfl) (fun h => by omega)
theorem rinside_ev {s t : List Int} (hs : s.length ≤ 4096) (ht : t.length ≤ 4096) : Ev (fun k => r24_Inside.f k s t) (inb s t) := by
  have outer : ∀ (d i : Nat), i + d = s.length → Ev (fun k => r24_Inside.l0 k s t (i : Int)) (inb (s.drop i) t) := by
    intro d
    induction d with
    | zero =>
      intro i hi
      refine Ev.succ ?_
      simp only [r24_Inside.l0, if_neg (show ¬ (i : Int) < (s.length : Int) by omega)]
      exact Ev.cast (Ev.some _) (by rw [List.drop_eq_nil_of_le (by omega)]; rfl)
    | succ d ih =>
      intro i hi
      have hil : i < s.length := by omega
      have wi : wrap64 ((i : Int) + 1) = ((i + 1 : Nat) : Int) := wn (by omega) (by omega)
      have nx := ih (i + 1) (by clear wi; omega)
      have inner : ∀ (d j : Nat), j + d = t.length → ∀ v : Bool, Ev (fun k => r24_Inside.l1 k s t (i : Int) v (j : Int)) ((v || decide (rd s (i : Int) ∈ t.drop j)) && inb (s.drop (i + 1)) t) := by
        intro d
        induction d with
        | zero =>
          intro j hj v
          refine Ev.succ ?_
          simp only [r24_Inside.l1, if_neg (show ¬ (j : Int) < (t.length : Int) by clear wi; omega), wi]
          rw [List.drop_eq_nil_of_le (by clear wi; omega)]
          cases v with
          | true => simp only [if_true]; exact Ev.cast nx (by simp)
          | false => simp only [Bool.false_eq_true, if_false]; exact Ev.cast (Ev.some _) (by simp)
        | succ d ihj =>
          intro j hj v
          have hjl : j < t.length := by clear wi; omega
          have wj : wrap64 ((j : Int) + 1) = ((j + 1 : Nat) : Int) := wn (by clear wi; omega) (by clear wi; omega)
          rw [drop_rd hjl]
          refine Ev.succ ?_
          simp only [r24_Inside.l1, if_pos (show (j : Int) < (t.length : Int) by clear wi wj; omega), wj]
          cases v with
          | true =>
            simp only [if_true]
            exact Ev.cast (ihj (j + 1) (by clear wi wj; omega) true) (by simp)
          | false =>
            simp only [Bool.false_eq_true, if_false, if_pos (show (0 : Int) ≤ (j : Int) from Int.natCast_nonneg _), if_pos (show (0 : Int) ≤ (i : Int) from Int.natCast_nonneg _), if_pos (show (i : Int) < (s.length : Int) by clear wi wj; omega)]
            refine Ev.cast (ihj (j + 1) (by clear wi wj; omega) _) ?_
            congr 1
            by_cases g : rd t (j : Int) = rd s (i : Int)
            · simp [g]
            · have g2 : ¬ rd s (i : Int) = rd t (j : Int) := fun e => g e.symm
              simp [g, g2]
      refine Ev.succ ?_
      simp only [r24_Inside.l0, if_pos (show (i : Int) < (s.length : Int) by clear wi; omega)]
      refine Ev.cast (inner t.length 0 (by clear wi; omega) false) ?_
      rw [drop_rd hil, List.drop_zero, Bool.false_or]
      rfl
  simp only [r24_Inside.f]
  exact outer s.length 0 (by omega)
theorem many_ev {n t : Nat} (hn : n ≤ 64) (ht : t ≤ n) : Ev (fun k => r24_Many.f k (n : Int) (t : Int)) (decide (65536 < bin n t)) := by
  simp only [r24_Many.f]
  refine Ev.bind (choose_ev (by omega) (by omega)) ?_
  refine Ev.bind (rof_ev (n := 65536) (by omega)) ?_
  refine Ev.bind (rcmp_ev (by have := bin_len (n := n) (by omega) t; omega) (by have := dg_len_le (n := 65536) (m := 1) (by rw [show (1 : Nat) = 0 + 1 from rfl, bp_succ, bp_zero]; omega); omega)) ?_
  refine Ev.cast (Ev.some _) ?_
  by_cases g : 65536 < bin n t
  · rw [decide_eq_true (cmp_gt.mpr g), decide_eq_true g]
  · rw [decide_eq_false (fun h => g (cmp_gt.mp h)), decide_eq_false g]
def tail (n t p d : Nat) : List (List Int) := (List.range' p d).flatMap (fun i : Nat => (sets n t (i + 1)).map (fun s => (i : Int) :: s))
theorem tail_succ (n t p d : Nat) : tail n t p (d + 1) = (sets n t (p + 1)).map (fun s => (p : Int) :: s) ++ tail n t (p + 1) d := by
  unfold tail
  rw [List.range'_succ, List.flatMap_cons]
theorem sets_few {n : Nat} : ∀ t lo : Nat, lo ≤ n + 1 → (sets n t lo).length ≤ 2 ^ (n + 1 - lo)
  | 0, lo, _ => by rw [sets]; exact Nat.pow_pos (by omega)
  | t + 1, lo, hlo => by
    have step : ∀ (d p : Nat), p + d ≤ n + 1 → (tail n t p d).length ≤ 2 ^ (n + 1 - p) := by
      intro d
      induction d with
      | zero => intro p _; simp [tail]
      | succ d ih =>
        intro p hp
        have h1 := ih (p + 1) (by omega)
        have h2 := sets_few (n := n) t (p + 1) (by omega)
        rw [tail_succ, List.length_append, List.length_map, show n + 1 - p = (n + 1 - (p + 1)) + 1 by omega, Nat.pow_succ]
        omega
    exact step (n - t - lo) lo (by omega)
theorem rsets_ev {n : Nat} (hn : n ≤ 14) : ∀ t : Nat, t ≤ n → ∀ lo : Nat, lo ≤ n + 1 → Ev (fun k => r24_sets.f k (lo : Int) (n : Int) (t : Int)) (sets n t lo) := by
  intro t
  induction t with
  | zero =>
    intro _ lo _
    refine Ev.succ ?_
    simp only [r24_sets.f, show ((0 : Nat) : Int) = 0 from rfl, if_true]
    exact Ev.some _
  | succ t ih =>
    intro ht lo hlo
    have w1 : wrap64 (((t + 1 : Nat) : Int) - 1) = (t : Int) := wn (by omega) (by omega)
    have big : ∀ t lo : Nat, lo ≤ n + 1 → (sets n t lo).length ≤ 32768 := fun t lo h => Nat.le_trans (sets_few t lo h) (by
      have : (2 : Nat) ^ (n + 1 - lo) ≤ 2 ^ 15 := Nat.pow_le_pow_right (by omega) (by omega)
      omega)
    have loop : ∀ (d p : Nat), n - t - p = d → p ≤ n + 1 → ∀ acc : List (List Int), acc.length + 32768 * d ≤ 1000000 →
        Ev (fun k => r24_sets.l0 k (n : Int) ((t + 1 : Nat) : Int) acc (p : Int)) (acc ++ tail n t p d) := by
      intro d
      induction d with
      | zero =>
        intro p hp hp2 acc _
        have w2 : wrap64 ((p : Int) + ((t + 1 : Nat) : Int)) = ((p + (t + 1) : Nat) : Int) := wn (by omega) (by omega)
        refine Ev.succ ?_
        simp only [r24_sets.l0, w2, if_neg (show ¬ ((p + (t + 1) : Nat) : Int) ≤ (n : Int) by clear w1 w2; omega)]
        exact Ev.cast (Ev.some _) (by simp [tail])
      | succ d ihd =>
        intro p hp hp2 acc hacc
        have w2 : wrap64 ((p : Int) + ((t + 1 : Nat) : Int)) = ((p + (t + 1) : Nat) : Int) := wn (by omega) (by omega)
        have w3 : wrap64 ((p : Int) + 1) = ((p + 1 : Nat) : Int) := wn (by clear w1 w2; omega) (by clear w1 w2; omega)
        have hbig := big t (p + 1) (by clear w1 w2 w3; omega)
        have inner : ∀ (e j : Nat), j + e = (sets n t (p + 1)).length → ∀ acc : List (List Int), acc.length + e + 32768 * d ≤ 1000000 →
            Ev (fun k => r24_sets.l1 k (n : Int) ((t + 1 : Nat) : Int) acc (p : Int) (sets n t (p + 1)) (j : Int)) (acc ++ (((sets n t (p + 1)).drop j).map (fun s => (p : Int) :: s) ++ tail n t (p + 1) d)) := by
          intro e
          induction e with
          | zero =>
            intro j hj acc hacc
            refine Ev.succ ?_
            simp only [r24_sets.l1, if_neg (show ¬ (j : Int) < ((sets n t (p + 1)).length : Int) by clear w1 w2 w3; omega), w3]
            refine Ev.cast (ihd (p + 1) (by clear w1 w2 w3; omega) (by clear w1 w2 w3; omega) acc (by clear w1 w2 w3; omega)) ?_
            rw [List.drop_eq_nil_of_le (by clear w1 w2 w3; omega)]; rfl
          | succ e ihe =>
            intro j hj acc hacc
            have hjl : j < (sets n t (p + 1)).length := by clear w1 w2 w3; omega
            have w4 : wrap64 ((j : Int) + 1) = ((j + 1 : Nat) : Int) := wn (by clear w1 w2 w3; omega) (by clear w1 w2 w3; omega)
            have hel := (sets_rng (List.getElem_mem hjl)).1
            refine Ev.succ ?_
            simp only [r24_sets.l1, if_pos (show (j : Int) < ((sets n t (p + 1)).length : Int) by clear w1 w2 w3 w4; omega), Option.bind_some, if_pos (show (0 : Int) ≤ (j : Int) from Int.natCast_nonneg _), rd1_lt hjl, if_pos (show ([(p : Int)] : List Int).length + ((sets n t (p + 1))[j]).length < 17592186044416 by rw [hel]; simp; clear w1 w2 w3 w4; omega), if_pos (show acc.length < 5864062014805 by clear w1 w2 w3 w4; omega), w4]
            refine Ev.cast (ihe (j + 1) (by clear w1 w2 w3 w4; omega) _ (by rw [List.length_append]; simp only [List.length_cons, List.length_nil]; clear w1 w2 w3 w4; omega)) ?_
            rw [List.drop_eq_getElem_cons hjl, List.map_cons, List.append_assoc]
            rfl
        have hf := ih (by clear w1 w2 w3; omega) (p + 1) (by clear w1 w2 w3; omega)
        refine Ev.succ ?_
        simp only [r24_sets.l0, w1, w2, w3, if_pos (show ((p + (t + 1) : Nat) : Int) ≤ (n : Int) by clear w1 w2 w3; omega)]
        refine Ev.bind hf ?_
        rw [tail_succ]
        exact inner (sets n t (p + 1)).length 0 (by clear w1 w2 w3; omega) acc (by clear w1 w2 w3; omega)
    refine Ev.succ ?_
    simp only [r24_sets.f, if_neg (show ¬ ((t + 1 : Nat) : Int) = 0 by omega)]
    exact loop (n - t - lo) lo rfl hlo [] (by simp only [List.length_nil]; omega)
theorem rcount_ev {bl all : List (List Int)} (hlen : bl.length ≤ 4096) (hb : ∀ b ∈ bl, b.length ≤ 4096) (ha : ∀ s ∈ all, s.length ≤ 4096) (hal : all.length ≤ 1000000) :
    ∀ (d i : Nat), i + d = all.length → ∀ c : Int, -1 ≤ c → Ev (fun k => r24_Design.l1 k bl all c (i : Int))
      (if (run ((all.drop i).map (fun v => Kc v bl)) c true).2.2 = true then ((run ((all.drop i).map (fun v => Kc v bl)) c true).2.1, 0) else (0, 11)) := by
  intro d
  induction d with
  | zero =>
    intro i hi c _
    refine Ev.succ ?_
    simp only [r24_Design.l1, if_neg (show ¬ (i : Int) < (all.length : Int) by omega)]
    exact Ev.cast (Ev.some _) (by rw [List.drop_eq_nil_of_le (by omega)]; rfl)
  | succ d ih =>
    intro i hi c hc
    have hil : i < all.length := by omega
    have wi : wrap64 ((i : Int) + 1) = ((i + 1 : Nat) : Int) := wn (by omega) (by omega)
    rw [List.drop_eq_getElem_cons hil, List.map_cons]
    obtain ⟨s, hs⟩ : ∃ s, s = all[i] := ⟨_, rfl⟩
    have hsl : s.length ≤ 4096 := by rw [hs]; exact ha _ (List.getElem_mem hil)
    rw [← hs]
    have inner : ∀ (e j : Nat), j + e = bl.length → Ev (fun k => r24_Design.l2 k bl all c (i : Int) ((Kc s (bl.take j) : Nat) : Int) (j : Int))
        (if (run (Kc s bl :: (all.drop (i + 1)).map (fun v => Kc v bl)) c true).2.2 = true then ((run (Kc s bl :: (all.drop (i + 1)).map (fun v => Kc v bl)) c true).2.1, 0) else (0, 11)) := by
      intro e
      induction e with
      | zero =>
        intro j hj
        have : j = bl.length := by clear wi; omega
        subst this
        rw [List.take_of_length_le (Nat.le_refl _)]
        refine Ev.succ ?_
        simp only [r24_Design.l2, if_neg (Int.lt_irrefl (bl.length : Int)), wi]
        have nx := ih (i + 1) (by clear wi; omega) ((Kc s bl : Nat) : Int) (by clear wi; omega)
        have hrun : run (Kc s bl :: (all.drop (i + 1)).map (fun v => Kc v bl)) c true = if (decide (c < 0) || (((Kc s bl : Nat) : Int) == c)) = true then run ((all.drop (i + 1)).map (fun v => Kc v bl)) ((Kc s bl : Nat) : Int) true else (false, ((Kc s bl : Nat) : Int), false) := rfl
        rw [hrun]
        by_cases g : c ≥ 0
        · simp only [if_pos g]
          by_cases g2 : c = ((Kc s bl : Nat) : Int)
          · simp only [if_pos g2]
            rw [if_pos (show (decide (c < 0) || (((Kc s bl : Nat) : Int) == c)) = true by rw [← g2]; simp)]
            exact nx
          · simp only [if_neg g2]
            rw [if_neg (show ¬ (decide (c < 0) || (((Kc s bl : Nat) : Int) == c)) = true by simp; clear wi; omega)]
            exact Ev.cast (Ev.some _) (by simp)
        · simp only [if_neg g]
          rw [if_pos (show (decide (c < 0) || (((Kc s bl : Nat) : Int) == c)) = true by simp; clear wi; omega)]
          exact nx
      | succ e ihe =>
        intro j hj
        have hjl : j < bl.length := by clear wi; omega
        have wj : wrap64 ((j : Int) + 1) = ((j + 1 : Nat) : Int) := wn (by clear wi; omega) (by clear wi; omega)
        have hk := Kc_le s (bl.take j)
        rw [List.length_take] at hk
        have wk : wrap64 (((Kc s (bl.take j) : Nat) : Int) + 1) = ((Kc s (bl.take j) + 1 : Nat) : Int) := wn (by clear wi wj; omega) (by clear wi wj; omega)
        have nx := ihe (j + 1) (by clear wi wj wk; omega)
        rw [List.take_succ_eq_append_getElem hjl, Kc_app] at nx
        refine Ev.succ ?_
        simp only [r24_Design.l2, if_pos (show (j : Int) < (bl.length : Int) by clear wi wj wk; omega), if_pos (show (0 : Int) ≤ (i : Int) from Int.natCast_nonneg _), if_pos (show (i : Int) < (all.length : Int) by clear wi wj wk; omega), if_pos (show (0 : Int) ≤ (j : Int) from Int.natCast_nonneg _), rd1_lt hil, rd1_lt hjl, ← hs, wj, wk]
        refine Ev.bind (rinside_ev hsl (hb _ (List.getElem_mem hjl))) ?_
        by_cases g : inb s bl[j] = true
        · simp only [if_pos g]
          rw [if_pos g] at nx
          exact nx
        · simp only [if_neg g]
          rw [if_neg g, Nat.add_zero] at nx
          exact nx
    refine Ev.succ ?_
    simp only [r24_Design.l1, if_pos (show (i : Int) < (all.length : Int) by clear wi; omega)]
    exact inner bl.length 0 (by clear wi; omega)
theorem rdesign_ev {n t : Int} {bl : List (List Int)} (hlen : bl.length ≤ 4096) (hb : ∀ b ∈ bl, b.length ≤ 4096) (hsm : 0 ≤ n → n ≤ 64 → 0 ≤ t → t ≤ n → ¬ 65536 < bin n.toNat t.toNat → n ≤ 14) :
    Ev (fun k => r24_Design.f k n bl t) (dspec n t bl) := by
  by_cases hn : n < 0 ∨ 64 < n
  · have e : dspec n t bl = (0, 6) := if_pos hn
    rw [e]
    have bad : Ev (fun k => r24_Design.j0 k n bl t true) (0, 6) := by
      refine Ev.succ ?_
      simp only [r24_Design.j0, if_true]
      exact Ev.some _
    simp only [r24_Design.f]
    by_cases g : n < 0
    · simp only [if_pos g]; exact bad
    · simp only [if_neg g, decide_eq_true (show n > 64 by omega)]; exact bad
  · obtain ⟨m, rfl⟩ : ∃ m : Nat, n = (m : Int) := ⟨n.toNat, by omega⟩
    have hm : m ≤ 64 := by omega
    have blocks : ∀ (d i : Nat), i + d = bl.length → (bl.take i).all (chk (m : Int) (-1)) = true → Ev (fun k => r24_Design.l0 k (m : Int) bl t (i : Int)) (dspec (m : Int) t bl) := by
      intro d
      induction d with
      | zero =>
        intro i hi hall
        have : i = bl.length := by omega
        subst this
        rw [List.take_of_length_le (Nat.le_refl _)] at hall
        refine Ev.succ ?_
        simp only [r24_Design.l0, if_neg (Int.lt_irrefl (bl.length : Int))]
        have e : dspec (m : Int) t bl = if t < 0 ∨ (m : Int) < t then (0, 6) else if 65536 < bin m t.toNat then (0, 8) else desr (ksl m t.toNat bl) := by
          unfold dspec
          rw [if_neg hn, if_neg (by rw [hall]; simp), Int.toNat_natCast]
        rw [e]
        by_cases ht : t < 0 ∨ (m : Int) < t
        · rw [if_pos ht]
          have bad : Ev (fun k => r24_Design.j2 k (m : Int) bl t true) (0, 6) := by
            refine Ev.succ ?_
            simp only [r24_Design.j2, if_true]
            exact Ev.some _
          by_cases g : t < 0
          · simp only [if_pos g]; exact bad
          · simp only [if_neg g, decide_eq_true (show t > (m : Int) by omega)]; exact bad
        · rw [if_neg ht]
          obtain ⟨u, rfl⟩ : ∃ u : Nat, t = (u : Int) := ⟨t.toNat, by omega⟩
          have hu : u ≤ m := by omega
          simp only [if_neg (show ¬ (u : Int) < 0 by omega), decide_eq_false (show ¬ (u : Int) > (m : Int) by omega), Int.toNat_natCast]
          refine Ev.succ ?_
          simp only [r24_Design.j2, Bool.false_eq_true, if_false]
          refine Ev.bind (many_ev hm hu) ?_
          by_cases gm : 65536 < bin m u
          · simp only [decide_eq_true gm, if_true, if_pos gm]
            exact Ev.some _
          · simp only [decide_eq_false gm, Bool.false_eq_true, if_false, if_neg gm]
            have m14 : m ≤ 14 := by
              have := hsm (by omega) (by omega) (by omega) (by omega) (by rw [Int.toNat_natCast, Int.toNat_natCast]; exact gm)
              omega
            refine Ev.bind (rsets_ev m14 u hu 0 (by omega)) ?_
            have hal := sets_few (n := m) u 0 (by omega)
            have h15 : (2 : Nat) ^ (m + 1 - 0) ≤ 2 ^ 15 := Nat.pow_le_pow_right (by omega) (by omega)
            exact rcount_ev hlen hb (fun s hs => by rw [(sets_rng hs).1]; omega) (by omega) (sets m u 0).length 0 (by omega) (-1) (by omega)
      | succ d ih =>
        intro i hi hall
        have hil : i < bl.length := by omega
        refine Ev.succ ?_
        simp only [r24_Design.l0, if_pos (show (i : Int) < (bl.length : Int) by omega), if_pos (show (0 : Int) ≤ (i : Int) from Int.natCast_nonneg _), rd1_lt hil]
        refine Ev.bind (rblock_ev (hb _ (List.getElem_mem hil))) ?_
        by_cases g : chk (m : Int) (-1) bl[i] = true
        · simp only [if_pos g, wn (show (i : Int) + 1 = ((i + 1 : Nat) : Int) by omega) (by omega)]
          exact ih (i + 1) (by omega) (by rw [List.take_succ_eq_append_getElem hil, List.all_append, hall]; simp [g])
        · simp only [if_neg g]
          refine Ev.cast (Ev.some _) ?_
          unfold dspec
          rw [if_neg hn, if_pos]
          rw [Bool.eq_false_iff]
          intro e
          exact g (List.all_eq_true.mp e _ (List.getElem_mem hil))
    simp only [r24_Design.f, if_neg (show ¬ (m : Int) < 0 by omega), decide_eq_false (show ¬ (m : Int) > 64 by omega)]
    refine Ev.succ ?_
    simp only [r24_Design.j0, Bool.false_eq_true, if_false]
    exact blocks bl.length 0 (by omega) rfl
theorem crowded_ev {bl : List (List Int)} (hlen : bl.length ≤ 9223372036854775807) : Rz (fun b => b = false → bl.length ≤ 300 ∧ ∀ b ∈ bl, b.length ≤ 100) (fun k => w24_crowded.f k bl) := by
  have loop : ∀ (d i : Nat), i + d = bl.length → (∀ b ∈ bl.take i, b.length ≤ 100) → Rz (fun b => b = false → bl.length ≤ 300 ∧ ∀ b ∈ bl, b.length ≤ 100) (fun k => w24_crowded.l0 k bl (i : Int)) := by
    intro d
    induction d with
    | zero =>
      intro i hi h
      rw [List.take_of_length_le (by omega)] at h
      refine Rz.succ ?_
      simp only [w24_crowded.l0, if_neg (show ¬ (i : Int) < (bl.length : Int) by omega)]
      exact Rz.some (fun e => ⟨by have := of_decide_eq_false e; omega, h⟩)
    | succ d ih =>
      intro i hi h
      have hil : i < bl.length := by omega
      refine Rz.succ ?_
      simp only [w24_crowded.l0, if_pos (show (i : Int) < (bl.length : Int) by omega), if_pos (show (0 : Int) ≤ (i : Int) from Int.natCast_nonneg _), rd1_lt hil]
      by_cases g : (bl[i].length : Int) > 100
      · simp only [if_pos g]
        exact Rz.some (fun e => by cases e)
      · simp only [if_neg g, wn (show (i : Int) + 1 = ((i + 1 : Nat) : Int) by omega) (by omega)]
        refine ih (i + 1) (by omega) (fun b hb => ?_)
        rw [List.take_succ_eq_append_getElem hil] at hb
        rcases List.mem_append.mp hb with hb | hb
        · exact h b hb
        · rw [List.mem_singleton.mp hb]; omega
  simp only [w24_crowded.f]
  exact loop bl.length 0 (by omega) (fun b hb => by simp at hb)
theorem designs_law {n t : Int} {bl : List (List Int)} (hlen : bl.length ≤ 9223372036854775807) : Ev (fun k => w24_MacwilliamsDesigns.f k n bl t) true := by
  obtain ⟨cr, hcr, hP⟩ := crowded_ev hlen
  simp only [w24_MacwilliamsDesigns.f]
  refine Ev.bind hcr ?_
  cases cr with
  | true => simp only [if_true]; exact Ev.some _
  | false =>
    obtain ⟨h300, h100⟩ := hP rfl
    simp only [Bool.false_eq_true, if_false]
    have go : (0 ≤ n → n ≤ 64 → 0 ≤ t → t ≤ n → ¬ 65536 < bin n.toNat t.toNat → n ≤ 14) → Ev (fun k => w24_MacwilliamsDesigns.j0 k n bl t false) true := by
      intro hsm
      refine Ev.succ ?_
      simp only [w24_MacwilliamsDesigns.j0, Bool.false_eq_true, if_false]
      have hb : ∀ b ∈ bl, b.length ≤ 4096 := fun b h => by have := h100 b h; omega
      refine Ev.bind (ndesign_ev (by omega) hb) (Ev.bind (rdesign_ev (by omega) hb hsm) ?_)
      simp only [if_true]
      exact Ev.cast (Ev.some _) (by simp)
    by_cases g1 : n ≥ 0
    · simp only [if_pos g1]
      by_cases g2 : n ≤ 64
      · simp only [if_pos g2]
        by_cases g3 : t ≥ 0
        · simp only [if_pos g3]
          by_cases g4 : t ≤ n
          · simp only [if_pos g4]
            obtain ⟨m, rfl⟩ : ∃ m : Nat, n = (m : Int) := ⟨n.toNat, by omega⟩
            obtain ⟨u, rfl⟩ : ∃ u : Nat, t = (u : Int) := ⟨t.toNat, by omega⟩
            refine Ev.bind (many_ev (by omega) (by omega)) ?_
            by_cases gm : 65536 < bin m u
            · simp only [decide_eq_true gm, if_true]
              exact go (fun _ _ _ _ h => absurd (by rw [Int.toNat_natCast, Int.toNat_natCast]; exact gm) h)
            · simp only [decide_eq_false gm, Bool.false_eq_true, if_false]
              by_cases g14 : (m : Int) > 14
              · simp only [decide_eq_true g14]
                refine Ev.succ ?_
                simp only [w24_MacwilliamsDesigns.j0, if_true]
                exact Ev.some _
              · simp only [decide_eq_false g14]
                exact go (fun _ _ _ _ _ => by omega)
          · simp only [if_neg g4]; exact go (fun _ _ _ h => absurd h g4)
        · simp only [if_neg g3]; exact go (fun _ _ h => absurd h g3)
      · simp only [if_neg g2]; exact go (fun _ h => absurd h g2)
    · simp only [if_neg g1]; exact go (fun h => absurd h g1)
end Mw
end
section
namespace Mw
open Go Go.RowKit Go.ChangeShapes Go.WideShapes Go.Deep Go.Proofs.YtifkbghnmhineaaW.PrintWords
theorem open_rows {H : Type} {enc : TypeId × Value → H} {P : Program} {w : World} {base : Nat} {held : Bool} {t e q : TypeId} {k : IntKind} {A : Option Addr} {len cap : Nat} {d : DataW H} {ps : List MemPlace}
    (ht : P.underlying t = some (.slice e)) (he : P.underlying e = some (.slice q)) (hq : P.underlying q = some (.int k)) (ce : P.cellsOf e = 1) (cq : P.cellsOf q = 1)
    (h : DataW.Trod enc P w base (fun _ => true) held t (.slice A len cap) d ps) :
    ∃ l : List (List Int), l.length = len ∧ len ≤ cap ∧ len ≤ 9223372036854775807 ∧ Kd.C (Kd.slice q (Kd.int k)) w A len l ∧ ∀ x ∈ l, ∀ n ∈ x, (Lit.int k n).wf = true := by
  obtain ⟨fuel, hf⟩ := h
  rcases open_int_rows ht he hq ce cq hf with ⟨hcs, _⟩ | ⟨a, len', cap', A', L, C, Z, hcs, _, hl, hm, _, hrows⟩
  · simp [Value.cells] at hcs
    obtain ⟨rfl, rfl, rfl⟩ := hcs
    exact ⟨[], rfl, Nat.le_refl _, by omega, ⟨rfl, by omega, fun h => absurd h (by omega)⟩, fun x hx => by simp at hx⟩
  · simp [Value.cells] at hcs
    obtain ⟨rfl, rfl, rfl⟩ := hcs
    have hm9 : cap ≤ 9223372036854775807 := by simpa [maxLen] using hm
    refine ⟨(List.range len).map fun r => (Z r).take (L r), by simp, hl, by omega, ⟨by simp, by omega, fun _ => ⟨a, rfl, fun j p hj => ?_⟩⟩, fun x hx n hn => ?_⟩
    · have hjl : j < len := by
        by_cases g : j < len
        · exact g
        · rw [List.getElem?_eq_none (by simp; omega)] at hj; simp at hj
      obtain ⟨hc, hLC, hCm, hZ, hwf, hnil, hcells⟩ := hrows j (by omega)
      have hC9 : C j ≤ 9223372036854775807 := by simpa [maxLen] using hCm
      have hp : p = (Z j).take (L j) := by
        rw [List.getElem?_map, List.getElem?_range hjl] at hj
        simpa using hj.symm
      have hpl : p.length = L j := by rw [hp, List.length_take]; omega
      refine ⟨[.slice (A' j) p.length (C j)], rfl, ⟨A' j, C j, rfl, by omega, ?_⟩, fun i u hu => ?_⟩
      · refine Kd.C_of_reads (d := (0 : Int)) ⟨rfl, by omega, fun hpos => ?_⟩
        cases hA : A' j with
        | none => have := hnil hA; omega
        | some a' =>
          refine ⟨a', rfl, fun i hi => ?_⟩
          have := (hcells a' hA).2 i (by omega)
          rw [this, hp]
          congr 2
          simp only [List.getD_eq_getElem?_getD]
          rw [List.getElem?_take_of_lt (by omega)]
      · cases i with
        | zero =>
          have : Value.slice (A' j) p.length (C j) = u := by simpa using hu
          subst this
          rw [hpl]
          simpa [Kd.slice] using hc
        | succ i => simp at hu
    · obtain ⟨r, hr, rfl⟩ := List.mem_map.mp hx
      have hr := List.mem_range.mp hr
      exact (hrows r (by omega)).2.2.2.2.1 n (List.mem_of_mem_take hn)
end Mw
end
section
namespace Mw
open Go Go.Proofs
def headCodes : List Nat := [
  104, 97, 114, 110, 101, 115, 115, 32, 97, 52, 54, 100, 51, 98, 54, 57, 49, 99, 100, 102, 102, 55, 57, 50, 53, 50, 54, 98, 102, 49,
  54, 102, 48, 51, 48, 99, 54, 97, 97, 48, 53, 57, 101, 57, 49, 50, 49, 49, 52, 97, 101, 54, 102, 97, 52, 52, 54, 99, 49, 56,
  54, 102, 57, 55, 99, 52, 101, 54, 51, 97, 102, 50, 32, 99, 117, 116, 32, 97, 116, 32, 99, 111, 100, 101, 119, 114, 105, 103, 104, 116,
  47, 99, 111, 100, 101, 119, 114, 105, 103, 104, 116, 108, 97, 119, 50, 52, 46, 77, 97, 99, 119, 105, 108, 108, 105, 97, 109, 115, 80, 108,
  101, 115, 115, 32, 99, 111, 100, 101, 119, 114, 105, 103, 104, 116, 47, 99, 111, 100, 101, 119, 114, 105, 103, 104, 116, 108, 97, 119, 50, 52,
  46, 77, 97, 99, 119, 105, 108, 108, 105, 97, 109, 115, 68, 101, 115, 105, 103, 110, 115, 32, 99, 111, 100, 101, 119, 114, 105, 103, 104, 116,
  47, 99, 111, 100, 101, 119, 114, 105, 103, 104, 116, 108, 97, 119, 50, 52, 46, 77, 97, 99, 119, 105, 108, 108, 105, 97, 109, 115, 68, 101,
  114, 105, 118, 101, 100, 32, 99, 111, 100, 101, 119, 114, 105, 103, 104, 116, 47, 99, 111, 100, 101, 119, 114, 105, 103, 104, 116, 108, 97, 119,
  50, 52, 46, 77, 97, 99, 119, 105, 108, 108, 105, 97, 109, 115, 77, 111, 109, 101, 110, 116, 115, 32, 99, 111, 100, 101, 119, 114, 105, 103,
  104, 116, 47, 99, 111, 100, 101, 119, 114, 105, 103, 104, 116, 108, 97, 119, 50, 52, 46, 77, 97, 99, 119, 105, 108, 108, 105, 97, 109, 115,
  83, 116, 114, 101, 110, 103, 116, 104, 115, 32, 99, 111, 100, 101, 119, 114, 105, 103, 104, 116, 47, 99, 111, 100, 101, 119, 114, 105, 103, 104,
  116, 108, 97, 119, 50, 52, 46, 77, 97, 99, 119, 105, 108, 108, 105, 97, 109, 115, 75, 114, 97, 119, 116, 99, 104, 111, 117, 107, 32, 99,
  111, 100, 101, 119, 114, 105, 103, 104, 116, 47, 99, 111, 100, 101, 119, 114, 105, 103, 104, 116, 108, 97, 119, 50, 52, 46, 77, 97, 99, 119,
  105, 108, 108, 105, 97, 109, 115, 65, 115, 115, 109, 117, 115, 32, 99, 111, 100, 101, 119, 114, 105, 103, 104, 116, 47, 99, 111, 100, 101, 119,
  114, 105, 103, 104, 116, 108, 97, 119, 50, 52, 46, 77, 97, 99, 119, 105, 108, 108, 105, 97, 109, 115, 71, 101, 110, 101, 114, 97, 116, 105,
  110, 103, 32, 99, 111, 100, 101, 119, 114, 105, 103, 104, 116, 47, 99, 111, 100, 101, 119, 114, 105, 103, 104, 116, 108, 97, 119, 50, 52, 46,
  77, 97, 99, 119, 105, 108, 108, 105, 97, 109, 115, 79, 114, 116, 104, 111, 103, 111, 110, 97, 108, 32, 99, 111, 100, 101, 119, 114, 105, 103,
  104, 116, 47, 99, 111, 100, 101, 119, 114, 105, 103, 104, 116, 108, 97, 119, 50, 52, 46, 77, 97, 99, 119, 105, 108, 108, 105, 97, 109, 115,
  82, 101, 99, 105, 112, 114, 111, 99, 97, 108, 32, 99, 111, 100, 101, 119, 114, 105, 103, 104, 116, 47, 99, 111, 100, 101, 119, 114, 105, 103,
  104, 116, 108, 97, 119, 50, 52, 46, 77, 97, 99, 119, 105, 108, 108, 105, 97, 109, 115, 82, 101, 99, 117, 114, 114, 101, 110, 99, 101, 32,
  99, 111, 100, 101, 119, 114, 105, 103, 104, 116, 47, 99, 111, 100, 101, 119, 114, 105, 103, 104, 116, 108, 97, 119, 50, 52, 46, 77, 97, 99,
  119, 105, 108, 108, 105, 97, 109, 115, 73, 100, 101, 110, 116, 105, 116, 121, 32, 99, 111, 100, 101, 119, 114, 105, 103, 104, 116, 47, 99, 111,
  100, 101, 119, 114, 105, 103, 104, 116, 108, 97, 119, 50, 52, 46, 77, 97, 99, 119, 105, 108, 108, 105, 97, 109, 115, 68, 101, 108, 115, 97,
  114, 116, 101, 32, 99, 111, 100, 101, 119, 114, 105, 103, 104, 116, 47, 99, 111, 100, 101, 119, 114, 105, 103, 104, 116, 108, 97, 119, 50, 52,
  46, 77, 97, 99, 119, 105, 108, 108, 105, 97, 109, 115, 69, 120, 116, 101, 114, 110, 97, 108, 115, 32, 99, 111, 100, 101, 119, 114, 105, 103,
  104, 116, 47, 99, 111, 100, 101, 119, 114, 105, 103, 104, 116, 108, 97, 119, 50, 52, 46, 77, 97, 99, 119, 105, 108, 108, 105, 97, 109, 115,
  84, 114, 97, 110, 115, 102, 111, 114, 109, 115, 32, 99, 111, 100, 101, 119, 114, 105, 103, 104, 116, 47, 99, 111, 100, 101, 119, 114, 105, 103,
  104, 116, 108, 97, 119, 50, 52, 46, 77, 97, 99, 119, 105, 108, 108, 105, 97, 109, 115, 73, 110, 118, 101, 114, 116, 115]
theorem head_eq : Try.prog.initOrder = String.ofList (headCodes.map Char.ofNat) := by kernel_rfl
theorem head_list : Try.prog.initOrder.toList = headCodes.map Char.ofNat := by rw [head_eq, String.toList_ofList]
def cutSigns : List Char := [99, 117, 116].map Char.ofNat
theorem head_word0 : ∃ rest, behindMainWord (wordsSigns (headCodes.map Char.ofNat)) = cutSigns :: rest := ⟨(behindMainWord (wordsSigns (headCodes.map Char.ofNat))).tail, by kernel_rfl⟩
theorem head_word : ∃ rest, behindMainWord (wordsSigns Try.prog.initOrder.toList) = cutSigns :: rest := by rw [head_list]; exact head_word0
theorem head_strip (rest : List (List Char)) : stripLifts liftWords (cutSigns :: rest) = ([], cutSigns :: rest) := by kernel_rfl
theorem sign1 : (cutSigns == "gc".toList) = false := by kernel_rfl
theorem sign2 : (cutSigns == "spec".toList) = false := by kernel_rfl
theorem sign3 : (cutSigns == "carried".toList) = false := by kernel_rfl
theorem sign4 : (cutSigns == "cut".toList) = true := by kernel_rfl
theorem make_of (P : Program) (c : List Char) (rest : List (List Char)) (h : behindMainWord (wordsSigns P.initOrder.toList) = c :: rest) (h1 : (c == "gc".toList) = false) (h2 : (c == "spec".toList) = false) (h3 : (c == "cut".toList) = true) : P.make = some .cut := by
  unfold Program.make
  rw [h]
  simp only [h1, h2, h3, Bool.or_self, Bool.true_or, Bool.false_eq_true, if_false, if_true]
theorem enter_of (P : Program) (c : List Char) (rest : List (List Char)) (h : behindMainWord (wordsSigns P.initOrder.toList) = c :: rest) (hs : stripLifts liftWords (c :: rest) = ([], c :: rest)) (h3 : (some c == some "cut".toList) = true) (ll : P.laysLater = false) (br : P.bearsReflect = false) (df : P.doorFits [] = true) : P.mayEnter = true := by
  unfold Program.mayEnter
  rw [h]
  simp only [hs, List.head?_cons, h3, ll, br, df]
  simp
theorem final_of (P : Program) (c : List Char) (rest : List (List Char)) (h : behindMainWord (wordsSigns P.initOrder.toList) = c :: rest) (hs : stripLifts liftWords (c :: rest) = ([], c :: rest)) (h3 : (some c == some "carried".toList) = false) : P.liftsFinal = false := by
  unfold Program.liftsFinal Program.headLifts
  rw [h]
  simp only [hs, List.head?_cons, h3, Bool.false_and, Bool.false_or]
  split <;> rfl
theorem laysLater_ : Try.prog.laysLater = false := by kernel_rfl
theorem bearsReflect_ : Try.prog.bearsReflect = false := by kernel_rfl
theorem doorFits_ : Try.prog.doorFits [] = true := by kernel_rfl
theorem make_ : Try.prog.make = some .cut := by
  obtain ⟨rest, h⟩ := head_word
  exact make_of _ _ rest h sign1 sign2 sign4
theorem mayEnter_ : Try.prog.mayEnter = true := by
  obtain ⟨rest, h⟩ := head_word
  exact enter_of _ _ rest h (head_strip rest) sign4 laysLater_ bearsReflect_ doorFits_
theorem liftsFinal_ : Try.prog.liftsFinal = false := by
  obtain ⟨rest, h⟩ := head_word
  exact final_of _ _ rest h (head_strip rest) sign3
theorem laidOut : laidOutB Try.prog = true := by kernel_rfl
theorem mapsRowed_ : mapsRowed Try.prog = true := by kernel_rfl
theorem stopsHeard_ : Try.prog.stopsHeard = true := by kernel_rfl
theorem stops_ : (Try.prog.stops == []) = true := by kernel_rfl
theorem stopKnobs_ : (Try.prog.stopKnobs == []) = true := by kernel_rfl
theorem joined_of {P : Program} {f : FuncId} {fn : Func} {s : ChangeSpec} {c : OpenClaim} (k1 : c.wf (OpenSpec.ofChange s) = true) (k2 : laidOutB P = true) (k3 : mapsRowed P = true) (k4 : fn.params.all (P.readableRec ·) = true) (k5 : namedTie P c.named s.vars = true)
    (k6 : (c.stops == []) = true) (k7 : (P.stops == []) = true) (k8 : (c.knobs == []) = true) (k9 : (P.stopKnobs == []) = true) (k10 : (c.inPlace == P.inPlace f) = true) (k11 : (c.unfollowed == P.unfollowed f) = true) (k12 : (c.recurses == P.recurses f) = true) (k13 : (c.named == P.varsNamed f) = true)
    (k14 : (c.maps == (fn.params.toList ++ s.plain.varTypes P).any (P.mapsRec ·)) = true) (k15 : (c.ifaces == (fn.params.toList ++ s.plain.varTypes P).any (P.ifacesRec ·)) = true) (k16 : (c.mapsOut == P.mapsAmong fn.resultTypes.toList) = true) (k17 : (c.loops == (fn.params.toList ++ s.plain.varTypes P).any (P.loopsFrom ·)) = true) (k18 : (c.wideKeys == (fn.params.toList ++ s.plain.varTypes P ++ fn.resultTypes.toList).any (P.wideKeysFrom ·)) = true)
    (k19 : s.vars.all (P.varReadable ·) = true) (k20 : fn.resultTypes.all (fun t => P.readableRec t && decide (t < P.types.size)) = true) (k21 : (c.ifacesOut == fn.resultTypes.toList.any (P.ifacesRec ·)) = true) (k22 : (c.loopsOut == fn.resultTypes.toList.any (P.loopsFrom ·)) = true) (k23 : (c.plainKeys == P.plainKeys) = true) (k24 : c.shortTexts.isNone = true)
    (k25 : P.stopsHeard = true) (k26 : P.mayEnter = true) (k27 : (c.lifted == P.liftsFinal) = true) (k28 : (P.make == some c.make) = true) (k29 : (c.kinds == (if c.domain.isEmpty then [] else fn.params.toList.map fun t => match P.underlying t with | some (.int k) => some k | _ => none)) = true) (k30 : (c.pinned == c.pinnedBy) = true)
    (k31 : (c.veiled == (fn.params.toList ++ s.plain.varTypes P ++ fn.resultTypes.toList).any (P.veiledRec ·)) = true) (k32 : c.veiledFits P fn.params.toList (fn.params.toList ++ s.plain.varTypes P ++ fn.resultTypes.toList) = true) : joinedFacts P f fn s c = true := by
  unfold joinedFacts
  simp only [Bool.and_eq_true]
  exact ⟨⟨⟨⟨⟨⟨⟨⟨⟨⟨⟨⟨⟨⟨⟨⟨⟨⟨⟨⟨⟨⟨⟨⟨⟨⟨⟨⟨⟨⟨⟨k1, k2⟩, k3⟩, k4⟩, k5⟩, k6⟩, k7⟩, k8⟩, k9⟩, k10⟩, k11⟩, k12⟩, k13⟩, k14⟩, k15⟩, k16⟩, k17⟩, k18⟩, k19⟩, k20⟩, k21⟩, k22⟩, k23⟩, k24⟩, k25⟩, k26⟩, k27⟩, k28⟩, k29⟩, k30⟩, k31⟩, k32⟩
end Mw
end
section
namespace Go.Proofs.Ytifkbghnmhineaa.macwilliamsDesigns
open Go.ChangeShapes Go.WideShapes Go.ChangeAt Go.RowKit
open Go.ChangeMaps (open_string shut_string)
set_option linter.unusedVariables false
theorem own : ownKnob Try.prog.godebug = none := by kernel_rfl
set_option maxRecDepth 100000 in
theorem lifted (os : Os) (started : os.Started) (H : Type) (enc : TypeId × Value → H) :
    ReturnsInHanded {} Try.checked os 4 .any (Rows.macwilliamsDesignsSpec.pre6 enc Try.prog Try.f4 Rows.macwilliamsDesignsRow.domain false) (Rows.macwilliamsDesignsSpec.post enc Try.prog Try.f4 false true false false) := by
  refine returnsInHanded_of_change_sized (C := Try.checked) own started (by kernel_rfl) Try.func4
    (ChangeSpec.witness6 (enc := enc) (C := Try.checked) false ⟨#[], #[.int .i64 0, .slice none 0 0, .int .i64 0], []⟩ 8 (by kernel_rfl) (by kernel_rfl) (by kernel_rfl) (by kernel_rfl)) ?_
  intro W base args ds gs before hval0 hW hcnd hsz0 _
  have hval : ∀ (j : Nat) t v, Try.f4.params[j]? = some t → args[j]? = some v → Value.okWide Try.prog W .any base t v := hval0
  have hW' := hW
  obtain ⟨p, q, hA0, hV, rfl, hfz, hnd⟩ := hW
  have hA : DataW.TrodAll enc Try.prog W 0 (fun _ => true) true Try.f4.params.toList args.toList ds p := hA0
  rw [Try.params4] at hA hval
  obtain ⟨v0, vs0, d0, ds0, p0, q0, hargs, rfl, rfl, h0, r0⟩ := trodAll_cons hA
  obtain ⟨v1, vs1, d1, ds1, p1, q1, rfl, rfl, rfl, h1, r1⟩ := trodAll_cons r0
  obtain ⟨v2, vs2, d2, ds2, p2, q2, rfl, rfl, rfl, h2, r2⟩ := trodAll_cons r1
  obtain ⟨rfl, rfl, rfl⟩ := trodAll_nil r2
  obtain rfl : args = #[v0, v1, v2] := by cases args; simp_all
  obtain ⟨rfl, rfl⟩ := trodVars_none hV
  obtain ⟨a0, rfl, rfl, rfl, w0⟩ := open_int Try.underlying3 (hval 0 3 v0 rfl rfl) h0
  obtain ⟨a1, len1, cap1, rfl⟩ := okWide_slice Try.underlying25 (hval 1 25 v1 rfl rfl)
  have k1 := h1
  have lt1 : ∀ x ∈ p1, x.block < W.heap.size := by obtain ⟨m, hm⟩ := k1; exact DataW.trod_lt m _ _ _ hm
  obtain ⟨l1, rfl, hc1, hm1, hr1, _⟩ := Mw.open_rows Try.underlying25 Try.underlying22 Try.underlying3 (by kernel_rfl) (by kernel_rfl) h1
  obtain ⟨a2, rfl, rfl, rfl, w2⟩ := open_int Try.underlying3 (hval 2 3 v2 rfl rfl) h2
  clear hA0 hval0 hsz0
  obtain ⟨k, hk⟩ := (Mw.designs_law (n := a0) (t := a2) hm1).get
  refine (PAll.w24_MacwilliamsDesigns.calls k a0 a1 cap1 l1 a2 true W hr1 hc1 hk).mono fun e W' ⟨he, bel⟩ => ?_
  subst he
  exact ⟨_, rfl, _, _, _, [], _, [], hW', trodAll_mk1 (shut_bool Try.underlying4 _), (trodAll_cons_mk (shut_int Try.underlying3 w0) (trodAll_cons_mk (Below.trod Mw.laidOut (by kernel_rfl) (of_decide_eq_true (by kernel_rfl)) k1 bel lt1) (trodAll_cons_mk (shut_int Try.underlying3 w2) trodAll_mk0))), rfl, bel.frame _, fun h => by cases h⟩
theorem closed : joinedFacts Try.prog 4 Try.f4 Rows.macwilliamsDesignsSpec Rows.macwilliamsDesignsRow = true :=
  Mw.joined_of (by as_aux_lemma => kernel_rfl) Mw.laidOut Mw.mapsRowed_ (by as_aux_lemma => kernel_rfl) (by as_aux_lemma => kernel_rfl) (by as_aux_lemma => kernel_rfl) Mw.stops_ (by as_aux_lemma => kernel_rfl) Mw.stopKnobs_ (by as_aux_lemma => kernel_rfl) (by as_aux_lemma => kernel_rfl) (by as_aux_lemma => kernel_rfl) (by as_aux_lemma => kernel_rfl) (by as_aux_lemma => kernel_rfl) (by as_aux_lemma => kernel_rfl) (by as_aux_lemma => kernel_rfl) (by as_aux_lemma => kernel_rfl) (by as_aux_lemma => kernel_rfl) (by as_aux_lemma => kernel_rfl) (by as_aux_lemma => kernel_rfl) (by as_aux_lemma => kernel_rfl) (by as_aux_lemma => kernel_rfl) (by as_aux_lemma => kernel_rfl) (by as_aux_lemma => kernel_rfl) Mw.stopsHeard_ Mw.mayEnter_ (by rw [Mw.liftsFinal_]; rfl) (by rw [Mw.make_]; rfl) (by as_aux_lemma => kernel_rfl) (by as_aux_lemma => kernel_rfl) (by as_aux_lemma => kernel_rfl) (by as_aux_lemma => kernel_rfl)
theorem over : Rows.macwilliamsDesignsRow.holds Try.pinned (OpenSpec.ofChange Rows.macwilliamsDesignsSpec) :=
  OpenClaim.holds_of_wide 4 Try.f4 rfl rfl rfl rfl rfl rfl rfl ⟨rfl, rfl, rfl, rfl, rfl⟩ rfl rfl rfl rfl rfl (by as_aux_lemma => kernel_rfl) Try.func4 closed
    (of_decide_eq_true (by as_aux_lemma => kernel_rfl)) (by unfold Func.isWrapper; first | (rw [if_pos (by decide +kernel)]; kernel_rfl) | (rw [if_neg (by decide +kernel)]; exact ⟨rfl, rfl⟩))
    (fun os started H enc _ => lifted os started H enc)
theorem proved : Rows.MacwilliamsDesignsSaid := over
end Go.Proofs.Ytifkbghnmhineaa.macwilliamsDesigns
namespace Go.Proofs.Ytifkbghnmhineaa
theorem macwilliamsDesigns_holds : Rows.MacwilliamsDesignsSaid := macwilliamsDesigns.proved
end Go.Proofs.Ytifkbghnmhineaa
end
