/- What functions of the program do and come to, for the statement MacwilliamsStrengths, part 3. Conditions: as each theorem says. -/
import Derived.Test.YtifkbghnmhineaaQStrengths2

namespace Go.Proofs.Ytifkbghnmhineaa.PAll
open Go.RowKit Go.Proofs.YtifkbghnmhineaaW.PrintWords Go.Proofs.YtifkbghnmhineaaW.PrintLast Go.Proofs.YtifkbghnmhineaaW.PrintMore
attribute [local go_sem] max2_int min2_int max_two min_two max_three min_three max_four min_four
set_option linter.unusedVariables false
set_option linter.unusedSimpArgs false
set_option maxHeartbeats 8000000 in
set_option maxRecDepth 100000 in
theorem r1_Cmp.calls (k : Nat) (A0 : Option Addr) (c0 : Nat) (l0 : List Int) (A1 : Option Addr) (c1 : Nat) (l1 : List Int) (r : Int) (w : World) (hr0 : Kd.C (Kd.int .u32) w A0 l0.length l0) (hc0 : l0.length ≤ c0) (hr1 : Kd.C (Kd.int .u32) w A1 l1.length l1) (hc1 : l1.length ≤ c1) (h : r1_Cmp.f k l0 l1 = some r) :
    Calls Try.prog 77 #[.slice A0 l0.length c0, .slice A1 l1.length c1] w fun e w' => e = .returned (.int .i64 r) ∧ Below w.heap.size w w' := by
 have HR0 := Aside0.mk hr0
 have HC0 := Aside0.mk hc0
 clear hr0 hc0
 have HR1 := Aside0.mk hr1
 have HC1 := Aside0.mk hc1
 clear hr1 hc1
 have HB := Aside0.mk (Below.refl w.heap.size w)
 have H : (r1_Cmp.l0 k l0 l1 (wrap64 ((mx (l0.length : Int) (l1.length : Int)) - 1))) = some r := h
 clear h
 obtain ⟨ji3, hji3⟩ : ∃ j_ : Int, (mx (l0.length : Int) (l1.length : Int)) = j_ := ⟨_, rfl⟩
 replace H : (r1_Cmp.l0 k l0 l1 (wrap64 ((ji3) - 1))) = some r := by first | (rw [hji3] at H; exact H) | (simp only [hji3] at H ⊢; exact H)
 (try (have hji3l : 0 ≤ ji3 := by (rw [← hji3]; unfold mx; (repeat' split) <;> omega)))
 (try (have hji3m : 0 ≤ ji3 := by omega))
 have hji3_ : (if (l0.length : Int) < (l1.length : Int) then (l1.length : Int) else (l0.length : Int)) = ji3 := hji3
 have hji3n : (if l0.length < l1.length then (l1.length : Int) else (l0.length : Int)) = ji3 := by rw [← hji3_]; simp only [Int.ofNat_lt]
 have H' := Aside0.mk H
 clear H
 go_enter Try.func77, Try.ntmps77
 go_wp2
 go_loopg [5] k (fun kq v5 w' => ∃ (x5_1 : Int), v5 = .int .i64 x5_1 ∧ Aside0 (r1_Cmp.l0 kq l0 l1 x5_1 = some r) ∧ Aside0 (kq ≤ k) ∧ Aside0 (Below w.heap.size w w'))
 case atStart => exact ⟨(wrap64 ((ji3) - 1)), (by first | rfl | (simp; done) | (simp only [← hji3] <;> (first | rfl | simp)) | (simp [*]; done)), H', ⟨Nat.le_refl _⟩, ⟨zB HB.out⟩⟩
 clear H'
 obtain ⟨x5_1, rfl, HA, HK1, HB⟩ := hrel
 cases gk with | zero => exact absurd HA.out (by simp [r1_Cmp.l0]) | succ k1 => ?_
 have H := HA.out
 clear HA
 simp only [r1_Cmp.l0] at H
 replace H := zi H
 rcases H with ⟨c4, H⟩ | ⟨c4, H⟩
 · have c4b0 : decide (0 ≤ x5_1) = true := decide_eq_true c4
   clear c4
   replace H := zb H
   obtain ⟨t101, A5, H⟩ := H
   replace H := zb H
   obtain ⟨t102, A6, H⟩ := H
   replace H := zid H
   rcases H with ⟨c7b0, H⟩ | ⟨c7b0, H⟩
   · obtain rfl := Option.some.inj H
     go_wp2_with (first | ((with_reducible refine gC 119 ?_); refine zG (some 18) Try.func119 #[.slice A0 l0.length c0, .int .i64 x5_1] ?_; (with_reducible refine (r1_limb.calls _ _ l0 x5_1 t101 _ ?side1 ?side2 A5.out).mono ?_); (case side1 => exact zC (Kd.C_below HR0.out HB.out)); (case side2 => exact HC0.out); rintro e w' ⟨rfl, ⟨nd, rfl⟩⟩; refine ⟨_, rfl, ?_⟩) | ((with_reducible refine gC 119 ?_); refine zG (some 21) Try.func119 #[.slice A1 l1.length c1, .int .i64 x5_1] ?_; (with_reducible refine (r1_limb.calls _ _ l1 x5_1 t102 _ ?side1 ?side2 A6.out).mono ?_); (case side1 => exact zC (Kd.C_below HR1.out (zB HB.out))); (case side2 => exact HC1.out); rintro e w' ⟨rfl, ⟨nd, rfl⟩⟩; refine ⟨_, rfl, ?_⟩))
     go_ret
     exact ⟨by first | rfl | (simp [errW_none, errW_some] <;> rfl) | (simp only [← hji3]; first | rfl | (simp [errW_none, errW_some] <;> rfl)) | (simp [*, errW_none, errW_some] <;> rfl), zB HB.out⟩
   replace H := zb H
   obtain ⟨t103, A8, H⟩ := H
   replace H := zb H
   obtain ⟨t104, A9, H⟩ := H
   replace H := zi H
   rcases H with ⟨c10, H⟩ | ⟨c10, H⟩
   · have c10b0 : decide (t104 < t103) = true := decide_eq_true c10
     clear c10
     obtain rfl := Option.some.inj H
     go_wp2_with (first | ((with_reducible refine gC 119 ?_); refine zG (some 18) Try.func119 #[.slice A0 l0.length c0, .int .i64 x5_1] ?_; (with_reducible refine (r1_limb.calls _ _ l0 x5_1 t101 _ ?side1 ?side2 A5.out).mono ?_); (case side1 => exact zC (Kd.C_below HR0.out HB.out)); (case side2 => exact HC0.out); rintro e w' ⟨rfl, ⟨nd, rfl⟩⟩; refine ⟨_, rfl, ?_⟩) | ((with_reducible refine gC 119 ?_); refine zG (some 21) Try.func119 #[.slice A1 l1.length c1, .int .i64 x5_1] ?_; (with_reducible refine (r1_limb.calls _ _ l1 x5_1 t102 _ ?side1 ?side2 A6.out).mono ?_); (case side1 => exact zC (Kd.C_below HR1.out (zB HB.out))); (case side2 => exact HC1.out); rintro e w' ⟨rfl, ⟨nd, rfl⟩⟩; refine ⟨_, rfl, ?_⟩) | ((with_reducible refine gC 119 ?_); refine zG (some 25) Try.func119 #[.slice A0 l0.length c0, .int .i64 x5_1] ?_; (with_reducible refine (r1_limb.calls _ _ l0 x5_1 t103 _ ?side1 ?side2 A8.out).mono ?_); (case side1 => exact zC (Kd.C_below HR0.out (zB HB.out))); (case side2 => exact HC0.out); rintro e w' ⟨rfl, ⟨nd, rfl⟩⟩; refine ⟨_, rfl, ?_⟩) | ((with_reducible refine gC 119 ?_); refine zG (some 28) Try.func119 #[.slice A1 l1.length c1, .int .i64 x5_1] ?_; (with_reducible refine (r1_limb.calls _ _ l1 x5_1 t104 _ ?side1 ?side2 A9.out).mono ?_); (case side1 => exact zC (Kd.C_below HR1.out (zB HB.out))); (case side2 => exact HC1.out); rintro e w' ⟨rfl, ⟨nd, rfl⟩⟩; refine ⟨_, rfl, ?_⟩))
     go_ret
     exact ⟨by first | rfl | (simp [errW_none, errW_some] <;> rfl) | (simp only [← hji3]; first | rfl | (simp [errW_none, errW_some] <;> rfl)) | (simp [*, errW_none, errW_some] <;> rfl), zB HB.out⟩
   have c10b0 : decide (t104 < t103) = false := decide_eq_false c10
   clear c10
   have H' := Aside0.mk H
   clear H
   go_wp2_with (first | ((with_reducible refine gC 119 ?_); refine zG (some 18) Try.func119 #[.slice A0 l0.length c0, .int .i64 x5_1] ?_; (with_reducible refine (r1_limb.calls _ _ l0 x5_1 t101 _ ?side1 ?side2 A5.out).mono ?_); (case side1 => exact zC (Kd.C_below HR0.out HB.out)); (case side2 => exact HC0.out); rintro e w' ⟨rfl, ⟨nd, rfl⟩⟩; refine ⟨_, rfl, ?_⟩) | ((with_reducible refine gC 119 ?_); refine zG (some 21) Try.func119 #[.slice A1 l1.length c1, .int .i64 x5_1] ?_; (with_reducible refine (r1_limb.calls _ _ l1 x5_1 t102 _ ?side1 ?side2 A6.out).mono ?_); (case side1 => exact zC (Kd.C_below HR1.out (zB HB.out))); (case side2 => exact HC1.out); rintro e w' ⟨rfl, ⟨nd, rfl⟩⟩; refine ⟨_, rfl, ?_⟩) | ((with_reducible refine gC 119 ?_); refine zG (some 25) Try.func119 #[.slice A0 l0.length c0, .int .i64 x5_1] ?_; (with_reducible refine (r1_limb.calls _ _ l0 x5_1 t103 _ ?side1 ?side2 A8.out).mono ?_); (case side1 => exact zC (Kd.C_below HR0.out (zB HB.out))); (case side2 => exact HC0.out); rintro e w' ⟨rfl, ⟨nd, rfl⟩⟩; refine ⟨_, rfl, ?_⟩) | ((with_reducible refine gC 119 ?_); refine zG (some 28) Try.func119 #[.slice A1 l1.length c1, .int .i64 x5_1] ?_; (with_reducible refine (r1_limb.calls _ _ l1 x5_1 t104 _ ?side1 ?side2 A9.out).mono ?_); (case side1 => exact zC (Kd.C_below HR1.out (zB HB.out))); (case side2 => exact HC1.out); rintro e w' ⟨rfl, ⟨nd, rfl⟩⟩; refine ⟨_, rfl, ?_⟩))
   go_roundg k1
   case measure => have := HK1.out; omega
   case rel => exact ⟨(wrap64 (x5_1 - 1)), zF, H', ⟨zo1 HK1⟩, ⟨zB HB.out⟩⟩
 have c4b0 : decide (0 ≤ x5_1) = false := decide_eq_false c4
 clear c4
 obtain rfl := Option.some.inj H
 go_wp2
 go_ret
 exact ⟨by first | rfl | (simp [errW_none, errW_some] <;> rfl) | (simp only [← hji3]; first | rfl | (simp [errW_none, errW_some] <;> rfl)) | (simp [*, errW_none, errW_some] <;> rfl), zB HB.out⟩
set_option maxHeartbeats 8000000 in
set_option maxRecDepth 100000 in
theorem r1_Add.calls (k : Nat) (A0 : Option Addr) (c0 : Nat) (l0 : List Int) (A1 : Option Addr) (c1 : Nat) (l1 : List Int) (r : List Int) (w : World) (hr0 : Kd.C (Kd.int .u32) w A0 l0.length l0) (hc0 : l0.length ≤ c0) (hr1 : Kd.C (Kd.int .u32) w A1 l1.length l1) (hc1 : l1.length ≤ c1) (h : r1_Add.f k l0 l1 = some r) :
    Calls Try.prog 86 #[.slice A0 l0.length c0, .slice A1 l1.length c1] w fun e w' => ∃ v0_ : Value, e = .returned (v0_) ∧ Kd.R (Kd.int .u32) 97 w' w.heap.size (fun _ => True) v0_ r ∧ Below w.heap.size w w' := by
 have HR0 := Aside0.mk hr0
 have HC0 := Aside0.mk hc0
 clear hr0 hc0
 have HR1 := Aside0.mk hr1
 have HC1 := Aside0.mk hc1
 clear hr1 hc1
 have HB := Aside0.mk (Below.refl w.heap.size w)
 have H : (r1_Add.l0 k l0 l1 ([] : List Int) 0 0) = some r := h
 clear h
 have H' := Aside0.mk H
 clear H
 go_enter Try.func86, Try.ntmps86
 go_wp2
 go_loopg [5, 6, 7] k (fun kq v5 v6 v7 w' => ∃ (x5_1 : List Int) (x6_1 : Int) (x7_1 : Int), v6 = .int .u64 x6_1 ∧ v7 = .int .i64 x7_1 ∧ Aside0 (r1_Add.l0 kq l0 l1 x5_1 x6_1 x7_1 = some r) ∧ Aside0 (kq ≤ k) ∧ Aside0 (Kd.R (Kd.int .u32) 97 w' w.heap.size (fun _ => True) v5 x5_1) ∧ Aside0 (Below w.heap.size w w'))
 case atStart => exact ⟨(([] : List Int)), (0), (0), zF, zF, H', ⟨Nat.le_refl _⟩, ⟨z0⟩, ⟨zB HB.out⟩⟩
 clear H'
 obtain ⟨x5_1, x6_1, x7_1, rfl, rfl, HA, HK1, HO_5, HB⟩ := hrel
 cases gk with | zero => exact absurd HA.out (by simp [r1_Add.l0]) | succ k1 => ?_
 have H := HA.out
 clear HA
 simp only [r1_Add.l0] at H
 have HC3 := Aside0.mk H
 clear H
 go_upto_region 4 with (fail)
 go_cut [22] (fun v22 wc => ∃ (kq : Nat) (x22_2 : Bool), v22 = .bool x22_2 ∧ Aside0 (r1_Add.j1 kq l0 l1 x5_1 x6_1 x7_1 x22_2 = some r) ∧ Aside0 (kq ≤ k1) ∧ Aside0 (Kd.R (Kd.int .u32) 97 wc w.heap.size (fun _ => True) u5 x5_1) ∧ Aside0 (Below w.heap.size w wc))
 case first =>
  have H := HC3.out
  clear HC3
  replace H := zid H
  rcases H with ⟨c4b0, H⟩ | ⟨c4b0, H⟩
  · (first | rw [c4b0] | (simp only [i64_w, i32_w]; rw [c4b0]) | rw [c4b1] | skip)
    have H' := Aside0.mk H
    clear H
    go_wp2
    go_meet
    case rel => exact ⟨_, (true), zF, H', ⟨by have := HK1.out; first | omega | exact Nat.le_refl _⟩, ⟨zR HO_5.out⟩, ⟨zB HB.out⟩⟩
  (first | rw [c4b0] | (simp only [i64_w, i32_w]; rw [c4b0]) | rw [c4b1] | skip)
  replace H := zid H
  rcases H with ⟨c5b0, H⟩ | ⟨c5b0, H⟩
  · have H' := Aside0.mk H
    clear H
    go_wp2
    go_meet
    case rel => exact ⟨_, (true), zF, H', ⟨by have := HK1.out; first | omega | exact Nat.le_refl _⟩, ⟨zR HO_5.out⟩, ⟨zB HB.out⟩⟩
  have H' := Aside0.mk H
  clear H
  go_wp2
  go_meet
  case rel => exact ⟨_, (decide (x6_1 > 0)), zF, H', ⟨by have := HK1.out; first | omega | exact Nat.le_refl _⟩, ⟨zR HO_5.out⟩, ⟨zB HB.out⟩⟩
 clear HC3
 (try clear c4b0);(try clear c5b0)
 obtain ⟨kq, x22_2, rfl, HA, HJ2, HO_5, HB⟩ := hcut
 cases kq with | zero => exact absurd HA.out (by simp [r1_Add.j1]) | succ kj2 => ?_
 have H := HA.out
 clear HA
 simp only [r1_Add.j1] at H
 by_cases c6 : x22_2 = true
 · subst c6
   rw [if_pos rfl] at H
   replace H := zb H
   obtain ⟨t101, A7, H⟩ := H
   replace H := zb H
   obtain ⟨t102, A8, H⟩ := H
   replace H := zg H
   obtain ⟨c9, H⟩ := H
   have LMc9 := Aside0.mk c9
   clear c9
   obtain ⟨y103, hy103⟩ : ∃ y_ : List Int, y_ = (x5_1 ++ [(Int.tmod (IntKind.u64.wrap ((IntKind.u64.wrap (t101 + t102)) + x6_1)) 4294967296) % 4294967296]) := ⟨_, rfl⟩
   replace H : (r1_Add.l0 kj2 l0 l1 y103 (IntKind.u64.wrap (Int.tdiv (IntKind.u64.wrap ((IntKind.u64.wrap (t101 + t102)) + x6_1)) 4294967296)) (wrap64 (x7_1 + 1))) = some r := zY hy103 H
   have Ny103 := Aside0.mk hy103
   clear hy103
   have H' := Aside0.mk H
   clear H
   go_wp2_with (first | ((with_reducible refine gC 119 ?_); refine zG (some 27) Try.func119 #[.slice A0 l0.length c0, .int .i64 x7_1] ?_; (with_reducible refine (r1_limb.calls _ _ l0 x7_1 t101 _ ?side1 ?side2 A7.out).mono ?_); (case side1 => exact zC (Kd.C_below HR0.out HB.out)); (case side2 => exact HC0.out); rintro e w' ⟨rfl, ⟨nd, rfl⟩⟩; refine ⟨_, rfl, ?_⟩) | ((with_reducible refine gC 119 ?_); refine zG (some 30) Try.func119 #[.slice A1 l1.length c1, .int .i64 x7_1] ?_; (with_reducible refine (r1_limb.calls _ _ l1 x7_1 t102 _ ?side1 ?side2 A8.out).mono ?_); (case side1 => exact zC (Kd.C_below HR1.out (zB HB.out))); (case side2 => exact HC1.out); rintro e w' ⟨rfl, ⟨nd, rfl⟩⟩; refine ⟨_, rfl, ?_⟩) | ((with_reducible refine gate_builtin (b := .append) (xs := #[.tmp 34, .tmp 38]) rfl ?_); (try (refine gate_guard (by rfl) ?_; dsimp only)); at_builtin; refine Kd.R_append (Kd.int .u32) (w0 := w) w.heap.size rfl (.tmp 34) (.tmp 38) 29 97 (.int .u32 0) 4 rfl Try.underlying29 info97 rfl (by decide) (by omega) u5 x5_1 ((Int.tmod (IntKind.u64.wrap ((IntKind.u64.wrap (t101 + t102)) + x6_1)) 4294967296) % 4294967296) [.int .u32 ((Int.tmod (IntKind.u64.wrap ((IntKind.u64.wrap (t101 + t102)) + x6_1)) 4294967296) % 4294967296)] (fun _ => True) (fun _ => False) rfl rfl ?aP (fun _ hk => hk.elim) ?aF ?aO ?aB ?aS ?aL ?_; (case aP => exact rfl); (case aB => exact (zB HB.out)); (case aF => exact (fun _ _ => trivial)); (case aO => exact (zR HO_5.out)); (case aS => exact (below_size (zB HB.out))); (case aL => have := LMc9.out; omega); intro v104 w10 ho hb hg hat; rw [← Ny103.out] at ho; replace HB := Aside0.mk (hb); have HO105 := Aside0.mk (ho); clear HO_5; clear ho hb hg hat))
   go_roundg kj2
   case measure => have := HK1.out; have := HJ2.out; omega
   case rel => exact ⟨(y103), (IntKind.u64.wrap (Int.tdiv (IntKind.u64.wrap ((IntKind.u64.wrap (t101 + t102)) + x6_1)) 4294967296)), (wrap64 (x7_1 + 1)), zF, zF, H', ⟨zo2 HK1 HJ2⟩, ⟨zR HO105.out⟩, ⟨zB HB.out⟩⟩
 replace c6 := Bool.eq_false_iff.mpr c6
 subst c6
 rw [if_neg Bool.false_ne_true] at H
 replace H := zb H
 obtain ⟨t106, A11, H⟩ := H
 obtain rfl := Option.some.inj H
 obtain ⟨Ao12, co12, rfl⟩ := Kd.R_slice HO_5.out
 go_wp2_with (first | ((with_reducible refine gC 75 ?_); refine zG (some 43) Try.func75 #[.slice Ao12 x5_1.length co12] ?_; (with_reducible refine (r1_Trim.calls kj2 _ _ x5_1 t106 _ ?side1 ?side2 A11.out).mono ?_); (case side1 => exact zC (Kd.R_reads' HO_5.out).2.2); (case side2 => exact (Kd.R_reads' HO_5.out).2.1); rintro e w13 ⟨v107, rfl, ho0, hb⟩; refine ⟨_, rfl, ?_⟩; replace ho0 := yn ho0 HO_5; have HO108 := yRl ho0 HB; replace HO_5 := yRe HO_5 ho0 hb; replace HB := yS HB hb; (try clear hb ho0)))
 go_ret
 exact ⟨_, zE, by (with_reducible repeat (first | apply Kd.R_alloc | apply Kd.R_drewN | apply Kd.R_drew)); exact Kd.R_mono HO108.out (fun _ hk => trivial), zB HB.out⟩
set_option maxHeartbeats 8000000 in
set_option maxRecDepth 100000 in
theorem r1_Sub.calls (k : Nat) (A0 : Option Addr) (c0 : Nat) (l0 : List Int) (A1 : Option Addr) (c1 : Nat) (l1 : List Int) (r : List Int) (w : World) (hr0 : Kd.C (Kd.int .u32) w A0 l0.length l0) (hc0 : l0.length ≤ c0) (hr1 : Kd.C (Kd.int .u32) w A1 l1.length l1) (hc1 : l1.length ≤ c1) (h : r1_Sub.f k l0 l1 = some r) :
    Calls Try.prog 100 #[.slice A0 l0.length c0, .slice A1 l1.length c1] w fun e w' => ∃ v0_ : Value, e = .returned (v0_) ∧ Kd.R (Kd.int .u32) 97 w' w.heap.size (fun _ => True) v0_ r ∧ Below w.heap.size w w' := by
 have HR0 := Aside0.mk hr0
 have HC0 := Aside0.mk hc0
 clear hr0 hc0
 have HR1 := Aside0.mk hr1
 have HC1 := Aside0.mk hc1
 clear hr1 hc1
 have HB := Aside0.mk (Below.refl w.heap.size w)
 have H : (r1_Sub.l0 k l0 l1 ([] : List Int) 0 0) = some r := h
 clear h
 have H' := Aside0.mk H
 clear H
 go_enter Try.func100, Try.ntmps100
 go_wp2
 go_loopg [5, 6, 7] k (fun kq v5 v6 v7 w' => ∃ (x5_1 : List Int) (x6_1 : Int) (x7_1 : Int), v6 = .int .u64 x6_1 ∧ v7 = .int .i64 x7_1 ∧ Aside0 (r1_Sub.l0 kq l0 l1 x5_1 x6_1 x7_1 = some r) ∧ Aside0 (kq ≤ k) ∧ Aside0 (Kd.R (Kd.int .u32) 97 w' w.heap.size (fun _ => True) v5 x5_1) ∧ Aside0 (Below w.heap.size w w'))
 case atStart => exact ⟨(([] : List Int)), (0), (0), zF, zF, H', ⟨Nat.le_refl _⟩, ⟨z0⟩, ⟨zB HB.out⟩⟩
 clear H'
 obtain ⟨x5_1, x6_1, x7_1, rfl, rfl, HA, HK1, HO_5, HB⟩ := hrel
 cases gk with | zero => exact absurd HA.out (by simp [r1_Sub.l0]) | succ k1 => ?_
 have H := HA.out
 clear HA
 simp only [r1_Sub.l0] at H
 replace H := zid H
 rcases H with ⟨c3b0, H⟩ | ⟨c3b0, H⟩
 · replace H := zb H
   obtain ⟨t101, A4, H⟩ := H
   replace H := zb H
   obtain ⟨t102, A5, H⟩ := H
   replace H := zg H
   obtain ⟨c6, H⟩ := H
   have LMc6 := Aside0.mk c6
   clear c6
   obtain ⟨y103, hy103⟩ : ∃ y_ : List Int, y_ = (x5_1 ++ [(Int.tmod (IntKind.u64.wrap ((IntKind.u64.wrap ((IntKind.u64.wrap (t101 + 4294967296)) - t102)) - x6_1)) 4294967296) % 4294967296]) := ⟨_, rfl⟩
   replace H : (r1_Sub.l0 k1 l0 l1 y103 (IntKind.u64.wrap (1 - (IntKind.u64.wrap (Int.tdiv (IntKind.u64.wrap ((IntKind.u64.wrap ((IntKind.u64.wrap (t101 + 4294967296)) - t102)) - x6_1)) 4294967296)))) (wrap64 (x7_1 + 1))) = some r := zY hy103 H
   have Ny103 := Aside0.mk hy103
   clear hy103
   have H' := Aside0.mk H
   clear H
   go_wp2_with (first | ((with_reducible refine gC 119 ?_); refine zG (some 17) Try.func119 #[.slice A0 l0.length c0, .int .i64 x7_1] ?_; (with_reducible refine (r1_limb.calls _ _ l0 x7_1 t101 _ ?side1 ?side2 A4.out).mono ?_); (case side1 => exact zC (Kd.C_below HR0.out HB.out)); (case side2 => exact HC0.out); rintro e w' ⟨rfl, ⟨nd, rfl⟩⟩; refine ⟨_, rfl, ?_⟩) | ((with_reducible refine gC 119 ?_); refine zG (some 21) Try.func119 #[.slice A1 l1.length c1, .int .i64 x7_1] ?_; (with_reducible refine (r1_limb.calls _ _ l1 x7_1 t102 _ ?side1 ?side2 A5.out).mono ?_); (case side1 => exact zC (Kd.C_below HR1.out (zB HB.out))); (case side2 => exact HC1.out); rintro e w' ⟨rfl, ⟨nd, rfl⟩⟩; refine ⟨_, rfl, ?_⟩) | ((with_reducible refine gate_builtin (b := .append) (xs := #[.tmp 25, .tmp 29]) rfl ?_); at_builtin; refine Kd.R_append (Kd.int .u32) (w0 := w) w.heap.size rfl (.tmp 25) (.tmp 29) 29 97 (.int .u32 0) 4 rfl Try.underlying29 info97 rfl (by decide) (by omega) u5 x5_1 ((Int.tmod (IntKind.u64.wrap ((IntKind.u64.wrap ((IntKind.u64.wrap (t101 + 4294967296)) - t102)) - x6_1)) 4294967296) % 4294967296) [.int .u32 ((Int.tmod (IntKind.u64.wrap ((IntKind.u64.wrap ((IntKind.u64.wrap (t101 + 4294967296)) - t102)) - x6_1)) 4294967296) % 4294967296)] (fun _ => True) (fun _ => False) rfl rfl ?aP (fun _ hk => hk.elim) ?aF ?aO ?aB ?aS ?aL ?_; (case aP => exact rfl); (case aB => exact (zB HB.out)); (case aF => exact (fun _ _ => trivial)); (case aO => exact (zR HO_5.out)); (case aS => exact (below_size (zB HB.out))); (case aL => have := LMc6.out; omega); intro v104 w7 ho hb hg hat; rw [← Ny103.out] at ho; replace HB := Aside0.mk (hb); have HO105 := Aside0.mk (ho); clear HO_5; clear ho hb hg hat))
   go_roundg k1
   case measure => have := HK1.out; omega
   case rel => exact ⟨(y103), (IntKind.u64.wrap (1 - (IntKind.u64.wrap (Int.tdiv (IntKind.u64.wrap ((IntKind.u64.wrap ((IntKind.u64.wrap (t101 + 4294967296)) - t102)) - x6_1)) 4294967296)))), (wrap64 (x7_1 + 1)), zF, zF, H', ⟨zo1 HK1⟩, ⟨zR HO105.out⟩, ⟨zB HB.out⟩⟩
 replace H := zb H
 obtain ⟨t106, A8, H⟩ := H
 obtain rfl := Option.some.inj H
 obtain ⟨Ao9, co9, rfl⟩ := Kd.R_slice HO_5.out
 go_wp2_with (first | ((with_reducible refine gC 75 ?_); refine zG (some 35) Try.func75 #[.slice Ao9 x5_1.length co9] ?_; (with_reducible refine (r1_Trim.calls k1 _ _ x5_1 t106 _ ?side1 ?side2 A8.out).mono ?_); (case side1 => exact zC (Kd.R_reads' HO_5.out).2.2); (case side2 => exact (Kd.R_reads' HO_5.out).2.1); rintro e w10 ⟨v107, rfl, ho0, hb⟩; refine ⟨_, rfl, ?_⟩; replace ho0 := yn ho0 HO_5; have HO108 := yRl ho0 HB; replace HO_5 := yRe HO_5 ho0 hb; replace HB := yS HB hb; (try clear hb ho0)))
 go_ret
 exact ⟨_, zE, by (with_reducible repeat (first | apply Kd.R_alloc | apply Kd.R_drewN | apply Kd.R_drew)); exact Kd.R_mono HO108.out (fun _ hk => trivial), zB HB.out⟩
set_option maxHeartbeats 8000000 in
set_option maxRecDepth 100000 in
theorem r1_shift.calls (k : Nat) (A0 : Option Addr) (c0 : Nat) (l0 : List Int) (a1 : Int) (r : List Int) (w : World) (hr0 : Kd.C (Kd.int .u32) w A0 l0.length l0) (hc0 : l0.length ≤ c0) (h : r1_shift.f k l0 a1 = some r) :
    Calls Try.prog 136 #[.slice A0 l0.length c0, .int .i64 a1] w fun e w' => ∃ v0_ : Value, e = .returned (v0_) ∧ Kd.R (Kd.int .u32) 97 w' w.heap.size (fun _ => True) v0_ r ∧ Below w.heap.size w w' := by
 have HR0 := Aside0.mk hr0
 have HC0 := Aside0.mk hc0
 clear hr0 hc0
 have HB := Aside0.mk (Below.refl w.heap.size w)
 have H : (if 0 ≤ (wrap64 (Int.tdiv a1 32)) then (if (wrap64 (Int.tdiv a1 32) : Int).toNat ≤ 70368744177664 then (r1_shift.l0 k l0 a1 (List.replicate (wrap64 (Int.tdiv a1 32) : Int).toNat 0) 0 0) else (none)) else (none)) = some r := h
 clear h
 obtain ⟨ji3, hji3⟩ : ∃ j_ : Int, (wrap64 (Int.tdiv a1 32)) = j_ := ⟨_, rfl⟩
 replace H : (if 0 ≤ (ji3) then (if (ji3 : Int).toNat ≤ 70368744177664 then (r1_shift.l0 k l0 a1 (List.replicate (ji3 : Int).toNat 0) 0 0) else (none)) else (none)) = some r := by first | (rw [hji3] at H; exact H) | (simp only [hji3] at H ⊢; exact H)
 have hji3w : (IntKind.i64.wrap (Int.tdiv a1 32)) = ji3 := (i64_w _).trans hji3
 replace H := zg H
 obtain ⟨c4, H⟩ := H
 have c4b0 := eq_true c4
 have c4b1 := decide_eq_true c4
 clear c4
 replace H := zg H
 obtain ⟨c5, H⟩ := H
 have c5b0 := eq_true c5
 have c5b1 := decide_eq_true c5
 clear c5
 obtain ⟨y101, hy101⟩ : ∃ y_ : List Int, y_ = (List.replicate (ji3 : Int).toNat 0) := ⟨_, rfl⟩
 replace H : (r1_shift.l0 k l0 a1 y101 0 0) = some r := zY hy101 H
 have Ny101 := Aside0.mk hy101
 clear hy101
 have H' := Aside0.mk H
 clear H
 go_enter Try.func136, Try.ntmps136
 go_wp2_with (first | ((with_reducible refine gate_dst (N := 11) rfl ?_); refine Kd.R_make (Kd.int .u32) _ 97 rfl (N := 11) rfl 29 _ _ rfl ji3 rfl rfl Try.underlying29 (.int .u32 0) 4 info97 rfl (by decide) (by omega) 0 (ok := fun _ => True) (okp := fun _ => True) rfl (fun _ hk => hk) trivial zd (Nat.le_trans (Nat.mul_le_mul_right _ (zd : ji3.toNat ≤ 70368744177664)) (by omega)) (Below.refl _ _) (Nat.le_refl _) ?_; intro v102 w6 ho7 hb hg_ hnew_; clear hg_ hnew_; (first | rw [← Ny101.out] at ho7 | (simp only [Int.reduceToNat] at ho7; rw [← Ny101.out] at ho7)); have HO103 := yRl ho7 HB; replace HB := yS HB hb; clear hb ho7))
 go_loopg [5, 6, 7] k (fun kq v5 v6 v7 w' => ∃ (x5_1 : List Int) (x6_1 : Int) (x7_1 : Int), v6 = .int .u64 x6_1 ∧ v7 = .int .i64 x7_1 ∧ Aside0 (r1_shift.l0 kq l0 a1 x5_1 x6_1 x7_1 = some r) ∧ Aside0 (kq ≤ k) ∧ Aside0 (Kd.R (Kd.int .u32) 97 w' w.heap.size (fun _ => True) v5 x5_1) ∧ Aside0 (Below w.heap.size w w'))
 case atStart => exact ⟨(y101), (0), (0), zF, zF, H', ⟨Nat.le_refl _⟩, ⟨zR HO103.out⟩, ⟨zB HB.out⟩⟩
 clear H'
 (try clear c4);(try clear c4b0);(try clear c4b1);(try clear c5);(try clear c5b0);(try clear c5b1)
 obtain ⟨x5_1, x6_1, x7_1, rfl, rfl, HA, HK1, HO_5, HB⟩ := hrel
 cases gk with | zero => exact absurd HA.out (by simp [r1_shift.l0]) | succ k1 => ?_
 have H := HA.out
 clear HA
 simp only [r1_shift.l0] at H
 replace H := zid H
 rcases H with ⟨c8b0, H⟩ | ⟨c8b0, H⟩
 · replace H := zgd H
   obtain ⟨c9b0, H⟩ := H
   obtain ⟨ji10, hji10⟩ : ∃ j_ : Int, (Int.tmod a1 32) = j_ := ⟨_, rfl⟩
   replace H : (if 0 ≤ (ji10) then (if x5_1.length < 35184372088832 then (r1_shift.l0 k1 l0 a1 (x5_1 ++ [(Int.tmod (IntKind.u64.wrap ((shl .u64 (IntKind.u64.wrap (rd l0 x7_1)) (ji10)) + x6_1)) 4294967296) % 4294967296]) (IntKind.u64.wrap (Int.tdiv (IntKind.u64.wrap ((shl .u64 (IntKind.u64.wrap (rd l0 x7_1)) (ji10)) + x6_1)) 4294967296)) (wrap64 (x7_1 + 1))) else (none)) else (none)) = some r := by first | (rw [hji10] at H; exact H) | (simp only [hji10] at H ⊢; exact H)
   replace H := zg H
   obtain ⟨c11, H⟩ := H
   have c11b0 := eq_true c11
   have c11b1 := decide_eq_true c11
   clear c11
   obtain ⟨ji12, hji12⟩ : ∃ j_ : Int, (shl .u64 (IntKind.u64.wrap (rd l0 x7_1)) (ji10)) = j_ := ⟨_, rfl⟩
   replace H : (if x5_1.length < 35184372088832 then (r1_shift.l0 k1 l0 a1 (x5_1 ++ [(Int.tmod (IntKind.u64.wrap ((ji12) + x6_1)) 4294967296) % 4294967296]) (IntKind.u64.wrap (Int.tdiv (IntKind.u64.wrap ((ji12) + x6_1)) 4294967296)) (wrap64 (x7_1 + 1))) else (none)) = some r := by first | (rw [hji12] at H; exact H) | (simp only [hji12] at H ⊢; exact H)
   have hji12_ : (IntKind.u64.wrap ((IntKind.u64.wrap (rd l0 x7_1)) * 2 ^ min (ji10).toNat 64)) = ji12 := hji12
   have hji12z : (ji10) ≤ 64 → (IntKind.u64.wrap ((IntKind.u64.wrap (rd l0 x7_1)) * 2 ^ (ji10).toNat)) = ji12 := shl_small hji12
   replace H := zg H
   obtain ⟨c13, H⟩ := H
   have LMc13 := Aside0.mk c13
   clear c13
   obtain ⟨y105, hy105⟩ : ∃ y_ : List Int, y_ = (x5_1 ++ [(Int.tmod (IntKind.u64.wrap ((ji12) + x6_1)) 4294967296) % 4294967296]) := ⟨_, rfl⟩
   replace H : (r1_shift.l0 k1 l0 a1 y105 (IntKind.u64.wrap (Int.tdiv (IntKind.u64.wrap ((ji12) + x6_1)) 4294967296)) (wrap64 (x7_1 + 1))) = some r := zY hy105 H
   have Ny105 := Aside0.mk hy105
   clear hy105
   have H' := Aside0.mk H
   clear H
   have p104 : 0 ≤ (x7_1 : Int) := zd
   have q104 : x7_1 < (l0.length : Int) := zd
   obtain ⟨ad104, e104, hx104_0⟩ := Kd.at_int HR0.out x7_1 p104 q104
   cases e104
   replace hx104_0 := (HB.out.cell (World.block_lt_of_cell? w _ hx104_0)).trans hx104_0
   replace p104 := eq_true p104
   replace q104 := eq_true q104
   go_wp2_with (first | ((with_reducible refine gate_builtin (b := .append) (xs := #[.tmp 28, .tmp 32]) rfl ?_); at_builtin; refine Kd.R_append (Kd.int .u32) (w0 := w) w.heap.size rfl (.tmp 28) (.tmp 32) 29 97 (.int .u32 0) 4 rfl Try.underlying29 info97 rfl (by decide) (by omega) u5 x5_1 ((Int.tmod (IntKind.u64.wrap ((ji12) + x6_1)) 4294967296) % 4294967296) [.int .u32 ((Int.tmod (IntKind.u64.wrap ((ji12) + x6_1)) 4294967296) % 4294967296)] (fun _ => True) (fun _ => False) rfl rfl ?aP (fun _ hk => hk.elim) ?aF ?aO ?aB ?aS ?aL ?_; (case aP => exact rfl); (case aB => exact (zB HB.out)); (case aF => exact (fun _ _ => trivial)); (case aO => exact (zR HO_5.out)); (case aS => exact (below_size (zB HB.out))); (case aL => have := LMc13.out; omega); intro v106 w14 ho hb hg hat; rw [← Ny105.out] at ho; replace HB := Aside0.mk (hb); have HO107 := Aside0.mk (ho); clear HO_5; clear ho hb hg hat))
   go_roundg k1
   case measure => have := HK1.out; omega
   case rel => exact ⟨(y105), (IntKind.u64.wrap (Int.tdiv (IntKind.u64.wrap ((ji12) + x6_1)) 4294967296)), (wrap64 (x7_1 + 1)), (by first | rfl | (simp; done) | (simp only [← hji12] <;> (first | rfl | simp)) | (simp [*]; done)), zF, H', ⟨zo1 HK1⟩, ⟨zR HO107.out⟩, ⟨zB HB.out⟩⟩
 replace H := zg H
 obtain ⟨c15, H⟩ := H
 have LMc15 := Aside0.mk c15
 clear c15
 obtain ⟨y108, hy108⟩ : ∃ y_ : List Int, y_ = (x5_1 ++ [(x6_1) % 4294967296]) := ⟨_, rfl⟩
 replace H : ((r1_Trim.f k1 y108).bind fun t111 => (some t111)) = some r := zY hy108 H
 have Ny108 := Aside0.mk hy108
 clear hy108
 replace H := zb H
 obtain ⟨t111, A16, H⟩ := H
 obtain rfl := Option.some.inj H
 go_wp2_with (first | ((with_reducible refine gate_builtin (b := .append) (xs := #[.tmp 36, .tmp 39]) rfl ?_); at_builtin; refine Kd.R_append (Kd.int .u32) (w0 := w) w.heap.size rfl (.tmp 36) (.tmp 39) 29 97 (.int .u32 0) 4 rfl Try.underlying29 info97 rfl (by decide) (by omega) u5 x5_1 ((x6_1) % 4294967296) [.int .u32 ((x6_1) % 4294967296)] (fun _ => True) (fun _ => False) rfl rfl ?aP (fun _ hk => hk.elim) ?aF ?aO ?aB ?aS ?aL ?_; (case aP => exact rfl); (case aB => exact (zB HB.out)); (case aF => exact (fun _ _ => trivial)); (case aO => exact (zR HO_5.out)); (case aS => exact (below_size (zB HB.out))); (case aL => have := LMc15.out; omega); intro v109 w17 ho hb hg hat; rw [← Ny108.out] at ho; replace HB := Aside0.mk (hb); have HO110 := Aside0.mk (ho); clear HO_5; clear ho hb hg hat; obtain ⟨Ao18, co18, rfl⟩ := Kd.R_slice HO110.out) | ((with_reducible refine gC 75 ?_); refine zG (some 41) Try.func75 #[.slice Ao18 y108.length co18] ?_; (with_reducible refine (r1_Trim.calls k1 _ _ y108 t111 _ ?side1 ?side2 A16.out).mono ?_); (case side1 => exact zC (Kd.R_reads' HO110.out).2.2); (case side2 => exact (Kd.R_reads' HO110.out).2.1); rintro e w19 ⟨v112, rfl, ho0, hb⟩; refine ⟨_, rfl, ?_⟩; replace ho0 := yn ho0 HO110; have HO113 := yRl ho0 HB; replace HO110 := yRe HO110 ho0 hb; replace HB := yS HB hb; (try clear hb ho0)))
 go_ret
 exact ⟨_, by first | rfl | (simp [errW_none, errW_some] <;> rfl) | (simp only [← hji3]; first | rfl | (simp [errW_none, errW_some] <;> rfl)) | (simp [*, errW_none, errW_some] <;> rfl), by (with_reducible repeat (first | apply Kd.R_alloc | apply Kd.R_drewN | apply Kd.R_drew)); exact Kd.R_mono HO113.out (fun _ hk => trivial), zB HB.out⟩
set_option maxHeartbeats 8000000 in
set_option maxRecDepth 100000 in
theorem r1_DivMod.calls (k : Nat) (A0 : Option Addr) (c0 : Nat) (l0 : List Int) (A1 : Option Addr) (c1 : Nat) (l1 : List Int) (r1 : List Int) (r2 : List Int) (w : World) (hr0 : Kd.C (Kd.int .u32) w A0 l0.length l0) (hc0 : l0.length ≤ c0) (hr1 : Kd.C (Kd.int .u32) w A1 l1.length l1) (hc1 : l1.length ≤ c1) (h : r1_DivMod.f k l0 l1 = some (r1, r2)) :
    Calls Try.prog 123 #[.slice A0 l0.length c0, .slice A1 l1.length c1] w fun e w' => ∃ v0_ v1_ : Value, e = .returned (.tuple #[v0_, v1_]) ∧ Kd.R (Kd.int .u32) 97 w' w.heap.size (fun k_ => some k_ ≠ (v1_ : Value).ownBlock) v0_ r1 ∧ Kd.R (Kd.int .u32) 97 w' w.heap.size (fun k_ => some k_ ≠ (v0_ : Value).ownBlock) v1_ r2 ∧ Below w.heap.size w w' := by
 have HR0 := Aside0.mk hr0
 have HC0 := Aside0.mk hc0
 clear hr0 hc0
 have HR1 := Aside0.mk hr1
 have HC1 := Aside0.mk hc1
 clear hr1 hc1
 have HB := Aside0.mk (Below.refl w.heap.size w)
 have H : ((r1_Trim.f k l0).bind fun t101 => ((r1_Bits.f k l0).bind fun t104 => ((r1_Bits.f k l1).bind fun t105 => (r1_DivMod.l0 k l1 ([] : List Int) t101 (wrap64 (t104 - t105)))))) = some (r1, r2) := h
 clear h
 replace H := zb H
 obtain ⟨t101, A3, H⟩ := H
 replace H := zb H
 obtain ⟨t104, A4, H⟩ := H
 replace H := zb H
 obtain ⟨t105, A5, H⟩ := H
 have H' := Aside0.mk H
 clear H
 go_enter Try.func123, Try.ntmps123
 go_wp2_with (first | ((with_reducible refine gC 75 ?_); refine zG (some 10) Try.func75 #[.slice A0 l0.length c0] ?_; (with_reducible refine (r1_Trim.calls k _ _ l0 t101 _ ?side1 ?side2 A3.out).mono ?_); (case side1 => exact zC HR0.out); (case side2 => exact HC0.out); rintro e w6 ⟨v102, rfl, ho0, hb⟩; refine ⟨_, rfl, ?_⟩; have HO103 := yRl ho0 HB; replace HB := yS HB hb; (try clear hb ho0)) | ((with_reducible refine gC 76 ?_); refine zG (some 12) Try.func76 #[.slice A0 l0.length c0] ?_; (with_reducible refine (r1_Bits.calls k _ _ l0 t104 _ ?side1 ?side2 A4.out).mono ?_); (case side1 => exact zC (Kd.C_below HR0.out HB.out)); (case side2 => exact HC0.out); rintro e w7 ⟨rfl, hb⟩; refine ⟨_, rfl, ?_⟩; replace HO103 := yRb HO103 hb; replace HB := yS HB hb; (try clear hb); (try clear hb2); (try clear hk); (try clear hi)) | ((with_reducible refine gC 76 ?_); refine zG (some 14) Try.func76 #[.slice A1 l1.length c1] ?_; (with_reducible refine (r1_Bits.calls k _ _ l1 t105 _ ?side1 ?side2 A5.out).mono ?_); (case side1 => exact zC (Kd.C_below HR1.out HB.out)); (case side2 => exact HC1.out); rintro e w8 ⟨rfl, hb⟩; refine ⟨_, rfl, ?_⟩; replace HO103 := yRb HO103 hb; replace HB := yS HB hb; (try clear hb); (try clear hb2); (try clear hk); (try clear hi)))
 go_loopg [4, 5, 7] k (fun kq v4 v5 v7 w' => ∃ (x4_1 : List Int) (x5_1 : List Int) (x7_1 : Int), v7 = .int .i64 x7_1 ∧ Aside0 (r1_DivMod.l0 kq l1 x4_1 x5_1 x7_1 = some (r1, r2)) ∧ Aside0 (kq ≤ k) ∧ Aside0 (Kd.R (Kd.int .u32) 97 w' w.heap.size (fun k_ => some k_ ≠ (v5 : Value).ownBlock) v4 x4_1) ∧ Aside0 (Kd.R (Kd.int .u32) 97 w' w.heap.size (fun k_ => some k_ ≠ (v4 : Value).ownBlock) v5 x5_1) ∧ Aside0 (Below w.heap.size w w'))
 case atStart => exact ⟨(([] : List Int)), (t101), (wrap64 (t104 - t105)), zF, H', ⟨Nat.le_refl _⟩, ⟨z0⟩, ⟨by (with_reducible repeat (first | apply Kd.R_alloc | apply Kd.R_drewN | apply Kd.R_drew)); exact Kd.R_mono HO103.out (fun _ hk => (by simp [Value.ownBlock]))⟩, ⟨zB HB.out⟩⟩
 clear H'
 obtain ⟨x4_1, x5_1, x7_1, rfl, HA, HK1, HO_4, HO_5, HB⟩ := hrel
 cases gk with | zero => exact absurd HA.out (by simp [r1_DivMod.l0]) | succ k1 => ?_
 have H := HA.out
 clear HA
 simp only [r1_DivMod.l0] at H
 replace H := zi H
 rcases H with ⟨c9, H⟩ | ⟨c9, H⟩
 · have c9b0 : decide (0 ≤ x7_1) = true := decide_eq_true c9
   clear c9
   replace H := zb H
   obtain ⟨t109, A10, H⟩ := H
   replace H := zb H
   obtain ⟨t112, A11, H⟩ := H
   replace H := zi H
   rcases H with ⟨c12, H⟩ | ⟨c12, H⟩
   · have c12b0 : decide (0 ≤ t112) = true := decide_eq_true c12
     clear c12
     replace H := zb H
     obtain ⟨t113, A13, H⟩ := H
     obtain ⟨y116, hy116⟩ : ∃ y_ : List Int, y_ = (([1] : List Int)) := ⟨_, rfl⟩
     replace H : ((r1_shift.f k1 y116 x7_1).bind fun t119 => ((r1_Add.f k1 x4_1 t119).bind fun t122 => (r1_DivMod.l0 k1 l1 t122 t113 (wrap64 (x7_1 - 1))))) = some (r1, r2) := zY hy116 H
     have Ny116 := Aside0.mk hy116
     clear hy116
     replace H := zb H
     obtain ⟨t119, A14, H⟩ := H
     replace H := zb H
     obtain ⟨t122, A15, H⟩ := H
     have H' := Aside0.mk H
     clear H
     go_wp2_with (first | ((with_reducible refine gC 136 ?_); refine zG (some 23) Try.func136 #[.slice A1 l1.length c1, .int .i64 x7_1] ?_; (with_reducible refine (r1_shift.calls k1 _ _ l1 x7_1 t109 _ ?side1 ?side2 A10.out).mono ?_); (case side1 => exact zC (Kd.C_below HR1.out HB.out)); (case side2 => exact HC1.out); rintro e w16 ⟨v110, rfl, ho0, hb⟩; refine ⟨_, rfl, ?_⟩; replace ho0 := yn ho0 HO_4; replace ho0 := yn ho0 HO_5; have HO111 := yRl ho0 HB; replace HO_4 := yRe HO_4 ho0 hb; replace HO_5 := yRe HO_5 ho0 hb; replace HB := yS HB hb; (try clear hb ho0); obtain ⟨Ao17, co17, rfl⟩ := Kd.R_slice HO_5.out; obtain ⟨Ao18, co18, rfl⟩ := Kd.R_slice HO111.out) | ((with_reducible refine gC 77 ?_); refine zG (some 26) Try.func77 #[.slice Ao17 x5_1.length co17, .slice Ao18 t109.length co18] ?_; (with_reducible refine (r1_Cmp.calls k1 _ _ x5_1 _ _ t109 t112 _ ?side1 ?side2 ?side3 ?side4 A11.out).mono ?_); (case side1 => exact zC (Kd.R_reads' HO_5.out).2.2); (case side2 => exact (Kd.R_reads' HO_5.out).2.1); (case side3 => exact zC (Kd.R_reads' HO111.out).2.2); (case side4 => exact (Kd.R_reads' HO111.out).2.1); rintro e w19 ⟨rfl, hb⟩; refine ⟨_, rfl, ?_⟩; replace HO_4 := yRb HO_4 hb; replace HO_5 := yRb HO_5 hb; replace HO111 := yRb HO111 hb; replace HB := yS HB hb; (try clear hb); (try clear hb2); (try clear hk); (try clear hi)) | ((with_reducible refine gC 100 ?_); refine zG (some 30) Try.func100 #[.slice Ao17 x5_1.length co17, .slice Ao18 t109.length co18] ?_; (with_reducible refine (r1_Sub.calls k1 _ _ x5_1 _ _ t109 t113 _ ?side1 ?side2 ?side3 ?side4 A13.out).mono ?_); (case side1 => exact zC (Kd.R_reads' HO_5.out).2.2); (case side2 => exact (Kd.R_reads' HO_5.out).2.1); (case side3 => exact zC (Kd.R_reads' HO111.out).2.2); (case side4 => exact (Kd.R_reads' HO111.out).2.1); rintro e w20 ⟨v114, rfl, ho0, hb⟩; refine ⟨_, rfl, ?_⟩; replace ho0 := yn ho0 HO_4; replace ho0 := yn ho0 HO_5; replace ho0 := yn ho0 HO111; have HO115 := yRl ho0 HB; replace HO_4 := yRe HO_4 ho0 hb; replace HO_5 := yRe HO_5 ho0 hb; replace HO111 := yRe HO111 ho0 hb; replace HB := yS HB hb; (try clear hb ho0)) | ((with_reducible refine gate_dst (N := 32) rfl ?_); refine Kd.R_lit (Kd.int .u32) _ 97 ?hg (N := 32) ?hd (xs := ([1] : List Int)) (inner := [.int .u32 1]) (ok := fun _ => True) (okp := fun _ => True) ?hr ?hp (fun _ hk => hk) trivial (Below.refl _ _) (Nat.le_refl _) (by simp) ?_; (case hd => rfl); (case hg => rfl); (case hr => first | (go_simp; done) | (go_simp; rfl)); (case hp => exact (Reps.one (show Kd.M (Kd.int .u32) _ _ _ 1 [.int .u32 1] from rfl) (Reps.none _ _))); intro v117 w21 ho22 hb hg_ hnew_; clear hg_ hnew_; (first | rw [← Ny116.out] at ho22 | (simp only [Int.reduceToNat] at ho22; rw [← Ny116.out] at ho22)); replace ho22 := yn ho22 HO_4; replace ho22 := yn ho22 HO_5; replace ho22 := yn ho22 HO111; replace ho22 := yn ho22 HO115; have HO118 := yRl ho22 HB; replace HO_4 := yRe HO_4 ho22 hb; replace HO_5 := yRe HO_5 ho22 hb; replace HO111 := yRe HO111 ho22 hb; replace HO115 := yRe HO115 ho22 hb; replace HB := yS HB hb; clear hb ho22; obtain ⟨Ao23, co23, rfl⟩ := Kd.R_slice HO118.out) | ((with_reducible refine gC 136 ?_); refine zG (some 34) Try.func136 #[.slice Ao23 y116.length co23, .int .i64 x7_1] ?_; (with_reducible refine (r1_shift.calls k1 _ _ y116 x7_1 t119 _ ?side1 ?side2 A14.out).mono ?_); (case side1 => exact zC (Kd.R_reads' HO118.out).2.2); (case side2 => exact (Kd.R_reads' HO118.out).2.1); rintro e w24 ⟨v120, rfl, ho0, hb⟩; refine ⟨_, rfl, ?_⟩; replace ho0 := yn ho0 HO_4; replace ho0 := yn ho0 HO_5; replace ho0 := yn ho0 HO111; replace ho0 := yn ho0 HO115; replace ho0 := yn ho0 HO118; have HO121 := yRl ho0 HB; replace HO_4 := yRe HO_4 ho0 hb; replace HO_5 := yRe HO_5 ho0 hb; replace HO111 := yRe HO111 ho0 hb; replace HO115 := yRe HO115 ho0 hb; replace HO118 := yRe HO118 ho0 hb; replace HB := yS HB hb; (try clear hb ho0); obtain ⟨Ao25, co25, rfl⟩ := Kd.R_slice HO_4.out; obtain ⟨Ao26, co26, rfl⟩ := Kd.R_slice HO121.out) | ((with_reducible refine gC 86 ?_); refine zG (some 35) Try.func86 #[.slice Ao25 x4_1.length co25, .slice Ao26 t119.length co26] ?_; (with_reducible refine (r1_Add.calls k1 _ _ x4_1 _ _ t119 t122 _ ?side1 ?side2 ?side3 ?side4 A15.out).mono ?_); (case side1 => exact zC (Kd.R_reads' HO_4.out).2.2); (case side2 => exact (Kd.R_reads' HO_4.out).2.1); (case side3 => exact zC (Kd.R_reads' HO121.out).2.2); (case side4 => exact (Kd.R_reads' HO121.out).2.1); rintro e w27 ⟨v123, rfl, ho0, hb⟩; refine ⟨_, rfl, ?_⟩; replace ho0 := yn ho0 HO_4; replace ho0 := yn ho0 HO_5; replace ho0 := yn ho0 HO111; replace ho0 := yn ho0 HO115; replace ho0 := yn ho0 HO118; replace ho0 := yn ho0 HO121; have HO124 := yRl ho0 HB; replace HO_4 := yRe HO_4 ho0 hb; replace HO_5 := yRe HO_5 ho0 hb; replace HO111 := yRe HO111 ho0 hb; replace HO115 := yRe HO115 ho0 hb; replace HO118 := yRe HO118 ho0 hb; replace HO121 := yRe HO121 ho0 hb; replace HB := yS HB hb; (try clear hb ho0)))
     go_roundg k1
     case measure => have := HK1.out; omega
     case rel => exact ⟨(t122), (t113), (wrap64 (x7_1 - 1)), zF, H', ⟨zo1 HK1⟩, ⟨by (with_reducible repeat (first | apply Kd.R_alloc | apply Kd.R_drewN | apply Kd.R_drew)); exact Kd.R_mono HO124.out (fun _ hk => hk.1.1.2)⟩, ⟨by (with_reducible repeat (first | apply Kd.R_alloc | apply Kd.R_drewN | apply Kd.R_drew)); exact Kd.R_mono HO115.out (fun _ hk => hk.2)⟩, ⟨zB HB.out⟩⟩
   have c12b0 : decide (0 ≤ t112) = false := decide_eq_false c12
   clear c12
   have H' := Aside0.mk H
   clear H
   go_wp2_with (first | ((with_reducible refine gC 136 ?_); refine zG (some 23) Try.func136 #[.slice A1 l1.length c1, .int .i64 x7_1] ?_; (with_reducible refine (r1_shift.calls k1 _ _ l1 x7_1 t109 _ ?side1 ?side2 A10.out).mono ?_); (case side1 => exact zC (Kd.C_below HR1.out HB.out)); (case side2 => exact HC1.out); rintro e w28 ⟨v110, rfl, ho0, hb⟩; refine ⟨_, rfl, ?_⟩; replace ho0 := yn ho0 HO_4; replace ho0 := yn ho0 HO_5; have HO111 := yRl ho0 HB; replace HO_4 := yRe HO_4 ho0 hb; replace HO_5 := yRe HO_5 ho0 hb; replace HB := yS HB hb; (try clear hb ho0); obtain ⟨Ao29, co29, rfl⟩ := Kd.R_slice HO_5.out; obtain ⟨Ao30, co30, rfl⟩ := Kd.R_slice HO111.out) | ((with_reducible refine gC 77 ?_); refine zG (some 26) Try.func77 #[.slice Ao29 x5_1.length co29, .slice Ao30 t109.length co30] ?_; (with_reducible refine (r1_Cmp.calls k1 _ _ x5_1 _ _ t109 t112 _ ?side1 ?side2 ?side3 ?side4 A11.out).mono ?_); (case side1 => exact zC (Kd.R_reads' HO_5.out).2.2); (case side2 => exact (Kd.R_reads' HO_5.out).2.1); (case side3 => exact zC (Kd.R_reads' HO111.out).2.2); (case side4 => exact (Kd.R_reads' HO111.out).2.1); rintro e w31 ⟨rfl, hb⟩; refine ⟨_, rfl, ?_⟩; replace HO_4 := yRb HO_4 hb; replace HO_5 := yRb HO_5 hb; replace HO111 := yRb HO111 hb; replace HB := yS HB hb; (try clear hb); (try clear hb2); (try clear hk); (try clear hi)))
   go_roundg k1
   case measure => have := HK1.out; omega
   case rel => exact ⟨(x4_1), (x5_1), (wrap64 (x7_1 - 1)), zF, H', ⟨zo1 HK1⟩, ⟨by (with_reducible repeat (first | apply Kd.R_alloc | apply Kd.R_drewN | apply Kd.R_drew)); exact Kd.R_mono HO_4.out (fun _ hk => hk.1)⟩, ⟨by (with_reducible repeat (first | apply Kd.R_alloc | apply Kd.R_drewN | apply Kd.R_drew)); exact Kd.R_mono HO_5.out (fun _ hk => hk.1)⟩, ⟨zB HB.out⟩⟩
 have c9b0 : decide (0 ≤ x7_1) = false := decide_eq_false c9
 clear c9
 replace H := zb H
 obtain ⟨t106, A32, H⟩ := H
 simp only [Option.some.injEq, Prod.mk.injEq] at H
 obtain ⟨rfl, rfl⟩ := H
 obtain ⟨Ao33, co33, rfl⟩ := Kd.R_slice HO_4.out
 go_wp2_with (first | ((with_reducible refine gC 75 ?_); refine zG (some 37) Try.func75 #[.slice Ao33 x4_1.length co33] ?_; (with_reducible refine (r1_Trim.calls k1 _ _ x4_1 t106 _ ?side1 ?side2 A32.out).mono ?_); (case side1 => exact zC (Kd.R_reads' HO_4.out).2.2); (case side2 => exact (Kd.R_reads' HO_4.out).2.1); rintro e w34 ⟨v107, rfl, ho0, hb⟩; refine ⟨_, rfl, ?_⟩; replace ho0 := yn ho0 HO_4; replace ho0 := yn ho0 HO_5; have HO108 := yRl ho0 HB; replace HO_4 := yRe HO_4 ho0 hb; replace HO_5 := yRe HO_5 ho0 hb; replace HB := yS HB hb; (try clear hb ho0)))
 go_ret2
 exact ⟨_, _, zE, by (with_reducible repeat (first | apply Kd.R_alloc | apply Kd.R_drewN | apply Kd.R_drew)); exact Kd.R_mono HO108.out (fun _ hk => hk.2), by (with_reducible repeat (first | apply Kd.R_alloc | apply Kd.R_drewN | apply Kd.R_drew)); exact Kd.R_mono HO_5.out (fun _ hk => hk.2), zB HB.out⟩
set_option maxHeartbeats 8000000 in
set_option maxRecDepth 100000 in
theorem r1_Gcd.calls (k : Nat) (P0_ : Nat → Prop) (A0 : Option Addr) (c0 : Nat) (l0 : List Int) (P1_ : Nat → Prop) (A1 : Option Addr) (c1 : Nat) (l1 : List Int) (r : List Int) (w : World) (hs0 : Kd.V (Kd.int .u32) 97 w w.heap.size (fun k_ => P0_ k_) (.slice A0 l0.length c0) l0) (hs1 : Kd.V (Kd.int .u32) 97 w w.heap.size (fun k_ => P1_ k_) (.slice A1 l1.length c1) l1) (h : r1_Gcd.f k l0 l1 = some r) :
    Calls Try.prog 122 #[.slice A0 l0.length c0, .slice A1 l1.length c1] w fun e w' => ∃ v0_ : Value, e = .returned (v0_) ∧ Kd.R (Kd.int .u32) 97 w' w.heap.size (fun k_ => (w.heap.size ≤ k_)) v0_ r ∧ Below w.heap.size w w' := by
 have HO0 := Aside0.mk (show Kd.V (Kd.int .u32) 97 w w.heap.size (fun k_ => ((P0_ k_ ∨ P1_ k_) ∨ w.heap.size ≤ k_)) (.slice A0 l0.length c0) l0 from Kd.V_mono hs0 (fun k_ hk => .inl (.inl hk)))
 have HO1 := Aside0.mk (show Kd.V (Kd.int .u32) 97 w w.heap.size (fun k_ => ((P0_ k_ ∨ P1_ k_) ∨ w.heap.size ≤ k_)) (.slice A1 l1.length c1) l1 from Kd.V_mono hs1 (fun k_ hk => .inl (.inr hk)))
 have HB := Aside0.mk (Below.refl w.heap.size w)
 have H : (r1_Gcd.l0 k l0 l1) = some r := h
 clear h
 have H' := Aside0.mk H
 clear H
 go_enter Try.func122, Try.ntmps122
 go_wp2
 go_loopg [0, 1] k (fun kq v0 v1 w' => ∃ (x0_1 : List Int) (x1_1 : List Int), Aside0 (r1_Gcd.l0 kq x0_1 x1_1 = some r) ∧ Aside0 (kq ≤ k) ∧ Aside0 (Kd.V (Kd.int .u32) 97 w' w.heap.size (fun k_ => ((P0_ k_ ∨ P1_ k_) ∨ w.heap.size ≤ k_)) v0 x0_1) ∧ Aside0 (Kd.V (Kd.int .u32) 97 w' w.heap.size (fun k_ => ((P0_ k_ ∨ P1_ k_) ∨ w.heap.size ≤ k_)) v1 x1_1) ∧ Aside0 (Below w.heap.size w w'))
 case atStart => exact ⟨(l0), (l1), H', ⟨Nat.le_refl _⟩, ⟨zV HO0.out⟩, ⟨zV HO1.out⟩, ⟨zB HB.out⟩⟩
 clear H'
 obtain ⟨x0_1, x1_1, HA, HK1, HO_0, HO_1, HB⟩ := hrel
 cases gk with | zero => exact absurd HA.out (by simp [r1_Gcd.l0]) | succ k1 => ?_
 have H := HA.out
 clear HA
 simp only [r1_Gcd.l0] at H
 replace H := zb H
 obtain ⟨t101, A3, H⟩ := H
 by_cases c4 : t101 = true
 · subst c4
   rw [if_pos rfl] at H
   replace H := zb H
   obtain ⟨t102, A5, H⟩ := H
   obtain rfl := Option.some.inj H
   obtain ⟨Ao6, co6, rfl⟩ := Kd.V_slice HO_1.out
   go_wp2_with (first | ((with_reducible refine gC 27 ?_); refine zG (some 8) Try.func27 #[.slice Ao6 x1_1.length co6] ?_; (with_reducible refine (r1_Zero.calls k1 _ _ x1_1 true _ ?side1 ?side2 A3.out).mono ?_); (case side1 => exact zC (Kd.V_reads' HO_1.out).2.2); (case side2 => exact (Kd.V_reads' HO_1.out).2.1); rintro e w7 ⟨rfl, hb⟩; refine ⟨_, rfl, ?_⟩; replace HO_0 := yVb HO_0 hb; replace HO_1 := yVb HO_1 hb; replace HB := yS HB hb; (try clear hb); (try clear hb2); (try clear hk); (try clear hi); obtain ⟨Ao8, co8, rfl⟩ := Kd.V_slice HO_0.out) | ((with_reducible refine gC 75 ?_); refine zG (some 19) Try.func75 #[.slice Ao8 x0_1.length co8] ?_; (with_reducible refine (r1_Trim.calls k1 _ _ x0_1 t102 _ ?side1 ?side2 A5.out).mono ?_); (case side1 => exact zC (Kd.V_reads' HO_0.out).2.2); (case side2 => exact (Kd.V_reads' HO_0.out).2.1); rintro e w9 ⟨v103, rfl, ho0, hb⟩; refine ⟨_, rfl, ?_⟩; replace HO_0 := yVe HO_0 ho0 hb; replace HO_1 := yVe HO_1 ho0 hb; replace ho0 := Kd.R_newM (M := fun k_ => (w.heap.size ≤ k_)) ho0 (below_size (zB HB.out)) (fun k_ h_ => h_); have HO104 := yRl ho0 HB; replace HB := yS HB hb; (try clear hb ho0)))
   go_ret
   exact ⟨_, zE, by (with_reducible repeat (first | apply Kd.R_alloc | apply Kd.R_drewN | apply Kd.R_drew)); exact Kd.R_mono HO104.out (fun _ hk => hk.1), zB HB.out⟩
 replace c4 := Bool.eq_false_iff.mpr c4
 subst c4
 rw [if_neg Bool.false_ne_true] at H
 replace H := zb H
 obtain ⟨⟨t105, t106⟩, A10, H⟩ := H
 dsimp only at H
 have H' := Aside0.mk H
 clear H
 obtain ⟨Ao11, co11, rfl⟩ := Kd.V_slice HO_1.out
 go_wp2_with (first | ((with_reducible refine gC 27 ?_); refine zG (some 8) Try.func27 #[.slice Ao11 x1_1.length co11] ?_; (with_reducible refine (r1_Zero.calls k1 _ _ x1_1 false _ ?side1 ?side2 A3.out).mono ?_); (case side1 => exact zC (Kd.V_reads' HO_1.out).2.2); (case side2 => exact (Kd.V_reads' HO_1.out).2.1); rintro e w12 ⟨rfl, hb⟩; refine ⟨_, rfl, ?_⟩; replace HO_0 := yVb HO_0 hb; replace HO_1 := yVb HO_1 hb; replace HB := yS HB hb; (try clear hb); (try clear hb2); (try clear hk); (try clear hi); obtain ⟨Ao13, co13, rfl⟩ := Kd.V_slice HO_0.out) | ((with_reducible refine gC 123 ?_); refine zG (some 13) Try.func123 #[.slice Ao13 x0_1.length co13, .slice Ao11 x1_1.length co11] ?_; (with_reducible refine (r1_DivMod.calls k1 _ _ x0_1 _ _ x1_1 t105 t106 _ ?side1 ?side2 ?side3 ?side4 A10.out).mono ?_); (case side1 => exact zC (Kd.V_reads' HO_0.out).2.2); (case side2 => exact (Kd.V_reads' HO_0.out).2.1); (case side3 => exact zC (Kd.V_reads' HO_1.out).2.2); (case side4 => exact (Kd.V_reads' HO_1.out).2.1); rintro e w14 ⟨v107, v109, rfl, ho0, ho1, hb⟩; refine ⟨_, rfl, ?_⟩; replace HO_0 := yVt HO_0 hb ho0 ho1; replace HO_1 := yVt HO_1 hb ho0 ho1; replace ho0 := Kd.R_newM (M := fun k_ => (w.heap.size ≤ k_)) ho0 (below_size (zB HB.out)) (fun k_ h_ => h_); have HO108 := yRl ho0 HB; replace ho1 := Kd.R_newM (M := fun k_ => (w.heap.size ≤ k_)) ho1 (below_size (zB HB.out)) (fun k_ h_ => h_); have HO110 := yRl ho1 HB; replace HB := yS HB hb; (try clear hb ho0); (try clear ho1)))
 go_roundg k1
 case measure => have := HK1.out; omega
 case rel => exact ⟨(x1_1), (t106), H', ⟨zo1 HK1⟩, ⟨by (with_reducible repeat (first | apply Kd.V_alloc | apply Kd.V_drewN | apply Kd.V_drew)); exact Kd.V_mono HO_1.out (fun _ hk => hk.1.1)⟩, ⟨Kd.V_mono (Kd.R_V (by (with_reducible repeat (first | apply Kd.R_alloc | apply Kd.R_drewN | apply Kd.R_drew)); exact Kd.R_mono HO110.out (fun _ hk => hk.1))) (fun k_ hk => by first | exact ⟨(.inr (hk.1)), hk.2⟩ | exact (.inr (hk)))⟩, ⟨zB HB.out⟩⟩
set_option maxHeartbeats 8000000 in
set_option maxRecDepth 100000 in
theorem r2_Make.calls (k : Nat) (a0 : Bool) (A1 : Option Addr) (c1 : Nat) (l1 : List Int) (A2 : Option Addr) (c2 : Nat) (l2 : List Int) (r1 : Bool) (r2 : List Int) (r3 : List Int) (w : World) (hr1 : Kd.C (Kd.int .u32) w A1 l1.length l1) (hc1 : l1.length ≤ c1) (hr2 : Kd.C (Kd.int .u32) w A2 l2.length l2) (hc2 : l2.length ≤ c2) (h : r2_Make.f k a0 l1 l2 = some (r1, r2, r3)) :
    Calls Try.prog 90 #[.bool a0, .slice A1 l1.length c1, .slice A2 l2.length c2] w fun e w' => ∃ v1_ v2_ : Value, e = .returned (.agg #[.bool r1, v1_, v2_]) ∧ Kd.R (Kd.int .u32) 97 w' w.heap.size (fun k_ => some k_ ≠ (v2_ : Value).ownBlock) v1_ r2 ∧ Kd.R (Kd.int .u32) 97 w' w.heap.size (fun k_ => some k_ ≠ (v1_ : Value).ownBlock) v2_ r3 ∧ Below w.heap.size w w' := by
 have hu60 := Try.underlying60
 have HR1 := Aside0.mk hr1
 have HC1 := Aside0.mk hc1
 clear hr1 hc1
 have HR2 := Aside0.mk hr2
 have HC2 := Aside0.mk hc2
 clear hr2 hc2
 have HB := Aside0.mk (Below.refl w.heap.size w)
 have H : ((r1_Zero.f k l1).bind fun t102 => (if t102 = true then (r2_Make.j0 k a0 l1 l2 true) else ((r1_Zero.f k l2).bind fun t103 => (r2_Make.j0 k a0 l1 l2 t103)))) = some (r1, r2, r3) := h
 clear h
 have HC4 := Aside0.mk H
 clear H
 go_enter Try.func90, Try.ntmps90
 go_upto_region 1 with (first | ((with_reducible refine gate_dst (N := 6) rfl ?_); refine box_event ?hg (N := 6) ?hd (cs := #[.bool false, .slice none 0 0, .slice none 0 0]) (t := 60) ?hr ?_; (case hd => rfl); (case hg => rfl); (case hr => first | (go_simp; done) | (go_simp; rfl)); intro gb101 hg w5 hbox hb; have BK101 := Aside0.mk (hbox); have GW101 := yg hg HB; have GE101 := yg hg HB; replace HB := yS HB hb; clear hb hbox hg))
 (try simp only [Act.put, List.setIfInBounds_toArray, List.set_cons_zero, List.set_cons_succ])
 go_cut [17] (fun v17 wc => ∃ (kq : Nat) (x17_3 : Bool), v17 = .bool x17_3 ∧ Aside0 (r2_Make.j0 kq a0 l1 l2 x17_3 = some (r1, r2, r3)) ∧ Aside0 (kq ≤ k) ∧ Aside0 (wc.heap[gb101]? = some (.cells #[.bool false, (.slice none 0 0), (.slice none 0 0)] 60 (0, 0))) ∧ Aside0 (Below w.heap.size w wc))
 case first =>
  have H := HC4.out
  clear HC4
  replace H := zb H
  obtain ⟨t102, A6, H⟩ := H
  by_cases c7 : t102 = true
  · subst c7
    rw [if_pos rfl] at H
    have H' := Aside0.mk H
    clear H
    go_wp2_with (first | ((with_reducible refine gC 27 ?_); refine zG (some 13) Try.func27 #[.slice A1 l1.length c1] ?_; (with_reducible refine (r1_Zero.calls k _ _ l1 true _ ?side1 ?side2 A6.out).mono ?_); (case side1 => exact zC (Kd.C_below HR1.out HB.out)); (case side2 => exact HC1.out); rintro e w8 ⟨rfl, hb⟩; refine ⟨_, rfl, ?_⟩; replace BK101 := yK BK101 hb; replace HB := yS1 HB GE101 hb; (try clear hb); (try clear hb2); (try clear hk); (try clear hi)))
    go_meet
    case rel => exact ⟨_, (true), zF, H', ⟨zO⟩, ⟨by (with_reducible repeat (first | refine blk_drewN ?_ _ | refine blk_drew ?_ | refine blk_alloc ?_ _)); exact BK101.out⟩, ⟨zB1 HB.out GE101.out⟩⟩
  replace c7 := Bool.eq_false_iff.mpr c7
  subst c7
  rw [if_neg Bool.false_ne_true] at H
  replace H := zb H
  obtain ⟨t103, A9, H⟩ := H
  have H' := Aside0.mk H
  clear H
  go_wp2_with (first | ((with_reducible refine gC 27 ?_); refine zG (some 13) Try.func27 #[.slice A1 l1.length c1] ?_; (with_reducible refine (r1_Zero.calls k _ _ l1 false _ ?side1 ?side2 A6.out).mono ?_); (case side1 => exact zC (Kd.C_below HR1.out HB.out)); (case side2 => exact HC1.out); rintro e w10 ⟨rfl, hb⟩; refine ⟨_, rfl, ?_⟩; replace BK101 := yK BK101 hb; replace HB := yS1 HB GE101 hb; (try clear hb); (try clear hb2); (try clear hk); (try clear hi)) | (go_at_call 27; (with_reducible refine (r1_Zero.calls k _ _ l2 t103 _ ?side1 ?side2 A9.out).mono ?_); (case side1 => exact zC (Kd.C_below HR2.out HB.out)); (case side2 => exact HC2.out); rintro e w11 ⟨rfl, hb⟩; replace BK101 := yK BK101 hb; replace HB := yS1 HB GE101 hb; (try clear hb); (try clear hb2); (try clear hk); (try clear hi)))
  go_meet
  case rel => exact ⟨_, (t103), zF, H', ⟨zO⟩, ⟨by (with_reducible repeat (first | refine blk_drewN ?_ _ | refine blk_drew ?_ | refine blk_alloc ?_ _)); exact BK101.out⟩, ⟨zB1 HB.out GE101.out⟩⟩
 clear HC4
 (try clear c7)
 obtain ⟨kq, x17_3, rfl, HA, HJ3, BK101, HB⟩ := hcut
 cases kq with | zero => exact absurd HA.out (by simp [r2_Make.j0]) | succ kj3 => ?_
 have H := HA.out
 clear HA
 simp only [r2_Make.j0] at H
 by_cases c12 : x17_3 = true
 · subst c12
   rw [if_pos rfl] at H
   obtain ⟨y104, hy104⟩ : ∃ y_ : List Int, y_ = (([] : List Int)) := ⟨_, rfl⟩
   replace H : (some (false, y104, (([1] : List Int)))) = some (r1, r2, r3) := zY hy104 H
   have Ny104 := Aside0.mk hy104
   clear hy104
   obtain ⟨y107, hy107⟩ : ∃ y_ : List Int, y_ = (([1] : List Int)) := ⟨_, rfl⟩
   replace H : (some (false, y104, y107)) = some (r1, r2, r3) := zY hy107 H
   have Ny107 := Aside0.mk hy107
   clear hy107
   simp only [Option.some.injEq, Prod.mk.injEq] at H
   obtain ⟨rfl, rfl, rfl⟩ := H
   go_wp2_with (first | ((with_reducible refine gate_dst (N := 18) rfl ?_); refine Kd.R_lit (Kd.int .u32) _ 97 ?hg (N := 18) ?hd (xs := ([] : List Int)) (inner := []) (ok := fun _ => True) (okp := fun _ => True) ?hr ?hp (fun _ hk => hk) trivial (Below.refl _ _) (Nat.le_refl _) (by simp) ?_; (case hd => rfl); (case hg => rfl); (case hr => first | (go_simp; done) | (go_simp; rfl)); (case hp => exact (Reps.none _ _)); intro v105 w13 ho14 hb hg_ hnew_; clear hg_ hnew_; (first | rw [← Ny104.out] at ho14 | (simp only [Int.reduceToNat] at ho14; rw [← Ny104.out] at ho14)); have HO106 := yRl1 ho14 HB GE101; replace BK101 := yK BK101 hb; replace HB := yS1 HB GE101 hb; clear hb ho14) | ((with_reducible refine gate_dst (N := 19) rfl ?_); refine Kd.R_lit (Kd.int .u32) _ 97 ?hg (N := 19) ?hd (xs := ([1] : List Int)) (inner := [.int .u32 1]) (ok := fun _ => True) (okp := fun _ => True) ?hr ?hp (fun _ hk => hk) trivial (Below.refl _ _) (Nat.le_refl _) (by simp) ?_; (case hd => rfl); (case hg => rfl); (case hr => first | (go_simp; done) | (go_simp; rfl)); (case hp => exact (Reps.one (show Kd.M (Kd.int .u32) _ _ _ 1 [.int .u32 1] from rfl) (Reps.none _ _))); intro v108 w15 ho16 hb hg_ hnew_; clear hg_ hnew_; (first | rw [← Ny107.out] at ho16 | (simp only [Int.reduceToNat] at ho16; rw [← Ny107.out] at ho16)); replace ho16 := yn ho16 HO106; have HO109 := yRl1 ho16 HB GE101; replace HO106 := yRe HO106 ho16 hb; replace BK101 := yK BK101 hb; replace HB := yS1 HB GE101 hb; clear hb ho16; obtain ⟨Ao17, co17, rfl⟩ := Kd.R_slice HO109.out; obtain ⟨Ao18, co18, rfl⟩ := Kd.R_slice HO106.out; obtain ⟨hcz19_0, hcz19_1, hcz19_2, hfz19_0, hfz19_1, hfz19_2⟩ := zz3 BK101))
   refine bodyPost_ret (results_cell_row rfl _ _ gb101 60 #[.bool false, .slice Ao18 y104.length co18, .slice Ao17 y107.length co17] (0, 0) _ rfl (zP3 BK101.out) Try.underlying60 rfl (by kernel_rfl)) rfl ?_
   exact ⟨_, _, zE, by (with_reducible repeat (first | apply Kd.R_alloc | apply Kd.R_drewN | apply Kd.R_drew)); exact yf HO106.out BK101.out (fun _ hk => hk.1.2), by (with_reducible repeat (first | apply Kd.R_alloc | apply Kd.R_drewN | apply Kd.R_drew)); exact yf HO109.out BK101.out (fun _ hk => hk.1.2), zB1 HB.out GE101.out⟩
 replace c12 := Bool.eq_false_iff.mpr c12
 subst c12
 rw [if_neg Bool.false_ne_true] at H
 replace H := zb H
 obtain ⟨t110, A20, H⟩ := H
 replace H := zb H
 obtain ⟨⟨t113, t114⟩, A21, H⟩ := H
 dsimp only at H
 replace H := zb H
 obtain ⟨⟨t119, t120⟩, A22, H⟩ := H
 dsimp only at H
 simp only [Option.some.injEq, Prod.mk.injEq] at H
 obtain ⟨rfl, rfl, rfl⟩ := H
 go_wp2_with (first | ((with_reducible refine gC 122 ?_); refine zG (some 23) Try.func122 #[.slice A1 l1.length c1, .slice A2 l2.length c2] ?_; (with_reducible refine (r1_Gcd.calls kj3 (fun k_ => k_ < w.heap.size) _ _ l1 (fun k_ => k_ < w.heap.size) _ _ l2 t110 _ ?side1 ?side2 A20.out).mono ?_); (case side1 => exact Kd.V_mk HC1.out (Kd.F_below (Kd.C_F (Kd.heap_int .u32) HR1.out) (zB1 HB.out GE101.out))); (case side2 => exact Kd.V_mk HC2.out (Kd.F_below (Kd.C_F (Kd.heap_int .u32) HR2.out) (zB1 HB.out GE101.out))); rintro e w23 ⟨v111, rfl, ho0, hb⟩; refine ⟨_, rfl, ?_⟩; replace ho0 := yt ho0; have HO112 := yRl1 ho0 HB GE101; replace BK101 := yK BK101 hb; replace HB := yS1 HB GE101 hb; (try clear hb ho0); obtain ⟨Ao24, co24, rfl⟩ := Kd.R_slice HO112.out) | ((with_reducible refine gC 123 ?_); refine zG (some 27) Try.func123 #[.slice A1 l1.length c1, .slice Ao24 t110.length co24] ?_; (with_reducible refine (r1_DivMod.calls kj3 _ _ l1 _ _ t110 t113 t114 _ ?side1 ?side2 ?side3 ?side4 A21.out).mono ?_); (case side1 => exact zC (Kd.C_below HR1.out HB.out)); (case side2 => exact HC1.out); (case side3 => exact zC (Kd.R_reads' HO112.out).2.2); (case side4 => exact (Kd.R_reads' HO112.out).2.1); rintro e w25 ⟨v115, v117, rfl, ho0, ho1, hb⟩; refine ⟨_, rfl, ?_⟩; replace ho0 := yn ho0 HO112; have HO116 := yRl1 ho0 HB GE101; replace ho1 := yn ho1 HO112; have HO118 := yRl1 ho1 HB GE101; replace HO112 := yRt HO112 hb ho0 ho1; replace BK101 := yK BK101 hb; replace HB := yS1 HB GE101 hb; (try clear hb ho0); (try clear ho1)) | ((with_reducible refine gC 123 ?_); refine zG (some 33) Try.func123 #[.slice A2 l2.length c2, .slice Ao24 t110.length co24] ?_; (with_reducible refine (r1_DivMod.calls kj3 _ _ l2 _ _ t110 t119 t120 _ ?side1 ?side2 ?side3 ?side4 A22.out).mono ?_); (case side1 => exact zC (Kd.C_below HR2.out HB.out)); (case side2 => exact HC2.out); (case side3 => exact zC (Kd.R_reads' HO112.out).2.2); (case side4 => exact (Kd.R_reads' HO112.out).2.1); rintro e w26 ⟨v121, v123, rfl, ho0, ho1, hb⟩; refine ⟨_, rfl, ?_⟩; replace ho0 := yn ho0 HO112; replace ho0 := yn ho0 HO116; replace ho0 := yn ho0 HO118; have HO122 := yRl1 ho0 HB GE101; replace ho1 := yn ho1 HO112; replace ho1 := yn ho1 HO116; replace ho1 := yn ho1 HO118; have HO124 := yRl1 ho1 HB GE101; replace HO112 := yRt HO112 hb ho0 ho1; replace HO116 := yRt HO116 hb ho0 ho1; replace HO118 := yRt HO118 hb ho0 ho1; replace BK101 := yK BK101 hb; replace HB := yS1 HB GE101 hb; (try clear hb ho0); (try clear ho1); obtain ⟨Ao27, co27, rfl⟩ := Kd.R_slice HO122.out; obtain ⟨Ao28, co28, rfl⟩ := Kd.R_slice HO116.out; obtain ⟨hcz29_0, hcz29_1, hcz29_2, hfz29_0, hfz29_1, hfz29_2⟩ := zz3 BK101))
 refine bodyPost_ret (results_cell_row rfl _ _ gb101 60 #[.bool a0, .slice Ao28 t113.length co28, .slice Ao27 t119.length co27] (0, 0) _ rfl (zP3 BK101.out) Try.underlying60 rfl (by kernel_rfl)) rfl ?_
 exact ⟨_, _, zE, by (with_reducible repeat (first | apply Kd.R_alloc | apply Kd.R_drewN | apply Kd.R_drew)); exact yf HO116.out BK101.out (fun _ hk => hk.1.1.2), by (with_reducible repeat (first | apply Kd.R_alloc | apply Kd.R_drewN | apply Kd.R_drew)); exact yf HO122.out BK101.out (fun _ hk => hk.1.1.2), zB1 HB.out GE101.out⟩
set_option maxHeartbeats 8000000 in
set_option maxRecDepth 100000 in
theorem r1_Of.calls (k : Nat) (a0 : Int) (r : List Int) (w : World) (h : r1_Of.f k a0 = some r) :
    Calls Try.prog 23 #[.int .u64 a0] w fun e w' => ∃ v0_ : Value, e = .returned (v0_) ∧ Kd.R (Kd.int .u32) 97 w' w.heap.size (fun _ => True) v0_ r ∧ Below w.heap.size w w' := by
 have HB := Aside0.mk (Below.refl w.heap.size w)
 have H : ((r1_Trim.f k (([(Int.tmod a0 4294967296) % 4294967296, (IntKind.u64.wrap (Int.tdiv a0 4294967296)) % 4294967296] : List Int))).bind fun t104 => (some t104)) = some r := h
 clear h
 obtain ⟨y101, hy101⟩ : ∃ y_ : List Int, y_ = (([(Int.tmod a0 4294967296) % 4294967296, (IntKind.u64.wrap (Int.tdiv a0 4294967296)) % 4294967296] : List Int)) := ⟨_, rfl⟩
 replace H : ((r1_Trim.f k y101).bind fun t104 => (some t104)) = some r := zY hy101 H
 have Ny101 := Aside0.mk hy101
 clear hy101
 replace H := zb H
 obtain ⟨t104, A2, H⟩ := H
 obtain rfl := Option.some.inj H
 go_enter Try.func23, Try.ntmps23
 go_wp2_with (first | ((with_reducible refine gate_dst (N := 9) rfl ?_); refine Kd.R_lit (Kd.int .u32) _ 97 ?hg (N := 9) ?hd (xs := ([(Int.tmod a0 4294967296) % 4294967296, (IntKind.u64.wrap (Int.tdiv a0 4294967296)) % 4294967296] : List Int)) (inner := [.int .u32 ((Int.tmod a0 4294967296) % 4294967296), .int .u32 ((IntKind.u64.wrap (Int.tdiv a0 4294967296)) % 4294967296)]) (ok := fun _ => True) (okp := fun _ => True) ?hr ?hp (fun _ hk => hk) trivial (Below.refl _ _) (Nat.le_refl _) (by simp) ?_; (case hd => rfl); (case hg => rfl); (case hr => first | (go_simp; done) | (go_simp; rfl)); (case hp => exact (Reps.one (show Kd.M (Kd.int .u32) _ _ _ ((Int.tmod a0 4294967296) % 4294967296) [.int .u32 ((Int.tmod a0 4294967296) % 4294967296)] from rfl) (Reps.one (show Kd.M (Kd.int .u32) _ _ _ ((IntKind.u64.wrap (Int.tdiv a0 4294967296)) % 4294967296) [.int .u32 ((IntKind.u64.wrap (Int.tdiv a0 4294967296)) % 4294967296)] from rfl) (Reps.none _ _)))); intro v102 w3 ho4 hb hg_ hnew_; clear hg_ hnew_; (first | rw [← Ny101.out] at ho4 | (simp only [Int.reduceToNat] at ho4; rw [← Ny101.out] at ho4)); have HO103 := yRl ho4 HB; replace HB := yS HB hb; clear hb ho4; obtain ⟨Ao5, co5, rfl⟩ := Kd.R_slice HO103.out) | ((with_reducible refine gC 75 ?_); refine zG (some 10) Try.func75 #[.slice Ao5 y101.length co5] ?_; (with_reducible refine (r1_Trim.calls k _ _ y101 t104 _ ?side1 ?side2 A2.out).mono ?_); (case side1 => exact zC (Kd.R_reads' HO103.out).2.2); (case side2 => exact (Kd.R_reads' HO103.out).2.1); rintro e w6 ⟨v105, rfl, ho0, hb⟩; refine ⟨_, rfl, ?_⟩; replace ho0 := yn ho0 HO103; have HO106 := yRl ho0 HB; replace HO103 := yRe HO103 ho0 hb; replace HB := yS HB hb; (try clear hb ho0)))
 go_ret
 exact ⟨_, zE, by (with_reducible repeat (first | apply Kd.R_alloc | apply Kd.R_drewN | apply Kd.R_drew)); exact Kd.R_mono HO106.out (fun _ hk => trivial), zB HB.out⟩
set_option maxHeartbeats 8000000 in
set_option maxRecDepth 100000 in
theorem r2_abs.calls (k : Nat) (a0 : Int) (r : List Int) (w : World) (h : r2_abs.f k a0 = some r) :
    Calls Try.prog 127 #[.int .i64 a0] w fun e w' => ∃ v0_ : Value, e = .returned (v0_) ∧ Kd.R (Kd.int .u32) 97 w' w.heap.size (fun _ => True) v0_ r ∧ Below w.heap.size w w' := by
 have HB := Aside0.mk (Below.refl w.heap.size w)
 have H : (if a0 < 0 then ((r1_Of.f k (IntKind.u64.wrap (wrap64 (-(wrap64 (a0 + 1)))))).bind fun t101 => ((r1_Add.f k t101 (([1] : List Int))).bind fun t107 => (some t107))) else ((r1_Of.f k (IntKind.u64.wrap (a0))).bind fun t110 => (some t110))) = some r := h
 clear h
 replace H := zid H
 rcases H with ⟨c2b0, H⟩ | ⟨c2b0, H⟩
 · replace H := zb H
   obtain ⟨t101, A3, H⟩ := H
   obtain ⟨y104, hy104⟩ : ∃ y_ : List Int, y_ = (([1] : List Int)) := ⟨_, rfl⟩
   replace H : ((r1_Add.f k t101 y104).bind fun t107 => (some t107)) = some r := zY hy104 H
   have Ny104 := Aside0.mk hy104
   clear hy104
   replace H := zb H
   obtain ⟨t107, A4, H⟩ := H
   obtain rfl := Option.some.inj H
   go_enter Try.func127, Try.ntmps127
   go_wp2_with (first | ((with_reducible refine gC 23 ?_); refine zG (some 9) Try.func23 #[.int .u64 (IntKind.u64.wrap (wrap64 (-(wrap64 (a0 + 1)))))] ?_; (with_reducible refine (r1_Of.calls k (IntKind.u64.wrap (wrap64 (-(wrap64 (a0 + 1))))) t101 _ A3.out).mono ?_); rintro e w5 ⟨v102, rfl, ho0, hb⟩; refine ⟨_, rfl, ?_⟩; have HO103 := yRl ho0 HB; replace HB := yS HB hb; (try clear hb ho0)) | ((with_reducible refine gate_dst (N := 10) rfl ?_); refine Kd.R_lit (Kd.int .u32) _ 97 ?hg (N := 10) ?hd (xs := ([1] : List Int)) (inner := [.int .u32 1]) (ok := fun _ => True) (okp := fun _ => True) ?hr ?hp (fun _ hk => hk) trivial (Below.refl _ _) (Nat.le_refl _) (by simp) ?_; (case hd => rfl); (case hg => rfl); (case hr => first | (go_simp; done) | (go_simp; rfl)); (case hp => exact (Reps.one (show Kd.M (Kd.int .u32) _ _ _ 1 [.int .u32 1] from rfl) (Reps.none _ _))); intro v105 w6 ho7 hb hg_ hnew_; clear hg_ hnew_; (first | rw [← Ny104.out] at ho7 | (simp only [Int.reduceToNat] at ho7; rw [← Ny104.out] at ho7)); replace ho7 := yn ho7 HO103; have HO106 := yRl ho7 HB; replace HO103 := yRe HO103 ho7 hb; replace HB := yS HB hb; clear hb ho7; obtain ⟨Ao8, co8, rfl⟩ := Kd.R_slice HO103.out; obtain ⟨Ao9, co9, rfl⟩ := Kd.R_slice HO106.out) | ((with_reducible refine gC 86 ?_); refine zG (some 11) Try.func86 #[.slice Ao8 t101.length co8, .slice Ao9 y104.length co9] ?_; (with_reducible refine (r1_Add.calls k _ _ t101 _ _ y104 t107 _ ?side1 ?side2 ?side3 ?side4 A4.out).mono ?_); (case side1 => exact zC (Kd.R_reads' HO103.out).2.2); (case side2 => exact (Kd.R_reads' HO103.out).2.1); (case side3 => exact zC (Kd.R_reads' HO106.out).2.2); (case side4 => exact (Kd.R_reads' HO106.out).2.1); rintro e w10 ⟨v108, rfl, ho0, hb⟩; refine ⟨_, rfl, ?_⟩; replace ho0 := yn ho0 HO103; replace ho0 := yn ho0 HO106; have HO109 := yRl ho0 HB; replace HO103 := yRe HO103 ho0 hb; replace HO106 := yRe HO106 ho0 hb; replace HB := yS HB hb; (try clear hb ho0)))
   go_ret
   exact ⟨_, zE, by (with_reducible repeat (first | apply Kd.R_alloc | apply Kd.R_drewN | apply Kd.R_drew)); exact Kd.R_mono HO109.out (fun _ hk => trivial), zB HB.out⟩
 replace H := zb H
 obtain ⟨t110, A11, H⟩ := H
 obtain rfl := Option.some.inj H
 go_enter Try.func127, Try.ntmps127
 go_wp2_with (first | ((with_reducible refine gC 23 ?_); refine zG (some 14) Try.func23 #[.int .u64 (IntKind.u64.wrap (a0))] ?_; (with_reducible refine (r1_Of.calls k (IntKind.u64.wrap (a0)) t110 _ A11.out).mono ?_); rintro e w12 ⟨v111, rfl, ho0, hb⟩; refine ⟨_, rfl, ?_⟩; have HO112 := yRl ho0 HB; replace HB := yS HB hb; (try clear hb ho0)))
 go_ret
 exact ⟨_, zE, zR HO112.out, zB HB.out⟩
set_option maxHeartbeats 8000000 in
set_option maxRecDepth 100000 in
theorem r2_Of.calls (k : Nat) (a0 : Int) (a1 : Int) (r1 : Bool) (r2 : List Int) (r3 : List Int) (w : World) (h : r2_Of.f k a0 a1 = some (r1, r2, r3)) :
    Calls Try.prog 97 #[.int .i64 a0, .int .i64 a1] w fun e w' => ∃ v1_ v2_ : Value, e = .returned (.agg #[.bool r1, v1_, v2_]) ∧ Kd.R (Kd.int .u32) 97 w' w.heap.size (fun k_ => some k_ ≠ (v2_ : Value).ownBlock) v1_ r2 ∧ Kd.R (Kd.int .u32) 97 w' w.heap.size (fun k_ => some k_ ≠ (v1_ : Value).ownBlock) v2_ r3 ∧ Below w.heap.size w w' := by
 have hu60 := Try.underlying60
 have HB := Aside0.mk (Below.refl w.heap.size w)
 have H : ((r2_abs.f k a0).bind fun t102 => ((r2_abs.f k a1).bind fun t105 => ((r2_Make.f k ((decide (a0 < 0)) != (decide (a1 < 0))) t102 t105).bind fun bt108 => (some (bt108.1, bt108.2.1, bt108.2.2))))) = some (r1, r2, r3) := h
 clear h
 replace H := zb H
 obtain ⟨t102, A3, H⟩ := H
 replace H := zb H
 obtain ⟨t105, A4, H⟩ := H
 replace H := zb H
 obtain ⟨⟨t108, t109, t112⟩, A5, H⟩ := H
 dsimp only at H
 simp only [Option.some.injEq, Prod.mk.injEq] at H
 obtain ⟨rfl, rfl, rfl⟩ := H
 go_enter Try.func97, Try.ntmps97
 go_wp2_with (first | ((with_reducible refine gate_dst (N := 4) rfl ?_); refine box_event ?hg (N := 4) ?hd (cs := #[.bool false, .slice none 0 0, .slice none 0 0]) (t := 60) ?hr ?_; (case hd => rfl); (case hg => rfl); (case hr => first | (go_simp; done) | (go_simp; rfl)); intro gb101 hg w6 hbox hb; have BK101 := Aside0.mk (hbox); have GW101 := yg hg HB; have GE101 := yg hg HB; replace HB := yS HB hb; clear hb hbox hg) | ((with_reducible refine gC 127 ?_); refine zG (some 11) Try.func127 #[.int .i64 a0] ?_; (with_reducible refine (r2_abs.calls k a0 t102 _ A3.out).mono ?_); rintro e w7 ⟨v103, rfl, ho0, hb⟩; refine ⟨_, rfl, ?_⟩; have HO104 := yRl1 ho0 HB GE101; replace BK101 := yK BK101 hb; replace HB := yS1 HB GE101 hb; (try clear hb ho0)) | ((with_reducible refine gC 127 ?_); refine zG (some 13) Try.func127 #[.int .i64 a1] ?_; (with_reducible refine (r2_abs.calls k a1 t105 _ A4.out).mono ?_); rintro e w8 ⟨v106, rfl, ho0, hb⟩; refine ⟨_, rfl, ?_⟩; replace ho0 := yn ho0 HO104; have HO107 := yRl1 ho0 HB GE101; replace HO104 := yRe HO104 ho0 hb; replace BK101 := yK BK101 hb; replace HB := yS1 HB GE101 hb; (try clear hb ho0); obtain ⟨Ao9, co9, rfl⟩ := Kd.R_slice HO104.out; obtain ⟨Ao10, co10, rfl⟩ := Kd.R_slice HO107.out) | ((with_reducible refine gC 90 ?_); refine zG (some 14) Try.func90 #[.bool ((decide (a0 < 0)) != (decide (a1 < 0))), .slice Ao9 t102.length co9, .slice Ao10 t105.length co10] ?_; (with_reducible refine (r2_Make.calls k ((decide (a0 < 0)) != (decide (a1 < 0))) _ _ t102 _ _ t105 t108 t109 t112 _ ?side1 ?side2 ?side3 ?side4 A5.out).mono ?_); (case side1 => exact zC (Kd.R_reads' HO104.out).2.2); (case side2 => exact (Kd.R_reads' HO104.out).2.1); (case side3 => exact zC (Kd.R_reads' HO107.out).2.2); (case side4 => exact (Kd.R_reads' HO107.out).2.1); rintro e w11 ⟨v110, v113, rfl, ho0, ho1, hb⟩; refine ⟨_, rfl, ?_⟩; replace ho0 := yn ho0 HO104; replace ho0 := yn ho0 HO107; have HO111 := yRl1 ho0 HB GE101; replace ho1 := yn ho1 HO104; replace ho1 := yn ho1 HO107; have HO114 := yRl1 ho1 HB GE101; replace HO104 := yRt HO104 hb ho0 ho1; replace HO107 := yRt HO107 hb ho0 ho1; replace BK101 := yK BK101 hb; replace HB := yS1 HB GE101 hb; (try clear hb ho0); (try clear ho1); obtain ⟨hcz12_0, hcz12_1, hcz12_2, hfz12_0, hfz12_1, hfz12_2⟩ := zz3 BK101; obtain ⟨Ao13, co13, rfl⟩ := Kd.R_slice HO111.out; obtain ⟨Ao14, co14, rfl⟩ := Kd.R_slice HO114.out))
 refine bodyPost_ret (results_cell_row rfl _ _ gb101 60 #[.bool t108, .slice Ao13 t109.length co13, .slice Ao14 t112.length co14] (0, 0) _ rfl (zP3 BK101.out) Try.underlying60 rfl (by kernel_rfl)) rfl ?_
 exact ⟨_, _, zE, by (with_reducible repeat (first | apply Kd.R_alloc | apply Kd.R_drewN | apply Kd.R_drew)); exact yf HO111.out BK101.out (fun _ hk => hk.1.1.1), by (with_reducible repeat (first | apply Kd.R_alloc | apply Kd.R_drewN | apply Kd.R_drew)); exact yf HO114.out BK101.out (fun _ hk => hk.1.1.1), zB1 HB.out GE101.out⟩
set_option maxHeartbeats 8000000 in
set_option maxRecDepth 100000 in
theorem r2_Int.calls (k : Nat) (a0 : Int) (r1 : Bool) (r2 : List Int) (r3 : List Int) (w : World) (h : r2_Int.f k a0 = some (r1, r2, r3)) :
    Calls Try.prog 48 #[.int .i64 a0] w fun e w' => ∃ v1_ v2_ : Value, e = .returned (.agg #[.bool r1, v1_, v2_]) ∧ Kd.R (Kd.int .u32) 97 w' w.heap.size (fun k_ => some k_ ≠ (v2_ : Value).ownBlock) v1_ r2 ∧ Kd.R (Kd.int .u32) 97 w' w.heap.size (fun k_ => some k_ ≠ (v1_ : Value).ownBlock) v2_ r3 ∧ Below w.heap.size w w' := by
 have hu60 := Try.underlying60
 have HB := Aside0.mk (Below.refl w.heap.size w)
 have H : ((r2_Of.f k a0 1).bind fun bt102 => (some (bt102.1, bt102.2.1, bt102.2.2))) = some (r1, r2, r3) := h
 clear h
 replace H := zb H
 obtain ⟨⟨t102, t103, t106⟩, A2, H⟩ := H
 dsimp only at H
 simp only [Option.some.injEq, Prod.mk.injEq] at H
 obtain ⟨rfl, rfl, rfl⟩ := H
 go_enter Try.func48, Try.ntmps48
 go_wp2_with (first | ((with_reducible refine gate_dst (N := 2) rfl ?_); refine box_event ?hg (N := 2) ?hd (cs := #[.bool false, .slice none 0 0, .slice none 0 0]) (t := 60) ?hr ?_; (case hd => rfl); (case hg => rfl); (case hr => first | (go_simp; done) | (go_simp; rfl)); intro gb101 hg w3 hbox hb; have BK101 := Aside0.mk (hbox); have GW101 := yg hg HB; have GE101 := yg hg HB; replace HB := yS HB hb; clear hb hbox hg) | ((with_reducible refine gC 97 ?_); refine zG (some 4) Try.func97 #[.int .i64 a0, .int .i64 1] ?_; (with_reducible refine (r2_Of.calls k a0 1 t102 t103 t106 _ A2.out).mono ?_); rintro e w4 ⟨v104, v107, rfl, ho0, ho1, hb⟩; refine ⟨_, rfl, ?_⟩; have HO105 := yRl1 ho0 HB GE101; have HO108 := yRl1 ho1 HB GE101; replace BK101 := yK BK101 hb; replace HB := yS1 HB GE101 hb; (try clear hb ho0); (try clear ho1); obtain ⟨hcz5_0, hcz5_1, hcz5_2, hfz5_0, hfz5_1, hfz5_2⟩ := zz3 BK101; obtain ⟨Ao6, co6, rfl⟩ := Kd.R_slice HO105.out; obtain ⟨Ao7, co7, rfl⟩ := Kd.R_slice HO108.out))
 refine bodyPost_ret (results_cell_row rfl _ _ gb101 60 #[.bool t102, .slice Ao6 t103.length co6, .slice Ao7 t106.length co7] (0, 0) _ rfl (zP3 BK101.out) Try.underlying60 rfl (by kernel_rfl)) rfl ?_
 exact ⟨_, _, zE, by (with_reducible repeat (first | apply Kd.R_alloc | apply Kd.R_drewN | apply Kd.R_drew)); exact yf HO105.out BK101.out (fun _ hk => hk.1), by (with_reducible repeat (first | apply Kd.R_alloc | apply Kd.R_drewN | apply Kd.R_drew)); exact yf HO108.out BK101.out (fun _ hk => hk.1), zB1 HB.out GE101.out⟩
set_option maxHeartbeats 8000000 in
set_option maxRecDepth 100000 in
theorem r1_Mul.calls (k : Nat) (A0 : Option Addr) (c0 : Nat) (l0 : List Int) (A1 : Option Addr) (c1 : Nat) (l1 : List Int) (r : List Int) (w : World) (hr0 : Kd.C (Kd.int .u32) w A0 l0.length l0) (hc0 : l0.length ≤ c0) (hr1 : Kd.C (Kd.int .u32) w A1 l1.length l1) (hc1 : l1.length ≤ c1) (h : r1_Mul.f k l0 l1 = some r) :
    Calls Try.prog 26 #[.slice A0 l0.length c0, .slice A1 l1.length c1] w fun e w' => ∃ v0_ : Value, e = .returned (v0_) ∧ Kd.R (Kd.int .u32) 97 w' w.heap.size (fun _ => True) v0_ r ∧ Below w.heap.size w w' := by
 have HR0 := Aside0.mk hr0
 have HC0 := Aside0.mk hc0
 clear hr0 hc0
 have HR1 := Aside0.mk hr1
 have HC1 := Aside0.mk hc1
 clear hr1 hc1
 have HB := Aside0.mk (Below.refl w.heap.size w)
 have H : (if 0 ≤ (wrap64 ((l0.length : Int) + (l1.length : Int))) then (if (wrap64 ((l0.length : Int) + (l1.length : Int)) : Int).toNat ≤ 70368744177664 then (r1_Mul.l0 k l0 l1 (List.replicate (wrap64 ((l0.length : Int) + (l1.length : Int)) : Int).toNat 0) 0) else (none)) else (none)) = some r := h
 clear h
 obtain ⟨ji3, hji3⟩ : ∃ j_ : Int, (wrap64 ((l0.length : Int) + (l1.length : Int))) = j_ := ⟨_, rfl⟩
 replace H : (if 0 ≤ (ji3) then (if (ji3 : Int).toNat ≤ 70368744177664 then (r1_Mul.l0 k l0 l1 (List.replicate (ji3 : Int).toNat 0) 0) else (none)) else (none)) = some r := by first | (rw [hji3] at H; exact H) | (simp only [hji3] at H ⊢; exact H)
 have hji3w : (IntKind.i64.wrap ((l0.length : Int) + (l1.length : Int))) = ji3 := (i64_w _).trans hji3
 replace H := zg H
 obtain ⟨c4, H⟩ := H
 have c4b0 := eq_true c4
 have c4b1 := decide_eq_true c4
 clear c4
 replace H := zg H
 obtain ⟨c5, H⟩ := H
 have c5b0 := eq_true c5
 have c5b1 := decide_eq_true c5
 clear c5
 obtain ⟨y101, hy101⟩ : ∃ y_ : List Int, y_ = (List.replicate (ji3 : Int).toNat 0) := ⟨_, rfl⟩
 replace H : (r1_Mul.l0 k l0 l1 y101 0) = some r := zY hy101 H
 have Ny101 := Aside0.mk hy101
 clear hy101
 have H' := Aside0.mk H
 clear H
 go_enter Try.func26, Try.ntmps26
 go_wp2_with (first | ((with_reducible refine gate_dst (N := 15) rfl ?_); refine Kd.R_make (Kd.int .u32) _ 97 rfl (N := 15) rfl 29 _ _ rfl ji3 rfl rfl Try.underlying29 (.int .u32 0) 4 info97 rfl (by decide) (by omega) 0 (ok := fun _ => True) (okp := fun _ => True) rfl (fun _ hk => hk) trivial zd (Nat.le_trans (Nat.mul_le_mul_right _ (zd : ji3.toNat ≤ 70368744177664)) (by omega)) (Below.refl _ _) (Nat.le_refl _) ?_; intro v102 w6 ho7 hb hg_ hnew_; clear hg_ hnew_; (first | rw [← Ny101.out] at ho7 | (simp only [Int.reduceToNat] at ho7; rw [← Ny101.out] at ho7)); have HO103 := yRl ho7 HB; replace HB := yS HB hb; clear hb ho7))
 repeat (go_quiet (first | ((with_reducible refine gate_dst (N := 15) rfl ?_); refine Kd.R_make (Kd.int .u32) _ 97 rfl (N := 15) rfl 29 _ _ rfl ji3 rfl rfl Try.underlying29 (.int .u32 0) 4 info97 rfl (by decide) (by omega) 0 (ok := fun _ => True) (okp := fun _ => True) rfl (fun _ hk => hk) trivial zd (Nat.le_trans (Nat.mul_le_mul_right _ (zd : ji3.toNat ≤ 70368744177664)) (by omega)) (Below.refl _ _) (Nat.le_refl _) ?_; intro v102 w6 ho7 hb hg_ hnew_; clear hg_ hnew_; (first | rw [← Ny101.out] at ho7 | (simp only [Int.reduceToNat] at ho7; rw [← Ny101.out] at ho7)); have HO103 := yRl ho7 HB; replace HB := yS HB hb; clear hb ho7)); try go_wp2_with (first | ((with_reducible refine gate_dst (N := 15) rfl ?_); refine Kd.R_make (Kd.int .u32) _ 97 rfl (N := 15) rfl 29 _ _ rfl ji3 rfl rfl Try.underlying29 (.int .u32 0) 4 info97 rfl (by decide) (by omega) 0 (ok := fun _ => True) (okp := fun _ => True) rfl (fun _ hk => hk) trivial zd (Nat.le_trans (Nat.mul_le_mul_right _ (zd : ji3.toNat ≤ 70368744177664)) (by omega)) (Below.refl _ _) (Nat.le_refl _) ?_; intro v102 w6 ho7 hb hg_ hnew_; clear hg_ hnew_; (first | rw [← Ny101.out] at ho7 | (simp only [Int.reduceToNat] at ho7; rw [← Ny101.out] at ho7)); have n0_ := yRl ho7 HB; have n1_ := yS HB hb; clear HB; have HO103 := n0_; have HB := n1_; clear n0_ n1_; clear hb ho7)))
 go_loopg [6] k (fun kq v6 w' => ∃ (x5_1 : List Int) (x6_1 : Int), v6 = .int .i64 x6_1 ∧ Aside0 (r1_Mul.l0 kq l0 l1 x5_1 x6_1 = some r) ∧ Aside0 (kq ≤ k) ∧ Aside0 (Kd.R (Kd.int .u32) 97 w' w.heap.size (fun _ => True) v102 x5_1) ∧ Aside0 (Below w.heap.size w w'))
 case atStart => exact ⟨(y101), (0), zF, H', ⟨Nat.le_refl _⟩, ⟨zR HO103.out⟩, ⟨zB HB.out⟩⟩
 clear H'
 (try clear c4);(try clear c4b0);(try clear c4b1);(try clear c5);(try clear c5b0);(try clear c5b1)
 obtain ⟨x5_1, x6_1, rfl, HA, HK1, HO_5, HB⟩ := hrel
 cases gk with | zero => exact absurd HA.out (by simp [r1_Mul.l0]) | succ k1 => ?_
 have H := HA.out
 clear HA
 simp only [r1_Mul.l0] at H
 replace H := zid H
 rcases H with ⟨c8b0, H⟩ | ⟨c8b0, H⟩
 · have H' := Aside0.mk H
   clear H
   go_wp2
   repeat (go_quiet (fail); try go_wp2)
   go_loopg [7, 8] k1 (fun kq v7 v8 w' => ∃ (x5_2 : List Int) (x7_2 : Int) (x8_2 : Int), v7 = .int .u64 x7_2 ∧ v8 = .int .i64 x8_2 ∧ Aside0 (r1_Mul.l1 kq l0 l1 x5_2 x6_1 x7_2 x8_2 = some r) ∧ Aside0 (kq ≤ k1) ∧ Aside0 (Kd.R (Kd.int .u32) 97 w' w.heap.size (fun _ => True) v102 x5_2) ∧ Aside0 (Below w.heap.size w w'))
   case atStart => exact ⟨(x5_1), (0), (0), zF, zF, H', ⟨Nat.le_refl _⟩, ⟨zR HO_5.out⟩, ⟨zB HB.out⟩⟩
   clear H'
   (try clear c4);(try clear c4b0);(try clear c4b1);(try clear c5);(try clear c5b0);(try clear c5b1);(try clear c8b0)
   obtain ⟨x5_2, x7_2, x8_2, rfl, rfl, HA, HK2, HO_5, HB⟩ := hrel
   cases gk with | zero => exact absurd HA.out (by simp [r1_Mul.l1]) | succ k2 => ?_
   have H := HA.out
   clear HA
   simp only [r1_Mul.l1] at H
   replace H := zid H
   rcases H with ⟨c9b0, H⟩ | ⟨c9b0, H⟩
   · replace H := zgd H
     obtain ⟨c10b0, H⟩ := H
     replace H := zgd H
     obtain ⟨c11b0, H⟩ := H
     replace H := zgd H
     obtain ⟨c12b0, H⟩ := H
     obtain ⟨ji13, hji13⟩ : ∃ j_ : Int, (wrap64 (x6_1 + x8_2)) = j_ := ⟨_, rfl⟩
     replace H : (if 0 ≤ (ji13) then (if (ji13) < (x5_2.length : Int) then (r1_Mul.l1 k2 l0 l1 (x5_2.set ((ji13) : Int).toNat ((Int.tmod (IntKind.u64.wrap ((IntKind.u64.wrap ((IntKind.u64.wrap ((IntKind.u64.wrap (rd l0 x6_1)) * (IntKind.u64.wrap (rd l1 x8_2)))) + (IntKind.u64.wrap (rd x5_2 (ji13))))) + x7_2)) 4294967296) % 4294967296)) x6_1 (IntKind.u64.wrap (Int.tdiv (IntKind.u64.wrap ((IntKind.u64.wrap ((IntKind.u64.wrap ((IntKind.u64.wrap (rd l0 x6_1)) * (IntKind.u64.wrap (rd l1 x8_2)))) + (IntKind.u64.wrap (rd x5_2 (ji13))))) + x7_2)) 4294967296)) (wrap64 (x8_2 + 1))) else (none)) else (none)) = some r := by first | (rw [hji13] at H; exact H) | (simp only [hji13] at H ⊢; exact H)
     have hji13w : (IntKind.i64.wrap (x6_1 + x8_2)) = ji13 := (i64_w _).trans hji13
     replace H := zgd H
     obtain ⟨c14b0, H⟩ := H
     replace H := zgd H
     obtain ⟨c15b0, H⟩ := H
     obtain ⟨y110, hy110⟩ : ∃ y_ : List Int, y_ = (x5_2.set ((ji13) : Int).toNat ((Int.tmod (IntKind.u64.wrap ((IntKind.u64.wrap ((IntKind.u64.wrap ((IntKind.u64.wrap (rd l0 x6_1)) * (IntKind.u64.wrap (rd l1 x8_2)))) + (IntKind.u64.wrap (rd x5_2 (ji13))))) + x7_2)) 4294967296) % 4294967296)) := ⟨_, rfl⟩
     replace H : (r1_Mul.l1 k2 l0 l1 y110 x6_1 (IntKind.u64.wrap (Int.tdiv (IntKind.u64.wrap ((IntKind.u64.wrap ((IntKind.u64.wrap ((IntKind.u64.wrap (rd l0 x6_1)) * (IntKind.u64.wrap (rd l1 x8_2)))) + (IntKind.u64.wrap (rd x5_2 (ji13))))) + x7_2)) 4294967296)) (wrap64 (x8_2 + 1))) = some r := zY hy110 H
     have Ny110 := Aside0.mk hy110
     clear hy110
     have H' := Aside0.mk H
     clear H
     have p107 : 0 ≤ (x6_1 : Int) := zd
     have q107 : x6_1 < (l0.length : Int) := zd
     obtain ⟨ad107, e107, hx107_0⟩ := Kd.at_int HR0.out x6_1 p107 q107
     cases e107
     replace hx107_0 := (HB.out.cell (World.block_lt_of_cell? w _ hx107_0)).trans hx107_0
     replace p107 := eq_true p107
     replace q107 := eq_true q107
     have p108 : 0 ≤ (x8_2 : Int) := zd
     have q108 : x8_2 < (l1.length : Int) := zd
     obtain ⟨ad108, e108, hx108_0⟩ := Kd.at_int HR1.out x8_2 p108 q108
     cases e108
     replace hx108_0 := (HB.out.cell (World.block_lt_of_cell? w _ hx108_0)).trans hx108_0
     replace p108 := eq_true p108
     replace q108 := eq_true q108
     obtain ⟨Ao17, co17, rfl⟩ := Kd.R_slice HO_5.out
     have p109 : 0 ≤ ((ji13) : Int) := zd
     have q109 : (ji13) < (x5_2.length : Int) := zd
     obtain ⟨ad109, e109, hx109_0⟩ := Kd.at_int (Kd.R_reads' HO_5.out).2.2 (ji13) p109 q109
     cases e109
     replace p109 := eq_true p109
     replace q109 := eq_true q109
     have p16 : 0 ≤ ((ji13) : Int) := zd
     have q16 : ((ji13) : Int) < ((x5_2.length : Int) : Int) := zd
     obtain ⟨go16, co16, eo16, gb16, gl16, cl16, HG16⟩ := Kd.R_form HO_5.out (by omega)
     (first | cases eo16 | (injection eo16 with ea_ en_ ec_; (first | subst ea_ | (injection ea_ with ea_; subst ea_)); subst ec_; clear en_))
     have GB16 := Aside0.mk gb16
     have GG16 := Aside0.mk HG16
     clear gb16 gl16 HG16
     (first | simp only [add_plain] at hx109_0 | skip)
     obtain ⟨hx16_0, hf16_0⟩ := Kd.R_celln 0 HO_5.out ((ji13) : Int) p16 q16
     replace p16 := eq_true p16
     replace q16 := eq_true q16
     obtain ⟨hy18_, hz18_⟩ := Kd.R_celln 0 HO_5.out ((ji13) : Int) zd zd
     have HP18 := Kd.R_putg HO_5.out ((ji13) : Int) ((Int.tmod (IntKind.u64.wrap ((IntKind.u64.wrap ((IntKind.u64.wrap ((IntKind.u64.wrap (rd l0 x6_1)) * (IntKind.u64.wrap (rd l1 x8_2)))) + (IntKind.u64.wrap (rd x5_2 (ji13))))) + x7_2)) 4294967296) % 4294967296)
     go_wp2_with (first | ((with_reducible refine gate_store (t := 97) (p := 56) rfl ?_); (try (rw [drewN_self wr]; generalize hq_ : World.drewN wr _ = wr; have n0_ := Aside0.mk (Kd.R_at hq_ HO_5.out); have n1_ := Aside0.mk (below_at hq_ HB.out); clear hq_ HO_5 HB; have HO_5 := n0_; have HB := n1_; clear n0_ n1_; (try (obtain ⟨hy18_, hz18_⟩ := Kd.R_celln 0 HO_5.out ((ji13) : Int) zd zd)); (try (have HP18 := Kd.R_putg HO_5.out ((ji13) : Int) ((Int.tmod (IntKind.u64.wrap ((IntKind.u64.wrap ((IntKind.u64.wrap ((IntKind.u64.wrap (rd l0 x6_1)) * (IntKind.u64.wrap (rd l1 x8_2)))) + (IntKind.u64.wrap (rd x5_2 (ji13))))) + x7_2)) 4294967296) % 4294967296))))); refine store_event (t := 97) (p := 56) (v := ?vo_w19) (w1 := (wr.setCell ⟨go16, ((ji13) : Int).toNat, none⟩ (.int .u32 ((Int.tmod (IntKind.u64.wrap ((IntKind.u64.wrap ((IntKind.u64.wrap ((IntKind.u64.wrap (rd l0 x6_1)) * (IntKind.u64.wrap (rd l1 x8_2)))) + (IntKind.u64.wrap (rd x5_2 (ji13))))) + x7_2)) 4294967296) % 4294967296)))) ?hg ?ho ?hn ?hr ?_; (case ho => rfl); (case hg => rfl); (case hn => rfl); (case hr => first | (go_simp; done) | (go_simp; rfl)); intro w19 hw; have hg : wr.grownBy w19 (some go16) := (by rw [hw]; exact HP18.2); have hp_ : Kd.R (Kd.int .u32) 97 w19 w.heap.size (fun _ => True) (.slice (some ⟨go16, 0, none⟩) x5_2.length co17) y110 := (by rw [hw, Ny110.out]; exact HP18.1); clear HP18; replace HO_5 := Aside0.mk (hp_); replace HB := Aside0.mk ((by rw [hw]; exact below_set (HB.out) GB16.out : Below w.heap.size w w19)); clear hg hw hp_))
     repeat (go_quiet (first | ((with_reducible refine gate_store (t := 97) (p := 56) rfl ?_); (try (rw [drewN_self wr]; generalize hq_ : World.drewN wr _ = wr; have n0_ := Aside0.mk (Kd.R_at hq_ HO_5.out); have n1_ := Aside0.mk (below_at hq_ HB.out); clear hq_ HO_5 HB; have HO_5 := n0_; have HB := n1_; clear n0_ n1_; (try (obtain ⟨hy18_, hz18_⟩ := Kd.R_celln 0 HO_5.out ((ji13) : Int) zd zd)); (try (have HP18 := Kd.R_putg HO_5.out ((ji13) : Int) ((Int.tmod (IntKind.u64.wrap ((IntKind.u64.wrap ((IntKind.u64.wrap ((IntKind.u64.wrap (rd l0 x6_1)) * (IntKind.u64.wrap (rd l1 x8_2)))) + (IntKind.u64.wrap (rd x5_2 (ji13))))) + x7_2)) 4294967296) % 4294967296))))); refine store_event (t := 97) (p := 56) (v := ?vo_w19) (w1 := (wr.setCell ⟨go16, ((ji13) : Int).toNat, none⟩ (.int .u32 ((Int.tmod (IntKind.u64.wrap ((IntKind.u64.wrap ((IntKind.u64.wrap ((IntKind.u64.wrap (rd l0 x6_1)) * (IntKind.u64.wrap (rd l1 x8_2)))) + (IntKind.u64.wrap (rd x5_2 (ji13))))) + x7_2)) 4294967296) % 4294967296)))) ?hg ?ho ?hn ?hr ?_; (case ho => rfl); (case hg => rfl); (case hn => rfl); (case hr => first | (go_simp; done) | (go_simp; rfl)); intro w19 hw; have hg : wr.grownBy w19 (some go16) := (by rw [hw]; exact HP18.2); have hp_ : Kd.R (Kd.int .u32) 97 w19 w.heap.size (fun _ => True) (.slice (some ⟨go16, 0, none⟩) x5_2.length co17) y110 := (by rw [hw, Ny110.out]; exact HP18.1); clear HP18; replace HO_5 := Aside0.mk (hp_); replace HB := Aside0.mk ((by rw [hw]; exact below_set (HB.out) GB16.out : Below w.heap.size w w19)); clear hg hw hp_)); try go_wp2_with (first | ((with_reducible refine gate_store (t := 97) (p := 56) rfl ?_); (try (rw [drewN_self wr]; generalize hq_ : World.drewN wr _ = wr; have n0_ := Aside0.mk (Kd.R_at hq_ HO_5.out); have n1_ := Aside0.mk (below_at hq_ HB.out); clear hq_ HO_5 HB; have HO_5 := n0_; have HB := n1_; clear n0_ n1_; (try (obtain ⟨hy18_, hz18_⟩ := Kd.R_celln 0 HO_5.out ((ji13) : Int) zd zd)); (try (have HP18 := Kd.R_putg HO_5.out ((ji13) : Int) ((Int.tmod (IntKind.u64.wrap ((IntKind.u64.wrap ((IntKind.u64.wrap ((IntKind.u64.wrap (rd l0 x6_1)) * (IntKind.u64.wrap (rd l1 x8_2)))) + (IntKind.u64.wrap (rd x5_2 (ji13))))) + x7_2)) 4294967296) % 4294967296))))); refine store_event (t := 97) (p := 56) (v := ?vo_w19) (w1 := (wr.setCell ⟨go16, ((ji13) : Int).toNat, none⟩ (.int .u32 ((Int.tmod (IntKind.u64.wrap ((IntKind.u64.wrap ((IntKind.u64.wrap ((IntKind.u64.wrap (rd l0 x6_1)) * (IntKind.u64.wrap (rd l1 x8_2)))) + (IntKind.u64.wrap (rd x5_2 (ji13))))) + x7_2)) 4294967296) % 4294967296)))) ?hg ?ho ?hn ?hr ?_; (case ho => rfl); (case hg => rfl); (case hn => rfl); (case hr => first | (go_simp; done) | (go_simp; rfl)); intro w19 hw; have hg : wr.grownBy w19 (some go16) := (by rw [hw]; exact HP18.2); have hp_ : Kd.R (Kd.int .u32) 97 w19 w.heap.size (fun _ => True) (.slice (some ⟨go16, 0, none⟩) x5_2.length co17) y110 := (by rw [hw, Ny110.out]; exact HP18.1); clear HP18; have n0_ := Aside0.mk (hp_); have n1_ := Aside0.mk ((by rw [hw]; exact below_set (HB.out) GB16.out : Below w.heap.size w w19)); clear HO_5; clear HB; have HO_5 := n0_; have HB := n1_; clear n0_ n1_; clear hg hw hp_)))
     go_roundg k2
     case measure => have := HK1.out; have := HK2.out; omega
     case rel => exact ⟨(y110), (IntKind.u64.wrap (Int.tdiv (IntKind.u64.wrap ((IntKind.u64.wrap ((IntKind.u64.wrap ((IntKind.u64.wrap (rd l0 x6_1)) * (IntKind.u64.wrap (rd l1 x8_2)))) + (IntKind.u64.wrap (rd x5_2 (ji13))))) + x7_2)) 4294967296)), (wrap64 (x8_2 + 1)), (by first | rfl | (simp; done) | (simp only [← hji13] <;> (first | rfl | simp)) | (simp [*]; done)), zF, H', ⟨zo2 HK1 HK2⟩, ⟨zR HO_5.out⟩, ⟨zB HB.out⟩⟩
   obtain ⟨ji20, hji20⟩ : ∃ j_ : Int, (wrap64 (x6_1 + (l1.length : Int))) = j_ := ⟨_, rfl⟩
   replace H : (if 0 ≤ (ji20) then (if (ji20) < (x5_2.length : Int) then (r1_Mul.l0 k2 l0 l1 (x5_2.set ((ji20) : Int).toNat ((x7_2) % 4294967296)) (wrap64 (x6_1 + 1))) else (none)) else (none)) = some r := by first | (rw [hji20] at H; exact H) | (simp only [hji20] at H ⊢; exact H)
   have hji20w : (IntKind.i64.wrap (x6_1 + (l1.length : Int))) = ji20 := (i64_w _).trans hji20
   replace H := zgd H
   obtain ⟨c21b0, H⟩ := H
   replace H := zgd H
   obtain ⟨c22b0, H⟩ := H
   obtain ⟨y111, hy111⟩ : ∃ y_ : List Int, y_ = (x5_2.set ((ji20) : Int).toNat ((x7_2) % 4294967296)) := ⟨_, rfl⟩
   replace H : (r1_Mul.l0 k2 l0 l1 y111 (wrap64 (x6_1 + 1))) = some r := zY hy111 H
   have Ny111 := Aside0.mk hy111
   clear hy111
   have H' := Aside0.mk H
   clear H
   have p23 : 0 ≤ ((ji20) : Int) := zd
   have q23 : ((ji20) : Int) < ((x5_2.length : Int) : Int) := zd
   obtain ⟨go23, co23, eo23, gb23, gl23, cl23, HG23⟩ := Kd.R_form HO_5.out (by omega)
   (first | cases eo23 | (injection eo23 with ea_ en_ ec_; (first | subst ea_ | (injection ea_ with ea_; subst ea_)); subst ec_; clear en_))
   have GB23 := Aside0.mk gb23
   have GG23 := Aside0.mk HG23
   clear gb23 gl23 HG23
   obtain ⟨hx23_0, hf23_0⟩ := Kd.R_celln 0 HO_5.out ((ji20) : Int) p23 q23
   replace p23 := eq_true p23
   replace q23 := eq_true q23
   obtain ⟨hy24_, hz24_⟩ := Kd.R_celln 0 HO_5.out ((ji20) : Int) zd zd
   have HP24 := Kd.R_putg HO_5.out ((ji20) : Int) ((x7_2) % 4294967296)
   go_wp2_with (first | ((with_reducible refine gate_store (t := 97) (p := 66) rfl ?_); (try (rw [drewN_self wr]; generalize hq_ : World.drewN wr _ = wr; have n0_ := Aside0.mk (Kd.R_at hq_ HO_5.out); have n1_ := Aside0.mk (below_at hq_ HB.out); clear hq_ HO_5 HB; have HO_5 := n0_; have HB := n1_; clear n0_ n1_; (try (obtain ⟨hy24_, hz24_⟩ := Kd.R_celln 0 HO_5.out ((ji20) : Int) zd zd)); (try (have HP24 := Kd.R_putg HO_5.out ((ji20) : Int) ((x7_2) % 4294967296))))); refine store_event (t := 97) (p := 66) (v := ?vo_w25) (w1 := (wr.setCell ⟨go23, ((ji20) : Int).toNat, none⟩ (.int .u32 ((x7_2) % 4294967296)))) ?hg ?ho ?hn ?hr ?_; (case ho => rfl); (case hg => rfl); (case hn => rfl); (case hr => first | (go_simp; done) | (go_simp; rfl)); intro w25 hw; have hg : wr.grownBy w25 (some go23) := (by rw [hw]; exact HP24.2); have hp_ : Kd.R (Kd.int .u32) 97 w25 w.heap.size (fun _ => True) (.slice (some ⟨go23, 0, none⟩) x5_2.length co23) y111 := (by rw [hw, Ny111.out]; exact HP24.1); clear HP24; replace HO_5 := Aside0.mk (hp_); replace HB := Aside0.mk ((by rw [hw]; exact below_set (HB.out) GB23.out : Below w.heap.size w w25)); clear hg hw hp_))
   repeat (go_quiet (first | ((with_reducible refine gate_store (t := 97) (p := 66) rfl ?_); (try (rw [drewN_self wr]; generalize hq_ : World.drewN wr _ = wr; have n0_ := Aside0.mk (Kd.R_at hq_ HO_5.out); have n1_ := Aside0.mk (below_at hq_ HB.out); clear hq_ HO_5 HB; have HO_5 := n0_; have HB := n1_; clear n0_ n1_; (try (obtain ⟨hy24_, hz24_⟩ := Kd.R_celln 0 HO_5.out ((ji20) : Int) zd zd)); (try (have HP24 := Kd.R_putg HO_5.out ((ji20) : Int) ((x7_2) % 4294967296))))); refine store_event (t := 97) (p := 66) (v := ?vo_w25) (w1 := (wr.setCell ⟨go23, ((ji20) : Int).toNat, none⟩ (.int .u32 ((x7_2) % 4294967296)))) ?hg ?ho ?hn ?hr ?_; (case ho => rfl); (case hg => rfl); (case hn => rfl); (case hr => first | (go_simp; done) | (go_simp; rfl)); intro w25 hw; have hg : wr.grownBy w25 (some go23) := (by rw [hw]; exact HP24.2); have hp_ : Kd.R (Kd.int .u32) 97 w25 w.heap.size (fun _ => True) (.slice (some ⟨go23, 0, none⟩) x5_2.length co23) y111 := (by rw [hw, Ny111.out]; exact HP24.1); clear HP24; replace HO_5 := Aside0.mk (hp_); replace HB := Aside0.mk ((by rw [hw]; exact below_set (HB.out) GB23.out : Below w.heap.size w w25)); clear hg hw hp_)); try go_wp2_with (first | ((with_reducible refine gate_store (t := 97) (p := 66) rfl ?_); (try (rw [drewN_self wr]; generalize hq_ : World.drewN wr _ = wr; have n0_ := Aside0.mk (Kd.R_at hq_ HO_5.out); have n1_ := Aside0.mk (below_at hq_ HB.out); clear hq_ HO_5 HB; have HO_5 := n0_; have HB := n1_; clear n0_ n1_; (try (obtain ⟨hy24_, hz24_⟩ := Kd.R_celln 0 HO_5.out ((ji20) : Int) zd zd)); (try (have HP24 := Kd.R_putg HO_5.out ((ji20) : Int) ((x7_2) % 4294967296))))); refine store_event (t := 97) (p := 66) (v := ?vo_w25) (w1 := (wr.setCell ⟨go23, ((ji20) : Int).toNat, none⟩ (.int .u32 ((x7_2) % 4294967296)))) ?hg ?ho ?hn ?hr ?_; (case ho => rfl); (case hg => rfl); (case hn => rfl); (case hr => first | (go_simp; done) | (go_simp; rfl)); intro w25 hw; have hg : wr.grownBy w25 (some go23) := (by rw [hw]; exact HP24.2); have hp_ : Kd.R (Kd.int .u32) 97 w25 w.heap.size (fun _ => True) (.slice (some ⟨go23, 0, none⟩) x5_2.length co23) y111 := (by rw [hw, Ny111.out]; exact HP24.1); clear HP24; have n0_ := Aside0.mk (hp_); have n1_ := Aside0.mk ((by rw [hw]; exact below_set (HB.out) GB23.out : Below w.heap.size w w25)); clear HO_5; clear HB; have HO_5 := n0_; have HB := n1_; clear n0_ n1_; clear hg hw hp_)))
   go_roundg k2
   case measure => have := HK1.out; have := HK2.out; omega
   case rel => exact ⟨(y111), (wrap64 (x6_1 + 1)), zF, H', ⟨zo2 HK1 HK2⟩, ⟨zR HO_5.out⟩, ⟨zB HB.out⟩⟩
 replace H := zb H
 obtain ⟨t104, A26, H⟩ := H
 obtain rfl := Option.some.inj H
 obtain ⟨Ao27, co27, rfl⟩ := Kd.R_slice HO_5.out
 go_wp2_with (first | (go_at_call 75; (with_reducible refine (r1_Trim.calls k1 _ _ x5_1 t104 _ ?side1 ?side2 A26.out).mono ?_); (case side1 => exact zC (Kd.R_reads' HO_5.out).2.2); (case side2 => exact (Kd.R_reads' HO_5.out).2.1); rintro e w28 ⟨v105, rfl, ho0, hb⟩; replace ho0 := yn ho0 HO_5; have HO106 := yRl ho0 HB; replace HO_5 := yRe HO_5 ho0 hb; replace HB := yS HB hb; (try clear hb ho0)))
 repeat (go_quiet (first | (go_at_call 75; (with_reducible refine (r1_Trim.calls k1 _ _ x5_1 t104 _ ?side1 ?side2 A26.out).mono ?_); (case side1 => exact zC (Kd.R_reads' HO_5.out).2.2); (case side2 => exact (Kd.R_reads' HO_5.out).2.1); rintro e w28 ⟨v105, rfl, ho0, hb⟩; replace ho0 := yn ho0 HO_5; have HO106 := yRl ho0 HB; replace HO_5 := yRe HO_5 ho0 hb; replace HB := yS HB hb; (try clear hb ho0))); try go_wp2_with (first | (go_at_call 75; (with_reducible refine (r1_Trim.calls k1 _ _ x5_1 t104 _ ?side1 ?side2 A26.out).mono ?_); (case side1 => exact zC (Kd.R_reads' HO_5.out).2.2); (case side2 => exact (Kd.R_reads' HO_5.out).2.1); rintro e w28 ⟨v105, rfl, ho0, hb⟩; have n0_ := yRe HO_5 ho0 hb; have n1_ := Aside0.mk (Kd.R_lower (Kd.R_new' ho0 (Kd.R_lt (zR HO_5.out))) (below_size (zB HB.out))); have n2_ := yS HB hb; clear HO_5; clear HB; have HO_5 := n0_; have HO106 := n1_; have HB := n2_; clear n0_ n1_ n2_; (try clear hb); (try clear hb2); (try clear hk); (try clear hi); (try clear ho0))))
 go_ret
 exact ⟨_, by first | rfl | (simp [errW_none, errW_some] <;> rfl) | (simp only [← hji3]; first | rfl | (simp [errW_none, errW_some] <;> rfl)) | (simp [*, errW_none, errW_some] <;> rfl), by (with_reducible repeat (first | apply Kd.R_alloc | apply Kd.R_drewN | apply Kd.R_drew)); exact Kd.R_mono HO106.out (fun _ hk => trivial), zB HB.out⟩
set_option maxHeartbeats 8000000 in
set_option maxRecDepth 100000 in
theorem r2_Trim.calls (k : Nat) (a0_0 : Bool) (A0_1 : Option Addr) (c0_1 : Nat) (l0_1 : List Int) (A0_2 : Option Addr) (c0_2 : Nat) (l0_2 : List Int) (r1 : Bool) (r2 : List Int) (r3 : List Int) (w : World) (hr0_1 : Kd.C (Kd.int .u32) w A0_1 l0_1.length l0_1) (hc0_1 : l0_1.length ≤ c0_1) (hr0_2 : Kd.C (Kd.int .u32) w A0_2 l0_2.length l0_2) (hc0_2 : l0_2.length ≤ c0_2) (h : r2_Trim.f k a0_0 l0_1 l0_2 = some (r1, r2, r3)) :
    Calls Try.prog 99 #[.agg #[.bool a0_0, .slice A0_1 l0_1.length c0_1, .slice A0_2 l0_2.length c0_2]] w fun e w' => ∃ v1_ v2_ : Value, e = .returned (.agg #[.bool r1, v1_, v2_]) ∧ Kd.R (Kd.int .u32) 97 w' w.heap.size (fun k_ => some k_ ≠ (v2_ : Value).ownBlock) v1_ r2 ∧ Kd.R (Kd.int .u32) 97 w' w.heap.size (fun k_ => some k_ ≠ (v1_ : Value).ownBlock) v2_ r3 ∧ Below w.heap.size w w' := by
 have hu60 := Try.underlying60
 have HR0_1 := Aside0.mk hr0_1
 have HC0_1 := Aside0.mk hc0_1
 clear hr0_1 hc0_1
 have HR0_2 := Aside0.mk hr0_2
 have HC0_2 := Aside0.mk hc0_2
 clear hr0_2 hc0_2
 have HB := Aside0.mk (Below.refl w.heap.size w)
 have H : ((r2_Make.f k a0_0 l0_1 l0_2).bind fun bt103 => (some (bt103.1, bt103.2.1, bt103.2.2))) = some (r1, r2, r3) := h
 clear h
 replace H := zb H
 obtain ⟨⟨t103, t104, t107⟩, A2, H⟩ := H
 dsimp only at H
 simp only [Option.some.injEq, Prod.mk.injEq] at H
 obtain ⟨rfl, rfl, rfl⟩ := H
 go_enter Try.func99, Try.ntmps99
 go_wp2_with (first | ((with_reducible refine gate_dst (N := 1) rfl ?_); refine box_event ?hg (N := 1) ?hd (cs := #[.bool a0_0, .slice A0_1 l0_1.length c0_1, .slice A0_2 l0_2.length c0_2]) (t := 60) ?hr ?_; (case hd => rfl); (case hg => rfl); (case hr => first | (go_simp; done) | (go_simp; rfl)); intro gb101 hg w3 hbox hb; have BK101 := Aside0.mk (hbox); have GW101 := yg hg HB; have GE101 := yg hg HB; replace HB := yS HB hb; clear hb hbox hg) | ((with_reducible refine gate_dst (N := 2) rfl ?_); refine box_event ?hg (N := 2) ?hd (cs := #[.bool false, .slice none 0 0, .slice none 0 0]) (t := 60) ?hr ?_; (case hd => rfl); (case hg => rfl); (case hr => first | (go_simp; done) | (go_simp; rfl)); intro gb102 hg w4 hbox hb; have BK102 := Aside0.mk (hbox); have GW102 := yg1 hg HB GE101; have GE102 := yg1 hg HB GE101; replace HB := yS1 HB GE101 hb; have NB101_102 := ynl hg BK101; have NB102_101 := yng hg BK101; replace BK101 := yK BK101 hb; clear hb hbox hg; have hnb5 := NB101_102.out; have hnc5 := NB102_101.out; obtain ⟨hcz6_0, hcz6_1, hcz6_2, hfz6_0, hfz6_1, hfz6_2⟩ := zz3 BK101) | ((with_reducible refine gC 90 ?_); refine zG (some 9) Try.func90 #[.bool a0_0, .slice A0_1 l0_1.length c0_1, .slice A0_2 l0_2.length c0_2] ?_; (with_reducible refine (r2_Make.calls k a0_0 _ _ l0_1 _ _ l0_2 t103 t104 t107 _ ?side1 ?side2 ?side3 ?side4 A2.out).mono ?_); (case side1 => exact zC (Kd.C_below HR0_1.out HB.out)); (case side2 => exact HC0_1.out); (case side3 => exact zC (Kd.C_below HR0_2.out HB.out)); (case side4 => exact HC0_2.out); rintro e w7 ⟨v105, v108, rfl, ho0, ho1, hb⟩; refine ⟨_, rfl, ?_⟩; have HO106 := yRl2 ho0 HB GE101 GE102; have HO109 := yRl2 ho1 HB GE101 GE102; replace BK101 := yK BK101 hb; replace BK102 := yK BK102 hb; replace HB := yS2 HB GE101 GE102 hb; (try clear hb ho0); (try clear ho1); obtain ⟨hcz8_0, hcz8_1, hcz8_2, hfz8_0, hfz8_1, hfz8_2⟩ := zz3 BK102; obtain ⟨Ao9, co9, rfl⟩ := Kd.R_slice HO106.out; obtain ⟨Ao10, co10, rfl⟩ := Kd.R_slice HO109.out))
 refine bodyPost_ret (results_cell_row rfl _ _ gb102 60 #[.bool t103, .slice Ao9 t104.length co9, .slice Ao10 t107.length co10] (0, 0) _ rfl (zP3 BK102.out) Try.underlying60 rfl (by kernel_rfl)) rfl ?_
 exact ⟨_, _, zE, by (with_reducible repeat (first | apply Kd.R_alloc | apply Kd.R_drewN | apply Kd.R_drew)); exact yf HO106.out BK102.out (fun _ hk => hk.1), by (with_reducible repeat (first | apply Kd.R_alloc | apply Kd.R_drewN | apply Kd.R_drew)); exact yf HO109.out BK102.out (fun _ hk => hk.1), zB2 HB.out GE101.out GE102.out⟩
def r2_Add.T7 : Bool × List (List Nat × List Nat) := (true, [([], []), ([0], [0]), ([], []), ([], []), ([2, 3], [2, 3]), ([], []), ([1, 4, 5, 4], [1, 4, 5]), ([6, 6, 0, 1, 2, 3, 4, 5, 6], [6])])
def r2_Add.B7 : List Nat := [0, 1, 0, 0, 12, 0, 63, 127]
theorem r2_Add.tab7 : rtab .any (opsOf Try.f50 7) = r2_Add.T7 := by kernel_rfl
theorem r2_Add.bits7 : waitsOk r2_Add.T7.2 r2_Add.B7 = true := by kernel_rfl
def r2_Add.T9 : Bool × List (List Nat × List Nat) := (true, [([], []), ([0], [0]), ([], []), ([], []), ([2, 3], [2, 3]), ([], []), ([1, 4, 5, 4], [1, 4, 5]), ([6, 6, 0, 1, 2, 3, 4, 5, 6], [6])])
def r2_Add.B9 : List Nat := [0, 1, 0, 0, 12, 0, 63, 127]
theorem r2_Add.tab9 : rtab .any (opsOf Try.f50 9) = r2_Add.T9 := by kernel_rfl
theorem r2_Add.bits9 : waitsOk r2_Add.T9.2 r2_Add.B9 = true := by kernel_rfl
def r2_Add.T10 : Bool × List (List Nat × List Nat) := (true, [([], []), ([0], [0]), ([], []), ([], []), ([2, 3], [2, 3]), ([], []), ([1, 4, 5, 4], [1, 4, 5]), ([6, 6, 0, 1, 2, 3, 4, 5, 6], [6])])
def r2_Add.B10 : List Nat := [0, 1, 0, 0, 12, 0, 63, 127]
theorem r2_Add.tab10 : rtab .any (opsOf Try.f50 10) = r2_Add.T10 := by kernel_rfl
theorem r2_Add.bits10 : waitsOk r2_Add.T10.2 r2_Add.B10 = true := by kernel_rfl
set_option maxHeartbeats 8000000 in
set_option maxRecDepth 100000 in
theorem r2_Add.calls (k : Nat) (a0_0 : Bool) (A0_1 : Option Addr) (c0_1 : Nat) (l0_1 : List Int) (A0_2 : Option Addr) (c0_2 : Nat) (l0_2 : List Int) (a1_0 : Bool) (A1_1 : Option Addr) (c1_1 : Nat) (l1_1 : List Int) (A1_2 : Option Addr) (c1_2 : Nat) (l1_2 : List Int) (r1 : Bool) (r2 : List Int) (r3 : List Int) (w : World) (hr0_1 : Kd.C (Kd.int .u32) w A0_1 l0_1.length l0_1) (hc0_1 : l0_1.length ≤ c0_1) (hr0_2 : Kd.C (Kd.int .u32) w A0_2 l0_2.length l0_2) (hc0_2 : l0_2.length ≤ c0_2) (hr1_1 : Kd.C (Kd.int .u32) w A1_1 l1_1.length l1_1) (hc1_1 : l1_1.length ≤ c1_1) (hr1_2 : Kd.C (Kd.int .u32) w A1_2 l1_2.length l1_2) (hc1_2 : l1_2.length ≤ c1_2) (h : r2_Add.f k a0_0 l0_1 l0_2 a1_0 l1_1 l1_2 = some (r1, r2, r3)) :
    Calls Try.prog 50 #[.agg #[.bool a0_0, .slice A0_1 l0_1.length c0_1, .slice A0_2 l0_2.length c0_2], .agg #[.bool a1_0, .slice A1_1 l1_1.length c1_1, .slice A1_2 l1_2.length c1_2]] w fun e w' => ∃ v1_ v2_ : Value, e = .returned (.agg #[.bool r1, v1_, v2_]) ∧ Kd.R (Kd.int .u32) 97 w' w.heap.size (fun k_ => some k_ ≠ (v2_ : Value).ownBlock) v1_ r2 ∧ Kd.R (Kd.int .u32) 97 w' w.heap.size (fun k_ => some k_ ≠ (v1_ : Value).ownBlock) v2_ r3 ∧ Below w.heap.size w w' := by
 have hu60 := Try.underlying60
 have HR0_1 := Aside0.mk hr0_1
 have HC0_1 := Aside0.mk hc0_1
 clear hr0_1 hc0_1
 have HR0_2 := Aside0.mk hr0_2
 have HC0_2 := Aside0.mk hc0_2
 clear hr0_2 hc0_2
 have HR1_1 := Aside0.mk hr1_1
 have HC1_1 := Aside0.mk hc1_1
 clear hr1_1 hc1_1
 have HR1_2 := Aside0.mk hr1_2
 have HC1_2 := Aside0.mk hc1_2
 clear hr1_2 hc1_2
 have HB := Aside0.mk (Below.refl w.heap.size w)
 have H : ((r2_Trim.f k a0_0 l0_1 l0_2).bind fun bt104 => ((r2_Trim.f k a1_0 l1_1 l1_2).bind fun bt111 => ((r1_Mul.f k bt104.2.1 bt111.2.2).bind fun t118 => ((r1_Mul.f k bt111.2.1 bt104.2.2).bind fun t121 => ((r1_Mul.f k bt104.2.2 bt111.2.2).bind fun t124 => (if (bt104.1 == bt111.1) = true then ((r1_Add.f k t118 t121).bind fun t127 => ((r2_Make.f k bt104.1 t127 t124).bind fun bt130 => (some (bt130.1, bt130.2.1, bt130.2.2)))) else ((r1_Cmp.f k t118 t121).bind fun t137 => (if t137 ≥ 0 then ((r1_Sub.f k t118 t121).bind fun t138 => ((r2_Make.f k bt104.1 t138 t124).bind fun bt141 => (some (bt141.1, bt141.2.1, bt141.2.2)))) else ((r1_Sub.f k t121 t118).bind fun t148 => ((r2_Make.f k bt111.1 t148 t124).bind fun bt151 => (some (bt151.1, bt151.2.1, bt151.2.2)))))))))))) = some (r1, r2, r3) := h
 clear h
 replace H := zb H
 obtain ⟨⟨t104, t105, t108⟩, A3, H⟩ := H
 dsimp only at H
 replace H := zb H
 obtain ⟨⟨t111, t112, t115⟩, A4, H⟩ := H
 dsimp only at H
 replace H := zb H
 obtain ⟨t118, A5, H⟩ := H
 replace H := zb H
 obtain ⟨t121, A6, H⟩ := H
 replace H := zb H
 obtain ⟨t124, A7, H⟩ := H
 replace H := zi H
 rcases H with ⟨c8, H⟩ | ⟨c8, H⟩
 · have c8b0 : (t104 == t111) = true := c8
   (try (have c8b1 : decide (t104 = t111) = true := by simpa using c8))
   (try (have c8b2 : (t104 == t111) = true := by simpa using c8))
   clear c8
   replace H := zb H
   obtain ⟨t127, A9, H⟩ := H
   replace H := zb H
   obtain ⟨⟨t130, t131, t134⟩, A10, H⟩ := H
   dsimp only at H
   simp only [Option.some.injEq, Prod.mk.injEq] at H
   obtain ⟨rfl, rfl, rfl⟩ := H
   go_enter Try.func50, Try.ntmps50
   try go_wp2_with (first | ((with_reducible refine gate_dst (N := 2) rfl ?_); refine box_event ?hg (N := 2) ?hd (cs := #[.bool a0_0, .slice A0_1 l0_1.length c0_1, .slice A0_2 l0_2.length c0_2]) (t := 60) ?hr ?_; (case hd => rfl); (case hg => rfl); (case hr => first | (go_simp; done) | (go_simp; rfl)); intro gb101 hg w11 hbox hb; have BK101 := Aside0.mk (hbox); have GW101 := yg hg HB; have GE101 := yg hg HB; replace HB := yS HB hb; clear hb hbox hg) | ((with_reducible refine gate_dst (N := 3) rfl ?_); refine box_event ?hg (N := 3) ?hd (cs := #[.bool a1_0, .slice A1_1 l1_1.length c1_1, .slice A1_2 l1_2.length c1_2]) (t := 60) ?hr ?_; (case hd => rfl); (case hg => rfl); (case hr => first | (go_simp; done) | (go_simp; rfl)); intro gb102 hg w12 hbox hb; have BK102 := Aside0.mk (hbox); have GW102 := yg1 hg HB GE101; have GE102 := yg1 hg HB GE101; replace HB := yS1 HB GE101 hb; have NB101_102 := ynl hg BK101; have NB102_101 := yng hg BK101; replace BK101 := yK BK101 hb; clear hb hbox hg) | ((with_reducible refine gate_dst (N := 4) rfl ?_); refine box_event ?hg (N := 4) ?hd (cs := #[.bool false, .slice none 0 0, .slice none 0 0]) (t := 60) ?hr ?_; (case hd => rfl); (case hg => rfl); (case hr => first | (go_simp; done) | (go_simp; rfl)); intro gb103 hg w13 hbox hb; have BK103 := Aside0.mk (hbox); have GW103 := yg2 hg HB GE101 GE102; have GE103 := yg2 hg HB GE101 GE102; replace HB := yS2 HB GE101 GE102 hb; have NB101_103 := ynl hg BK101; have NB103_101 := yng hg BK101; replace BK101 := yK BK101 hb; have NB102_103 := ynl hg BK102; have NB103_102 := yng hg BK102; replace BK102 := yK BK102 hb; clear hb hbox hg; have hnb14 := NB101_102.out; have hnc14 := NB102_101.out; have hnb15 := NB101_103.out; have hnc15 := NB103_101.out; obtain ⟨hcz16_0, hcz16_1, hcz16_2, hfz16_0, hfz16_1, hfz16_2⟩ := zz3 BK101) | ((with_reducible refine gC 99 ?_); refine zG (some 9) Try.func99 #[.agg #[.bool a0_0, .slice A0_1 l0_1.length c0_1, .slice A0_2 l0_2.length c0_2]] ?_; (with_reducible refine (r2_Trim.calls k a0_0 _ _ l0_1 _ _ l0_2 t104 t105 t108 _ ?side1 ?side2 ?side3 ?side4 A3.out).mono ?_); (case side1 => exact zC (Kd.C_below HR0_1.out HB.out)); (case side2 => exact HC0_1.out); (case side3 => exact zC (Kd.C_below HR0_2.out HB.out)); (case side4 => exact HC0_2.out); rintro e w17 ⟨v106, v109, rfl, ho0, ho1, hb⟩; refine ⟨_, rfl, ?_⟩; have HO107 := yRl3 ho0 HB GE101 GE102 GE103; have HO110 := yRl3 ho1 HB GE101 GE102 GE103; replace BK101 := yK BK101 hb; replace BK102 := yK BK102 hb; replace BK103 := yK BK103 hb; replace HB := yS3 HB GE101 GE102 GE103 hb; (try clear hb ho0); (try clear ho1); obtain ⟨hcz18_0, hcz18_1, hcz18_2, hfz18_0, hfz18_1, hfz18_2⟩ := zz3 BK101; obtain ⟨Ao19, co19, rfl⟩ := Kd.R_slice HO107.out; obtain ⟨Ao20, co20, rfl⟩ := Kd.R_slice HO110.out; have hnb21 := NB102_103.out; have hnc21 := NB103_102.out; obtain ⟨hcz22_0, hcz22_1, hcz22_2, hfz22_0, hfz22_1, hfz22_2⟩ := zz3 BK102) | ((with_reducible refine gC 99 ?_); refine zG (some 11) Try.func99 #[.agg #[.bool a1_0, .slice A1_1 l1_1.length c1_1, .slice A1_2 l1_2.length c1_2]] ?_; (with_reducible refine (r2_Trim.calls k a1_0 _ _ l1_1 _ _ l1_2 t111 t112 t115 _ ?side1 ?side2 ?side3 ?side4 A4.out).mono ?_); (case side1 => exact Kd.C_below HR1_1.out (zB3 HB.out GE101.out GE102.out GE103.out)); (case side2 => exact HC1_1.out); (case side3 => exact Kd.C_below HR1_2.out (zB3 HB.out GE101.out GE102.out GE103.out)); (case side4 => exact HC1_2.out); rintro e w23 ⟨v113, v116, rfl, ho0, ho1, hb⟩; refine ⟨_, rfl, ?_⟩; replace ho0 := ynf ho0 HO107 BK101; replace ho0 := ynf ho0 HO110 BK101; have HO114 := yRl3 ho0 HB GE101 GE102 GE103; replace ho1 := ynf ho1 HO107 BK101; replace ho1 := ynf ho1 HO110 BK101; have HO117 := yRl3 ho1 HB GE101 GE102 GE103; replace HO107 := yRtf HO107 BK101 hb ho0 ho1; replace HO110 := yRtf HO110 BK101 hb ho0 ho1; replace BK101 := yP3 BK101 hb; replace BK102 := yF3 BK102 NB102_101 hb; replace BK103 := yF3 BK103 NB103_101 hb; replace HB := yS3 HB GE101 GE102 GE103 hb; (try clear hb ho0); (try clear ho1); obtain ⟨hcz24_0, hcz24_1, hcz24_2, hfz24_0, hfz24_1, hfz24_2⟩ := zz3 BK102; obtain ⟨Ao25, co25, rfl⟩ := Kd.R_slice HO114.out; obtain ⟨Ao26, co26, rfl⟩ := Kd.R_slice HO117.out; obtain ⟨hcz27_0, hcz27_1, hcz27_2, hfz27_0, hfz27_1, hfz27_2⟩ := zz3 BK101) | ((with_reducible refine gC 26 ?_); refine zG (some 16) Try.func26 #[.slice Ao19 t105.length co19, .slice Ao26 t115.length co26] ?_; (with_reducible refine (r1_Mul.calls k _ _ t105 _ _ t115 t118 _ ?side1 ?side2 ?side3 ?side4 A5.out).mono ?_); (case side1 => refine (Kd.R_reads' (e := 97) (base := w.heap.size) (ok := fun k_ => ((some k_ ≠ (.slice Ao20 t108.length co20 : Value).ownBlock ∧ some k_ ≠ (.slice Ao25 t112.length co25 : Value).ownBlock) ∧ some k_ ≠ (.slice Ao26 t115.length co26 : Value).ownBlock)) (n := t105.length) (c := co19) ?_).2.2; exact (zf HO107.out BK102.out)); (case side2 => exact (Kd.R_reads' HO107.out).2.1); (case side3 => refine (Kd.R_reads' (e := 97) (base := w.heap.size) (ok := fun k_ => ((some k_ ≠ (.slice Ao25 t112.length co25 : Value).ownBlock ∧ some k_ ≠ (.slice Ao19 t105.length co19 : Value).ownBlock) ∧ some k_ ≠ (.slice Ao20 t108.length co20 : Value).ownBlock)) (n := t115.length) (c := co26) ?_).2.2; exact (zf HO117.out BK102.out)); (case side4 => exact (Kd.R_reads' HO117.out).2.1); rintro e w28 ⟨v119, rfl, ho0, hb⟩; refine ⟨_, rfl, ?_⟩; replace ho0 := ynf ho0 HO107 BK102; replace ho0 := ynf ho0 HO110 BK102; replace ho0 := ynf ho0 HO114 BK102; replace ho0 := ynf ho0 HO117 BK102; have HO120 := yRl3 ho0 HB GE101 GE102 GE103; replace HO107 := yRef HO107 BK102 ho0 hb; replace HO110 := yRef HO110 BK102 ho0 hb; replace HO114 := yRef HO114 BK102 ho0 hb; replace HO117 := yRef HO117 BK102 ho0 hb; replace BK101 := yF3 BK101 NB101_102 hb; replace BK102 := yP3 BK102 hb; replace BK103 := yF3 BK103 NB103_102 hb; replace HB := yS3 HB GE101 GE102 GE103 hb; (try clear hb ho0); obtain ⟨hcz29_0, hcz29_1, hcz29_2, hfz29_0, hfz29_1, hfz29_2⟩ := zz3 BK102; obtain ⟨hcz30_0, hcz30_1, hcz30_2, hfz30_0, hfz30_1, hfz30_2⟩ := zz3 BK101) | ((with_reducible refine gC 26 ?_); refine zG (some 21) Try.func26 #[.slice Ao25 t112.length co25, .slice Ao20 t108.length co20] ?_; (with_reducible refine (r1_Mul.calls k _ _ t112 _ _ t108 t121 _ ?side1 ?side2 ?side3 ?side4 A6.out).mono ?_); (case side1 => exact zC (Kd.R_reads' HO114.out).2.2); (case side2 => exact (Kd.R_reads' HO114.out).2.1); (case side3 => exact zC (Kd.R_reads' HO110.out).2.2); (case side4 => exact (Kd.R_reads' HO110.out).2.1); rintro e w31 ⟨v122, rfl, ho0, hb⟩; refine ⟨_, rfl, ?_⟩; replace ho0 := yn ho0 HO107; replace ho0 := yn ho0 HO110; replace ho0 := yn ho0 HO114; replace ho0 := yn ho0 HO117; replace ho0 := yn ho0 HO120; have HO123 := yRl3 ho0 HB GE101 GE102 GE103; replace HO107 := yRe HO107 ho0 hb; replace HO110 := yRe HO110 ho0 hb; replace HO114 := yRe HO114 ho0 hb; replace HO117 := yRe HO117 ho0 hb; replace HO120 := yRe HO120 ho0 hb; replace BK101 := yK BK101 hb; replace BK102 := yK BK102 hb; replace BK103 := yK BK103 hb; replace HB := yS3 HB GE101 GE102 GE103 hb; (try clear hb ho0); obtain ⟨hcz32_0, hcz32_1, hcz32_2, hfz32_0, hfz32_1, hfz32_2⟩ := zz3 BK101; obtain ⟨hcz33_0, hcz33_1, hcz33_2, hfz33_0, hfz33_1, hfz33_2⟩ := zz3 BK102) | ((with_reducible refine gC 26 ?_); refine zG (some 26) Try.func26 #[.slice Ao20 t108.length co20, .slice Ao26 t115.length co26] ?_; (with_reducible refine (r1_Mul.calls k _ _ t108 _ _ t115 t124 _ ?side1 ?side2 ?side3 ?side4 A7.out).mono ?_); (case side1 => exact zC (Kd.R_reads' HO110.out).2.2); (case side2 => exact (Kd.R_reads' HO110.out).2.1); (case side3 => exact zC (Kd.R_reads' HO117.out).2.2); (case side4 => exact (Kd.R_reads' HO117.out).2.1); rintro e w34 ⟨v125, rfl, ho0, hb⟩; refine ⟨_, rfl, ?_⟩; replace ho0 := yn ho0 HO107; replace ho0 := yn ho0 HO110; replace ho0 := yn ho0 HO114; replace ho0 := yn ho0 HO117; replace ho0 := yn ho0 HO120; replace ho0 := yn ho0 HO123; have HO126 := yRl3 ho0 HB GE101 GE102 GE103; replace HO107 := yRe HO107 ho0 hb; replace HO110 := yRe HO110 ho0 hb; replace HO114 := yRe HO114 ho0 hb; replace HO117 := yRe HO117 ho0 hb; replace HO120 := yRe HO120 ho0 hb; replace HO123 := yRe HO123 ho0 hb; replace BK101 := yK BK101 hb; replace BK102 := yK BK102 hb; replace BK103 := yK BK103 hb; replace HB := yS3 HB GE101 GE102 GE103 hb; (try clear hb ho0); obtain ⟨hcz35_0, hcz35_1, hcz35_2, hfz35_0, hfz35_1, hfz35_2⟩ := zz3 BK101; obtain ⟨hcz36_0, hcz36_1, hcz36_2, hfz36_0, hfz36_1, hfz36_2⟩ := zz3 BK102))
   replace HO107 := Aside0.mk (Kd.R_drew HO107.out)
   replace HO110 := Aside0.mk (Kd.R_drew HO110.out)
   replace HO114 := Aside0.mk (Kd.R_drew HO114.out)
   replace HO117 := Aside0.mk (Kd.R_drew HO117.out)
   replace HO120 := Aside0.mk (Kd.R_drew HO120.out)
   replace HO123 := Aside0.mk (Kd.R_drew HO123.out)
   replace HO126 := Aside0.mk (Kd.R_drew HO126.out)
   replace BK101 := Aside0.mk (blk_drew BK101.out)
   replace BK102 := Aside0.mk (blk_drew BK102.out)
   replace BK103 := Aside0.mk (blk_drew BK103.out)
   replace HB := Aside0.mk (below_drew1 HB.out)
   obtain ⟨Ao38, co38, eo38⟩ := Kd.R_slice HO120.out
   (first | subst eo38 | (injection eo38 with f1_ f2_ f3_; have f4_ := f1_.symm; have f5_ := f3_.symm; clear f1_ f2_ f3_; subst f4_; subst f5_))
   obtain ⟨Ao39, co39, eo39⟩ := Kd.R_slice HO123.out
   (first | subst eo39 | (injection eo39 with f1_ f2_ f3_; have f4_ := f1_.symm; have f5_ := f3_.symm; clear f1_ f2_ f3_; subst f4_; subst f5_))
   refine start_ (n := 8) (S := fun w' => w'.cell? ⟨gb101, 0, none⟩ = some (.bool t104) ∧ w'.cell? ⟨gb101, 1, none⟩ = some (.slice Ao19 t105.length co19) ∧ w'.cell? ⟨gb101, 2, none⟩ = some (.slice Ao20 t108.length co20)) (ds := []) #[false, false, false, false, false, false, false, false] (by kernel_rfl) rfl rfl ⟨(blk_cell BK101.out 0).trans rfl, (blk_cell BK101.out 1).trans rfl, (blk_cell BK101.out 2).trans rfl⟩ (fun hHeld => ?_); refine with_tabW r2_Add.tab7 r2_Add.bits7 (fun HT_ HW_ => ?_)
   generalize w34.drew = w37 at HO107 HO110 HO114 HO117 HO120 HO123 HO126 BK101 BK102 BK103 HB hHeld ⊢
   refine zp (i := 0) (N := some 32) HT_ ?_
   refine zp (i := 2) (N := some 34) HT_ ?_
   refine zp (i := 3) (N := some 35) HT_ ?_
   refine zp (i := 5) (N := some 37) HT_ ?_
   refine take_ (i := 1) (N := some 33) (v := ?_) (a' := ?_) #[true, true, true, true, false, true, false, false] rfl rfl (take_ofW HT_.out HW_.out (by kernel_rfl)) (fun _ _ _ h => h) (Or.inl ⟨by rfl, ?_⟩) hHeld ?_ ?_
   rotate_left
   · rintro w' ⟨s0, s1, s2⟩
     go_simp
     with_reducible rfl
   rotate_left
   · simp only [Act.put, List.setIfInBounds_toArray, List.set_cons_zero, List.set_cons_succ, i64_w, i32_w]
     rfl
   refine one_ (i := 4) (N := some 36) #[true, true, true, true, true, true, false, false] rfl rfl (one_of HT_.out (by kernel_rfl)) (by decide) (fun K hK => ?_)
   refine goes_ Try.func86 (by kernel_rfl) rfl #[.slice Ao38 t118.length co38, .slice Ao39 t121.length co39] (by rfl) rfl rfl (by (try simp only [List.map_toArray, List.map_cons, List.map_nil]); first | done | rfl | (simp only [List.length_drop, List.length_take]; rfl)) ?_
   with_reducible refine (r1_Add.calls k _ _ t118 _ _ t121 t127 _ ?side1 ?side2 ?side3 ?side4 A9.out).mono ?_
   (case side1 => exact zC (Kd.R_reads' HO120.out).2.2)
   (case side2 => exact (Kd.R_reads' HO120.out).2.1)
   (case side3 => exact zC (Kd.R_reads' HO123.out).2.2)
   (case side4 => exact (Kd.R_reads' HO123.out).2.1)
   rintro e w40 ⟨v128, rfl, ho0, hb⟩
   refine ⟨_, rfl, ?_⟩
   replace ho0 := yn ho0 HO107
   replace ho0 := yn ho0 HO110
   replace ho0 := yn ho0 HO114
   replace ho0 := yn ho0 HO117
   replace ho0 := yn ho0 HO120
   replace ho0 := yn ho0 HO123
   replace ho0 := yn ho0 HO126
   have HO129 := yRl3 ho0 HB GE101 GE102 GE103
   replace HO107 := yRe HO107 ho0 hb
   replace HO110 := yRe HO110 ho0 hb
   replace HO114 := yRe HO114 ho0 hb
   replace HO117 := yRe HO117 ho0 hb
   replace HO120 := yRe HO120 ho0 hb
   replace HO123 := yRe HO123 ho0 hb
   replace HO126 := yRe HO126 ho0 hb
   replace BK101 := yK BK101 hb
   replace BK102 := yK BK102 hb
   replace BK103 := yK BK103 hb
   replace HB := yS3 HB GE101 GE102 GE103 hb
   (try clear hb)
   (try clear ho0)
   obtain ⟨Ao41, co41, eo41⟩ := Kd.R_slice HO129.out
   (first | subst eo41 | (injection eo41 with f1_ f2_ f3_; have f4_ := f1_.symm; have f5_ := f3_.symm; clear f1_ f2_ f3_; subst f4_; subst f5_))
   obtain ⟨Ao42, co42, eo42⟩ := Kd.R_slice HO126.out
   (first | subst eo42 | (injection eo42 with f1_ f2_ f3_; have f4_ := f1_.symm; have f5_ := f3_.symm; clear f1_ f2_ f3_; subst f4_; subst f5_))
   refine hK.out _ _ ⟨(blk_cell BK101.out 0).trans rfl, (blk_cell BK101.out 1).trans rfl, (blk_cell BK101.out 2).trans rfl⟩ (fun hHeld => ?_)
   clear hK K
   refine norm_ (a' := ?_) ?_ ?_
   rotate_left
   · show Act.put _ (some 36) _ = _
     simp only [Act.put, List.setIfInBounds_toArray, List.set_cons_zero, List.set_cons_succ, i64_w, i32_w]
     rfl
   refine one_ (i := 6) (N := some 38) #[true, true, true, true, true, true, true, false] rfl rfl (one_of HT_.out (by kernel_rfl)) (by decide) (fun K hK => ?_)
   refine goes_ Try.func90 (by kernel_rfl) rfl #[.bool t104, .slice Ao41 t127.length co41, .slice Ao42 t124.length co42] (by rfl) rfl rfl (by (try simp only [List.map_toArray, List.map_cons, List.map_nil]); first | done | rfl | (simp only [List.length_drop, List.length_take]; rfl)) ?_
   with_reducible refine (r2_Make.calls k t104 _ _ t127 _ _ t124 t130 t131 t134 _ ?side1 ?side2 ?side3 ?side4 A10.out).mono ?_
   (case side1 => exact zC (Kd.R_reads' HO129.out).2.2)
   (case side2 => exact (Kd.R_reads' HO129.out).2.1)
   (case side3 => exact zC (Kd.R_reads' HO126.out).2.2)
   (case side4 => exact (Kd.R_reads' HO126.out).2.1)
   rintro e w43 ⟨v132, v135, rfl, ho0, ho1, hb⟩
   refine ⟨_, rfl, ?_⟩
   replace ho0 := yn ho0 HO107
   replace ho0 := yn ho0 HO110
   replace ho0 := yn ho0 HO114
   replace ho0 := yn ho0 HO117
   replace ho0 := yn ho0 HO120
   replace ho0 := yn ho0 HO123
   replace ho0 := yn ho0 HO126
   replace ho0 := yn ho0 HO129
   have HO133 := yRl3 ho0 HB GE101 GE102 GE103
   replace ho1 := yn ho1 HO107
   replace ho1 := yn ho1 HO110
   replace ho1 := yn ho1 HO114
   replace ho1 := yn ho1 HO117
   replace ho1 := yn ho1 HO120
   replace ho1 := yn ho1 HO123
   replace ho1 := yn ho1 HO126
   replace ho1 := yn ho1 HO129
   have HO136 := yRl3 ho1 HB GE101 GE102 GE103
   replace HO107 := yRt HO107 hb ho0 ho1
   replace HO110 := yRt HO110 hb ho0 ho1
   replace HO114 := yRt HO114 hb ho0 ho1
   replace HO117 := yRt HO117 hb ho0 ho1
   replace HO120 := yRt HO120 hb ho0 ho1
   replace HO123 := yRt HO123 hb ho0 ho1
   replace HO126 := yRt HO126 hb ho0 ho1
   replace HO129 := yRt HO129 hb ho0 ho1
   replace BK101 := yK BK101 hb
   replace BK102 := yK BK102 hb
   replace BK103 := yK BK103 hb
   replace HB := yS3 HB GE101 GE102 GE103 hb
   (try clear hb)
   (try clear ho0)
   (try clear ho1)
   obtain ⟨Ao45, co45, eo45⟩ := Kd.R_slice HO133.out
   (first | subst eo45 | (injection eo45 with f1_ f2_ f3_; have f4_ := f1_.symm; have f5_ := f3_.symm; clear f1_ f2_ f3_; subst f4_; subst f5_))
   obtain ⟨Ao47, co47, eo47⟩ := Kd.R_slice HO136.out
   (first | subst eo47 | (injection eo47 with f1_ f2_ f3_; have f4_ := f1_.symm; have f5_ := f3_.symm; clear f1_ f2_ f3_; subst f4_; subst f5_))
   refine hK.out _ _ ⟨(blk_cell BK101.out 0).trans rfl, (blk_cell BK101.out 1).trans rfl, (blk_cell BK101.out 2).trans rfl⟩ (fun hHeld => ?_)
   clear hK K
   refine norm_ (a' := ?_) ?_ ?_
   rotate_left
   · show Act.put _ (some 38) _ = _
     simp only [Act.put, List.setIfInBounds_toArray, List.set_cons_zero, List.set_cons_succ, i64_w, i32_w]
     rfl
   refine one_ (i := 7) (N := none) #[true, true, true, true, true, true, true, true] rfl rfl (one_of HT_.out (by kernel_rfl)) (by decide) (fun K hK => ?_)
   have hs44 : w43.cell? ⟨gb103, 0, none⟩ = some (.bool false) := (blk_cell BK103.out 0).trans rfl
   have hfs44 := blk_frozen BK103.out 0
   have hns44_0 := NB101_103.out
   have hns44_1 := NB102_103.out
   have hms44_0 := NB103_101.out
   have hms44_1 := NB103_102.out
   have hs46 : w43.cell? ⟨gb103, 1, none⟩ = some (.slice none 0 0) := (blk_cell BK103.out 1).trans rfl
   have hfs46 := blk_frozen BK103.out 1
   have hns46_0 := NB101_103.out
   have hns46_1 := NB102_103.out
   have hms46_0 := NB103_101.out
   have hms46_1 := NB103_102.out
   have hs48 : w43.cell? ⟨gb103, 2, none⟩ = some (.slice none 0 0) := (blk_cell BK103.out 2).trans rfl
   have hfs48 := blk_frozen BK103.out 2
   have hns48_0 := NB101_103.out
   have hns48_1 := NB102_103.out
   have hms48_0 := NB103_101.out
   have hms48_1 := NB103_102.out
   refine skip_ (w1 := ?_) (by rfl) rfl ?_ ?_
   rotate_left
   · go_simp
     rfl
   refine hK.out _ _ ⟨((cell_far (p := ⟨gb103, _, none⟩) NB101_103.out _).trans (((cell_far (p := ⟨gb103, _, none⟩) NB101_103.out _).trans (((cell_far (p := ⟨gb103, _, none⟩) NB101_103.out _).trans (hHeld.1)))))), ((cell_far (p := ⟨gb103, _, none⟩) NB101_103.out _).trans (((cell_far (p := ⟨gb103, _, none⟩) NB101_103.out _).trans (((cell_far (p := ⟨gb103, _, none⟩) NB101_103.out _).trans (hHeld.2.1)))))), ((cell_far (p := ⟨gb103, _, none⟩) NB101_103.out _).trans (((cell_far (p := ⟨gb103, _, none⟩) NB101_103.out _).trans (((cell_far (p := ⟨gb103, _, none⟩) NB101_103.out _).trans (hHeld.2.2))))))⟩ (fun hHeld => ?_)
   clear hK K
   refine done_ (done_of HT_.out (by kernel_rfl)) ?_
   try go_wp2
   refine bodyPost_ret (results_cell_row rfl _ _ gb103 60 #[.bool t130, .slice Ao45 t131.length co45, .slice Ao47 t134.length co47] (0, 0) _ rfl (zP3 BK103.out) Try.underlying60 rfl (by kernel_rfl)) rfl ?_
   exact ⟨_, _, zE, by (with_reducible repeat (first | apply Kd.R_alloc | apply Kd.R_drewN | apply Kd.R_drew)); exact yf HO133.out BK103.out (fun _ hk => hk.1.1.1.1.1.1.1.1.1), by (with_reducible repeat (first | apply Kd.R_alloc | apply Kd.R_drewN | apply Kd.R_drew)); exact yf HO136.out BK103.out (fun _ hk => hk.1.1.1.1.1.1.1.1.1), zB3 HB.out GE101.out GE102.out GE103.out⟩
 have c8b0 : (t104 == t111) = false := by simpa using c8
 (try (have c8b1 : decide (t104 = t111) = false := by simpa using c8))
 (try (have c8b2 : (t104 == t111) = false := by simpa using c8))
 (try (have c8b3 : ¬ (t104 = t111) := by simpa using c8))
 clear c8
 replace H := zb H
 obtain ⟨t137, A49, H⟩ := H
 replace H := zi H
 rcases H with ⟨c50, H⟩ | ⟨c50, H⟩
 · have c50b0 : decide (0 ≤ t137) = true := decide_eq_true c50
   clear c50
   replace H := zb H
   obtain ⟨t138, A51, H⟩ := H
   replace H := zb H
   obtain ⟨⟨t141, t142, t145⟩, A52, H⟩ := H
   dsimp only at H
   simp only [Option.some.injEq, Prod.mk.injEq] at H
   obtain ⟨rfl, rfl, rfl⟩ := H
   go_enter Try.func50, Try.ntmps50
   try go_wp2_with (first | ((with_reducible refine gate_dst (N := 2) rfl ?_); refine box_event ?hg (N := 2) ?hd (cs := #[.bool a0_0, .slice A0_1 l0_1.length c0_1, .slice A0_2 l0_2.length c0_2]) (t := 60) ?hr ?_; (case hd => rfl); (case hg => rfl); (case hr => first | (go_simp; done) | (go_simp; rfl)); intro gb101 hg w53 hbox hb; have BK101 := Aside0.mk (hbox); have GW101 := yg hg HB; have GE101 := yg hg HB; replace HB := yS HB hb; clear hb hbox hg) | ((with_reducible refine gate_dst (N := 3) rfl ?_); refine box_event ?hg (N := 3) ?hd (cs := #[.bool a1_0, .slice A1_1 l1_1.length c1_1, .slice A1_2 l1_2.length c1_2]) (t := 60) ?hr ?_; (case hd => rfl); (case hg => rfl); (case hr => first | (go_simp; done) | (go_simp; rfl)); intro gb102 hg w54 hbox hb; have BK102 := Aside0.mk (hbox); have GW102 := yg1 hg HB GE101; have GE102 := yg1 hg HB GE101; replace HB := yS1 HB GE101 hb; have NB101_102 := ynl hg BK101; have NB102_101 := yng hg BK101; replace BK101 := yK BK101 hb; clear hb hbox hg) | ((with_reducible refine gate_dst (N := 4) rfl ?_); refine box_event ?hg (N := 4) ?hd (cs := #[.bool false, .slice none 0 0, .slice none 0 0]) (t := 60) ?hr ?_; (case hd => rfl); (case hg => rfl); (case hr => first | (go_simp; done) | (go_simp; rfl)); intro gb103 hg w55 hbox hb; have BK103 := Aside0.mk (hbox); have GW103 := yg2 hg HB GE101 GE102; have GE103 := yg2 hg HB GE101 GE102; replace HB := yS2 HB GE101 GE102 hb; have NB101_103 := ynl hg BK101; have NB103_101 := yng hg BK101; replace BK101 := yK BK101 hb; have NB102_103 := ynl hg BK102; have NB103_102 := yng hg BK102; replace BK102 := yK BK102 hb; clear hb hbox hg; have hnb56 := NB101_102.out; have hnc56 := NB102_101.out; have hnb57 := NB101_103.out; have hnc57 := NB103_101.out; obtain ⟨hcz58_0, hcz58_1, hcz58_2, hfz58_0, hfz58_1, hfz58_2⟩ := zz3 BK101) | ((with_reducible refine gC 99 ?_); refine zG (some 9) Try.func99 #[.agg #[.bool a0_0, .slice A0_1 l0_1.length c0_1, .slice A0_2 l0_2.length c0_2]] ?_; (with_reducible refine (r2_Trim.calls k a0_0 _ _ l0_1 _ _ l0_2 t104 t105 t108 _ ?side1 ?side2 ?side3 ?side4 A3.out).mono ?_); (case side1 => exact zC (Kd.C_below HR0_1.out HB.out)); (case side2 => exact HC0_1.out); (case side3 => exact zC (Kd.C_below HR0_2.out HB.out)); (case side4 => exact HC0_2.out); rintro e w59 ⟨v106, v109, rfl, ho0, ho1, hb⟩; refine ⟨_, rfl, ?_⟩; have HO107 := yRl3 ho0 HB GE101 GE102 GE103; have HO110 := yRl3 ho1 HB GE101 GE102 GE103; replace BK101 := yK BK101 hb; replace BK102 := yK BK102 hb; replace BK103 := yK BK103 hb; replace HB := yS3 HB GE101 GE102 GE103 hb; (try clear hb ho0); (try clear ho1); obtain ⟨hcz60_0, hcz60_1, hcz60_2, hfz60_0, hfz60_1, hfz60_2⟩ := zz3 BK101; obtain ⟨Ao61, co61, rfl⟩ := Kd.R_slice HO107.out; obtain ⟨Ao62, co62, rfl⟩ := Kd.R_slice HO110.out; have hnb63 := NB102_103.out; have hnc63 := NB103_102.out; obtain ⟨hcz64_0, hcz64_1, hcz64_2, hfz64_0, hfz64_1, hfz64_2⟩ := zz3 BK102) | ((with_reducible refine gC 99 ?_); refine zG (some 11) Try.func99 #[.agg #[.bool a1_0, .slice A1_1 l1_1.length c1_1, .slice A1_2 l1_2.length c1_2]] ?_; (with_reducible refine (r2_Trim.calls k a1_0 _ _ l1_1 _ _ l1_2 t111 t112 t115 _ ?side1 ?side2 ?side3 ?side4 A4.out).mono ?_); (case side1 => exact Kd.C_below HR1_1.out (zB3 HB.out GE101.out GE102.out GE103.out)); (case side2 => exact HC1_1.out); (case side3 => exact Kd.C_below HR1_2.out (zB3 HB.out GE101.out GE102.out GE103.out)); (case side4 => exact HC1_2.out); rintro e w65 ⟨v113, v116, rfl, ho0, ho1, hb⟩; refine ⟨_, rfl, ?_⟩; replace ho0 := ynf ho0 HO107 BK101; replace ho0 := ynf ho0 HO110 BK101; have HO114 := yRl3 ho0 HB GE101 GE102 GE103; replace ho1 := ynf ho1 HO107 BK101; replace ho1 := ynf ho1 HO110 BK101; have HO117 := yRl3 ho1 HB GE101 GE102 GE103; replace HO107 := yRtf HO107 BK101 hb ho0 ho1; replace HO110 := yRtf HO110 BK101 hb ho0 ho1; replace BK101 := yP3 BK101 hb; replace BK102 := yF3 BK102 NB102_101 hb; replace BK103 := yF3 BK103 NB103_101 hb; replace HB := yS3 HB GE101 GE102 GE103 hb; (try clear hb ho0); (try clear ho1); obtain ⟨hcz66_0, hcz66_1, hcz66_2, hfz66_0, hfz66_1, hfz66_2⟩ := zz3 BK102; obtain ⟨Ao67, co67, rfl⟩ := Kd.R_slice HO114.out; obtain ⟨Ao68, co68, rfl⟩ := Kd.R_slice HO117.out; obtain ⟨hcz69_0, hcz69_1, hcz69_2, hfz69_0, hfz69_1, hfz69_2⟩ := zz3 BK101) | ((with_reducible refine gC 26 ?_); refine zG (some 16) Try.func26 #[.slice Ao61 t105.length co61, .slice Ao68 t115.length co68] ?_; (with_reducible refine (r1_Mul.calls k _ _ t105 _ _ t115 t118 _ ?side1 ?side2 ?side3 ?side4 A5.out).mono ?_); (case side1 => refine (Kd.R_reads' (e := 97) (base := w.heap.size) (ok := fun k_ => ((some k_ ≠ (.slice Ao62 t108.length co62 : Value).ownBlock ∧ some k_ ≠ (.slice Ao67 t112.length co67 : Value).ownBlock) ∧ some k_ ≠ (.slice Ao68 t115.length co68 : Value).ownBlock)) (n := t105.length) (c := co61) ?_).2.2; exact (zf HO107.out BK102.out)); (case side2 => exact (Kd.R_reads' HO107.out).2.1); (case side3 => refine (Kd.R_reads' (e := 97) (base := w.heap.size) (ok := fun k_ => ((some k_ ≠ (.slice Ao67 t112.length co67 : Value).ownBlock ∧ some k_ ≠ (.slice Ao61 t105.length co61 : Value).ownBlock) ∧ some k_ ≠ (.slice Ao62 t108.length co62 : Value).ownBlock)) (n := t115.length) (c := co68) ?_).2.2; exact (zf HO117.out BK102.out)); (case side4 => exact (Kd.R_reads' HO117.out).2.1); rintro e w70 ⟨v119, rfl, ho0, hb⟩; refine ⟨_, rfl, ?_⟩; replace ho0 := ynf ho0 HO107 BK102; replace ho0 := ynf ho0 HO110 BK102; replace ho0 := ynf ho0 HO114 BK102; replace ho0 := ynf ho0 HO117 BK102; have HO120 := yRl3 ho0 HB GE101 GE102 GE103; replace HO107 := yRef HO107 BK102 ho0 hb; replace HO110 := yRef HO110 BK102 ho0 hb; replace HO114 := yRef HO114 BK102 ho0 hb; replace HO117 := yRef HO117 BK102 ho0 hb; replace BK101 := yF3 BK101 NB101_102 hb; replace BK102 := yP3 BK102 hb; replace BK103 := yF3 BK103 NB103_102 hb; replace HB := yS3 HB GE101 GE102 GE103 hb; (try clear hb ho0); obtain ⟨hcz71_0, hcz71_1, hcz71_2, hfz71_0, hfz71_1, hfz71_2⟩ := zz3 BK102; obtain ⟨hcz72_0, hcz72_1, hcz72_2, hfz72_0, hfz72_1, hfz72_2⟩ := zz3 BK101) | ((with_reducible refine gC 26 ?_); refine zG (some 21) Try.func26 #[.slice Ao67 t112.length co67, .slice Ao62 t108.length co62] ?_; (with_reducible refine (r1_Mul.calls k _ _ t112 _ _ t108 t121 _ ?side1 ?side2 ?side3 ?side4 A6.out).mono ?_); (case side1 => exact zC (Kd.R_reads' HO114.out).2.2); (case side2 => exact (Kd.R_reads' HO114.out).2.1); (case side3 => exact zC (Kd.R_reads' HO110.out).2.2); (case side4 => exact (Kd.R_reads' HO110.out).2.1); rintro e w73 ⟨v122, rfl, ho0, hb⟩; refine ⟨_, rfl, ?_⟩; replace ho0 := yn ho0 HO107; replace ho0 := yn ho0 HO110; replace ho0 := yn ho0 HO114; replace ho0 := yn ho0 HO117; replace ho0 := yn ho0 HO120; have HO123 := yRl3 ho0 HB GE101 GE102 GE103; replace HO107 := yRe HO107 ho0 hb; replace HO110 := yRe HO110 ho0 hb; replace HO114 := yRe HO114 ho0 hb; replace HO117 := yRe HO117 ho0 hb; replace HO120 := yRe HO120 ho0 hb; replace BK101 := yK BK101 hb; replace BK102 := yK BK102 hb; replace BK103 := yK BK103 hb; replace HB := yS3 HB GE101 GE102 GE103 hb; (try clear hb ho0); obtain ⟨hcz74_0, hcz74_1, hcz74_2, hfz74_0, hfz74_1, hfz74_2⟩ := zz3 BK101; obtain ⟨hcz75_0, hcz75_1, hcz75_2, hfz75_0, hfz75_1, hfz75_2⟩ := zz3 BK102) | ((with_reducible refine gC 26 ?_); refine zG (some 26) Try.func26 #[.slice Ao62 t108.length co62, .slice Ao68 t115.length co68] ?_; (with_reducible refine (r1_Mul.calls k _ _ t108 _ _ t115 t124 _ ?side1 ?side2 ?side3 ?side4 A7.out).mono ?_); (case side1 => exact zC (Kd.R_reads' HO110.out).2.2); (case side2 => exact (Kd.R_reads' HO110.out).2.1); (case side3 => exact zC (Kd.R_reads' HO117.out).2.2); (case side4 => exact (Kd.R_reads' HO117.out).2.1); rintro e w76 ⟨v125, rfl, ho0, hb⟩; refine ⟨_, rfl, ?_⟩; replace ho0 := yn ho0 HO107; replace ho0 := yn ho0 HO110; replace ho0 := yn ho0 HO114; replace ho0 := yn ho0 HO117; replace ho0 := yn ho0 HO120; replace ho0 := yn ho0 HO123; have HO126 := yRl3 ho0 HB GE101 GE102 GE103; replace HO107 := yRe HO107 ho0 hb; replace HO110 := yRe HO110 ho0 hb; replace HO114 := yRe HO114 ho0 hb; replace HO117 := yRe HO117 ho0 hb; replace HO120 := yRe HO120 ho0 hb; replace HO123 := yRe HO123 ho0 hb; replace BK101 := yK BK101 hb; replace BK102 := yK BK102 hb; replace BK103 := yK BK103 hb; replace HB := yS3 HB GE101 GE102 GE103 hb; (try clear hb ho0); obtain ⟨hcz77_0, hcz77_1, hcz77_2, hfz77_0, hfz77_1, hfz77_2⟩ := zz3 BK101; obtain ⟨hcz78_0, hcz78_1, hcz78_2, hfz78_0, hfz78_1, hfz78_2⟩ := zz3 BK102; obtain ⟨Ao79, co79, rfl⟩ := Kd.R_slice HO120.out; obtain ⟨Ao80, co80, rfl⟩ := Kd.R_slice HO123.out) | ((with_reducible refine gC 77 ?_); refine zG (some 41) Try.func77 #[.slice Ao79 t118.length co79, .slice Ao80 t121.length co80] ?_; (with_reducible refine (r1_Cmp.calls k _ _ t118 _ _ t121 t137 _ ?side1 ?side2 ?side3 ?side4 A49.out).mono ?_); (case side1 => exact zC (Kd.R_reads' HO120.out).2.2); (case side2 => exact (Kd.R_reads' HO120.out).2.1); (case side3 => exact zC (Kd.R_reads' HO123.out).2.2); (case side4 => exact (Kd.R_reads' HO123.out).2.1); rintro e w81 ⟨rfl, hb⟩; refine ⟨_, rfl, ?_⟩; replace HO107 := yRb HO107 hb; replace HO110 := yRb HO110 hb; replace HO114 := yRb HO114 hb; replace HO117 := yRb HO117 hb; replace HO120 := yRb HO120 hb; replace HO123 := yRb HO123 hb; replace HO126 := yRb HO126 hb; replace BK101 := yK BK101 hb; replace BK102 := yK BK102 hb; replace BK103 := yK BK103 hb; replace HB := yS3 HB GE101 GE102 GE103 hb; (try clear hb); (try clear hb2); (try clear hk); (try clear hi)))
   replace HO107 := Aside0.mk (Kd.R_drew HO107.out)
   replace HO110 := Aside0.mk (Kd.R_drew HO110.out)
   replace HO114 := Aside0.mk (Kd.R_drew HO114.out)
   replace HO117 := Aside0.mk (Kd.R_drew HO117.out)
   replace HO120 := Aside0.mk (Kd.R_drew HO120.out)
   replace HO123 := Aside0.mk (Kd.R_drew HO123.out)
   replace HO126 := Aside0.mk (Kd.R_drew HO126.out)
   replace BK101 := Aside0.mk (blk_drew BK101.out)
   replace BK102 := Aside0.mk (blk_drew BK102.out)
   replace BK103 := Aside0.mk (blk_drew BK103.out)
   replace HB := Aside0.mk (below_drew1 HB.out)
   refine start_ (n := 8) (S := fun w' => w'.cell? ⟨gb101, 0, none⟩ = some (.bool t104) ∧ w'.cell? ⟨gb101, 1, none⟩ = some (.slice Ao61 t105.length co61) ∧ w'.cell? ⟨gb101, 2, none⟩ = some (.slice Ao62 t108.length co62)) (ds := []) #[false, false, false, false, false, false, false, false] (by kernel_rfl) rfl rfl ⟨(blk_cell BK101.out 0).trans rfl, (blk_cell BK101.out 1).trans rfl, (blk_cell BK101.out 2).trans rfl⟩ (fun hHeld => ?_); refine with_tabW r2_Add.tab9 r2_Add.bits9 (fun HT_ HW_ => ?_)
   generalize w81.drew = w82 at HO107 HO110 HO114 HO117 HO120 HO123 HO126 BK101 BK102 BK103 HB hHeld ⊢
   refine zp (i := 0) (N := some 43) HT_ ?_
   refine zp (i := 2) (N := some 45) HT_ ?_
   refine zp (i := 3) (N := some 46) HT_ ?_
   refine zp (i := 5) (N := some 48) HT_ ?_
   refine take_ (i := 1) (N := some 44) (v := ?_) (a' := ?_) #[true, true, true, true, false, true, false, false] rfl rfl (take_ofW HT_.out HW_.out (by kernel_rfl)) (fun _ _ _ h => h) (Or.inl ⟨by rfl, ?_⟩) hHeld ?_ ?_
   rotate_left
   · rintro w' ⟨s0, s1, s2⟩
     go_simp
     with_reducible rfl
   rotate_left
   · simp only [Act.put, List.setIfInBounds_toArray, List.set_cons_zero, List.set_cons_succ, i64_w, i32_w]
     rfl
   refine one_ (i := 4) (N := some 47) #[true, true, true, true, true, true, false, false] rfl rfl (one_of HT_.out (by kernel_rfl)) (by decide) (fun K hK => ?_)
   refine goes_ Try.func100 (by kernel_rfl) rfl #[.slice Ao79 t118.length co79, .slice Ao80 t121.length co80] (by rfl) rfl rfl (by (try simp only [List.map_toArray, List.map_cons, List.map_nil]); first | done | rfl | (simp only [List.length_drop, List.length_take]; rfl)) ?_
   with_reducible refine (r1_Sub.calls k _ _ t118 _ _ t121 t138 _ ?side1 ?side2 ?side3 ?side4 A51.out).mono ?_
   (case side1 => exact zC (Kd.R_reads' HO120.out).2.2)
   (case side2 => exact (Kd.R_reads' HO120.out).2.1)
   (case side3 => exact zC (Kd.R_reads' HO123.out).2.2)
   (case side4 => exact (Kd.R_reads' HO123.out).2.1)
   rintro e w83 ⟨v139, rfl, ho0, hb⟩
   refine ⟨_, rfl, ?_⟩
   replace ho0 := yn ho0 HO107
   replace ho0 := yn ho0 HO110
   replace ho0 := yn ho0 HO114
   replace ho0 := yn ho0 HO117
   replace ho0 := yn ho0 HO120
   replace ho0 := yn ho0 HO123
   replace ho0 := yn ho0 HO126
   have HO140 := yRl3 ho0 HB GE101 GE102 GE103
   replace HO107 := yRe HO107 ho0 hb
   replace HO110 := yRe HO110 ho0 hb
   replace HO114 := yRe HO114 ho0 hb
   replace HO117 := yRe HO117 ho0 hb
   replace HO120 := yRe HO120 ho0 hb
   replace HO123 := yRe HO123 ho0 hb
   replace HO126 := yRe HO126 ho0 hb
   replace BK101 := yK BK101 hb
   replace BK102 := yK BK102 hb
   replace BK103 := yK BK103 hb
   replace HB := yS3 HB GE101 GE102 GE103 hb
   (try clear hb)
   (try clear ho0)
   obtain ⟨Ao84, co84, eo84⟩ := Kd.R_slice HO140.out
   (first | subst eo84 | (injection eo84 with f1_ f2_ f3_; have f4_ := f1_.symm; have f5_ := f3_.symm; clear f1_ f2_ f3_; subst f4_; subst f5_))
   obtain ⟨Ao85, co85, eo85⟩ := Kd.R_slice HO126.out
   (first | subst eo85 | (injection eo85 with f1_ f2_ f3_; have f4_ := f1_.symm; have f5_ := f3_.symm; clear f1_ f2_ f3_; subst f4_; subst f5_))
   refine hK.out _ _ ⟨(blk_cell BK101.out 0).trans rfl, (blk_cell BK101.out 1).trans rfl, (blk_cell BK101.out 2).trans rfl⟩ (fun hHeld => ?_)
   clear hK K
   refine norm_ (a' := ?_) ?_ ?_
   rotate_left
   · show Act.put _ (some 47) _ = _
     simp only [Act.put, List.setIfInBounds_toArray, List.set_cons_zero, List.set_cons_succ, i64_w, i32_w]
     rfl
   refine one_ (i := 6) (N := some 49) #[true, true, true, true, true, true, true, false] rfl rfl (one_of HT_.out (by kernel_rfl)) (by decide) (fun K hK => ?_)
   refine goes_ Try.func90 (by kernel_rfl) rfl #[.bool t104, .slice Ao84 t138.length co84, .slice Ao85 t124.length co85] (by rfl) rfl rfl (by (try simp only [List.map_toArray, List.map_cons, List.map_nil]); first | done | rfl | (simp only [List.length_drop, List.length_take]; rfl)) ?_
   with_reducible refine (r2_Make.calls k t104 _ _ t138 _ _ t124 t141 t142 t145 _ ?side1 ?side2 ?side3 ?side4 A52.out).mono ?_
   (case side1 => exact zC (Kd.R_reads' HO140.out).2.2)
   (case side2 => exact (Kd.R_reads' HO140.out).2.1)
   (case side3 => exact zC (Kd.R_reads' HO126.out).2.2)
   (case side4 => exact (Kd.R_reads' HO126.out).2.1)
   rintro e w86 ⟨v143, v146, rfl, ho0, ho1, hb⟩
   refine ⟨_, rfl, ?_⟩
   replace ho0 := yn ho0 HO107
   replace ho0 := yn ho0 HO110
   replace ho0 := yn ho0 HO114
   replace ho0 := yn ho0 HO117
   replace ho0 := yn ho0 HO120
   replace ho0 := yn ho0 HO123
   replace ho0 := yn ho0 HO126
   replace ho0 := yn ho0 HO140
   have HO144 := yRl3 ho0 HB GE101 GE102 GE103
   replace ho1 := yn ho1 HO107
   replace ho1 := yn ho1 HO110
   replace ho1 := yn ho1 HO114
   replace ho1 := yn ho1 HO117
   replace ho1 := yn ho1 HO120
   replace ho1 := yn ho1 HO123
   replace ho1 := yn ho1 HO126
   replace ho1 := yn ho1 HO140
   have HO147 := yRl3 ho1 HB GE101 GE102 GE103
   replace HO107 := yRt HO107 hb ho0 ho1
   replace HO110 := yRt HO110 hb ho0 ho1
   replace HO114 := yRt HO114 hb ho0 ho1
   replace HO117 := yRt HO117 hb ho0 ho1
   replace HO120 := yRt HO120 hb ho0 ho1
   replace HO123 := yRt HO123 hb ho0 ho1
   replace HO126 := yRt HO126 hb ho0 ho1
   replace HO140 := yRt HO140 hb ho0 ho1
   replace BK101 := yK BK101 hb
   replace BK102 := yK BK102 hb
   replace BK103 := yK BK103 hb
   replace HB := yS3 HB GE101 GE102 GE103 hb
   (try clear hb)
   (try clear ho0)
   (try clear ho1)
   obtain ⟨Ao88, co88, eo88⟩ := Kd.R_slice HO144.out
   (first | subst eo88 | (injection eo88 with f1_ f2_ f3_; have f4_ := f1_.symm; have f5_ := f3_.symm; clear f1_ f2_ f3_; subst f4_; subst f5_))
   obtain ⟨Ao90, co90, eo90⟩ := Kd.R_slice HO147.out
   (first | subst eo90 | (injection eo90 with f1_ f2_ f3_; have f4_ := f1_.symm; have f5_ := f3_.symm; clear f1_ f2_ f3_; subst f4_; subst f5_))
   refine hK.out _ _ ⟨(blk_cell BK101.out 0).trans rfl, (blk_cell BK101.out 1).trans rfl, (blk_cell BK101.out 2).trans rfl⟩ (fun hHeld => ?_)
   clear hK K
   refine norm_ (a' := ?_) ?_ ?_
   rotate_left
   · show Act.put _ (some 49) _ = _
     simp only [Act.put, List.setIfInBounds_toArray, List.set_cons_zero, List.set_cons_succ, i64_w, i32_w]
     rfl
   refine one_ (i := 7) (N := none) #[true, true, true, true, true, true, true, true] rfl rfl (one_of HT_.out (by kernel_rfl)) (by decide) (fun K hK => ?_)
   have hs87 : w86.cell? ⟨gb103, 0, none⟩ = some (.bool false) := (blk_cell BK103.out 0).trans rfl
   have hfs87 := blk_frozen BK103.out 0
   have hns87_0 := NB101_103.out
   have hns87_1 := NB102_103.out
   have hms87_0 := NB103_101.out
   have hms87_1 := NB103_102.out
   have hs89 : w86.cell? ⟨gb103, 1, none⟩ = some (.slice none 0 0) := (blk_cell BK103.out 1).trans rfl
   have hfs89 := blk_frozen BK103.out 1
   have hns89_0 := NB101_103.out
   have hns89_1 := NB102_103.out
   have hms89_0 := NB103_101.out
   have hms89_1 := NB103_102.out
   have hs91 : w86.cell? ⟨gb103, 2, none⟩ = some (.slice none 0 0) := (blk_cell BK103.out 2).trans rfl
   have hfs91 := blk_frozen BK103.out 2
   have hns91_0 := NB101_103.out
   have hns91_1 := NB102_103.out
   have hms91_0 := NB103_101.out
   have hms91_1 := NB103_102.out
   refine skip_ (w1 := ?_) (by rfl) rfl ?_ ?_
   rotate_left
   · go_simp
     rfl
   refine hK.out _ _ ⟨((cell_far (p := ⟨gb103, _, none⟩) NB101_103.out _).trans (((cell_far (p := ⟨gb103, _, none⟩) NB101_103.out _).trans (((cell_far (p := ⟨gb103, _, none⟩) NB101_103.out _).trans (hHeld.1)))))), ((cell_far (p := ⟨gb103, _, none⟩) NB101_103.out _).trans (((cell_far (p := ⟨gb103, _, none⟩) NB101_103.out _).trans (((cell_far (p := ⟨gb103, _, none⟩) NB101_103.out _).trans (hHeld.2.1)))))), ((cell_far (p := ⟨gb103, _, none⟩) NB101_103.out _).trans (((cell_far (p := ⟨gb103, _, none⟩) NB101_103.out _).trans (((cell_far (p := ⟨gb103, _, none⟩) NB101_103.out _).trans (hHeld.2.2))))))⟩ (fun hHeld => ?_)
   clear hK K
   refine done_ (done_of HT_.out (by kernel_rfl)) ?_
   try go_wp2
   refine bodyPost_ret (results_cell_row rfl _ _ gb103 60 #[.bool t141, .slice Ao88 t142.length co88, .slice Ao90 t145.length co90] (0, 0) _ rfl (zP3 BK103.out) Try.underlying60 rfl (by kernel_rfl)) rfl ?_
   exact ⟨_, _, zE, by (with_reducible repeat (first | apply Kd.R_alloc | apply Kd.R_drewN | apply Kd.R_drew)); exact yf HO144.out BK103.out (fun _ hk => hk.1.1.1.1.1.1.1.1.1), by (with_reducible repeat (first | apply Kd.R_alloc | apply Kd.R_drewN | apply Kd.R_drew)); exact yf HO147.out BK103.out (fun _ hk => hk.1.1.1.1.1.1.1.1.1), zB3 HB.out GE101.out GE102.out GE103.out⟩
 have c50b0 : decide (0 ≤ t137) = false := decide_eq_false c50
 clear c50
 replace H := zb H
 obtain ⟨t148, A92, H⟩ := H
 replace H := zb H
 obtain ⟨⟨t151, t152, t155⟩, A93, H⟩ := H
 dsimp only at H
 simp only [Option.some.injEq, Prod.mk.injEq] at H
 obtain ⟨rfl, rfl, rfl⟩ := H
 go_enter Try.func50, Try.ntmps50
 try go_wp2_with (first | ((with_reducible refine gate_dst (N := 2) rfl ?_); refine box_event ?hg (N := 2) ?hd (cs := #[.bool a0_0, .slice A0_1 l0_1.length c0_1, .slice A0_2 l0_2.length c0_2]) (t := 60) ?hr ?_; (case hd => rfl); (case hg => rfl); (case hr => first | (go_simp; done) | (go_simp; rfl)); intro gb101 hg w94 hbox hb; have BK101 := Aside0.mk (hbox); have GW101 := yg hg HB; have GE101 := yg hg HB; replace HB := yS HB hb; clear hb hbox hg) | ((with_reducible refine gate_dst (N := 3) rfl ?_); refine box_event ?hg (N := 3) ?hd (cs := #[.bool a1_0, .slice A1_1 l1_1.length c1_1, .slice A1_2 l1_2.length c1_2]) (t := 60) ?hr ?_; (case hd => rfl); (case hg => rfl); (case hr => first | (go_simp; done) | (go_simp; rfl)); intro gb102 hg w95 hbox hb; have BK102 := Aside0.mk (hbox); have GW102 := yg1 hg HB GE101; have GE102 := yg1 hg HB GE101; replace HB := yS1 HB GE101 hb; have NB101_102 := ynl hg BK101; have NB102_101 := yng hg BK101; replace BK101 := yK BK101 hb; clear hb hbox hg) | ((with_reducible refine gate_dst (N := 4) rfl ?_); refine box_event ?hg (N := 4) ?hd (cs := #[.bool false, .slice none 0 0, .slice none 0 0]) (t := 60) ?hr ?_; (case hd => rfl); (case hg => rfl); (case hr => first | (go_simp; done) | (go_simp; rfl)); intro gb103 hg w96 hbox hb; have BK103 := Aside0.mk (hbox); have GW103 := yg2 hg HB GE101 GE102; have GE103 := yg2 hg HB GE101 GE102; replace HB := yS2 HB GE101 GE102 hb; have NB101_103 := ynl hg BK101; have NB103_101 := yng hg BK101; replace BK101 := yK BK101 hb; have NB102_103 := ynl hg BK102; have NB103_102 := yng hg BK102; replace BK102 := yK BK102 hb; clear hb hbox hg; have hnb97 := NB101_102.out; have hnc97 := NB102_101.out; have hnb98 := NB101_103.out; have hnc98 := NB103_101.out; obtain ⟨hcz99_0, hcz99_1, hcz99_2, hfz99_0, hfz99_1, hfz99_2⟩ := zz3 BK101) | ((with_reducible refine gC 99 ?_); refine zG (some 9) Try.func99 #[.agg #[.bool a0_0, .slice A0_1 l0_1.length c0_1, .slice A0_2 l0_2.length c0_2]] ?_; (with_reducible refine (r2_Trim.calls k a0_0 _ _ l0_1 _ _ l0_2 t104 t105 t108 _ ?side1 ?side2 ?side3 ?side4 A3.out).mono ?_); (case side1 => exact zC (Kd.C_below HR0_1.out HB.out)); (case side2 => exact HC0_1.out); (case side3 => exact zC (Kd.C_below HR0_2.out HB.out)); (case side4 => exact HC0_2.out); rintro e w100 ⟨v106, v109, rfl, ho0, ho1, hb⟩; refine ⟨_, rfl, ?_⟩; have HO107 := yRl3 ho0 HB GE101 GE102 GE103; have HO110 := yRl3 ho1 HB GE101 GE102 GE103; replace BK101 := yK BK101 hb; replace BK102 := yK BK102 hb; replace BK103 := yK BK103 hb; replace HB := yS3 HB GE101 GE102 GE103 hb; (try clear hb ho0); (try clear ho1); obtain ⟨hcz101_0, hcz101_1, hcz101_2, hfz101_0, hfz101_1, hfz101_2⟩ := zz3 BK101; obtain ⟨Ao102, co102, rfl⟩ := Kd.R_slice HO107.out; obtain ⟨Ao103, co103, rfl⟩ := Kd.R_slice HO110.out; have hnb104 := NB102_103.out; have hnc104 := NB103_102.out; obtain ⟨hcz105_0, hcz105_1, hcz105_2, hfz105_0, hfz105_1, hfz105_2⟩ := zz3 BK102) | ((with_reducible refine gC 99 ?_); refine zG (some 11) Try.func99 #[.agg #[.bool a1_0, .slice A1_1 l1_1.length c1_1, .slice A1_2 l1_2.length c1_2]] ?_; (with_reducible refine (r2_Trim.calls k a1_0 _ _ l1_1 _ _ l1_2 t111 t112 t115 _ ?side1 ?side2 ?side3 ?side4 A4.out).mono ?_); (case side1 => exact Kd.C_below HR1_1.out (zB3 HB.out GE101.out GE102.out GE103.out)); (case side2 => exact HC1_1.out); (case side3 => exact Kd.C_below HR1_2.out (zB3 HB.out GE101.out GE102.out GE103.out)); (case side4 => exact HC1_2.out); rintro e w106 ⟨v113, v116, rfl, ho0, ho1, hb⟩; refine ⟨_, rfl, ?_⟩; replace ho0 := ynf ho0 HO107 BK101; replace ho0 := ynf ho0 HO110 BK101; have HO114 := yRl3 ho0 HB GE101 GE102 GE103; replace ho1 := ynf ho1 HO107 BK101; replace ho1 := ynf ho1 HO110 BK101; have HO117 := yRl3 ho1 HB GE101 GE102 GE103; replace HO107 := yRtf HO107 BK101 hb ho0 ho1; replace HO110 := yRtf HO110 BK101 hb ho0 ho1; replace BK101 := yP3 BK101 hb; replace BK102 := yF3 BK102 NB102_101 hb; replace BK103 := yF3 BK103 NB103_101 hb; replace HB := yS3 HB GE101 GE102 GE103 hb; (try clear hb ho0); (try clear ho1); obtain ⟨hcz107_0, hcz107_1, hcz107_2, hfz107_0, hfz107_1, hfz107_2⟩ := zz3 BK102; obtain ⟨Ao108, co108, rfl⟩ := Kd.R_slice HO114.out; obtain ⟨Ao109, co109, rfl⟩ := Kd.R_slice HO117.out; obtain ⟨hcz110_0, hcz110_1, hcz110_2, hfz110_0, hfz110_1, hfz110_2⟩ := zz3 BK101) | ((with_reducible refine gC 26 ?_); refine zG (some 16) Try.func26 #[.slice Ao102 t105.length co102, .slice Ao109 t115.length co109] ?_; (with_reducible refine (r1_Mul.calls k _ _ t105 _ _ t115 t118 _ ?side1 ?side2 ?side3 ?side4 A5.out).mono ?_); (case side1 => refine (Kd.R_reads' (e := 97) (base := w.heap.size) (ok := fun k_ => ((some k_ ≠ (.slice Ao103 t108.length co103 : Value).ownBlock ∧ some k_ ≠ (.slice Ao108 t112.length co108 : Value).ownBlock) ∧ some k_ ≠ (.slice Ao109 t115.length co109 : Value).ownBlock)) (n := t105.length) (c := co102) ?_).2.2; exact (zf HO107.out BK102.out)); (case side2 => exact (Kd.R_reads' HO107.out).2.1); (case side3 => refine (Kd.R_reads' (e := 97) (base := w.heap.size) (ok := fun k_ => ((some k_ ≠ (.slice Ao108 t112.length co108 : Value).ownBlock ∧ some k_ ≠ (.slice Ao102 t105.length co102 : Value).ownBlock) ∧ some k_ ≠ (.slice Ao103 t108.length co103 : Value).ownBlock)) (n := t115.length) (c := co109) ?_).2.2; exact (zf HO117.out BK102.out)); (case side4 => exact (Kd.R_reads' HO117.out).2.1); rintro e w111 ⟨v119, rfl, ho0, hb⟩; refine ⟨_, rfl, ?_⟩; replace ho0 := ynf ho0 HO107 BK102; replace ho0 := ynf ho0 HO110 BK102; replace ho0 := ynf ho0 HO114 BK102; replace ho0 := ynf ho0 HO117 BK102; have HO120 := yRl3 ho0 HB GE101 GE102 GE103; replace HO107 := yRef HO107 BK102 ho0 hb; replace HO110 := yRef HO110 BK102 ho0 hb; replace HO114 := yRef HO114 BK102 ho0 hb; replace HO117 := yRef HO117 BK102 ho0 hb; replace BK101 := yF3 BK101 NB101_102 hb; replace BK102 := yP3 BK102 hb; replace BK103 := yF3 BK103 NB103_102 hb; replace HB := yS3 HB GE101 GE102 GE103 hb; (try clear hb ho0); obtain ⟨hcz112_0, hcz112_1, hcz112_2, hfz112_0, hfz112_1, hfz112_2⟩ := zz3 BK102; obtain ⟨hcz113_0, hcz113_1, hcz113_2, hfz113_0, hfz113_1, hfz113_2⟩ := zz3 BK101) | ((with_reducible refine gC 26 ?_); refine zG (some 21) Try.func26 #[.slice Ao108 t112.length co108, .slice Ao103 t108.length co103] ?_; (with_reducible refine (r1_Mul.calls k _ _ t112 _ _ t108 t121 _ ?side1 ?side2 ?side3 ?side4 A6.out).mono ?_); (case side1 => exact zC (Kd.R_reads' HO114.out).2.2); (case side2 => exact (Kd.R_reads' HO114.out).2.1); (case side3 => exact zC (Kd.R_reads' HO110.out).2.2); (case side4 => exact (Kd.R_reads' HO110.out).2.1); rintro e w114 ⟨v122, rfl, ho0, hb⟩; refine ⟨_, rfl, ?_⟩; replace ho0 := yn ho0 HO107; replace ho0 := yn ho0 HO110; replace ho0 := yn ho0 HO114; replace ho0 := yn ho0 HO117; replace ho0 := yn ho0 HO120; have HO123 := yRl3 ho0 HB GE101 GE102 GE103; replace HO107 := yRe HO107 ho0 hb; replace HO110 := yRe HO110 ho0 hb; replace HO114 := yRe HO114 ho0 hb; replace HO117 := yRe HO117 ho0 hb; replace HO120 := yRe HO120 ho0 hb; replace BK101 := yK BK101 hb; replace BK102 := yK BK102 hb; replace BK103 := yK BK103 hb; replace HB := yS3 HB GE101 GE102 GE103 hb; (try clear hb ho0); obtain ⟨hcz115_0, hcz115_1, hcz115_2, hfz115_0, hfz115_1, hfz115_2⟩ := zz3 BK101; obtain ⟨hcz116_0, hcz116_1, hcz116_2, hfz116_0, hfz116_1, hfz116_2⟩ := zz3 BK102) | ((with_reducible refine gC 26 ?_); refine zG (some 26) Try.func26 #[.slice Ao103 t108.length co103, .slice Ao109 t115.length co109] ?_; (with_reducible refine (r1_Mul.calls k _ _ t108 _ _ t115 t124 _ ?side1 ?side2 ?side3 ?side4 A7.out).mono ?_); (case side1 => exact zC (Kd.R_reads' HO110.out).2.2); (case side2 => exact (Kd.R_reads' HO110.out).2.1); (case side3 => exact zC (Kd.R_reads' HO117.out).2.2); (case side4 => exact (Kd.R_reads' HO117.out).2.1); rintro e w117 ⟨v125, rfl, ho0, hb⟩; refine ⟨_, rfl, ?_⟩; replace ho0 := yn ho0 HO107; replace ho0 := yn ho0 HO110; replace ho0 := yn ho0 HO114; replace ho0 := yn ho0 HO117; replace ho0 := yn ho0 HO120; replace ho0 := yn ho0 HO123; have HO126 := yRl3 ho0 HB GE101 GE102 GE103; replace HO107 := yRe HO107 ho0 hb; replace HO110 := yRe HO110 ho0 hb; replace HO114 := yRe HO114 ho0 hb; replace HO117 := yRe HO117 ho0 hb; replace HO120 := yRe HO120 ho0 hb; replace HO123 := yRe HO123 ho0 hb; replace BK101 := yK BK101 hb; replace BK102 := yK BK102 hb; replace BK103 := yK BK103 hb; replace HB := yS3 HB GE101 GE102 GE103 hb; (try clear hb ho0); obtain ⟨hcz118_0, hcz118_1, hcz118_2, hfz118_0, hfz118_1, hfz118_2⟩ := zz3 BK101; obtain ⟨hcz119_0, hcz119_1, hcz119_2, hfz119_0, hfz119_1, hfz119_2⟩ := zz3 BK102; obtain ⟨Ao120, co120, rfl⟩ := Kd.R_slice HO120.out; obtain ⟨Ao121, co121, rfl⟩ := Kd.R_slice HO123.out) | ((with_reducible refine gC 77 ?_); refine zG (some 41) Try.func77 #[.slice Ao120 t118.length co120, .slice Ao121 t121.length co121] ?_; (with_reducible refine (r1_Cmp.calls k _ _ t118 _ _ t121 t137 _ ?side1 ?side2 ?side3 ?side4 A49.out).mono ?_); (case side1 => exact zC (Kd.R_reads' HO120.out).2.2); (case side2 => exact (Kd.R_reads' HO120.out).2.1); (case side3 => exact zC (Kd.R_reads' HO123.out).2.2); (case side4 => exact (Kd.R_reads' HO123.out).2.1); rintro e w122 ⟨rfl, hb⟩; refine ⟨_, rfl, ?_⟩; replace HO107 := yRb HO107 hb; replace HO110 := yRb HO110 hb; replace HO114 := yRb HO114 hb; replace HO117 := yRb HO117 hb; replace HO120 := yRb HO120 hb; replace HO123 := yRb HO123 hb; replace HO126 := yRb HO126 hb; replace BK101 := yK BK101 hb; replace BK102 := yK BK102 hb; replace BK103 := yK BK103 hb; replace HB := yS3 HB GE101 GE102 GE103 hb; (try clear hb); (try clear hb2); (try clear hk); (try clear hi)))
 replace HO107 := Aside0.mk (Kd.R_drew HO107.out)
 replace HO110 := Aside0.mk (Kd.R_drew HO110.out)
 replace HO114 := Aside0.mk (Kd.R_drew HO114.out)
 replace HO117 := Aside0.mk (Kd.R_drew HO117.out)
 replace HO120 := Aside0.mk (Kd.R_drew HO120.out)
 replace HO123 := Aside0.mk (Kd.R_drew HO123.out)
 replace HO126 := Aside0.mk (Kd.R_drew HO126.out)
 replace BK101 := Aside0.mk (blk_drew BK101.out)
 replace BK102 := Aside0.mk (blk_drew BK102.out)
 replace BK103 := Aside0.mk (blk_drew BK103.out)
 replace HB := Aside0.mk (below_drew1 HB.out)
 refine start_ (n := 8) (S := fun w' => w'.cell? ⟨gb102, 0, none⟩ = some (.bool t111) ∧ w'.cell? ⟨gb102, 1, none⟩ = some (.slice Ao108 t112.length co108) ∧ w'.cell? ⟨gb102, 2, none⟩ = some (.slice Ao109 t115.length co109)) (ds := []) #[false, false, false, false, false, false, false, false] (by kernel_rfl) rfl rfl ⟨(blk_cell BK102.out 0).trans rfl, (blk_cell BK102.out 1).trans rfl, (blk_cell BK102.out 2).trans rfl⟩ (fun hHeld => ?_); refine with_tabW r2_Add.tab10 r2_Add.bits10 (fun HT_ HW_ => ?_)
 generalize w122.drew = w123 at HO107 HO110 HO114 HO117 HO120 HO123 HO126 BK101 BK102 BK103 HB hHeld ⊢
 refine zp (i := 0) (N := some 50) HT_ ?_
 refine zp (i := 2) (N := some 52) HT_ ?_
 refine zp (i := 3) (N := some 53) HT_ ?_
 refine zp (i := 5) (N := some 55) HT_ ?_
 refine take_ (i := 1) (N := some 51) (v := ?_) (a' := ?_) #[true, true, true, true, false, true, false, false] rfl rfl (take_ofW HT_.out HW_.out (by kernel_rfl)) (fun _ _ _ h => h) (Or.inl ⟨by rfl, ?_⟩) hHeld ?_ ?_
 rotate_left
 · rintro w' ⟨s0, s1, s2⟩
   go_simp
   with_reducible rfl
 rotate_left
 · simp only [Act.put, List.setIfInBounds_toArray, List.set_cons_zero, List.set_cons_succ, i64_w, i32_w]
   rfl
 refine one_ (i := 4) (N := some 54) #[true, true, true, true, true, true, false, false] rfl rfl (one_of HT_.out (by kernel_rfl)) (by decide) (fun K hK => ?_)
 refine goes_ Try.func100 (by kernel_rfl) rfl #[.slice Ao121 t121.length co121, .slice Ao120 t118.length co120] (by rfl) rfl rfl (by (try simp only [List.map_toArray, List.map_cons, List.map_nil]); first | done | rfl | (simp only [List.length_drop, List.length_take]; rfl)) ?_
 with_reducible refine (r1_Sub.calls k _ _ t121 _ _ t118 t148 _ ?side1 ?side2 ?side3 ?side4 A92.out).mono ?_
 (case side1 => exact zC (Kd.R_reads' HO123.out).2.2)
 (case side2 => exact (Kd.R_reads' HO123.out).2.1)
 (case side3 => exact zC (Kd.R_reads' HO120.out).2.2)
 (case side4 => exact (Kd.R_reads' HO120.out).2.1)
 rintro e w124 ⟨v149, rfl, ho0, hb⟩
 refine ⟨_, rfl, ?_⟩
 replace ho0 := yn ho0 HO107
 replace ho0 := yn ho0 HO110
 replace ho0 := yn ho0 HO114
 replace ho0 := yn ho0 HO117
 replace ho0 := yn ho0 HO120
 replace ho0 := yn ho0 HO123
 replace ho0 := yn ho0 HO126
 have HO150 := yRl3 ho0 HB GE101 GE102 GE103
 replace HO107 := yRe HO107 ho0 hb
 replace HO110 := yRe HO110 ho0 hb
 replace HO114 := yRe HO114 ho0 hb
 replace HO117 := yRe HO117 ho0 hb
 replace HO120 := yRe HO120 ho0 hb
 replace HO123 := yRe HO123 ho0 hb
 replace HO126 := yRe HO126 ho0 hb
 replace BK101 := yK BK101 hb
 replace BK102 := yK BK102 hb
 replace BK103 := yK BK103 hb
 replace HB := yS3 HB GE101 GE102 GE103 hb
 (try clear hb)
 (try clear ho0)
 obtain ⟨Ao125, co125, eo125⟩ := Kd.R_slice HO150.out
 (first | subst eo125 | (injection eo125 with f1_ f2_ f3_; have f4_ := f1_.symm; have f5_ := f3_.symm; clear f1_ f2_ f3_; subst f4_; subst f5_))
 obtain ⟨Ao126, co126, eo126⟩ := Kd.R_slice HO126.out
 (first | subst eo126 | (injection eo126 with f1_ f2_ f3_; have f4_ := f1_.symm; have f5_ := f3_.symm; clear f1_ f2_ f3_; subst f4_; subst f5_))
 refine hK.out _ _ ⟨(blk_cell BK102.out 0).trans rfl, (blk_cell BK102.out 1).trans rfl, (blk_cell BK102.out 2).trans rfl⟩ (fun hHeld => ?_)
 clear hK K
 refine norm_ (a' := ?_) ?_ ?_
 rotate_left
 · show Act.put _ (some 54) _ = _
   simp only [Act.put, List.setIfInBounds_toArray, List.set_cons_zero, List.set_cons_succ, i64_w, i32_w]
   rfl
 refine one_ (i := 6) (N := some 56) #[true, true, true, true, true, true, true, false] rfl rfl (one_of HT_.out (by kernel_rfl)) (by decide) (fun K hK => ?_)
 refine goes_ Try.func90 (by kernel_rfl) rfl #[.bool t111, .slice Ao125 t148.length co125, .slice Ao126 t124.length co126] (by rfl) rfl rfl (by (try simp only [List.map_toArray, List.map_cons, List.map_nil]); first | done | rfl | (simp only [List.length_drop, List.length_take]; rfl)) ?_
 with_reducible refine (r2_Make.calls k t111 _ _ t148 _ _ t124 t151 t152 t155 _ ?side1 ?side2 ?side3 ?side4 A93.out).mono ?_
 (case side1 => exact zC (Kd.R_reads' HO150.out).2.2)
 (case side2 => exact (Kd.R_reads' HO150.out).2.1)
 (case side3 => exact zC (Kd.R_reads' HO126.out).2.2)
 (case side4 => exact (Kd.R_reads' HO126.out).2.1)
 rintro e w127 ⟨v153, v156, rfl, ho0, ho1, hb⟩
 refine ⟨_, rfl, ?_⟩
 replace ho0 := yn ho0 HO107
 replace ho0 := yn ho0 HO110
 replace ho0 := yn ho0 HO114
 replace ho0 := yn ho0 HO117
 replace ho0 := yn ho0 HO120
 replace ho0 := yn ho0 HO123
 replace ho0 := yn ho0 HO126
 replace ho0 := yn ho0 HO150
 have HO154 := yRl3 ho0 HB GE101 GE102 GE103
 replace ho1 := yn ho1 HO107
 replace ho1 := yn ho1 HO110
 replace ho1 := yn ho1 HO114
 replace ho1 := yn ho1 HO117
 replace ho1 := yn ho1 HO120
 replace ho1 := yn ho1 HO123
 replace ho1 := yn ho1 HO126
 replace ho1 := yn ho1 HO150
 have HO157 := yRl3 ho1 HB GE101 GE102 GE103
 replace HO107 := yRt HO107 hb ho0 ho1
 replace HO110 := yRt HO110 hb ho0 ho1
 replace HO114 := yRt HO114 hb ho0 ho1
 replace HO117 := yRt HO117 hb ho0 ho1
 replace HO120 := yRt HO120 hb ho0 ho1
 replace HO123 := yRt HO123 hb ho0 ho1
 replace HO126 := yRt HO126 hb ho0 ho1
 replace HO150 := yRt HO150 hb ho0 ho1
 replace BK101 := yK BK101 hb
 replace BK102 := yK BK102 hb
 replace BK103 := yK BK103 hb
 replace HB := yS3 HB GE101 GE102 GE103 hb
 (try clear hb)
 (try clear ho0)
 (try clear ho1)
 obtain ⟨Ao129, co129, eo129⟩ := Kd.R_slice HO154.out
 (first | subst eo129 | (injection eo129 with f1_ f2_ f3_; have f4_ := f1_.symm; have f5_ := f3_.symm; clear f1_ f2_ f3_; subst f4_; subst f5_))
 obtain ⟨Ao131, co131, eo131⟩ := Kd.R_slice HO157.out
 (first | subst eo131 | (injection eo131 with f1_ f2_ f3_; have f4_ := f1_.symm; have f5_ := f3_.symm; clear f1_ f2_ f3_; subst f4_; subst f5_))
 refine hK.out _ _ ⟨(blk_cell BK102.out 0).trans rfl, (blk_cell BK102.out 1).trans rfl, (blk_cell BK102.out 2).trans rfl⟩ (fun hHeld => ?_)
 clear hK K
 refine norm_ (a' := ?_) ?_ ?_
 rotate_left
 · show Act.put _ (some 56) _ = _
   simp only [Act.put, List.setIfInBounds_toArray, List.set_cons_zero, List.set_cons_succ, i64_w, i32_w]
   rfl
 refine one_ (i := 7) (N := none) #[true, true, true, true, true, true, true, true] rfl rfl (one_of HT_.out (by kernel_rfl)) (by decide) (fun K hK => ?_)
 have hs128 : w127.cell? ⟨gb103, 0, none⟩ = some (.bool false) := (blk_cell BK103.out 0).trans rfl
 have hfs128 := blk_frozen BK103.out 0
 have hns128_0 := NB101_103.out
 have hns128_1 := NB102_103.out
 have hms128_0 := NB103_101.out
 have hms128_1 := NB103_102.out
 have hs130 : w127.cell? ⟨gb103, 1, none⟩ = some (.slice none 0 0) := (blk_cell BK103.out 1).trans rfl
 have hfs130 := blk_frozen BK103.out 1
 have hns130_0 := NB101_103.out
 have hns130_1 := NB102_103.out
 have hms130_0 := NB103_101.out
 have hms130_1 := NB103_102.out
 have hs132 : w127.cell? ⟨gb103, 2, none⟩ = some (.slice none 0 0) := (blk_cell BK103.out 2).trans rfl
 have hfs132 := blk_frozen BK103.out 2
 have hns132_0 := NB101_103.out
 have hns132_1 := NB102_103.out
 have hms132_0 := NB103_101.out
 have hms132_1 := NB103_102.out
 refine skip_ (w1 := ?_) (by rfl) rfl ?_ ?_
 rotate_left
 · go_simp
   rfl
 refine hK.out _ _ ⟨((cell_far (p := ⟨gb103, _, none⟩) NB102_103.out _).trans (((cell_far (p := ⟨gb103, _, none⟩) NB102_103.out _).trans (((cell_far (p := ⟨gb103, _, none⟩) NB102_103.out _).trans (hHeld.1)))))), ((cell_far (p := ⟨gb103, _, none⟩) NB102_103.out _).trans (((cell_far (p := ⟨gb103, _, none⟩) NB102_103.out _).trans (((cell_far (p := ⟨gb103, _, none⟩) NB102_103.out _).trans (hHeld.2.1)))))), ((cell_far (p := ⟨gb103, _, none⟩) NB102_103.out _).trans (((cell_far (p := ⟨gb103, _, none⟩) NB102_103.out _).trans (((cell_far (p := ⟨gb103, _, none⟩) NB102_103.out _).trans (hHeld.2.2))))))⟩ (fun hHeld => ?_)
 clear hK K
 refine done_ (done_of HT_.out (by kernel_rfl)) ?_
 try go_wp2
 refine bodyPost_ret (results_cell_row rfl _ _ gb103 60 #[.bool t151, .slice Ao129 t152.length co129, .slice Ao131 t155.length co131] (0, 0) _ rfl (zP3 BK103.out) Try.underlying60 rfl (by kernel_rfl)) rfl ?_
 exact ⟨_, _, zE, by (with_reducible repeat (first | apply Kd.R_alloc | apply Kd.R_drewN | apply Kd.R_drew)); exact yf HO154.out BK103.out (fun _ hk => hk.1.1.1.1.1.1.1.1.1), by (with_reducible repeat (first | apply Kd.R_alloc | apply Kd.R_drewN | apply Kd.R_drew)); exact yf HO157.out BK103.out (fun _ hk => hk.1.1.1.1.1.1.1.1.1), zB3 HB.out GE101.out GE102.out GE103.out⟩
set_option maxHeartbeats 8000000 in
set_option maxRecDepth 100000 in
theorem r1_Pow.calls (k : Nat) (A0 : Option Addr) (c0 : Nat) (l0 : List Int) (a1 : Int) (r1 : List Int) (r2 : Int) (w : World) (hr0 : Kd.C (Kd.int .u32) w A0 l0.length l0) (hc0 : l0.length ≤ c0) (h : r1_Pow.f k l0 a1 = some (r1, r2)) :
    Calls Try.prog 22 #[.slice A0 l0.length c0, .int .i64 a1] w fun e w' => ∃ v0_ : Value, e = .returned (.tuple #[v0_, .int .i64 r2]) ∧ Kd.R (Kd.int .u32) 97 w' w.heap.size (fun _ => True) v0_ r1 ∧ Below w.heap.size w w' := by
 have HR0 := Aside0.mk hr0
 have HC0 := Aside0.mk hc0
 clear hr0 hc0
 have HB := Aside0.mk (Below.refl w.heap.size w)
 have H : (if a1 < 0 then (some (([] : List Int), 6)) else ((r1_Trim.f k l0).bind fun t101 => (if a1 = 0 then (some ((([1] : List Int)), 0)) else ((r1_Bits.f k t101).bind fun t107 => (if t107 ≤ 1 then (some (t101, 0)) else (if a1 > 131072 then (some (([] : List Int), 8)) else (r1_Pow.l0 k t101 a1 (([1] : List Int)) 262144))))))) = some (r1, r2) := h
 clear h
 replace H := zid H
 rcases H with ⟨c3b0, H⟩ | ⟨c3b0, H⟩
 · simp only [Option.some.injEq, Prod.mk.injEq] at H
   obtain ⟨rfl, rfl⟩ := H
   go_enter Try.func22, Try.ntmps22
   go_wp2
   go_ret2
   exact ⟨_, zE, z0, zB HB.out⟩
 replace H := zb H
 obtain ⟨t101, A4, H⟩ := H
 replace H := zi H
 rcases H with ⟨c5, H⟩ | ⟨c5, H⟩
 · have c5b0 := beq_iff_eq.mpr c5
   have c5b1 := bne_eq_false_iff_eq.mpr c5
   clear c5
   obtain ⟨y104, hy104⟩ : ∃ y_ : List Int, y_ = (([1] : List Int)) := ⟨_, rfl⟩
   replace H : (some (y104, 0)) = some (r1, r2) := zY hy104 H
   have Ny104 := Aside0.mk hy104
   clear hy104
   simp only [Option.some.injEq, Prod.mk.injEq] at H
   obtain ⟨rfl, rfl⟩ := H
   go_enter Try.func22, Try.ntmps22
   go_wp2_with (first | ((with_reducible refine gC 75 ?_); refine zG (some 11) Try.func75 #[.slice A0 l0.length c0] ?_; (with_reducible refine (r1_Trim.calls k _ _ l0 t101 _ ?side1 ?side2 A4.out).mono ?_); (case side1 => exact zC HR0.out); (case side2 => exact HC0.out); rintro e w6 ⟨v102, rfl, ho0, hb⟩; refine ⟨_, rfl, ?_⟩; have HO103 := yRl ho0 HB; replace HB := yS HB hb; (try clear hb ho0)) | ((with_reducible refine gate_dst (N := 14) rfl ?_); refine Kd.R_lit (Kd.int .u32) _ 97 ?hg (N := 14) ?hd (xs := ([1] : List Int)) (inner := [.int .u32 1]) (ok := fun _ => True) (okp := fun _ => True) ?hr ?hp (fun _ hk => hk) trivial (Below.refl _ _) (Nat.le_refl _) (by simp) ?_; (case hd => rfl); (case hg => rfl); (case hr => first | (go_simp; done) | (go_simp; rfl)); (case hp => exact (Reps.one (show Kd.M (Kd.int .u32) _ _ _ 1 [.int .u32 1] from rfl) (Reps.none _ _))); intro v105 w7 ho8 hb hg_ hnew_; clear hg_ hnew_; (first | rw [← Ny104.out] at ho8 | (simp only [Int.reduceToNat] at ho8; rw [← Ny104.out] at ho8)); replace ho8 := yn ho8 HO103; have HO106 := yRl ho8 HB; replace HO103 := yRe HO103 ho8 hb; replace HB := yS HB hb; clear hb ho8))
   go_ret2
   exact ⟨_, zE, by (with_reducible repeat (first | apply Kd.R_alloc | apply Kd.R_drewN | apply Kd.R_drew)); exact Kd.R_mono HO106.out (fun _ hk => trivial), zB HB.out⟩
 have c5b0 := beq_eq_false_iff_ne.mpr c5
 have c5b1 := bne_iff_ne.mpr c5
 replace H := zb H
 obtain ⟨t107, A9, H⟩ := H
 replace H := zid H
 rcases H with ⟨c10b0, H⟩ | ⟨c10b0, H⟩
 · simp only [Option.some.injEq, Prod.mk.injEq] at H
   obtain ⟨rfl, rfl⟩ := H
   go_enter Try.func22, Try.ntmps22
   go_wp2_with (first | ((with_reducible refine gC 75 ?_); refine zG (some 11) Try.func75 #[.slice A0 l0.length c0] ?_; (with_reducible refine (r1_Trim.calls k _ _ l0 t101 _ ?side1 ?side2 A4.out).mono ?_); (case side1 => exact zC HR0.out); (case side2 => exact HC0.out); rintro e w11 ⟨v102, rfl, ho0, hb⟩; refine ⟨_, rfl, ?_⟩; have HO103 := yRl ho0 HB; replace HB := yS HB hb; (try clear hb ho0); obtain ⟨Ao12, co12, rfl⟩ := Kd.R_slice HO103.out) | ((with_reducible refine gC 76 ?_); refine zG (some 16) Try.func76 #[.slice Ao12 t101.length co12] ?_; (with_reducible refine (r1_Bits.calls k _ _ t101 t107 _ ?side1 ?side2 A9.out).mono ?_); (case side1 => exact zC (Kd.R_reads' HO103.out).2.2); (case side2 => exact (Kd.R_reads' HO103.out).2.1); rintro e w13 ⟨rfl, hb⟩; refine ⟨_, rfl, ?_⟩; replace HO103 := yRb HO103 hb; replace HB := yS HB hb; (try clear hb); (try clear hb2); (try clear hk); (try clear hi)))
   go_ret2
   exact ⟨_, zE, zR HO103.out, zB HB.out⟩
 replace H := zi H
 rcases H with ⟨c14, H⟩ | ⟨c14, H⟩
 · have c14b0 : decide (131072 < a1) = true := decide_eq_true c14
   clear c14
   simp only [Option.some.injEq, Prod.mk.injEq] at H
   obtain ⟨rfl, rfl⟩ := H
   go_enter Try.func22, Try.ntmps22
   go_wp2_with (first | ((with_reducible refine gC 75 ?_); refine zG (some 11) Try.func75 #[.slice A0 l0.length c0] ?_; (with_reducible refine (r1_Trim.calls k _ _ l0 t101 _ ?side1 ?side2 A4.out).mono ?_); (case side1 => exact zC HR0.out); (case side2 => exact HC0.out); rintro e w15 ⟨v102, rfl, ho0, hb⟩; refine ⟨_, rfl, ?_⟩; have HO103 := yRl ho0 HB; replace HB := yS HB hb; (try clear hb ho0); obtain ⟨Ao16, co16, rfl⟩ := Kd.R_slice HO103.out) | ((with_reducible refine gC 76 ?_); refine zG (some 16) Try.func76 #[.slice Ao16 t101.length co16] ?_; (with_reducible refine (r1_Bits.calls k _ _ t101 t107 _ ?side1 ?side2 A9.out).mono ?_); (case side1 => exact zC (Kd.R_reads' HO103.out).2.2); (case side2 => exact (Kd.R_reads' HO103.out).2.1); rintro e w17 ⟨rfl, hb⟩; refine ⟨_, rfl, ?_⟩; replace HO103 := yRb HO103 hb; replace HB := yS HB hb; (try clear hb); (try clear hb2); (try clear hk); (try clear hi)))
   go_ret2
   exact ⟨_, zE, z0, zB HB.out⟩
 have c14b0 : decide (131072 < a1) = false := decide_eq_false c14
 clear c14
 obtain ⟨y108, hy108⟩ : ∃ y_ : List Int, y_ = (([1] : List Int)) := ⟨_, rfl⟩
 replace H : (r1_Pow.l0 k t101 a1 y108 262144) = some (r1, r2) := zY hy108 H
 have Ny108 := Aside0.mk hy108
 clear hy108
 have H' := Aside0.mk H
 clear H
 go_enter Try.func22, Try.ntmps22
 go_wp2_with (first | ((with_reducible refine gC 75 ?_); refine zG (some 11) Try.func75 #[.slice A0 l0.length c0] ?_; (with_reducible refine (r1_Trim.calls k _ _ l0 t101 _ ?side1 ?side2 A4.out).mono ?_); (case side1 => exact zC HR0.out); (case side2 => exact HC0.out); rintro e w18 ⟨v102, rfl, ho0, hb⟩; refine ⟨_, rfl, ?_⟩; have HO103 := yRl ho0 HB; replace HB := yS HB hb; (try clear hb ho0); obtain ⟨Ao19, co19, rfl⟩ := Kd.R_slice HO103.out) | ((with_reducible refine gC 76 ?_); refine zG (some 16) Try.func76 #[.slice Ao19 t101.length co19] ?_; (with_reducible refine (r1_Bits.calls k _ _ t101 t107 _ ?side1 ?side2 A9.out).mono ?_); (case side1 => exact zC (Kd.R_reads' HO103.out).2.2); (case side2 => exact (Kd.R_reads' HO103.out).2.1); rintro e w20 ⟨rfl, hb⟩; refine ⟨_, rfl, ?_⟩; replace HO103 := yRb HO103 hb; replace HB := yS HB hb; (try clear hb); (try clear hb2); (try clear hk); (try clear hi)) | ((with_reducible refine gate_dst (N := 21) rfl ?_); refine Kd.R_lit (Kd.int .u32) _ 97 ?hg (N := 21) ?hd (xs := ([1] : List Int)) (inner := [.int .u32 1]) (ok := fun _ => True) (okp := fun _ => True) ?hr ?hp (fun _ hk => hk) trivial (Below.refl _ _) (Nat.le_refl _) (by simp) ?_; (case hd => rfl); (case hg => rfl); (case hr => first | (go_simp; done) | (go_simp; rfl)); (case hp => exact (Reps.one (show Kd.M (Kd.int .u32) _ _ _ 1 [.int .u32 1] from rfl) (Reps.none _ _))); intro v109 w21 ho22 hb hg_ hnew_; clear hg_ hnew_; (first | rw [← Ny108.out] at ho22 | (simp only [Int.reduceToNat] at ho22; rw [← Ny108.out] at ho22)); replace ho22 := yn ho22 HO103; have HO110 := yRl ho22 HB; replace HO103 := yRe HO103 ho22 hb; replace HB := yS HB hb; clear hb ho22))
 go_loopg [6, 7] k (fun kq v6 v7 w' => ∃ (x6_1 : List Int) (x7_1 : Int), v7 = .int .i64 x7_1 ∧ Aside0 (r1_Pow.l0 kq t101 a1 x6_1 x7_1 = some (r1, r2)) ∧ Aside0 (kq ≤ k) ∧ Aside0 (Kd.R (Kd.int .u32) 97 w' w.heap.size (fun k_ => some k_ ≠ (v6 : Value).ownBlock) (.slice Ao19 t101.length co19) t101) ∧ Aside0 (Kd.R (Kd.int .u32) 97 w' w.heap.size (fun k_ => some k_ ≠ ((.slice Ao19 t101.length co19) : Value).ownBlock) v6 x6_1) ∧ Aside0 (Below w.heap.size w w'))
 case atStart => exact ⟨(y108), (262144), zF, H', ⟨Nat.le_refl _⟩, ⟨by (with_reducible repeat (first | apply Kd.R_alloc | apply Kd.R_drewN | apply Kd.R_drew)); exact Kd.R_mono HO103.out (fun _ hk => hk.2)⟩, ⟨by (with_reducible repeat (first | apply Kd.R_alloc | apply Kd.R_drewN | apply Kd.R_drew)); exact Kd.R_mono HO110.out (fun _ hk => hk.2)⟩, ⟨zB HB.out⟩⟩
 clear H'
 (try clear c3b0);(try clear c5);(try clear c5b0);(try clear c5b1);(try clear c10b0);(try clear c14);(try clear c14b0)
 obtain ⟨x6_1, x7_1, rfl, HA, HK1, HO_0, HO_6, HB⟩ := hrel
 cases gk with | zero => exact absurd HA.out (by simp [r1_Pow.l0]) | succ k1 => ?_
 have H := HA.out
 clear HA
 simp only [r1_Pow.l0] at H
 replace H := zi H
 rcases H with ⟨c23, H⟩ | ⟨c23, H⟩
 · have c23b0 : decide (0 < x7_1) = true := decide_eq_true c23
   clear c23
   replace H := zb H
   obtain ⟨t111, A24, H⟩ := H
   replace H := zh H
   obtain ⟨c25, H⟩ := H
   have c25b0 := beq_eq_false_iff_ne.mpr c25
   have c25b1 := bne_iff_ne.mpr c25
   replace H := zi H
   rcases H with ⟨c26, H⟩ | ⟨c26, H⟩
   · have c26b0 := beq_iff_eq.mpr c26
     have c26b1 := bne_eq_false_iff_eq.mpr c26
     clear c26
     replace H := zb H
     obtain ⟨t114, A27, H⟩ := H
     replace H := zi H
     rcases H with ⟨c28, H⟩ | ⟨c28, H⟩
     · have c28b0 : decide (4096 < (t114.length : Int)) = true := decide_eq_true c28
       have c28b1 : decide (4096 < t114.length) = true := decide_eq_true (by omega)
       clear c28
       simp only [Option.some.injEq, Prod.mk.injEq] at H
       obtain ⟨rfl, rfl⟩ := H
       obtain ⟨Ao29, co29, rfl⟩ := Kd.R_slice HO_6.out
       go_wp2_with (first | ((with_reducible refine gC 26 ?_); refine zG (some 28) Try.func26 #[.slice Ao29 x6_1.length co29, .slice Ao29 x6_1.length co29] ?_; (with_reducible refine (r1_Mul.calls k1 _ _ x6_1 _ _ x6_1 t111 _ ?side1 ?side2 ?side3 ?side4 A24.out).mono ?_); (case side1 => exact zC (Kd.R_reads' HO_6.out).2.2); (case side2 => exact (Kd.R_reads' HO_6.out).2.1); (case side3 => exact zC (Kd.R_reads' HO_6.out).2.2); (case side4 => exact (Kd.R_reads' HO_6.out).2.1); rintro e w30 ⟨v112, rfl, ho0, hb⟩; refine ⟨_, rfl, ?_⟩; replace ho0 := yn ho0 HO_0; replace ho0 := yn ho0 HO_6; have HO113 := yRl ho0 HB; replace HO_0 := yRe HO_0 ho0 hb; replace HO_6 := yRe HO_6 ho0 hb; replace HB := yS HB hb; (try clear hb ho0); obtain ⟨Ao31, co31, rfl⟩ := Kd.R_slice HO113.out) | ((with_reducible refine gC 26 ?_); refine zG (some 36) Try.func26 #[.slice Ao31 t111.length co31, .slice Ao19 t101.length co19] ?_; (with_reducible refine (r1_Mul.calls k1 _ _ t111 _ _ t101 t114 _ ?side1 ?side2 ?side3 ?side4 A27.out).mono ?_); (case side1 => exact zC (Kd.R_reads' HO113.out).2.2); (case side2 => exact (Kd.R_reads' HO113.out).2.1); (case side3 => exact zC (Kd.R_reads' HO_0.out).2.2); (case side4 => exact (Kd.R_reads' HO_0.out).2.1); rintro e w32 ⟨v115, rfl, ho0, hb⟩; refine ⟨_, rfl, ?_⟩; replace ho0 := yn ho0 HO_0; replace ho0 := yn ho0 HO_6; replace ho0 := yn ho0 HO113; have HO116 := yRl ho0 HB; replace HO_0 := yRe HO_0 ho0 hb; replace HO_6 := yRe HO_6 ho0 hb; replace HO113 := yRe HO113 ho0 hb; replace HB := yS HB hb; (try clear hb ho0); obtain ⟨Ao33, co33, rfl⟩ := Kd.R_slice HO116.out))
       go_ret2
       exact ⟨_, zE, z0, zB HB.out⟩
     have c28b0 : decide (4096 < (t114.length : Int)) = false := decide_eq_false c28
     have c28b1 : decide (4096 < t114.length) = false := decide_eq_false (by omega)
     clear c28
     have H' := Aside0.mk H
     clear H
     obtain ⟨Ao34, co34, rfl⟩ := Kd.R_slice HO_6.out
     go_wp2_with (first | ((with_reducible refine gC 26 ?_); refine zG (some 28) Try.func26 #[.slice Ao34 x6_1.length co34, .slice Ao34 x6_1.length co34] ?_; (with_reducible refine (r1_Mul.calls k1 _ _ x6_1 _ _ x6_1 t111 _ ?side1 ?side2 ?side3 ?side4 A24.out).mono ?_); (case side1 => exact zC (Kd.R_reads' HO_6.out).2.2); (case side2 => exact (Kd.R_reads' HO_6.out).2.1); (case side3 => exact zC (Kd.R_reads' HO_6.out).2.2); (case side4 => exact (Kd.R_reads' HO_6.out).2.1); rintro e w35 ⟨v112, rfl, ho0, hb⟩; refine ⟨_, rfl, ?_⟩; replace ho0 := yn ho0 HO_0; replace ho0 := yn ho0 HO_6; have HO113 := yRl ho0 HB; replace HO_0 := yRe HO_0 ho0 hb; replace HO_6 := yRe HO_6 ho0 hb; replace HB := yS HB hb; (try clear hb ho0); obtain ⟨Ao36, co36, rfl⟩ := Kd.R_slice HO113.out) | ((with_reducible refine gC 26 ?_); refine zG (some 36) Try.func26 #[.slice Ao36 t111.length co36, .slice Ao19 t101.length co19] ?_; (with_reducible refine (r1_Mul.calls k1 _ _ t111 _ _ t101 t114 _ ?side1 ?side2 ?side3 ?side4 A27.out).mono ?_); (case side1 => exact zC (Kd.R_reads' HO113.out).2.2); (case side2 => exact (Kd.R_reads' HO113.out).2.1); (case side3 => exact zC (Kd.R_reads' HO_0.out).2.2); (case side4 => exact (Kd.R_reads' HO_0.out).2.1); rintro e w37 ⟨v115, rfl, ho0, hb⟩; refine ⟨_, rfl, ?_⟩; replace ho0 := yn ho0 HO_0; replace ho0 := yn ho0 HO_6; replace ho0 := yn ho0 HO113; have HO116 := yRl ho0 HB; replace HO_0 := yRe HO_0 ho0 hb; replace HO_6 := yRe HO_6 ho0 hb; replace HO113 := yRe HO113 ho0 hb; replace HB := yS HB hb; (try clear hb ho0); obtain ⟨Ao38, co38, rfl⟩ := Kd.R_slice HO116.out))
     go_roundg k1
     case measure => have := HK1.out; omega
     case rel => exact ⟨(t114), (wrap64 (Int.tdiv x7_1 2)), zF, H', ⟨zo1 HK1⟩, ⟨by (with_reducible repeat (first | apply Kd.R_alloc | apply Kd.R_drewN | apply Kd.R_drew)); exact Kd.R_mono HO_0.out (fun _ hk => hk.2)⟩, ⟨by (with_reducible repeat (first | apply Kd.R_alloc | apply Kd.R_drewN | apply Kd.R_drew)); exact Kd.R_mono HO116.out (fun _ hk => hk.1.1.2)⟩, ⟨zB HB.out⟩⟩
   have c26b0 := beq_eq_false_iff_ne.mpr c26
   have c26b1 := bne_iff_ne.mpr c26
   replace H := zi H
   rcases H with ⟨c39, H⟩ | ⟨c39, H⟩
   · have c39b0 : decide (4096 < (t111.length : Int)) = true := decide_eq_true c39
     have c39b1 : decide (4096 < t111.length) = true := decide_eq_true (by omega)
     clear c39
     simp only [Option.some.injEq, Prod.mk.injEq] at H
     obtain ⟨rfl, rfl⟩ := H
     obtain ⟨Ao40, co40, rfl⟩ := Kd.R_slice HO_6.out
     go_wp2_with (first | ((with_reducible refine gC 26 ?_); refine zG (some 28) Try.func26 #[.slice Ao40 x6_1.length co40, .slice Ao40 x6_1.length co40] ?_; (with_reducible refine (r1_Mul.calls k1 _ _ x6_1 _ _ x6_1 t111 _ ?side1 ?side2 ?side3 ?side4 A24.out).mono ?_); (case side1 => exact zC (Kd.R_reads' HO_6.out).2.2); (case side2 => exact (Kd.R_reads' HO_6.out).2.1); (case side3 => exact zC (Kd.R_reads' HO_6.out).2.2); (case side4 => exact (Kd.R_reads' HO_6.out).2.1); rintro e w41 ⟨v112, rfl, ho0, hb⟩; refine ⟨_, rfl, ?_⟩; replace ho0 := yn ho0 HO_0; replace ho0 := yn ho0 HO_6; have HO113 := yRl ho0 HB; replace HO_0 := yRe HO_0 ho0 hb; replace HO_6 := yRe HO_6 ho0 hb; replace HB := yS HB hb; (try clear hb ho0); obtain ⟨Ao42, co42, rfl⟩ := Kd.R_slice HO113.out))
     go_ret2
     exact ⟨_, zE, z0, zB HB.out⟩
   have c39b0 : decide (4096 < (t111.length : Int)) = false := decide_eq_false c39
   have c39b1 : decide (4096 < t111.length) = false := decide_eq_false (by omega)
   clear c39
   have H' := Aside0.mk H
   clear H
   obtain ⟨Ao43, co43, rfl⟩ := Kd.R_slice HO_6.out
   go_wp2_with (first | ((with_reducible refine gC 26 ?_); refine zG (some 28) Try.func26 #[.slice Ao43 x6_1.length co43, .slice Ao43 x6_1.length co43] ?_; (with_reducible refine (r1_Mul.calls k1 _ _ x6_1 _ _ x6_1 t111 _ ?side1 ?side2 ?side3 ?side4 A24.out).mono ?_); (case side1 => exact zC (Kd.R_reads' HO_6.out).2.2); (case side2 => exact (Kd.R_reads' HO_6.out).2.1); (case side3 => exact zC (Kd.R_reads' HO_6.out).2.2); (case side4 => exact (Kd.R_reads' HO_6.out).2.1); rintro e w44 ⟨v112, rfl, ho0, hb⟩; refine ⟨_, rfl, ?_⟩; replace ho0 := yn ho0 HO_0; replace ho0 := yn ho0 HO_6; have HO113 := yRl ho0 HB; replace HO_0 := yRe HO_0 ho0 hb; replace HO_6 := yRe HO_6 ho0 hb; replace HB := yS HB hb; (try clear hb ho0); obtain ⟨Ao45, co45, rfl⟩ := Kd.R_slice HO113.out))
   go_roundg k1
   case measure => have := HK1.out; omega
   case rel => exact ⟨(t111), (wrap64 (Int.tdiv x7_1 2)), zF, H', ⟨zo1 HK1⟩, ⟨by (with_reducible repeat (first | apply Kd.R_alloc | apply Kd.R_drewN | apply Kd.R_drew)); exact Kd.R_mono HO_0.out (fun _ hk => hk.2)⟩, ⟨by (with_reducible repeat (first | apply Kd.R_alloc | apply Kd.R_drewN | apply Kd.R_drew)); exact Kd.R_mono HO113.out (fun _ hk => hk.1.2)⟩, ⟨zB HB.out⟩⟩
 have c23b0 : decide (0 < x7_1) = false := decide_eq_false c23
 clear c23
 simp only [Option.some.injEq, Prod.mk.injEq] at H
 obtain ⟨rfl, rfl⟩ := H
 go_wp2
 go_ret2
 exact ⟨_, zE, by (with_reducible repeat (first | apply Kd.R_alloc | apply Kd.R_drewN | apply Kd.R_drew)); exact Kd.R_mono HO_6.out (fun _ hk => trivial), zB HB.out⟩
set_option maxHeartbeats 8000000 in
set_option maxRecDepth 100000 in
theorem r1_small.calls (k : Nat) (A0 : Option Addr) (c0 : Nat) (l0 : List Int) (a1 : Int) (a2 : Int) (r : List Int) (w : World) (hr0 : Kd.C (Kd.int .u32) w A0 l0.length l0) (hc0 : l0.length ≤ c0) (h : r1_small.f k l0 a1 a2 = some r) :
    Calls Try.prog 120 #[.slice A0 l0.length c0, .int .i64 a1, .int .i64 a2] w fun e w' => ∃ v0_ : Value, e = .returned (v0_) ∧ Kd.R (Kd.int .u32) 97 w' w.heap.size (fun _ => True) v0_ r ∧ Below w.heap.size w w' := by
 have HR0 := Aside0.mk hr0
 have HC0 := Aside0.mk hc0
 clear hr0 hc0
 have HB := Aside0.mk (Below.refl w.heap.size w)
 have H : ((r1_Of.f k (IntKind.u64.wrap (a1))).bind fun t101 => ((r1_Mul.f k l0 t101).bind fun t104 => (if 0 ≤ (t104.length : Int) then (if ((t104.length : Int) : Int).toNat ≤ 70368744177664 then (r1_small.l0 k t104 a2 (List.replicate ((t104.length : Int) : Int).toNat 0) 0 (wrap64 ((t104.length : Int) - 1))) else (none)) else (none)))) = some r := h
 clear h
 replace H := zb H
 obtain ⟨t101, A4, H⟩ := H
 replace H := zb H
 obtain ⟨t104, A5, H⟩ := H
 replace H := zg H
 obtain ⟨c6, H⟩ := H
 have c6b0 := eq_true c6
 have c6b1 := decide_eq_true c6
 clear c6
 replace H := zg H
 obtain ⟨c7, H⟩ := H
 have c7b0 := eq_true c7
 have c7b1 := decide_eq_true c7
 clear c7
 obtain ⟨y107, hy107⟩ : ∃ y_ : List Int, y_ = (List.replicate ((t104.length : Int) : Int).toNat 0) := ⟨_, rfl⟩
 replace H : (r1_small.l0 k t104 a2 y107 0 (wrap64 ((t104.length : Int) - 1))) = some r := zY hy107 H
 have Ny107 := Aside0.mk hy107
 clear hy107
 have H' := Aside0.mk H
 clear H
 go_enter Try.func120, Try.ntmps120
 go_wp2_with (first | ((with_reducible refine gC 23 ?_); refine zG (some 14) Try.func23 #[.int .u64 (IntKind.u64.wrap (a1))] ?_; (with_reducible refine (r1_Of.calls k (IntKind.u64.wrap (a1)) t101 _ A4.out).mono ?_); rintro e w8 ⟨v102, rfl, ho0, hb⟩; refine ⟨_, rfl, ?_⟩; have HO103 := yRl ho0 HB; replace HB := yS HB hb; (try clear hb ho0); obtain ⟨Ao9, co9, rfl⟩ := Kd.R_slice HO103.out) | ((with_reducible refine gC 26 ?_); refine zG (some 15) Try.func26 #[.slice A0 l0.length c0, .slice Ao9 t101.length co9] ?_; (with_reducible refine (r1_Mul.calls k _ _ l0 _ _ t101 t104 _ ?side1 ?side2 ?side3 ?side4 A5.out).mono ?_); (case side1 => exact zC (Kd.C_below HR0.out HB.out)); (case side2 => exact HC0.out); (case side3 => exact zC (Kd.R_reads' HO103.out).2.2); (case side4 => exact (Kd.R_reads' HO103.out).2.1); rintro e w10 ⟨v105, rfl, ho0, hb⟩; refine ⟨_, rfl, ?_⟩; replace ho0 := yn ho0 HO103; have HO106 := yRl ho0 HB; replace HO103 := yRe HO103 ho0 hb; replace HB := yS HB hb; (try clear hb ho0); obtain ⟨Ao11, co11, rfl⟩ := Kd.R_slice HO106.out) | ((with_reducible refine gate_dst (N := 18) rfl ?_); refine Kd.R_make (Kd.int .u32) _ 97 rfl (N := 18) rfl 29 _ _ rfl (t104.length : Int) rfl rfl Try.underlying29 (.int .u32 0) 4 info97 rfl (by decide) (by omega) 0 (ok := fun _ => True) (okp := fun _ => True) rfl (fun _ hk => hk) trivial zd (Nat.le_trans (Nat.mul_le_mul_right _ (zd : (t104.length : Int).toNat ≤ 70368744177664)) (by omega)) (Below.refl _ _) (Nat.le_refl _) ?_; intro v108 w12 ho13 hb hg_ hnew_; clear hg_ hnew_; (first | rw [← Ny107.out] at ho13 | (simp only [Int.reduceToNat] at ho13; rw [← Ny107.out] at ho13)); replace ho13 := yn ho13 HO103; replace ho13 := yn ho13 HO106; have HO109 := yRl ho13 HB; replace HO103 := yRe HO103 ho13 hb; replace HO106 := yRe HO106 ho13 hb; replace HB := yS HB hb; clear hb ho13))
 go_loopg [8, 9] k (fun kq v8 v9 w' => ∃ (x7_1 : List Int) (x8_1 : Int) (x9_1 : Int), v8 = .int .u64 x8_1 ∧ v9 = .int .i64 x9_1 ∧ Aside0 (r1_small.l0 kq t104 a2 x7_1 x8_1 x9_1 = some r) ∧ Aside0 (kq ≤ k) ∧ Aside0 (Kd.R (Kd.int .u32) 97 w' w.heap.size (fun k_ => some k_ ≠ (v108 : Value).ownBlock) (.slice Ao11 t104.length co11) t104) ∧ Aside0 (Kd.R (Kd.int .u32) 97 w' w.heap.size (fun k_ => some k_ ≠ ((.slice Ao11 t104.length co11) : Value).ownBlock) v108 x7_1) ∧ Aside0 (Below w.heap.size w w'))
 case atStart => exact ⟨(y107), (0), (wrap64 ((t104.length : Int) - 1)), zF, zF, H', ⟨Nat.le_refl _⟩, ⟨by (with_reducible repeat (first | apply Kd.R_alloc | apply Kd.R_drewN | apply Kd.R_drew)); exact Kd.R_mono HO106.out (fun _ hk => hk.2)⟩, ⟨by (with_reducible repeat (first | apply Kd.R_alloc | apply Kd.R_drewN | apply Kd.R_drew)); exact Kd.R_mono HO109.out (fun _ hk => hk.2)⟩, ⟨zB HB.out⟩⟩
 clear H'
 (try clear c6);(try clear c6b0);(try clear c6b1);(try clear c7);(try clear c7b0);(try clear c7b1)
 obtain ⟨x7_1, x8_1, x9_1, rfl, rfl, HA, HK1, HO_0, HO_7, HB⟩ := hrel
 cases gk with | zero => exact absurd HA.out (by simp [r1_small.l0]) | succ k1 => ?_
 have H := HA.out
 clear HA
 simp only [r1_small.l0] at H
 replace H := zi H
 rcases H with ⟨c14, H⟩ | ⟨c14, H⟩
 · have c14b0 : decide (0 ≤ x9_1) = true := decide_eq_true c14
   clear c14
   replace H := zgd H
   obtain ⟨c15b0, H⟩ := H
   replace H := zgd H
   obtain ⟨c16b0, H⟩ := H
   replace H := zh H
   obtain ⟨c17, H⟩ := H
   have c17b0 := beq_eq_false_iff_ne.mpr c17
   have c17b1 := bne_iff_ne.mpr c17
   replace H := zgd H
   obtain ⟨c18b0, H⟩ := H
   obtain ⟨y111, hy111⟩ : ∃ y_ : List Int, y_ = (x7_1.set (x9_1 : Int).toNat ((IntKind.u64.wrap (Int.tdiv (IntKind.u64.wrap ((IntKind.u64.wrap (x8_1 * 4294967296)) + (IntKind.u64.wrap (rd t104 x9_1)))) (IntKind.u64.wrap (a2)))) % 4294967296)) := ⟨_, rfl⟩
   replace H : (r1_small.l0 k1 t104 a2 y111 (Int.tmod (IntKind.u64.wrap ((IntKind.u64.wrap (x8_1 * 4294967296)) + (IntKind.u64.wrap (rd t104 x9_1)))) (IntKind.u64.wrap (a2))) (wrap64 (x9_1 - 1))) = some r := zY hy111 H
   have Ny111 := Aside0.mk hy111
   clear hy111
   have H' := Aside0.mk H
   clear H
   have p110 : 0 ≤ (x9_1 : Int) := zd
   have q110 : x9_1 < (t104.length : Int) := zd
   obtain ⟨ad110, e110, hx110_0⟩ := Kd.at_int (Kd.R_reads' HO_0.out).2.2 x9_1 p110 q110
   cases e110
   replace p110 := eq_true p110
   replace q110 := eq_true q110
   have p19 : 0 ≤ (x9_1 : Int) := zd
   have q19 : (x9_1 : Int) < ((x7_1.length : Int) : Int) := zd
   obtain ⟨go19, co19, eo19, gb19, gl19, cl19, HG19⟩ := Kd.R_form HO_7.out (by omega)
   (first | cases eo19 | (injection eo19 with ea_ en_ ec_; (first | subst ea_ | (injection ea_ with ea_; subst ea_)); subst ec_; clear en_))
   have GB19 := Aside0.mk gb19
   have GG19 := Aside0.mk HG19
   clear gb19 gl19 HG19
   obtain ⟨hx19_0, hf19_0⟩ := Kd.R_celln 0 HO_7.out (x9_1 : Int) p19 q19
   replace p19 := eq_true p19
   replace q19 := eq_true q19
   have HP20 := Kd.R_putg HO_7.out (x9_1 : Int) ((IntKind.u64.wrap (Int.tdiv (IntKind.u64.wrap ((IntKind.u64.wrap (x8_1 * 4294967296)) + (IntKind.u64.wrap (rd t104 x9_1)))) (IntKind.u64.wrap (a2)))) % 4294967296)
   go_wp2_with (first | ((with_reducible refine gate_store (t := 97) (p := 41) rfl ?_); refine store_event (t := 97) (p := 41) (v := ?vo_w21) (w1 := (wr.setCell ⟨go19, (x9_1 : Int).toNat, none⟩ (.int .u32 ((IntKind.u64.wrap (Int.tdiv (IntKind.u64.wrap ((IntKind.u64.wrap (x8_1 * 4294967296)) + (IntKind.u64.wrap (rd t104 x9_1)))) (IntKind.u64.wrap (a2)))) % 4294967296)))) ?hg ?ho ?hn ?hr ?_; (case ho => rfl); (case hg => rfl); (case hn => rfl); (case hr => first | (go_simp; done) | (go_simp; rfl)); intro w21 hw; have hg : wr.grownBy w21 (some go19) := (by rw [hw]; exact HP20.2); have hp_ : Kd.R (Kd.int .u32) 97 w21 w.heap.size (fun k_ => some k_ ≠ (.slice (some ad110) t104.length co11 : Value).ownBlock) (.slice (some ⟨go19, 0, none⟩) x7_1.length co19) y111 := (by rw [hw, Ny111.out]; exact HP20.1); clear HP20; replace HO_0 := Aside0.mk (Kd.R_after (v := (.slice (some ⟨go19, 0, none⟩) x7_1.length co19)) (v1 := (.slice (some ⟨go19, 0, none⟩) x7_1.length co19)) (ok := (fun _ => True)) (by (with_reducible repeat (first | apply Kd.R_alloc | apply Kd.R_drewN | apply Kd.R_drew)); exact Kd.R_mono HO_0.out (fun _ hk => ⟨trivial, hk⟩)) hg (.inl rfl)); replace HO_7 := Aside0.mk (hp_); replace HB := Aside0.mk ((by rw [hw]; exact below_set (HB.out) GB19.out : Below w.heap.size w w21)); clear hg hw hp_))
   go_roundg k1
   case measure => have := HK1.out; omega
   case rel => exact ⟨(y111), (Int.tmod (IntKind.u64.wrap ((IntKind.u64.wrap (x8_1 * 4294967296)) + (IntKind.u64.wrap (rd t104 x9_1)))) (IntKind.u64.wrap (a2))), (wrap64 (x9_1 - 1)), zF, zF, H', ⟨zo1 HK1⟩, ⟨by (with_reducible repeat (first | apply Kd.R_alloc | apply Kd.R_drewN | apply Kd.R_drew)); exact Kd.R_mono HO_0.out (fun _ hk => hk.2)⟩, ⟨zR HO_7.out⟩, ⟨zB HB.out⟩⟩
 have c14b0 : decide (0 ≤ x9_1) = false := decide_eq_false c14
 clear c14
 replace H := zb H
 obtain ⟨t112, A22, H⟩ := H
 obtain rfl := Option.some.inj H
 obtain ⟨Ao23, co23, rfl⟩ := Kd.R_slice HO_7.out
 go_wp2_with (first | ((with_reducible refine gC 75 ?_); refine zG (some 47) Try.func75 #[.slice Ao23 x7_1.length co23] ?_; (with_reducible refine (r1_Trim.calls k1 _ _ x7_1 t112 _ ?side1 ?side2 A22.out).mono ?_); (case side1 => exact zC (Kd.R_reads' HO_7.out).2.2); (case side2 => exact (Kd.R_reads' HO_7.out).2.1); rintro e w24 ⟨v113, rfl, ho0, hb⟩; refine ⟨_, rfl, ?_⟩; replace ho0 := yn ho0 HO_0; replace ho0 := yn ho0 HO_7; have HO114 := yRl ho0 HB; replace HO_0 := yRe HO_0 ho0 hb; replace HO_7 := yRe HO_7 ho0 hb; replace HB := yS HB hb; (try clear hb ho0)))
 go_ret
 exact ⟨_, zE, by (with_reducible repeat (first | apply Kd.R_alloc | apply Kd.R_drewN | apply Kd.R_drew)); exact Kd.R_mono HO114.out (fun _ hk => trivial), zB HB.out⟩
set_option maxHeartbeats 8000000 in
set_option maxRecDepth 100000 in
theorem r1_Choose.calls (k : Nat) (a0 : Int) (a1 : Int) (r : List Int) (w : World) (h : r1_Choose.f k a0 a1 = some r) :
    Calls Try.prog 78 #[.int .i64 a0, .int .i64 a1] w fun e w' => ∃ v0_ : Value, e = .returned (v0_) ∧ Kd.R (Kd.int .u32) 97 w' w.heap.size (fun _ => True) v0_ r ∧ Below w.heap.size w w' := by
 have HB := Aside0.mk (Below.refl w.heap.size w)
 have H : (if a1 < 0 then (r1_Choose.j0 k a0 a1 true) else (r1_Choose.j0 k a0 a1 (decide (a1 > a0)))) = some r := h
 clear h
 have HC3 := Aside0.mk H
 clear H
 go_enter Try.func78, Try.ntmps78
 go_upto_region 1 with (fail)
 go_cut [13] (fun v13 wc => ∃ (kq : Nat) (x13_2 : Bool), v13 = .bool x13_2 ∧ Aside0 (r1_Choose.j0 kq a0 a1 x13_2 = some r) ∧ Aside0 (kq ≤ k) ∧ Aside0 (Below w.heap.size w wc))
 case first =>
  have H := HC3.out
  clear HC3
  replace H := zid H
  rcases H with ⟨c4b0, H⟩ | ⟨c4b0, H⟩
  · (first | rw [c4b0] | (simp only [i64_w, i32_w]; rw [c4b0]) | rw [c4b1] | skip)
    have H' := Aside0.mk H
    clear H
    go_wp2
    go_meet
    case rel => exact ⟨_, (true), zF, H', ⟨zO⟩, ⟨zB HB.out⟩⟩
  (first | rw [c4b0] | (simp only [i64_w, i32_w]; rw [c4b0]) | rw [c4b1] | skip)
  have H' := Aside0.mk H
  clear H
  go_wp2
  go_meet
  case rel => exact ⟨_, (decide (a1 > a0)), zF, H', ⟨zO⟩, ⟨zB HB.out⟩⟩
 clear HC3
 (try clear c4b0)
 obtain ⟨kq, x13_2, rfl, HA, HJ2, HB⟩ := hcut
 cases kq with | zero => exact absurd HA.out (by simp [r1_Choose.j0]) | succ kj2 => ?_
 have H := HA.out
 clear HA
 simp only [r1_Choose.j0] at H
 by_cases c5 : x13_2 = true
 · subst c5
   rw [if_pos rfl] at H
   obtain ⟨y101, hy101⟩ : ∃ y_ : List Int, y_ = (([] : List Int)) := ⟨_, rfl⟩
   replace H : (some y101) = some r := zY hy101 H
   have Ny101 := Aside0.mk hy101
   clear hy101
   obtain rfl := Option.some.inj H
   go_wp2_with (first | ((with_reducible refine gate_dst (N := 14) rfl ?_); refine Kd.R_lit (Kd.int .u32) _ 97 ?hg (N := 14) ?hd (xs := ([] : List Int)) (inner := []) (ok := fun _ => True) (okp := fun _ => True) ?hr ?hp (fun _ hk => hk) trivial (Below.refl _ _) (Nat.le_refl _) (by simp) ?_; (case hd => rfl); (case hg => rfl); (case hr => first | (go_simp; done) | (go_simp; rfl)); (case hp => exact (Reps.none _ _)); intro v102 w6 ho7 hb hg_ hnew_; clear hg_ hnew_; (first | rw [← Ny101.out] at ho7 | (simp only [Int.reduceToNat] at ho7; rw [← Ny101.out] at ho7)); have HO103 := yRl ho7 HB; replace HB := yS HB hb; clear hb ho7))
   go_ret
   exact ⟨_, zE, zR HO103.out, zB HB.out⟩
 replace c5 := Bool.eq_false_iff.mpr c5
 subst c5
 rw [if_neg Bool.false_ne_true] at H
 obtain ⟨y104, hy104⟩ : ∃ y_ : List Int, y_ = (([1] : List Int)) := ⟨_, rfl⟩
 replace H : (r1_Choose.l0 kj2 a0 a1 y104 0) = some r := zY hy104 H
 have Ny104 := Aside0.mk hy104
 clear hy104
 have H' := Aside0.mk H
 clear H
 go_wp2_with (first | ((with_reducible refine gate_dst (N := 15) rfl ?_); refine Kd.R_lit (Kd.int .u32) _ 97 ?hg (N := 15) ?hd (xs := ([1] : List Int)) (inner := [.int .u32 1]) (ok := fun _ => True) (okp := fun _ => True) ?hr ?hp (fun _ hk => hk) trivial (Below.refl _ _) (Nat.le_refl _) (by simp) ?_; (case hd => rfl); (case hg => rfl); (case hr => first | (go_simp; done) | (go_simp; rfl)); (case hp => exact (Reps.one (show Kd.M (Kd.int .u32) _ _ _ 1 [.int .u32 1] from rfl) (Reps.none _ _))); intro v105 w8 ho9 hb hg_ hnew_; clear hg_ hnew_; (first | rw [← Ny104.out] at ho9 | (simp only [Int.reduceToNat] at ho9; rw [← Ny104.out] at ho9)); have HO106 := yRl ho9 HB; replace HB := yS HB hb; clear hb ho9))
 go_loopg [5, 6] kj2 (fun kq v5 v6 w' => ∃ (x5_2 : List Int) (x6_2 : Int), v6 = .int .i64 x6_2 ∧ Aside0 (r1_Choose.l0 kq a0 a1 x5_2 x6_2 = some r) ∧ Aside0 (kq ≤ kj2) ∧ Aside0 (Kd.R (Kd.int .u32) 97 w' w.heap.size (fun _ => True) v5 x5_2) ∧ Aside0 (Below w.heap.size w w'))
 case atStart => exact ⟨(y104), (0), zF, H', ⟨Nat.le_refl _⟩, ⟨zR HO106.out⟩, ⟨zB HB.out⟩⟩
 clear H'
 (try clear c4b0);(try clear c5)
 obtain ⟨x5_2, x6_2, rfl, HA, HK2, HO_5, HB⟩ := hrel
 cases gk with | zero => exact absurd HA.out (by simp [r1_Choose.l0]) | succ k2 => ?_
 have H := HA.out
 clear HA
 simp only [r1_Choose.l0] at H
 replace H := zid H
 rcases H with ⟨c10b0, H⟩ | ⟨c10b0, H⟩
 · replace H := zb H
   obtain ⟨t107, A11, H⟩ := H
   have H' := Aside0.mk H
   clear H
   obtain ⟨Ao12, co12, rfl⟩ := Kd.R_slice HO_5.out
   go_wp2_with (first | ((with_reducible refine gC 120 ?_); refine zG (some 27) Try.func120 #[.slice Ao12 x5_2.length co12, .int .i64 (wrap64 (a0 - x6_2)), .int .i64 (wrap64 (x6_2 + 1))] ?_; (with_reducible refine (r1_small.calls k2 _ _ x5_2 (wrap64 (a0 - x6_2)) (wrap64 (x6_2 + 1)) t107 _ ?side1 ?side2 A11.out).mono ?_); (case side1 => exact zC (Kd.R_reads' HO_5.out).2.2); (case side2 => exact (Kd.R_reads' HO_5.out).2.1); rintro e w13 ⟨v108, rfl, ho0, hb⟩; refine ⟨_, rfl, ?_⟩; replace ho0 := yn ho0 HO_5; have HO109 := yRl ho0 HB; replace HO_5 := yRe HO_5 ho0 hb; replace HB := yS HB hb; (try clear hb ho0)))
   go_roundg k2
   case measure => have := HJ2.out; have := HK2.out; omega
   case rel => exact ⟨(t107), (wrap64 (x6_2 + 1)), zF, H', ⟨zo2 HJ2 HK2⟩, ⟨by (with_reducible repeat (first | apply Kd.R_alloc | apply Kd.R_drewN | apply Kd.R_drew)); exact Kd.R_mono HO109.out (fun _ hk => trivial)⟩, ⟨zB HB.out⟩⟩
 obtain rfl := Option.some.inj H
 go_wp2
 go_ret
 exact ⟨_, zE, zR HO_5.out, zB HB.out⟩
set_option maxHeartbeats 8000000 in
set_option maxRecDepth 100000 in
theorem r2_Nat.calls (k : Nat) (A0 : Option Addr) (c0 : Nat) (l0 : List Int) (r1 : Bool) (r2 : List Int) (r3 : List Int) (w : World) (hr0 : Kd.C (Kd.int .u32) w A0 l0.length l0) (hc0 : l0.length ≤ c0) (h : r2_Nat.f k l0 = some (r1, r2, r3)) :
    Calls Try.prog 95 #[.slice A0 l0.length c0] w fun e w' => ∃ v1_ v2_ : Value, e = .returned (.agg #[.bool r1, v1_, v2_]) ∧ Kd.R (Kd.int .u32) 97 w' w.heap.size (fun k_ => some k_ ≠ (v2_ : Value).ownBlock) v1_ r2 ∧ Kd.R (Kd.int .u32) 97 w' w.heap.size (fun k_ => some k_ ≠ (v1_ : Value).ownBlock) v2_ r3 ∧ Below w.heap.size w w' := by
 have hu60 := Try.underlying60
 have HR0 := Aside0.mk hr0
 have HC0 := Aside0.mk hc0
 clear hr0 hc0
 have HB := Aside0.mk (Below.refl w.heap.size w)
 have H : ((r2_Make.f k false l0 (([1] : List Int))).bind fun bt105 => (some (bt105.1, bt105.2.1, bt105.2.2))) = some (r1, r2, r3) := h
 clear h
 obtain ⟨y102, hy102⟩ : ∃ y_ : List Int, y_ = (([1] : List Int)) := ⟨_, rfl⟩
 replace H : ((r2_Make.f k false l0 y102).bind fun bt105 => (some (bt105.1, bt105.2.1, bt105.2.2))) = some (r1, r2, r3) := zY hy102 H
 have Ny102 := Aside0.mk hy102
 clear hy102
 replace H := zb H
 obtain ⟨⟨t105, t106, t109⟩, A2, H⟩ := H
 dsimp only at H
 simp only [Option.some.injEq, Prod.mk.injEq] at H
 obtain ⟨rfl, rfl, rfl⟩ := H
 go_enter Try.func95, Try.ntmps95
 go_wp2_with (first | ((with_reducible refine gate_dst (N := 2) rfl ?_); refine box_event ?hg (N := 2) ?hd (cs := #[.bool false, .slice none 0 0, .slice none 0 0]) (t := 60) ?hr ?_; (case hd => rfl); (case hg => rfl); (case hr => first | (go_simp; done) | (go_simp; rfl)); intro gb101 hg w3 hbox hb; have BK101 := Aside0.mk (hbox); have GW101 := yg hg HB; have GE101 := yg hg HB; replace HB := yS HB hb; clear hb hbox hg) | ((with_reducible refine gate_dst (N := 4) rfl ?_); refine Kd.R_lit (Kd.int .u32) _ 97 ?hg (N := 4) ?hd (xs := ([1] : List Int)) (inner := [.int .u32 1]) (ok := fun _ => True) (okp := fun _ => True) ?hr ?hp (fun _ hk => hk) trivial (Below.refl _ _) (Nat.le_refl _) (by simp) ?_; (case hd => rfl); (case hg => rfl); (case hr => first | (go_simp; done) | (go_simp; rfl)); (case hp => exact (Reps.one (show Kd.M (Kd.int .u32) _ _ _ 1 [.int .u32 1] from rfl) (Reps.none _ _))); intro v103 w4 ho5 hb hg_ hnew_; clear hg_ hnew_; (first | rw [← Ny102.out] at ho5 | (simp only [Int.reduceToNat] at ho5; rw [← Ny102.out] at ho5)); have HO104 := yRl1 ho5 HB GE101; replace BK101 := yK BK101 hb; replace HB := yS1 HB GE101 hb; clear hb ho5; obtain ⟨Ao6, co6, rfl⟩ := Kd.R_slice HO104.out) | ((with_reducible refine gC 90 ?_); refine zG (some 5) Try.func90 #[.bool false, .slice A0 l0.length c0, .slice Ao6 y102.length co6] ?_; (with_reducible refine (r2_Make.calls k false _ _ l0 _ _ y102 t105 t106 t109 _ ?side1 ?side2 ?side3 ?side4 A2.out).mono ?_); (case side1 => exact zC (Kd.C_below HR0.out HB.out)); (case side2 => exact HC0.out); (case side3 => exact zC (Kd.R_reads' HO104.out).2.2); (case side4 => exact (Kd.R_reads' HO104.out).2.1); rintro e w7 ⟨v107, v110, rfl, ho0, ho1, hb⟩; refine ⟨_, rfl, ?_⟩; replace ho0 := yn ho0 HO104; have HO108 := yRl1 ho0 HB GE101; replace ho1 := yn ho1 HO104; have HO111 := yRl1 ho1 HB GE101; replace HO104 := yRt HO104 hb ho0 ho1; replace BK101 := yK BK101 hb; replace HB := yS1 HB GE101 hb; (try clear hb ho0); (try clear ho1); obtain ⟨hcz8_0, hcz8_1, hcz8_2, hfz8_0, hfz8_1, hfz8_2⟩ := zz3 BK101; obtain ⟨Ao9, co9, rfl⟩ := Kd.R_slice HO108.out; obtain ⟨Ao10, co10, rfl⟩ := Kd.R_slice HO111.out))
 refine bodyPost_ret (results_cell_row rfl _ _ gb101 60 #[.bool t105, .slice Ao9 t106.length co9, .slice Ao10 t109.length co10] (0, 0) _ rfl (zP3 BK101.out) Try.underlying60 rfl (by kernel_rfl)) rfl ?_
 exact ⟨_, _, zE, by (with_reducible repeat (first | apply Kd.R_alloc | apply Kd.R_drewN | apply Kd.R_drew)); exact yf HO108.out BK101.out (fun _ hk => hk.1.1), by (with_reducible repeat (first | apply Kd.R_alloc | apply Kd.R_drewN | apply Kd.R_drew)); exact yf HO111.out BK101.out (fun _ hk => hk.1.1), zB1 HB.out GE101.out⟩
set_option maxHeartbeats 8000000 in
set_option maxRecDepth 100000 in
theorem r2_Neg.calls (k : Nat) (a0_0 : Bool) (A0_1 : Option Addr) (c0_1 : Nat) (l0_1 : List Int) (A0_2 : Option Addr) (c0_2 : Nat) (l0_2 : List Int) (r1 : Bool) (r2 : List Int) (r3 : List Int) (w : World) (hr0_1 : Kd.C (Kd.int .u32) w A0_1 l0_1.length l0_1) (hc0_1 : l0_1.length ≤ c0_1) (hr0_2 : Kd.C (Kd.int .u32) w A0_2 l0_2.length l0_2) (hc0_2 : l0_2.length ≤ c0_2) (h : r2_Neg.f k a0_0 l0_1 l0_2 = some (r1, r2, r3)) :
    Calls Try.prog 96 #[.agg #[.bool a0_0, .slice A0_1 l0_1.length c0_1, .slice A0_2 l0_2.length c0_2]] w fun e w' => ∃ v1_ v2_ : Value, e = .returned (.agg #[.bool r1, v1_, v2_]) ∧ Kd.R (Kd.int .u32) 97 w' w.heap.size (fun k_ => some k_ ≠ (v2_ : Value).ownBlock) v1_ r2 ∧ Kd.R (Kd.int .u32) 97 w' w.heap.size (fun k_ => some k_ ≠ (v1_ : Value).ownBlock) v2_ r3 ∧ Below w.heap.size w w' := by
 have hu60 := Try.underlying60
 have HR0_1 := Aside0.mk hr0_1
 have HC0_1 := Aside0.mk hc0_1
 clear hr0_1 hc0_1
 have HR0_2 := Aside0.mk hr0_2
 have HC0_2 := Aside0.mk hc0_2
 clear hr0_2 hc0_2
 have HB := Aside0.mk (Below.refl w.heap.size w)
 have H : ((r2_Trim.f k a0_0 l0_1 l0_2).bind fun bt103 => ((r2_Make.f k (!bt103.1) bt103.2.1 bt103.2.2).bind fun bt110 => (some (bt110.1, bt110.2.1, bt110.2.2)))) = some (r1, r2, r3) := h
 clear h
 replace H := zb H
 obtain ⟨⟨t103, t104, t107⟩, A2, H⟩ := H
 dsimp only at H
 replace H := zb H
 obtain ⟨⟨t110, t111, t114⟩, A3, H⟩ := H
 dsimp only at H
 simp only [Option.some.injEq, Prod.mk.injEq] at H
 obtain ⟨rfl, rfl, rfl⟩ := H
 go_enter Try.func96, Try.ntmps96
 go_wp2_with (first | ((with_reducible refine gate_dst (N := 1) rfl ?_); refine box_event ?hg (N := 1) ?hd (cs := #[.bool a0_0, .slice A0_1 l0_1.length c0_1, .slice A0_2 l0_2.length c0_2]) (t := 60) ?hr ?_; (case hd => rfl); (case hg => rfl); (case hr => first | (go_simp; done) | (go_simp; rfl)); intro gb101 hg w4 hbox hb; have BK101 := Aside0.mk (hbox); have GW101 := yg hg HB; have GE101 := yg hg HB; replace HB := yS HB hb; clear hb hbox hg) | ((with_reducible refine gate_dst (N := 2) rfl ?_); refine box_event ?hg (N := 2) ?hd (cs := #[.bool false, .slice none 0 0, .slice none 0 0]) (t := 60) ?hr ?_; (case hd => rfl); (case hg => rfl); (case hr => first | (go_simp; done) | (go_simp; rfl)); intro gb102 hg w5 hbox hb; have BK102 := Aside0.mk (hbox); have GW102 := yg1 hg HB GE101; have GE102 := yg1 hg HB GE101; replace HB := yS1 HB GE101 hb; have NB101_102 := ynl hg BK101; have NB102_101 := yng hg BK101; replace BK101 := yK BK101 hb; clear hb hbox hg; have hnb6 := NB101_102.out; have hnc6 := NB102_101.out; obtain ⟨hcz7_0, hcz7_1, hcz7_2, hfz7_0, hfz7_1, hfz7_2⟩ := zz3 BK101) | ((with_reducible refine gC 99 ?_); refine zG (some 4) Try.func99 #[.agg #[.bool a0_0, .slice A0_1 l0_1.length c0_1, .slice A0_2 l0_2.length c0_2]] ?_; (with_reducible refine (r2_Trim.calls k a0_0 _ _ l0_1 _ _ l0_2 t103 t104 t107 _ ?side1 ?side2 ?side3 ?side4 A2.out).mono ?_); (case side1 => exact zC (Kd.C_below HR0_1.out HB.out)); (case side2 => exact HC0_1.out); (case side3 => exact zC (Kd.C_below HR0_2.out HB.out)); (case side4 => exact HC0_2.out); rintro e w8 ⟨v105, v108, rfl, ho0, ho1, hb⟩; refine ⟨_, rfl, ?_⟩; have HO106 := yRl2 ho0 HB GE101 GE102; have HO109 := yRl2 ho1 HB GE101 GE102; replace BK101 := yK BK101 hb; replace BK102 := yK BK102 hb; replace HB := yS2 HB GE101 GE102 hb; (try clear hb ho0); (try clear ho1); obtain ⟨hcz9_0, hcz9_1, hcz9_2, hfz9_0, hfz9_1, hfz9_2⟩ := zz3 BK101; obtain ⟨Ao10, co10, rfl⟩ := Kd.R_slice HO106.out; obtain ⟨Ao11, co11, rfl⟩ := Kd.R_slice HO109.out) | ((with_reducible refine gC 90 ?_); refine zG (some 12) Try.func90 #[.bool (!t103), .slice Ao10 t104.length co10, .slice Ao11 t107.length co11] ?_; (with_reducible refine (r2_Make.calls k (!t103) _ _ t104 _ _ t107 t110 t111 t114 _ ?side1 ?side2 ?side3 ?side4 A3.out).mono ?_); (case side1 => refine (Kd.R_reads' (e := 97) (base := w.heap.size) (ok := fun k_ => some k_ ≠ (.slice Ao11 t107.length co11 : Value).ownBlock) (n := t104.length) (c := co10) ?_).2.2; exact (zf HO106.out BK101.out)); (case side2 => exact (Kd.R_reads' HO106.out).2.1); (case side3 => refine (Kd.R_reads' (e := 97) (base := w.heap.size) (ok := fun k_ => some k_ ≠ (.slice Ao10 t104.length co10 : Value).ownBlock) (n := t107.length) (c := co11) ?_).2.2; exact (zf HO109.out BK101.out)); (case side4 => exact (Kd.R_reads' HO109.out).2.1); rintro e w12 ⟨v112, v115, rfl, ho0, ho1, hb⟩; refine ⟨_, rfl, ?_⟩; replace ho0 := ynf ho0 HO106 BK101; replace ho0 := ynf ho0 HO109 BK101; have HO113 := yRl2 ho0 HB GE101 GE102; replace ho1 := ynf ho1 HO106 BK101; replace ho1 := ynf ho1 HO109 BK101; have HO116 := yRl2 ho1 HB GE101 GE102; replace HO106 := yRtf HO106 BK101 hb ho0 ho1; replace HO109 := yRtf HO109 BK101 hb ho0 ho1; replace BK101 := yP3 BK101 hb; replace BK102 := yF3 BK102 NB102_101 hb; replace HB := yS2 HB GE101 GE102 hb; (try clear hb ho0); (try clear ho1); obtain ⟨hcz13_0, hcz13_1, hcz13_2, hfz13_0, hfz13_1, hfz13_2⟩ := zz3 BK102; obtain ⟨Ao14, co14, rfl⟩ := Kd.R_slice HO113.out; obtain ⟨Ao15, co15, rfl⟩ := Kd.R_slice HO116.out))
 refine bodyPost_ret (results_cell_row rfl _ _ gb102 60 #[.bool t110, .slice Ao14 t111.length co14, .slice Ao15 t114.length co15] (0, 0) _ rfl (zP3 BK102.out) Try.underlying60 rfl (by kernel_rfl)) rfl ?_
 exact ⟨_, _, zE, by (with_reducible repeat (first | apply Kd.R_alloc | apply Kd.R_drewN | apply Kd.R_drew)); exact yf HO113.out BK102.out (fun _ hk => hk.1.1.1), by (with_reducible repeat (first | apply Kd.R_alloc | apply Kd.R_drewN | apply Kd.R_drew)); exact yf HO116.out BK102.out (fun _ hk => hk.1.1.1), zB2 HB.out GE101.out GE102.out⟩
set_option maxHeartbeats 8000000 in
set_option maxRecDepth 100000 in
theorem r24_Krawtchouk.calls (k : Nat) (a0 : Int) (a1 : Int) (a2 : Int) (a3 : Int) (r1 : Bool) (r2 : List Int) (r3 : List Int) (w : World) (h : r24_Krawtchouk.f k a0 a1 a2 a3 = some (r1, r2, r3)) :
    Calls Try.prog 46 #[.int .i64 a0, .int .i64 a1, .int .i64 a2, .int .i64 a3] w fun e w' => ∃ v1_ v2_ : Value, e = .returned (.agg #[.bool r1, v1_, v2_]) ∧ Kd.R (Kd.int .u32) 97 w' w.heap.size (fun k_ => some k_ ≠ (v2_ : Value).ownBlock) v1_ r2 ∧ Kd.R (Kd.int .u32) 97 w' w.heap.size (fun k_ => some k_ ≠ (v1_ : Value).ownBlock) v2_ r3 ∧ Below w.heap.size w w' := by
 have hu60 := Try.underlying60
 have HB := Aside0.mk (Below.refl w.heap.size w)
 have H : ((r2_Int.f k 0).bind fun bt102 => (r24_Krawtchouk.l0 k a0 a1 a2 a3 0 bt102.1 bt102.2.1 bt102.2.2)) = some (r1, r2, r3) := h
 clear h
 replace H := zb H
 obtain ⟨⟨t102, t103, t106⟩, A5, H⟩ := H
 dsimp only at H
 have H' := Aside0.mk H
 clear H
 go_enter Try.func46, Try.ntmps46
 go_wp2_with (first | ((with_reducible refine gate_dst (N := 8) rfl ?_); refine box_event ?hg (N := 8) ?hd (cs := #[.bool false, .slice none 0 0, .slice none 0 0]) (t := 60) ?hr ?_; (case hd => rfl); (case hg => rfl); (case hr => first | (go_simp; done) | (go_simp; rfl)); intro gb101 hg w6 hbox hb; have BK101 := Aside0.mk (hbox); have GW101 := yg hg HB; have GE101 := yg hg HB; replace HB := yS HB hb; clear hb hbox hg) | ((with_reducible refine gC 48 ?_); refine zG (some 14) Try.func48 #[.int .i64 0] ?_; (with_reducible refine (r2_Int.calls k 0 t102 t103 t106 _ A5.out).mono ?_); rintro e w7 ⟨v104, v107, rfl, ho0, ho1, hb⟩; refine ⟨_, rfl, ?_⟩; have HO105 := yRl1 ho0 HB GE101; have HO108 := yRl1 ho1 HB GE101; replace BK101 := yK BK101 hb; replace HB := yS1 HB GE101 hb; (try clear hb ho0); (try clear ho1)) | ((with_reducible refine gate_dst (N := 9) rfl ?_); refine box_event ?hg (N := 9) ?hd (cs := #[.bool false, .slice none 0 0, .slice none 0 0]) (t := 60) ?hr ?_; (case hd => rfl); (case hg => rfl); (case hr => first | (go_simp; done) | (go_simp; rfl)); intro gb109 hg w8 hbox hb; replace HO105 := yRb HO105 hb; replace HO108 := yRb HO108 hb; have BK109 := Aside0.mk (hbox); have GW109 := yg1 hg HB GE101; have GE109 := yg1 hg HB GE101; replace HB := yS1 HB GE101 hb; have NB101_109 := ynl hg BK101; have NB109_101 := yng hg BK101; replace BK101 := yK BK101 hb; clear hb hbox hg; have hnb9 := NB109_101.out; have hnc9 := NB101_109.out; obtain ⟨hcz10_0, hcz10_1, hcz10_2, hfz10_0, hfz10_1, hfz10_2⟩ := zz3 BK109; obtain ⟨Ao11, co11, rfl⟩ := Kd.R_slice HO105.out; obtain ⟨Ao12, co12, rfl⟩ := Kd.R_slice HO108.out))
 go_loopg [10] k (fun kq v10 w' => ∃ (x10_1 : Int) (x110000_1 : Bool) (x110001_1 : List Int) (x110002_1 : List Int) (u110001 : Value) (u110002 : Value), v10 = .int .i64 x10_1 ∧ Aside0 (r24_Krawtchouk.l0 kq a0 a1 a2 a3 x10_1 x110000_1 x110001_1 x110002_1 = some (r1, r2, r3)) ∧ Aside0 (kq ≤ k) ∧ Aside0 (Kd.R (Kd.int .u32) 97 w' w.heap.size (fun k_ => some k_ ≠ (u110002 : Value).ownBlock) u110001 x110001_1) ∧ Aside0 (Kd.R (Kd.int .u32) 97 w' w.heap.size (fun k_ => some k_ ≠ (u110001 : Value).ownBlock) u110002 x110002_1) ∧ Aside0 (w'.heap[gb101]? = some (.cells #[.bool false, (.slice none 0 0), (.slice none 0 0)] 60 (0, 0))) ∧ Aside0 (w'.heap[gb109]? = some (.cells #[.bool x110000_1, u110001, u110002] 60 (0, 0))) ∧ Aside0 (Below w.heap.size w w'))
 case atStart => exact ⟨(0), (t102), (t103), (t106), (.slice Ao11 t103.length co11), (.slice Ao12 t106.length co12), zF, H', ⟨Nat.le_refl _⟩, ⟨by (with_reducible repeat (first | apply Kd.R_alloc | apply Kd.R_drewN | apply Kd.R_drew)); exact yf HO105.out BK109.out (fun _ hk => hk.1)⟩, ⟨by (with_reducible repeat (first | apply Kd.R_alloc | apply Kd.R_drewN | apply Kd.R_drew)); exact yf HO108.out BK109.out (fun _ hk => hk.1)⟩, ⟨zF3 BK101.out NB101_109.out⟩, ⟨zP3 BK109.out⟩, ⟨zB2 HB.out GE101.out GE109.out⟩⟩
 clear H'
 (try clear hcz10_0);(try clear hcz10_1);(try clear hcz10_2);(try clear hfz10_0);(try clear hfz10_1);(try clear hfz10_2)
 obtain ⟨x10_1, x110000_1, x110001_1, x110002_1, u110001, u110002, rfl, HA, HK1, HO_110001, HO_110002, BK101, BK109, HB⟩ := hrel
 cases gk with | zero => exact absurd HA.out (by simp [r24_Krawtchouk.l0]) | succ k1 => ?_
 have H := HA.out
 clear HA
 simp only [r24_Krawtchouk.l0] at H
 replace H := zid H
 rcases H with ⟨c13b0, H⟩ | ⟨c13b0, H⟩
 · replace H := zb H
   obtain ⟨t110, A14, H⟩ := H
   replace H := zb H
   obtain ⟨⟨t113, t114⟩, A15, H⟩ := H
   dsimp only at H
   replace H := zb H
   obtain ⟨t117, A16, H⟩ := H
   replace H := zb H
   obtain ⟨t120, A17, H⟩ := H
   replace H := zb H
   obtain ⟨t123, A18, H⟩ := H
   replace H := zb H
   obtain ⟨t126, A19, H⟩ := H
   replace H := zb H
   obtain ⟨⟨t129, t130, t133⟩, A20, H⟩ := H
   dsimp only at H
   replace H := zi H
   rcases H with ⟨c21, H⟩ | ⟨c21, H⟩
   · have c21b0 := beq_iff_eq.mpr c21
     have c21b1 := bne_eq_false_iff_eq.mpr c21
     clear c21
     replace H := zb H
     obtain ⟨⟨t137, t138, t141⟩, A22, H⟩ := H
     dsimp only at H
     replace H := zb H
     obtain ⟨⟨t144, t145, t148⟩, A23, H⟩ := H
     dsimp only at H
     have H' := Aside0.mk H
     clear H
     go_wp2_with (first | ((with_reducible refine gC 23 ?_); refine zG (some 24) Try.func23 #[.int .u64 (IntKind.u64.wrap (wrap64 (a0 - 1)))] ?_; (with_reducible refine (r1_Of.calls k1 (IntKind.u64.wrap (wrap64 (a0 - 1))) t110 _ A14.out).mono ?_); rintro e w24 ⟨v111, rfl, ho0, hb⟩; refine ⟨_, rfl, ?_⟩; replace ho0 := yn ho0 HO_110001; replace ho0 := yn ho0 HO_110002; have HO112 := yRl2 ho0 HB GE101 GE109; replace HO_110001 := yRe HO_110001 ho0 hb; replace HO_110002 := yRe HO_110002 ho0 hb; replace BK101 := yK BK101 hb; replace BK109 := yK BK109 hb; replace HB := yS2 HB GE101 GE109 hb; (try clear hb ho0); obtain ⟨Ao25, co25, rfl⟩ := Kd.R_slice HO112.out) | ((with_reducible refine gC 22 ?_); refine zG (some 28) Try.func22 #[.slice Ao25 t110.length co25, .int .i64 (wrap64 (a2 - x10_1))] ?_; (with_reducible refine (r1_Pow.calls k1 _ _ t110 (wrap64 (a2 - x10_1)) t113 t114 _ ?side1 ?side2 A15.out).mono ?_); (case side1 => exact zC (Kd.R_reads' HO112.out).2.2); (case side2 => exact (Kd.R_reads' HO112.out).2.1); rintro e w26 ⟨v115, rfl, ho0, hb⟩; refine ⟨_, rfl, ?_⟩; replace ho0 := yn ho0 HO_110001; replace ho0 := yn ho0 HO_110002; replace ho0 := yn ho0 HO112; have HO116 := yRl2 ho0 HB GE101 GE109; replace HO_110001 := yRe HO_110001 ho0 hb; replace HO_110002 := yRe HO_110002 ho0 hb; replace HO112 := yRe HO112 ho0 hb; replace BK101 := yK BK101 hb; replace BK109 := yK BK109 hb; replace HB := yS2 HB GE101 GE109 hb; (try clear hb ho0)) | ((with_reducible refine gC 78 ?_); refine zG (some 34) Try.func78 #[.int .i64 a3, .int .i64 x10_1] ?_; (with_reducible refine (r1_Choose.calls k1 a3 x10_1 t117 _ A16.out).mono ?_); rintro e w27 ⟨v118, rfl, ho0, hb⟩; refine ⟨_, rfl, ?_⟩; replace ho0 := yn ho0 HO_110001; replace ho0 := yn ho0 HO_110002; replace ho0 := yn ho0 HO112; replace ho0 := yn ho0 HO116; have HO119 := yRl2 ho0 HB GE101 GE109; replace HO_110001 := yRe HO_110001 ho0 hb; replace HO_110002 := yRe HO_110002 ho0 hb; replace HO112 := yRe HO112 ho0 hb; replace HO116 := yRe HO116 ho0 hb; replace BK101 := yK BK101 hb; replace BK109 := yK BK109 hb; replace HB := yS2 HB GE101 GE109 hb; (try clear hb ho0)) | ((with_reducible refine gC 78 ?_); refine zG (some 41) Try.func78 #[.int .i64 (wrap64 (a1 - a3)), .int .i64 (wrap64 (a2 - x10_1))] ?_; (with_reducible refine (r1_Choose.calls k1 (wrap64 (a1 - a3)) (wrap64 (a2 - x10_1)) t120 _ A17.out).mono ?_); rintro e w28 ⟨v121, rfl, ho0, hb⟩; refine ⟨_, rfl, ?_⟩; replace ho0 := yn ho0 HO_110001; replace ho0 := yn ho0 HO_110002; replace ho0 := yn ho0 HO112; replace ho0 := yn ho0 HO116; replace ho0 := yn ho0 HO119; have HO122 := yRl2 ho0 HB GE101 GE109; replace HO_110001 := yRe HO_110001 ho0 hb; replace HO_110002 := yRe HO_110002 ho0 hb; replace HO112 := yRe HO112 ho0 hb; replace HO116 := yRe HO116 ho0 hb; replace HO119 := yRe HO119 ho0 hb; replace BK101 := yK BK101 hb; replace BK109 := yK BK109 hb; replace HB := yS2 HB GE101 GE109 hb; (try clear hb ho0); obtain ⟨Ao29, co29, rfl⟩ := Kd.R_slice HO119.out; obtain ⟨Ao30, co30, rfl⟩ := Kd.R_slice HO122.out) | ((with_reducible refine gC 26 ?_); refine zG (some 42) Try.func26 #[.slice Ao29 t117.length co29, .slice Ao30 t120.length co30] ?_; (with_reducible refine (r1_Mul.calls k1 _ _ t117 _ _ t120 t123 _ ?side1 ?side2 ?side3 ?side4 A18.out).mono ?_); (case side1 => exact zC (Kd.R_reads' HO119.out).2.2); (case side2 => exact (Kd.R_reads' HO119.out).2.1); (case side3 => exact zC (Kd.R_reads' HO122.out).2.2); (case side4 => exact (Kd.R_reads' HO122.out).2.1); rintro e w31 ⟨v124, rfl, ho0, hb⟩; refine ⟨_, rfl, ?_⟩; replace ho0 := yn ho0 HO_110001; replace ho0 := yn ho0 HO_110002; replace ho0 := yn ho0 HO112; replace ho0 := yn ho0 HO116; replace ho0 := yn ho0 HO119; replace ho0 := yn ho0 HO122; have HO125 := yRl2 ho0 HB GE101 GE109; replace HO_110001 := yRe HO_110001 ho0 hb; replace HO_110002 := yRe HO_110002 ho0 hb; replace HO112 := yRe HO112 ho0 hb; replace HO116 := yRe HO116 ho0 hb; replace HO119 := yRe HO119 ho0 hb; replace HO122 := yRe HO122 ho0 hb; replace BK101 := yK BK101 hb; replace BK109 := yK BK109 hb; replace HB := yS2 HB GE101 GE109 hb; (try clear hb ho0); obtain ⟨Ao32, co32, rfl⟩ := Kd.R_slice HO116.out; obtain ⟨Ao33, co33, rfl⟩ := Kd.R_slice HO125.out) | ((with_reducible refine gC 26 ?_); refine zG (some 43) Try.func26 #[.slice Ao32 t113.length co32, .slice Ao33 t123.length co33] ?_; (with_reducible refine (r1_Mul.calls k1 _ _ t113 _ _ t123 t126 _ ?side1 ?side2 ?side3 ?side4 A19.out).mono ?_); (case side1 => exact zC (Kd.R_reads' HO116.out).2.2); (case side2 => exact (Kd.R_reads' HO116.out).2.1); (case side3 => exact zC (Kd.R_reads' HO125.out).2.2); (case side4 => exact (Kd.R_reads' HO125.out).2.1); rintro e w34 ⟨v127, rfl, ho0, hb⟩; refine ⟨_, rfl, ?_⟩; replace ho0 := yn ho0 HO_110001; replace ho0 := yn ho0 HO_110002; replace ho0 := yn ho0 HO112; replace ho0 := yn ho0 HO116; replace ho0 := yn ho0 HO119; replace ho0 := yn ho0 HO122; replace ho0 := yn ho0 HO125; have HO128 := yRl2 ho0 HB GE101 GE109; replace HO_110001 := yRe HO_110001 ho0 hb; replace HO_110002 := yRe HO_110002 ho0 hb; replace HO112 := yRe HO112 ho0 hb; replace HO116 := yRe HO116 ho0 hb; replace HO119 := yRe HO119 ho0 hb; replace HO122 := yRe HO122 ho0 hb; replace HO125 := yRe HO125 ho0 hb; replace BK101 := yK BK101 hb; replace BK109 := yK BK109 hb; replace HB := yS2 HB GE101 GE109 hb; (try clear hb ho0); obtain ⟨Ao35, co35, rfl⟩ := Kd.R_slice HO128.out) | ((with_reducible refine gC 95 ?_); refine zG (some 44) Try.func95 #[.slice Ao35 t126.length co35] ?_; (with_reducible refine (r2_Nat.calls k1 _ _ t126 t129 t130 t133 _ ?side1 ?side2 A20.out).mono ?_); (case side1 => exact zC (Kd.R_reads' HO128.out).2.2); (case side2 => exact (Kd.R_reads' HO128.out).2.1); rintro e w36 ⟨v131, v134, rfl, ho0, ho1, hb⟩; refine ⟨_, rfl, ?_⟩; replace ho0 := yn ho0 HO_110001; replace ho0 := yn ho0 HO_110002; replace ho0 := yn ho0 HO112; replace ho0 := yn ho0 HO116; replace ho0 := yn ho0 HO119; replace ho0 := yn ho0 HO122; replace ho0 := yn ho0 HO125; replace ho0 := yn ho0 HO128; have HO132 := yRl2 ho0 HB GE101 GE109; replace ho1 := yn ho1 HO_110001; replace ho1 := yn ho1 HO_110002; replace ho1 := yn ho1 HO112; replace ho1 := yn ho1 HO116; replace ho1 := yn ho1 HO119; replace ho1 := yn ho1 HO122; replace ho1 := yn ho1 HO125; replace ho1 := yn ho1 HO128; have HO135 := yRl2 ho1 HB GE101 GE109; replace HO_110001 := yRt HO_110001 hb ho0 ho1; replace HO_110002 := yRt HO_110002 hb ho0 ho1; replace HO112 := yRt HO112 hb ho0 ho1; replace HO116 := yRt HO116 hb ho0 ho1; replace HO119 := yRt HO119 hb ho0 ho1; replace HO122 := yRt HO122 hb ho0 ho1; replace HO125 := yRt HO125 hb ho0 ho1; replace HO128 := yRt HO128 hb ho0 ho1; replace BK101 := yK BK101 hb; replace BK109 := yK BK109 hb; replace HB := yS2 HB GE101 GE109 hb; (try clear hb ho0); (try clear ho1)) | ((with_reducible refine gate_dst (N := 13) rfl ?_); refine box_event ?hg (N := 13) ?hd (cs := #[.bool false, .slice none 0 0, .slice none 0 0]) (t := 60) ?hr ?_; (case hd => rfl); (case hg => rfl); (case hr => first | (go_simp; done) | (go_simp; rfl)); intro gb136 hg w37 hbox hb; replace HO_110001 := yRb HO_110001 hb; replace HO_110002 := yRb HO_110002 hb; replace HO112 := yRb HO112 hb; replace HO116 := yRb HO116 hb; replace HO119 := yRb HO119 hb; replace HO122 := yRb HO122 hb; replace HO125 := yRb HO125 hb; replace HO128 := yRb HO128 hb; replace HO132 := yRb HO132 hb; replace HO135 := yRb HO135 hb; have BK136 := Aside0.mk (hbox); have GW136 := yg2 hg HB GE101 GE109; have GE136 := yg2 hg HB GE101 GE109; replace HB := yS2 HB GE101 GE109 hb; have NB101_136 := ynl hg BK101; have NB136_101 := yng hg BK101; replace BK101 := yK BK101 hb; have NB109_136 := ynl hg BK109; have NB136_109 := yng hg BK109; replace BK109 := yK BK109 hb; clear hb hbox hg; have hnb38 := NB136_101.out; have hnc38 := NB101_136.out; have hnb39 := NB136_109.out; have hnc39 := NB109_136.out; obtain ⟨hcz40_0, hcz40_1, hcz40_2, hfz40_0, hfz40_1, hfz40_2⟩ := zz3 BK136; obtain ⟨Ao41, co41, rfl⟩ := Kd.R_slice HO132.out; obtain ⟨Ao42, co42, rfl⟩ := Kd.R_slice HO135.out) | ((with_reducible refine gC 96 ?_); refine zG (some 49) Try.func96 #[.agg #[.bool t129, .slice Ao41 t130.length co41, .slice Ao42 t133.length co42]] ?_; (with_reducible refine (r2_Neg.calls k1 t129 _ _ t130 _ _ t133 t137 t138 t141 _ ?side1 ?side2 ?side3 ?side4 A22.out).mono ?_); (case side1 => refine (Kd.R_reads' (e := 97) (base := w.heap.size) (ok := fun k_ => ((((((((some k_ ≠ (.slice Ao42 t133.length co42 : Value).ownBlock ∧ some k_ ≠ (u110001 : Value).ownBlock) ∧ some k_ ≠ (u110002 : Value).ownBlock) ∧ some k_ ≠ (.slice Ao25 t110.length co25 : Value).ownBlock) ∧ some k_ ≠ (.slice Ao32 t113.length co32 : Value).ownBlock) ∧ some k_ ≠ (.slice Ao29 t117.length co29 : Value).ownBlock) ∧ some k_ ≠ (.slice Ao30 t120.length co30 : Value).ownBlock) ∧ some k_ ≠ (.slice Ao33 t123.length co33 : Value).ownBlock) ∧ some k_ ≠ (.slice Ao35 t126.length co35 : Value).ownBlock)) (n := t130.length) (c := co41) ?_).2.2; exact (zf HO132.out BK136.out)); (case side2 => exact (Kd.R_reads' HO132.out).2.1); (case side3 => refine (Kd.R_reads' (e := 97) (base := w.heap.size) (ok := fun k_ => ((((((((some k_ ≠ (.slice Ao41 t130.length co41 : Value).ownBlock ∧ some k_ ≠ (u110001 : Value).ownBlock) ∧ some k_ ≠ (u110002 : Value).ownBlock) ∧ some k_ ≠ (.slice Ao25 t110.length co25 : Value).ownBlock) ∧ some k_ ≠ (.slice Ao32 t113.length co32 : Value).ownBlock) ∧ some k_ ≠ (.slice Ao29 t117.length co29 : Value).ownBlock) ∧ some k_ ≠ (.slice Ao30 t120.length co30 : Value).ownBlock) ∧ some k_ ≠ (.slice Ao33 t123.length co33 : Value).ownBlock) ∧ some k_ ≠ (.slice Ao35 t126.length co35 : Value).ownBlock)) (n := t133.length) (c := co42) ?_).2.2; exact (zf HO135.out BK136.out)); (case side4 => exact (Kd.R_reads' HO135.out).2.1); rintro e w43 ⟨v139, v142, rfl, ho0, ho1, hb⟩; refine ⟨_, rfl, ?_⟩; replace ho0 := ynf ho0 HO_110001 BK136; replace ho0 := ynf ho0 HO_110002 BK136; replace ho0 := ynf ho0 HO112 BK136; replace ho0 := ynf ho0 HO116 BK136; replace ho0 := ynf ho0 HO119 BK136; replace ho0 := ynf ho0 HO122 BK136; replace ho0 := ynf ho0 HO125 BK136; replace ho0 := ynf ho0 HO128 BK136; replace ho0 := ynf ho0 HO132 BK136; replace ho0 := ynf ho0 HO135 BK136; have HO140 := yRl3 ho0 HB GE101 GE109 GE136; replace ho1 := ynf ho1 HO_110001 BK136; replace ho1 := ynf ho1 HO_110002 BK136; replace ho1 := ynf ho1 HO112 BK136; replace ho1 := ynf ho1 HO116 BK136; replace ho1 := ynf ho1 HO119 BK136; replace ho1 := ynf ho1 HO122 BK136; replace ho1 := ynf ho1 HO125 BK136; replace ho1 := ynf ho1 HO128 BK136; replace ho1 := ynf ho1 HO132 BK136; replace ho1 := ynf ho1 HO135 BK136; have HO143 := yRl3 ho1 HB GE101 GE109 GE136; replace HO_110001 := yRtf HO_110001 BK136 hb ho0 ho1; replace HO_110002 := yRtf HO_110002 BK136 hb ho0 ho1; replace HO112 := yRtf HO112 BK136 hb ho0 ho1; replace HO116 := yRtf HO116 BK136 hb ho0 ho1; replace HO119 := yRtf HO119 BK136 hb ho0 ho1; replace HO122 := yRtf HO122 BK136 hb ho0 ho1; replace HO125 := yRtf HO125 BK136 hb ho0 ho1; replace HO128 := yRtf HO128 BK136 hb ho0 ho1; replace HO132 := yRtf HO132 BK136 hb ho0 ho1; replace HO135 := yRtf HO135 BK136 hb ho0 ho1; replace BK101 := yF3 BK101 NB101_136 hb; replace BK109 := yF3 BK109 NB109_136 hb; replace BK136 := yP3 BK136 hb; replace HB := yS3 HB GE101 GE109 GE136 hb; (try clear hb ho0); (try clear ho1); obtain ⟨hcz44_0, hcz44_1, hcz44_2, hfz44_0, hfz44_1, hfz44_2⟩ := zz3 BK136; obtain ⟨Ao45, co45, rfl⟩ := Kd.R_slice HO140.out; obtain ⟨Ao46, co46, rfl⟩ := Kd.R_slice HO143.out; have hnb47 := NB109_101.out; have hnc47 := NB101_109.out; obtain ⟨hcz48_0, hcz48_1, hcz48_2, hfz48_0, hfz48_1, hfz48_2⟩ := zz3 BK109; obtain ⟨Ao49, co49, rfl⟩ := Kd.R_slice HO_110001.out; obtain ⟨Ao50, co50, rfl⟩ := Kd.R_slice HO_110002.out) | ((with_reducible refine gC 50 ?_); refine zG (some 52) Try.func50 #[.agg #[.bool x110000_1, .slice Ao49 x110001_1.length co49, .slice Ao50 x110002_1.length co50], .agg #[.bool t137, .slice Ao45 t138.length co45, .slice Ao46 t141.length co46]] ?_; (with_reducible refine (r2_Add.calls k1 x110000_1 _ _ x110001_1 _ _ x110002_1 t137 _ _ t138 _ _ t141 t144 t145 t148 _ ?side1 ?side2 ?side3 ?side4 ?side5 ?side6 ?side7 ?side8 A23.out).mono ?_); (case side1 => refine (Kd.R_reads' (e := 97) (base := w.heap.size) (ok := fun k_ => ((((((((((some k_ ≠ (.slice Ao50 x110002_1.length co50 : Value).ownBlock ∧ some k_ ≠ (.slice Ao25 t110.length co25 : Value).ownBlock) ∧ some k_ ≠ (.slice Ao32 t113.length co32 : Value).ownBlock) ∧ some k_ ≠ (.slice Ao29 t117.length co29 : Value).ownBlock) ∧ some k_ ≠ (.slice Ao30 t120.length co30 : Value).ownBlock) ∧ some k_ ≠ (.slice Ao33 t123.length co33 : Value).ownBlock) ∧ some k_ ≠ (.slice Ao35 t126.length co35 : Value).ownBlock) ∧ some k_ ≠ (.slice Ao41 t130.length co41 : Value).ownBlock) ∧ some k_ ≠ (.slice Ao42 t133.length co42 : Value).ownBlock) ∧ some k_ ≠ (.slice Ao45 t138.length co45 : Value).ownBlock) ∧ some k_ ≠ (.slice Ao46 t141.length co46 : Value).ownBlock)) (n := x110001_1.length) (c := co49) ?_).2.2; exact (zf HO_110001.out BK136.out)); (case side2 => exact (Kd.R_reads' HO_110001.out).2.1); (case side3 => refine (Kd.R_reads' (e := 97) (base := w.heap.size) (ok := fun k_ => ((((((((((some k_ ≠ (.slice Ao49 x110001_1.length co49 : Value).ownBlock ∧ some k_ ≠ (.slice Ao25 t110.length co25 : Value).ownBlock) ∧ some k_ ≠ (.slice Ao32 t113.length co32 : Value).ownBlock) ∧ some k_ ≠ (.slice Ao29 t117.length co29 : Value).ownBlock) ∧ some k_ ≠ (.slice Ao30 t120.length co30 : Value).ownBlock) ∧ some k_ ≠ (.slice Ao33 t123.length co33 : Value).ownBlock) ∧ some k_ ≠ (.slice Ao35 t126.length co35 : Value).ownBlock) ∧ some k_ ≠ (.slice Ao41 t130.length co41 : Value).ownBlock) ∧ some k_ ≠ (.slice Ao42 t133.length co42 : Value).ownBlock) ∧ some k_ ≠ (.slice Ao45 t138.length co45 : Value).ownBlock) ∧ some k_ ≠ (.slice Ao46 t141.length co46 : Value).ownBlock)) (n := x110002_1.length) (c := co50) ?_).2.2; exact (zf HO_110002.out BK136.out)); (case side4 => exact (Kd.R_reads' HO_110002.out).2.1); (case side5 => refine (Kd.R_reads' (e := 97) (base := w.heap.size) (ok := fun k_ => ((((((((((some k_ ≠ (.slice Ao46 t141.length co46 : Value).ownBlock ∧ some k_ ≠ (.slice Ao49 x110001_1.length co49 : Value).ownBlock) ∧ some k_ ≠ (.slice Ao50 x110002_1.length co50 : Value).ownBlock) ∧ some k_ ≠ (.slice Ao25 t110.length co25 : Value).ownBlock) ∧ some k_ ≠ (.slice Ao32 t113.length co32 : Value).ownBlock) ∧ some k_ ≠ (.slice Ao29 t117.length co29 : Value).ownBlock) ∧ some k_ ≠ (.slice Ao30 t120.length co30 : Value).ownBlock) ∧ some k_ ≠ (.slice Ao33 t123.length co33 : Value).ownBlock) ∧ some k_ ≠ (.slice Ao35 t126.length co35 : Value).ownBlock) ∧ some k_ ≠ (.slice Ao41 t130.length co41 : Value).ownBlock) ∧ some k_ ≠ (.slice Ao42 t133.length co42 : Value).ownBlock)) (n := t138.length) (c := co45) ?_).2.2; exact (zf HO140.out BK136.out)); (case side6 => exact (Kd.R_reads' HO140.out).2.1); (case side7 => refine (Kd.R_reads' (e := 97) (base := w.heap.size) (ok := fun k_ => ((((((((((some k_ ≠ (.slice Ao45 t138.length co45 : Value).ownBlock ∧ some k_ ≠ (.slice Ao49 x110001_1.length co49 : Value).ownBlock) ∧ some k_ ≠ (.slice Ao50 x110002_1.length co50 : Value).ownBlock) ∧ some k_ ≠ (.slice Ao25 t110.length co25 : Value).ownBlock) ∧ some k_ ≠ (.slice Ao32 t113.length co32 : Value).ownBlock) ∧ some k_ ≠ (.slice Ao29 t117.length co29 : Value).ownBlock) ∧ some k_ ≠ (.slice Ao30 t120.length co30 : Value).ownBlock) ∧ some k_ ≠ (.slice Ao33 t123.length co33 : Value).ownBlock) ∧ some k_ ≠ (.slice Ao35 t126.length co35 : Value).ownBlock) ∧ some k_ ≠ (.slice Ao41 t130.length co41 : Value).ownBlock) ∧ some k_ ≠ (.slice Ao42 t133.length co42 : Value).ownBlock)) (n := t141.length) (c := co46) ?_).2.2; exact (zf HO143.out BK136.out)); (case side8 => exact (Kd.R_reads' HO143.out).2.1); rintro e w51 ⟨v146, v149, rfl, ho0, ho1, hb⟩; refine ⟨_, rfl, ?_⟩; replace ho0 := ynf ho0 HO_110001 BK136; replace ho0 := ynf ho0 HO_110002 BK136; replace ho0 := ynf ho0 HO112 BK136; replace ho0 := ynf ho0 HO116 BK136; replace ho0 := ynf ho0 HO119 BK136; replace ho0 := ynf ho0 HO122 BK136; replace ho0 := ynf ho0 HO125 BK136; replace ho0 := ynf ho0 HO128 BK136; replace ho0 := ynf ho0 HO132 BK136; replace ho0 := ynf ho0 HO135 BK136; replace ho0 := ynf ho0 HO140 BK136; replace ho0 := ynf ho0 HO143 BK136; have HO147 := yRl3 ho0 HB GE101 GE109 GE136; replace ho1 := ynf ho1 HO_110001 BK136; replace ho1 := ynf ho1 HO_110002 BK136; replace ho1 := ynf ho1 HO112 BK136; replace ho1 := ynf ho1 HO116 BK136; replace ho1 := ynf ho1 HO119 BK136; replace ho1 := ynf ho1 HO122 BK136; replace ho1 := ynf ho1 HO125 BK136; replace ho1 := ynf ho1 HO128 BK136; replace ho1 := ynf ho1 HO132 BK136; replace ho1 := ynf ho1 HO135 BK136; replace ho1 := ynf ho1 HO140 BK136; replace ho1 := ynf ho1 HO143 BK136; have HO150 := yRl3 ho1 HB GE101 GE109 GE136; replace HO_110001 := yRtf HO_110001 BK136 hb ho0 ho1; replace HO_110002 := yRtf HO_110002 BK136 hb ho0 ho1; replace HO112 := yRtf HO112 BK136 hb ho0 ho1; replace HO116 := yRtf HO116 BK136 hb ho0 ho1; replace HO119 := yRtf HO119 BK136 hb ho0 ho1; replace HO122 := yRtf HO122 BK136 hb ho0 ho1; replace HO125 := yRtf HO125 BK136 hb ho0 ho1; replace HO128 := yRtf HO128 BK136 hb ho0 ho1; replace HO132 := yRtf HO132 BK136 hb ho0 ho1; replace HO135 := yRtf HO135 BK136 hb ho0 ho1; replace HO140 := yRtf HO140 BK136 hb ho0 ho1; replace HO143 := yRtf HO143 BK136 hb ho0 ho1; replace BK101 := yF3 BK101 NB101_136 hb; replace BK109 := yF3 BK109 NB109_136 hb; replace BK136 := yP3 BK136 hb; replace HB := yS3 HB GE101 GE109 GE136 hb; (try clear hb ho0); (try clear ho1); obtain ⟨hcz52_0, hcz52_1, hcz52_2, hfz52_0, hfz52_1, hfz52_2⟩ := zz3 BK109; obtain ⟨Ao53, co53, rfl⟩ := Kd.R_slice HO147.out; obtain ⟨Ao54, co54, rfl⟩ := Kd.R_slice HO150.out))
     go_roundg k1
     case measure => have := HK1.out; omega
     case rel => exact ⟨(wrap64 (x10_1 + 1)), (t144), (t145), (t148), (.slice Ao53 t145.length co53), (.slice Ao54 t148.length co54), zF, H', ⟨zo1 HK1⟩, ⟨by (with_reducible repeat (first | apply Kd.R_alloc | apply Kd.R_drewN | apply Kd.R_drew)); exact yf HO147.out BK109.out (fun _ hk => hk.1.1.1.1.1.1.1.1.1.1.1.1.1)⟩, ⟨by (with_reducible repeat (first | apply Kd.R_alloc | apply Kd.R_drewN | apply Kd.R_drew)); exact yf HO150.out BK109.out (fun _ hk => hk.1.1.1.1.1.1.1.1.1.1.1.1.1)⟩, ⟨zF3 BK101.out NB101_109.out⟩, ⟨zP3 BK109.out⟩, ⟨zB3 HB.out GE101.out GE109.out GE136.out⟩⟩
   have c21b0 := beq_eq_false_iff_ne.mpr c21
   have c21b1 := bne_iff_ne.mpr c21
   replace H := zb H
   obtain ⟨⟨t151, t152, t155⟩, A55, H⟩ := H
   dsimp only at H
   have H' := Aside0.mk H
   clear H
   go_wp2_with (first | ((with_reducible refine gC 23 ?_); refine zG (some 24) Try.func23 #[.int .u64 (IntKind.u64.wrap (wrap64 (a0 - 1)))] ?_; (with_reducible refine (r1_Of.calls k1 (IntKind.u64.wrap (wrap64 (a0 - 1))) t110 _ A14.out).mono ?_); rintro e w56 ⟨v111, rfl, ho0, hb⟩; refine ⟨_, rfl, ?_⟩; replace ho0 := yn ho0 HO_110001; replace ho0 := yn ho0 HO_110002; have HO112 := yRl2 ho0 HB GE101 GE109; replace HO_110001 := yRe HO_110001 ho0 hb; replace HO_110002 := yRe HO_110002 ho0 hb; replace BK101 := yK BK101 hb; replace BK109 := yK BK109 hb; replace HB := yS2 HB GE101 GE109 hb; (try clear hb ho0); obtain ⟨Ao57, co57, rfl⟩ := Kd.R_slice HO112.out) | ((with_reducible refine gC 22 ?_); refine zG (some 28) Try.func22 #[.slice Ao57 t110.length co57, .int .i64 (wrap64 (a2 - x10_1))] ?_; (with_reducible refine (r1_Pow.calls k1 _ _ t110 (wrap64 (a2 - x10_1)) t113 t114 _ ?side1 ?side2 A15.out).mono ?_); (case side1 => exact zC (Kd.R_reads' HO112.out).2.2); (case side2 => exact (Kd.R_reads' HO112.out).2.1); rintro e w58 ⟨v115, rfl, ho0, hb⟩; refine ⟨_, rfl, ?_⟩; replace ho0 := yn ho0 HO_110001; replace ho0 := yn ho0 HO_110002; replace ho0 := yn ho0 HO112; have HO116 := yRl2 ho0 HB GE101 GE109; replace HO_110001 := yRe HO_110001 ho0 hb; replace HO_110002 := yRe HO_110002 ho0 hb; replace HO112 := yRe HO112 ho0 hb; replace BK101 := yK BK101 hb; replace BK109 := yK BK109 hb; replace HB := yS2 HB GE101 GE109 hb; (try clear hb ho0)) | ((with_reducible refine gC 78 ?_); refine zG (some 34) Try.func78 #[.int .i64 a3, .int .i64 x10_1] ?_; (with_reducible refine (r1_Choose.calls k1 a3 x10_1 t117 _ A16.out).mono ?_); rintro e w59 ⟨v118, rfl, ho0, hb⟩; refine ⟨_, rfl, ?_⟩; replace ho0 := yn ho0 HO_110001; replace ho0 := yn ho0 HO_110002; replace ho0 := yn ho0 HO112; replace ho0 := yn ho0 HO116; have HO119 := yRl2 ho0 HB GE101 GE109; replace HO_110001 := yRe HO_110001 ho0 hb; replace HO_110002 := yRe HO_110002 ho0 hb; replace HO112 := yRe HO112 ho0 hb; replace HO116 := yRe HO116 ho0 hb; replace BK101 := yK BK101 hb; replace BK109 := yK BK109 hb; replace HB := yS2 HB GE101 GE109 hb; (try clear hb ho0)) | ((with_reducible refine gC 78 ?_); refine zG (some 41) Try.func78 #[.int .i64 (wrap64 (a1 - a3)), .int .i64 (wrap64 (a2 - x10_1))] ?_; (with_reducible refine (r1_Choose.calls k1 (wrap64 (a1 - a3)) (wrap64 (a2 - x10_1)) t120 _ A17.out).mono ?_); rintro e w60 ⟨v121, rfl, ho0, hb⟩; refine ⟨_, rfl, ?_⟩; replace ho0 := yn ho0 HO_110001; replace ho0 := yn ho0 HO_110002; replace ho0 := yn ho0 HO112; replace ho0 := yn ho0 HO116; replace ho0 := yn ho0 HO119; have HO122 := yRl2 ho0 HB GE101 GE109; replace HO_110001 := yRe HO_110001 ho0 hb; replace HO_110002 := yRe HO_110002 ho0 hb; replace HO112 := yRe HO112 ho0 hb; replace HO116 := yRe HO116 ho0 hb; replace HO119 := yRe HO119 ho0 hb; replace BK101 := yK BK101 hb; replace BK109 := yK BK109 hb; replace HB := yS2 HB GE101 GE109 hb; (try clear hb ho0); obtain ⟨Ao61, co61, rfl⟩ := Kd.R_slice HO119.out; obtain ⟨Ao62, co62, rfl⟩ := Kd.R_slice HO122.out) | ((with_reducible refine gC 26 ?_); refine zG (some 42) Try.func26 #[.slice Ao61 t117.length co61, .slice Ao62 t120.length co62] ?_; (with_reducible refine (r1_Mul.calls k1 _ _ t117 _ _ t120 t123 _ ?side1 ?side2 ?side3 ?side4 A18.out).mono ?_); (case side1 => exact zC (Kd.R_reads' HO119.out).2.2); (case side2 => exact (Kd.R_reads' HO119.out).2.1); (case side3 => exact zC (Kd.R_reads' HO122.out).2.2); (case side4 => exact (Kd.R_reads' HO122.out).2.1); rintro e w63 ⟨v124, rfl, ho0, hb⟩; refine ⟨_, rfl, ?_⟩; replace ho0 := yn ho0 HO_110001; replace ho0 := yn ho0 HO_110002; replace ho0 := yn ho0 HO112; replace ho0 := yn ho0 HO116; replace ho0 := yn ho0 HO119; replace ho0 := yn ho0 HO122; have HO125 := yRl2 ho0 HB GE101 GE109; replace HO_110001 := yRe HO_110001 ho0 hb; replace HO_110002 := yRe HO_110002 ho0 hb; replace HO112 := yRe HO112 ho0 hb; replace HO116 := yRe HO116 ho0 hb; replace HO119 := yRe HO119 ho0 hb; replace HO122 := yRe HO122 ho0 hb; replace BK101 := yK BK101 hb; replace BK109 := yK BK109 hb; replace HB := yS2 HB GE101 GE109 hb; (try clear hb ho0); obtain ⟨Ao64, co64, rfl⟩ := Kd.R_slice HO116.out; obtain ⟨Ao65, co65, rfl⟩ := Kd.R_slice HO125.out) | ((with_reducible refine gC 26 ?_); refine zG (some 43) Try.func26 #[.slice Ao64 t113.length co64, .slice Ao65 t123.length co65] ?_; (with_reducible refine (r1_Mul.calls k1 _ _ t113 _ _ t123 t126 _ ?side1 ?side2 ?side3 ?side4 A19.out).mono ?_); (case side1 => exact zC (Kd.R_reads' HO116.out).2.2); (case side2 => exact (Kd.R_reads' HO116.out).2.1); (case side3 => exact zC (Kd.R_reads' HO125.out).2.2); (case side4 => exact (Kd.R_reads' HO125.out).2.1); rintro e w66 ⟨v127, rfl, ho0, hb⟩; refine ⟨_, rfl, ?_⟩; replace ho0 := yn ho0 HO_110001; replace ho0 := yn ho0 HO_110002; replace ho0 := yn ho0 HO112; replace ho0 := yn ho0 HO116; replace ho0 := yn ho0 HO119; replace ho0 := yn ho0 HO122; replace ho0 := yn ho0 HO125; have HO128 := yRl2 ho0 HB GE101 GE109; replace HO_110001 := yRe HO_110001 ho0 hb; replace HO_110002 := yRe HO_110002 ho0 hb; replace HO112 := yRe HO112 ho0 hb; replace HO116 := yRe HO116 ho0 hb; replace HO119 := yRe HO119 ho0 hb; replace HO122 := yRe HO122 ho0 hb; replace HO125 := yRe HO125 ho0 hb; replace BK101 := yK BK101 hb; replace BK109 := yK BK109 hb; replace HB := yS2 HB GE101 GE109 hb; (try clear hb ho0); obtain ⟨Ao67, co67, rfl⟩ := Kd.R_slice HO128.out) | ((with_reducible refine gC 95 ?_); refine zG (some 44) Try.func95 #[.slice Ao67 t126.length co67] ?_; (with_reducible refine (r2_Nat.calls k1 _ _ t126 t129 t130 t133 _ ?side1 ?side2 A20.out).mono ?_); (case side1 => exact zC (Kd.R_reads' HO128.out).2.2); (case side2 => exact (Kd.R_reads' HO128.out).2.1); rintro e w68 ⟨v131, v134, rfl, ho0, ho1, hb⟩; refine ⟨_, rfl, ?_⟩; replace ho0 := yn ho0 HO_110001; replace ho0 := yn ho0 HO_110002; replace ho0 := yn ho0 HO112; replace ho0 := yn ho0 HO116; replace ho0 := yn ho0 HO119; replace ho0 := yn ho0 HO122; replace ho0 := yn ho0 HO125; replace ho0 := yn ho0 HO128; have HO132 := yRl2 ho0 HB GE101 GE109; replace ho1 := yn ho1 HO_110001; replace ho1 := yn ho1 HO_110002; replace ho1 := yn ho1 HO112; replace ho1 := yn ho1 HO116; replace ho1 := yn ho1 HO119; replace ho1 := yn ho1 HO122; replace ho1 := yn ho1 HO125; replace ho1 := yn ho1 HO128; have HO135 := yRl2 ho1 HB GE101 GE109; replace HO_110001 := yRt HO_110001 hb ho0 ho1; replace HO_110002 := yRt HO_110002 hb ho0 ho1; replace HO112 := yRt HO112 hb ho0 ho1; replace HO116 := yRt HO116 hb ho0 ho1; replace HO119 := yRt HO119 hb ho0 ho1; replace HO122 := yRt HO122 hb ho0 ho1; replace HO125 := yRt HO125 hb ho0 ho1; replace HO128 := yRt HO128 hb ho0 ho1; replace BK101 := yK BK101 hb; replace BK109 := yK BK109 hb; replace HB := yS2 HB GE101 GE109 hb; (try clear hb ho0); (try clear ho1)) | ((with_reducible refine gate_dst (N := 13) rfl ?_); refine box_event ?hg (N := 13) ?hd (cs := #[.bool false, .slice none 0 0, .slice none 0 0]) (t := 60) ?hr ?_; (case hd => rfl); (case hg => rfl); (case hr => first | (go_simp; done) | (go_simp; rfl)); intro gb136 hg w69 hbox hb; replace HO_110001 := yRb HO_110001 hb; replace HO_110002 := yRb HO_110002 hb; replace HO112 := yRb HO112 hb; replace HO116 := yRb HO116 hb; replace HO119 := yRb HO119 hb; replace HO122 := yRb HO122 hb; replace HO125 := yRb HO125 hb; replace HO128 := yRb HO128 hb; replace HO132 := yRb HO132 hb; replace HO135 := yRb HO135 hb; have BK136 := Aside0.mk (hbox); have GW136 := yg2 hg HB GE101 GE109; have GE136 := yg2 hg HB GE101 GE109; replace HB := yS2 HB GE101 GE109 hb; have NB101_136 := ynl hg BK101; have NB136_101 := yng hg BK101; replace BK101 := yK BK101 hb; have NB109_136 := ynl hg BK109; have NB136_109 := yng hg BK109; replace BK109 := yK BK109 hb; clear hb hbox hg; have hnb70 := NB136_101.out; have hnc70 := NB101_136.out; have hnb71 := NB136_109.out; have hnc71 := NB109_136.out; obtain ⟨hcz72_0, hcz72_1, hcz72_2, hfz72_0, hfz72_1, hfz72_2⟩ := zz3 BK136; obtain ⟨Ao73, co73, rfl⟩ := Kd.R_slice HO132.out; obtain ⟨Ao74, co74, rfl⟩ := Kd.R_slice HO135.out; have hnb75 := NB109_101.out; have hnc75 := NB101_109.out; obtain ⟨hcz76_0, hcz76_1, hcz76_2, hfz76_0, hfz76_1, hfz76_2⟩ := zz3 BK109; obtain ⟨Ao77, co77, rfl⟩ := Kd.R_slice HO_110001.out; obtain ⟨Ao78, co78, rfl⟩ := Kd.R_slice HO_110002.out) | ((with_reducible refine gC 50 ?_); refine zG (some 52) Try.func50 #[.agg #[.bool x110000_1, .slice Ao77 x110001_1.length co77, .slice Ao78 x110002_1.length co78], .agg #[.bool t129, .slice Ao73 t130.length co73, .slice Ao74 t133.length co74]] ?_; (with_reducible refine (r2_Add.calls k1 x110000_1 _ _ x110001_1 _ _ x110002_1 t129 _ _ t130 _ _ t133 t151 t152 t155 _ ?side1 ?side2 ?side3 ?side4 ?side5 ?side6 ?side7 ?side8 A55.out).mono ?_); (case side1 => refine (Kd.R_reads' (e := 97) (base := w.heap.size) (ok := fun k_ => ((((((((some k_ ≠ (.slice Ao78 x110002_1.length co78 : Value).ownBlock ∧ some k_ ≠ (.slice Ao57 t110.length co57 : Value).ownBlock) ∧ some k_ ≠ (.slice Ao64 t113.length co64 : Value).ownBlock) ∧ some k_ ≠ (.slice Ao61 t117.length co61 : Value).ownBlock) ∧ some k_ ≠ (.slice Ao62 t120.length co62 : Value).ownBlock) ∧ some k_ ≠ (.slice Ao65 t123.length co65 : Value).ownBlock) ∧ some k_ ≠ (.slice Ao67 t126.length co67 : Value).ownBlock) ∧ some k_ ≠ (.slice Ao73 t130.length co73 : Value).ownBlock) ∧ some k_ ≠ (.slice Ao74 t133.length co74 : Value).ownBlock)) (n := x110001_1.length) (c := co77) ?_).2.2; exact (zf HO_110001.out BK136.out)); (case side2 => exact (Kd.R_reads' HO_110001.out).2.1); (case side3 => refine (Kd.R_reads' (e := 97) (base := w.heap.size) (ok := fun k_ => ((((((((some k_ ≠ (.slice Ao77 x110001_1.length co77 : Value).ownBlock ∧ some k_ ≠ (.slice Ao57 t110.length co57 : Value).ownBlock) ∧ some k_ ≠ (.slice Ao64 t113.length co64 : Value).ownBlock) ∧ some k_ ≠ (.slice Ao61 t117.length co61 : Value).ownBlock) ∧ some k_ ≠ (.slice Ao62 t120.length co62 : Value).ownBlock) ∧ some k_ ≠ (.slice Ao65 t123.length co65 : Value).ownBlock) ∧ some k_ ≠ (.slice Ao67 t126.length co67 : Value).ownBlock) ∧ some k_ ≠ (.slice Ao73 t130.length co73 : Value).ownBlock) ∧ some k_ ≠ (.slice Ao74 t133.length co74 : Value).ownBlock)) (n := x110002_1.length) (c := co78) ?_).2.2; exact (zf HO_110002.out BK136.out)); (case side4 => exact (Kd.R_reads' HO_110002.out).2.1); (case side5 => refine (Kd.R_reads' (e := 97) (base := w.heap.size) (ok := fun k_ => ((((((((some k_ ≠ (.slice Ao74 t133.length co74 : Value).ownBlock ∧ some k_ ≠ (.slice Ao77 x110001_1.length co77 : Value).ownBlock) ∧ some k_ ≠ (.slice Ao78 x110002_1.length co78 : Value).ownBlock) ∧ some k_ ≠ (.slice Ao57 t110.length co57 : Value).ownBlock) ∧ some k_ ≠ (.slice Ao64 t113.length co64 : Value).ownBlock) ∧ some k_ ≠ (.slice Ao61 t117.length co61 : Value).ownBlock) ∧ some k_ ≠ (.slice Ao62 t120.length co62 : Value).ownBlock) ∧ some k_ ≠ (.slice Ao65 t123.length co65 : Value).ownBlock) ∧ some k_ ≠ (.slice Ao67 t126.length co67 : Value).ownBlock)) (n := t130.length) (c := co73) ?_).2.2; exact (zf HO132.out BK136.out)); (case side6 => exact (Kd.R_reads' HO132.out).2.1); (case side7 => refine (Kd.R_reads' (e := 97) (base := w.heap.size) (ok := fun k_ => ((((((((some k_ ≠ (.slice Ao73 t130.length co73 : Value).ownBlock ∧ some k_ ≠ (.slice Ao77 x110001_1.length co77 : Value).ownBlock) ∧ some k_ ≠ (.slice Ao78 x110002_1.length co78 : Value).ownBlock) ∧ some k_ ≠ (.slice Ao57 t110.length co57 : Value).ownBlock) ∧ some k_ ≠ (.slice Ao64 t113.length co64 : Value).ownBlock) ∧ some k_ ≠ (.slice Ao61 t117.length co61 : Value).ownBlock) ∧ some k_ ≠ (.slice Ao62 t120.length co62 : Value).ownBlock) ∧ some k_ ≠ (.slice Ao65 t123.length co65 : Value).ownBlock) ∧ some k_ ≠ (.slice Ao67 t126.length co67 : Value).ownBlock)) (n := t133.length) (c := co74) ?_).2.2; exact (zf HO135.out BK136.out)); (case side8 => exact (Kd.R_reads' HO135.out).2.1); rintro e w79 ⟨v153, v156, rfl, ho0, ho1, hb⟩; refine ⟨_, rfl, ?_⟩; replace ho0 := ynf ho0 HO_110001 BK136; replace ho0 := ynf ho0 HO_110002 BK136; replace ho0 := ynf ho0 HO112 BK136; replace ho0 := ynf ho0 HO116 BK136; replace ho0 := ynf ho0 HO119 BK136; replace ho0 := ynf ho0 HO122 BK136; replace ho0 := ynf ho0 HO125 BK136; replace ho0 := ynf ho0 HO128 BK136; replace ho0 := ynf ho0 HO132 BK136; replace ho0 := ynf ho0 HO135 BK136; have HO154 := yRl3 ho0 HB GE101 GE109 GE136; replace ho1 := ynf ho1 HO_110001 BK136; replace ho1 := ynf ho1 HO_110002 BK136; replace ho1 := ynf ho1 HO112 BK136; replace ho1 := ynf ho1 HO116 BK136; replace ho1 := ynf ho1 HO119 BK136; replace ho1 := ynf ho1 HO122 BK136; replace ho1 := ynf ho1 HO125 BK136; replace ho1 := ynf ho1 HO128 BK136; replace ho1 := ynf ho1 HO132 BK136; replace ho1 := ynf ho1 HO135 BK136; have HO157 := yRl3 ho1 HB GE101 GE109 GE136; replace HO_110001 := yRtf HO_110001 BK136 hb ho0 ho1; replace HO_110002 := yRtf HO_110002 BK136 hb ho0 ho1; replace HO112 := yRtf HO112 BK136 hb ho0 ho1; replace HO116 := yRtf HO116 BK136 hb ho0 ho1; replace HO119 := yRtf HO119 BK136 hb ho0 ho1; replace HO122 := yRtf HO122 BK136 hb ho0 ho1; replace HO125 := yRtf HO125 BK136 hb ho0 ho1; replace HO128 := yRtf HO128 BK136 hb ho0 ho1; replace HO132 := yRtf HO132 BK136 hb ho0 ho1; replace HO135 := yRtf HO135 BK136 hb ho0 ho1; replace BK101 := yF3 BK101 NB101_136 hb; replace BK109 := yF3 BK109 NB109_136 hb; replace BK136 := yP3 BK136 hb; replace HB := yS3 HB GE101 GE109 GE136 hb; (try clear hb ho0); (try clear ho1); obtain ⟨hcz80_0, hcz80_1, hcz80_2, hfz80_0, hfz80_1, hfz80_2⟩ := zz3 BK109; obtain ⟨Ao81, co81, rfl⟩ := Kd.R_slice HO154.out; obtain ⟨Ao82, co82, rfl⟩ := Kd.R_slice HO157.out))
   go_roundg k1
   case measure => have := HK1.out; omega
   case rel => exact ⟨(wrap64 (x10_1 + 1)), (t151), (t152), (t155), (.slice Ao81 t152.length co81), (.slice Ao82 t155.length co82), zF, H', ⟨zo1 HK1⟩, ⟨by (with_reducible repeat (first | apply Kd.R_alloc | apply Kd.R_drewN | apply Kd.R_drew)); exact yf HO154.out BK109.out (fun _ hk => hk.1.1.1.1.1.1.1.1.1.1.1)⟩, ⟨by (with_reducible repeat (first | apply Kd.R_alloc | apply Kd.R_drewN | apply Kd.R_drew)); exact yf HO157.out BK109.out (fun _ hk => hk.1.1.1.1.1.1.1.1.1.1.1)⟩, ⟨zF3 BK101.out NB101_109.out⟩, ⟨zP3 BK109.out⟩, ⟨zB3 HB.out GE101.out GE109.out GE136.out⟩⟩
 simp only [Option.some.injEq, Prod.mk.injEq] at H
 obtain ⟨rfl, rfl, rfl⟩ := H
 have hnb83 := NB109_101.out
 have hnc83 := NB101_109.out
 obtain ⟨hcz84_0, hcz84_1, hcz84_2, hfz84_0, hfz84_1, hfz84_2⟩ := zz3 BK109
 obtain ⟨hcz85_0, hcz85_1, hcz85_2, hfz85_0, hfz85_1, hfz85_2⟩ := zz3 BK101
 obtain ⟨Ao86, co86, rfl⟩ := Kd.R_slice HO_110001.out
 obtain ⟨Ao87, co87, rfl⟩ := Kd.R_slice HO_110002.out
 go_wp2
 refine bodyPost_ret (results_cell_row rfl _ _ gb101 60 #[.bool x110000_1, .slice Ao86 x110001_1.length co86, .slice Ao87 x110002_1.length co87] (0, 0) _ rfl (zP3 BK101.out) Try.underlying60 rfl (by kernel_rfl)) rfl ?_
 exact ⟨_, _, zE, by (with_reducible repeat (first | apply Kd.R_alloc | apply Kd.R_drewN | apply Kd.R_drew)); exact yf HO_110001.out BK101.out (fun _ hk => hk.1), by (with_reducible repeat (first | apply Kd.R_alloc | apply Kd.R_drewN | apply Kd.R_drew)); exact yf HO_110002.out BK101.out (fun _ hk => hk.1), zB2 HB.out GE101.out GE109.out⟩
def r2_Mul.T3 : Bool × List (List Nat × List Nat) := (true, [([], []), ([0], [0]), ([], []), ([2], [2]), ([1, 3], [1, 3]), ([], []), ([5], [5]), ([], []), ([7], [7]), ([6, 8], [6, 8]), ([], []), ([10], [10]), ([], []), ([12], [12]), ([11, 13, 9], [11, 13]), ([4, 9, 14, 14], [4, 9, 14]), ([15, 15, 0, 1, 2, 3, 4, 5, 6, 7, 8, 9, 10, 11, 12, 13, 14, 15], [15])])
def r2_Mul.B3 : List Nat := [0, 1, 0, 4, 15, 0, 32, 0, 128, 480, 0, 1024, 0, 4096, 16352, 32767, 65535]
theorem r2_Mul.tab3 : rtab .any (opsOf Try.f51 3) = r2_Mul.T3 := by kernel_rfl
theorem r2_Mul.bits3 : waitsOk r2_Mul.T3.2 r2_Mul.B3 = true := by kernel_rfl
set_option maxHeartbeats 8000000 in
set_option maxRecDepth 100000 in
theorem r2_Mul.calls (k : Nat) (a0_0 : Bool) (A0_1 : Option Addr) (c0_1 : Nat) (l0_1 : List Int) (A0_2 : Option Addr) (c0_2 : Nat) (l0_2 : List Int) (a1_0 : Bool) (A1_1 : Option Addr) (c1_1 : Nat) (l1_1 : List Int) (A1_2 : Option Addr) (c1_2 : Nat) (l1_2 : List Int) (r1 : Bool) (r2 : List Int) (r3 : List Int) (w : World) (hr0_1 : Kd.C (Kd.int .u32) w A0_1 l0_1.length l0_1) (hc0_1 : l0_1.length ≤ c0_1) (hr0_2 : Kd.C (Kd.int .u32) w A0_2 l0_2.length l0_2) (hc0_2 : l0_2.length ≤ c0_2) (hr1_1 : Kd.C (Kd.int .u32) w A1_1 l1_1.length l1_1) (hc1_1 : l1_1.length ≤ c1_1) (hr1_2 : Kd.C (Kd.int .u32) w A1_2 l1_2.length l1_2) (hc1_2 : l1_2.length ≤ c1_2) (h : r2_Mul.f k a0_0 l0_1 l0_2 a1_0 l1_1 l1_2 = some (r1, r2, r3)) :
    Calls Try.prog 51 #[.agg #[.bool a0_0, .slice A0_1 l0_1.length c0_1, .slice A0_2 l0_2.length c0_2], .agg #[.bool a1_0, .slice A1_1 l1_1.length c1_1, .slice A1_2 l1_2.length c1_2]] w fun e w' => ∃ v1_ v2_ : Value, e = .returned (.agg #[.bool r1, v1_, v2_]) ∧ Kd.R (Kd.int .u32) 97 w' w.heap.size (fun k_ => some k_ ≠ (v2_ : Value).ownBlock) v1_ r2 ∧ Kd.R (Kd.int .u32) 97 w' w.heap.size (fun k_ => some k_ ≠ (v1_ : Value).ownBlock) v2_ r3 ∧ Below w.heap.size w w' := by
 have hu60 := Try.underlying60
 have HR0_1 := Aside0.mk hr0_1
 have HC0_1 := Aside0.mk hc0_1
 clear hr0_1 hc0_1
 have HR0_2 := Aside0.mk hr0_2
 have HC0_2 := Aside0.mk hc0_2
 clear hr0_2 hc0_2
 have HR1_1 := Aside0.mk hr1_1
 have HC1_1 := Aside0.mk hc1_1
 clear hr1_1 hc1_1
 have HR1_2 := Aside0.mk hr1_2
 have HC1_2 := Aside0.mk hc1_2
 clear hr1_2 hc1_2
 have HB := Aside0.mk (Below.refl w.heap.size w)
 have H : ((r2_Trim.f k a0_0 l0_1 l0_2).bind fun bt104 => ((r2_Trim.f k a1_0 l1_1 l1_2).bind fun bt111 => ((r1_Mul.f k bt104.2.1 bt111.2.1).bind fun t118 => ((r1_Mul.f k bt104.2.2 bt111.2.2).bind fun t121 => ((r2_Make.f k (bt104.1 != bt111.1) t118 t121).bind fun bt124 => (some (bt124.1, bt124.2.1, bt124.2.2))))))) = some (r1, r2, r3) := h
 clear h
 replace H := zb H
 obtain ⟨⟨t104, t105, t108⟩, A3, H⟩ := H
 dsimp only at H
 replace H := zb H
 obtain ⟨⟨t111, t112, t115⟩, A4, H⟩ := H
 dsimp only at H
 replace H := zb H
 obtain ⟨t118, A5, H⟩ := H
 replace H := zb H
 obtain ⟨t121, A6, H⟩ := H
 replace H := zb H
 obtain ⟨⟨t124, t125, t128⟩, A7, H⟩ := H
 dsimp only at H
 simp only [Option.some.injEq, Prod.mk.injEq] at H
 obtain ⟨rfl, rfl, rfl⟩ := H
 go_enter Try.func51, Try.ntmps51
 try go_wp2_with (first | ((with_reducible refine gate_dst (N := 2) rfl ?_); refine box_event ?hg (N := 2) ?hd (cs := #[.bool a0_0, .slice A0_1 l0_1.length c0_1, .slice A0_2 l0_2.length c0_2]) (t := 60) ?hr ?_; (case hd => rfl); (case hg => rfl); (case hr => first | (go_simp; done) | (go_simp; rfl)); intro gb101 hg w8 hbox hb; have BK101 := Aside0.mk (hbox); have GW101 := yg hg HB; have GE101 := yg hg HB; replace HB := yS HB hb; clear hb hbox hg) | ((with_reducible refine gate_dst (N := 3) rfl ?_); refine box_event ?hg (N := 3) ?hd (cs := #[.bool a1_0, .slice A1_1 l1_1.length c1_1, .slice A1_2 l1_2.length c1_2]) (t := 60) ?hr ?_; (case hd => rfl); (case hg => rfl); (case hr => first | (go_simp; done) | (go_simp; rfl)); intro gb102 hg w9 hbox hb; have BK102 := Aside0.mk (hbox); have GW102 := yg1 hg HB GE101; have GE102 := yg1 hg HB GE101; replace HB := yS1 HB GE101 hb; have NB101_102 := ynl hg BK101; have NB102_101 := yng hg BK101; replace BK101 := yK BK101 hb; clear hb hbox hg) | ((with_reducible refine gate_dst (N := 4) rfl ?_); refine box_event ?hg (N := 4) ?hd (cs := #[.bool false, .slice none 0 0, .slice none 0 0]) (t := 60) ?hr ?_; (case hd => rfl); (case hg => rfl); (case hr => first | (go_simp; done) | (go_simp; rfl)); intro gb103 hg w10 hbox hb; have BK103 := Aside0.mk (hbox); have GW103 := yg2 hg HB GE101 GE102; have GE103 := yg2 hg HB GE101 GE102; replace HB := yS2 HB GE101 GE102 hb; have NB101_103 := ynl hg BK101; have NB103_101 := yng hg BK101; replace BK101 := yK BK101 hb; have NB102_103 := ynl hg BK102; have NB103_102 := yng hg BK102; replace BK102 := yK BK102 hb; clear hb hbox hg; have hnb11 := NB101_102.out; have hnc11 := NB102_101.out; have hnb12 := NB101_103.out; have hnc12 := NB103_101.out; obtain ⟨hcz13_0, hcz13_1, hcz13_2, hfz13_0, hfz13_1, hfz13_2⟩ := zz3 BK101) | ((with_reducible refine gC 99 ?_); refine zG (some 6) Try.func99 #[.agg #[.bool a0_0, .slice A0_1 l0_1.length c0_1, .slice A0_2 l0_2.length c0_2]] ?_; (with_reducible refine (r2_Trim.calls k a0_0 _ _ l0_1 _ _ l0_2 t104 t105 t108 _ ?side1 ?side2 ?side3 ?side4 A3.out).mono ?_); (case side1 => exact zC (Kd.C_below HR0_1.out HB.out)); (case side2 => exact HC0_1.out); (case side3 => exact zC (Kd.C_below HR0_2.out HB.out)); (case side4 => exact HC0_2.out); rintro e w14 ⟨v106, v109, rfl, ho0, ho1, hb⟩; refine ⟨_, rfl, ?_⟩; have HO107 := yRl3 ho0 HB GE101 GE102 GE103; have HO110 := yRl3 ho1 HB GE101 GE102 GE103; replace BK101 := yK BK101 hb; replace BK102 := yK BK102 hb; replace BK103 := yK BK103 hb; replace HB := yS3 HB GE101 GE102 GE103 hb; (try clear hb ho0); (try clear ho1); obtain ⟨hcz15_0, hcz15_1, hcz15_2, hfz15_0, hfz15_1, hfz15_2⟩ := zz3 BK101; obtain ⟨Ao16, co16, rfl⟩ := Kd.R_slice HO107.out; obtain ⟨Ao17, co17, rfl⟩ := Kd.R_slice HO110.out; have hnb18 := NB102_103.out; have hnc18 := NB103_102.out; obtain ⟨hcz19_0, hcz19_1, hcz19_2, hfz19_0, hfz19_1, hfz19_2⟩ := zz3 BK102) | ((with_reducible refine gC 99 ?_); refine zG (some 8) Try.func99 #[.agg #[.bool a1_0, .slice A1_1 l1_1.length c1_1, .slice A1_2 l1_2.length c1_2]] ?_; (with_reducible refine (r2_Trim.calls k a1_0 _ _ l1_1 _ _ l1_2 t111 t112 t115 _ ?side1 ?side2 ?side3 ?side4 A4.out).mono ?_); (case side1 => exact Kd.C_below HR1_1.out (zB3 HB.out GE101.out GE102.out GE103.out)); (case side2 => exact HC1_1.out); (case side3 => exact Kd.C_below HR1_2.out (zB3 HB.out GE101.out GE102.out GE103.out)); (case side4 => exact HC1_2.out); rintro e w20 ⟨v113, v116, rfl, ho0, ho1, hb⟩; refine ⟨_, rfl, ?_⟩; replace ho0 := ynf ho0 HO107 BK101; replace ho0 := ynf ho0 HO110 BK101; have HO114 := yRl3 ho0 HB GE101 GE102 GE103; replace ho1 := ynf ho1 HO107 BK101; replace ho1 := ynf ho1 HO110 BK101; have HO117 := yRl3 ho1 HB GE101 GE102 GE103; replace HO107 := yRtf HO107 BK101 hb ho0 ho1; replace HO110 := yRtf HO110 BK101 hb ho0 ho1; replace BK101 := yP3 BK101 hb; replace BK102 := yF3 BK102 NB102_101 hb; replace BK103 := yF3 BK103 NB103_101 hb; replace HB := yS3 HB GE101 GE102 GE103 hb; (try clear hb ho0); (try clear ho1); obtain ⟨hcz21_0, hcz21_1, hcz21_2, hfz21_0, hfz21_1, hfz21_2⟩ := zz3 BK102; obtain ⟨Ao22, co22, rfl⟩ := Kd.R_slice HO114.out; obtain ⟨Ao23, co23, rfl⟩ := Kd.R_slice HO117.out))
 have n0_ : Aside0 (Kd.R (Kd.int .u32) 97 (((w20.setCell ⟨gb102, 0, none⟩ (.bool t111)).setCell ⟨gb102, 1, none⟩ (.slice Ao22 t112.length co22)).setCell ⟨gb102, 2, none⟩ (.slice Ao23 t115.length co23)) w.heap.size (fun k_ => some k_ ≠ (.slice Ao17 t108.length co17 : Value).ownBlock ∧ some k_ ≠ (.slice Ao22 t112.length co22 : Value).ownBlock ∧ some k_ ≠ (.slice Ao23 t115.length co23 : Value).ownBlock) (.slice Ao16 t105.length co16) t105) := ⟨by (with_reducible repeat (first | apply Kd.R_alloc | apply Kd.R_drewN | apply Kd.R_drew)); exact yf HO107.out BK102.out (fun _ hk => ⟨hk.1.1.1, ⟨hk.1.1.2, hk.1.2⟩⟩)⟩
 have n1_ : Aside0 (Kd.R (Kd.int .u32) 97 (((w20.setCell ⟨gb102, 0, none⟩ (.bool t111)).setCell ⟨gb102, 1, none⟩ (.slice Ao22 t112.length co22)).setCell ⟨gb102, 2, none⟩ (.slice Ao23 t115.length co23)) w.heap.size (fun k_ => some k_ ≠ (.slice Ao16 t105.length co16 : Value).ownBlock ∧ some k_ ≠ (.slice Ao22 t112.length co22 : Value).ownBlock ∧ some k_ ≠ (.slice Ao23 t115.length co23 : Value).ownBlock) (.slice Ao17 t108.length co17) t108) := ⟨by (with_reducible repeat (first | apply Kd.R_alloc | apply Kd.R_drewN | apply Kd.R_drew)); exact yf HO110.out BK102.out (fun _ hk => ⟨hk.1.1.1, ⟨hk.1.1.2, hk.1.2⟩⟩)⟩
 have n2_ : Aside0 (Kd.R (Kd.int .u32) 97 (((w20.setCell ⟨gb102, 0, none⟩ (.bool t111)).setCell ⟨gb102, 1, none⟩ (.slice Ao22 t112.length co22)).setCell ⟨gb102, 2, none⟩ (.slice Ao23 t115.length co23)) w.heap.size (fun k_ => some k_ ≠ (.slice Ao16 t105.length co16 : Value).ownBlock ∧ some k_ ≠ (.slice Ao17 t108.length co17 : Value).ownBlock ∧ some k_ ≠ (.slice Ao23 t115.length co23 : Value).ownBlock) (.slice Ao22 t112.length co22) t112) := ⟨by (with_reducible repeat (first | apply Kd.R_alloc | apply Kd.R_drewN | apply Kd.R_drew)); exact yf HO114.out BK102.out (fun _ hk => ⟨hk.1.1.2, ⟨hk.1.2, hk.1.1.1⟩⟩)⟩
 have n3_ : Aside0 (Kd.R (Kd.int .u32) 97 (((w20.setCell ⟨gb102, 0, none⟩ (.bool t111)).setCell ⟨gb102, 1, none⟩ (.slice Ao22 t112.length co22)).setCell ⟨gb102, 2, none⟩ (.slice Ao23 t115.length co23)) w.heap.size (fun k_ => some k_ ≠ (.slice Ao16 t105.length co16 : Value).ownBlock ∧ some k_ ≠ (.slice Ao17 t108.length co17 : Value).ownBlock ∧ some k_ ≠ (.slice Ao22 t112.length co22 : Value).ownBlock) (.slice Ao23 t115.length co23) t115) := ⟨by (with_reducible repeat (first | apply Kd.R_alloc | apply Kd.R_drewN | apply Kd.R_drew)); exact yf HO117.out BK102.out (fun _ hk => ⟨hk.1.1.2, ⟨hk.1.2, hk.1.1.1⟩⟩)⟩
 have n4_ : Aside0 ((((w20.setCell ⟨gb102, 0, none⟩ (.bool t111)).setCell ⟨gb102, 1, none⟩ (.slice Ao22 t112.length co22)).setCell ⟨gb102, 2, none⟩ (.slice Ao23 t115.length co23)).heap[gb101]? = some (.cells #[.bool t104, .slice Ao16 t105.length co16, .slice Ao17 t108.length co17] 60 (0, 0))) := ⟨zF3 BK101.out NB101_102.out⟩
 have n5_ : Aside0 ((((w20.setCell ⟨gb102, 0, none⟩ (.bool t111)).setCell ⟨gb102, 1, none⟩ (.slice Ao22 t112.length co22)).setCell ⟨gb102, 2, none⟩ (.slice Ao23 t115.length co23)).heap[gb102]? = some (.cells #[.bool t111, .slice Ao22 t112.length co22, .slice Ao23 t115.length co23] 60 (0, 0))) := ⟨zP3 BK102.out⟩
 have n6_ : Aside0 ((((w20.setCell ⟨gb102, 0, none⟩ (.bool t111)).setCell ⟨gb102, 1, none⟩ (.slice Ao22 t112.length co22)).setCell ⟨gb102, 2, none⟩ (.slice Ao23 t115.length co23)).heap[gb103]? = some (.cells #[.bool false, .slice none 0 0, .slice none 0 0] 60 (0, 0))) := ⟨zF3 BK103.out NB103_102.out⟩
 have n7_ : Aside0 (Below w.heap.size w (((w20.setCell ⟨gb102, 0, none⟩ (.bool t111)).setCell ⟨gb102, 1, none⟩ (.slice Ao22 t112.length co22)).setCell ⟨gb102, 2, none⟩ (.slice Ao23 t115.length co23))) := ⟨zB3 HB.out GE101.out GE102.out GE103.out⟩
 (try clear HO107)
 (try clear HO110)
 (try clear HO114)
 (try clear HO117)
 (try clear BK101)
 (try clear BK102)
 (try clear BK103)
 (try clear HB)
 generalize (((w20.setCell ⟨gb102, 0, none⟩ (.bool t111)).setCell ⟨gb102, 1, none⟩ (.slice Ao22 t112.length co22)).setCell ⟨gb102, 2, none⟩ (.slice Ao23 t115.length co23)) = w24 at n0_ n1_ n2_ n3_ n4_ n5_ n6_ n7_ ⊢
 have HO107 := n0_
 have HO110 := n1_
 have HO114 := n2_
 have HO117 := n3_
 have BK101 := n4_
 have BK102 := n5_
 have BK103 := n6_
 have HB := n7_
 clear n0_ n1_ n2_ n3_ n4_ n5_ n6_ n7_
 replace HO107 := Aside0.mk (Kd.R_drew HO107.out)
 replace HO110 := Aside0.mk (Kd.R_drew HO110.out)
 replace HO114 := Aside0.mk (Kd.R_drew HO114.out)
 replace HO117 := Aside0.mk (Kd.R_drew HO117.out)
 replace BK101 := Aside0.mk (blk_drew BK101.out)
 replace BK102 := Aside0.mk (blk_drew BK102.out)
 replace BK103 := Aside0.mk (blk_drew BK103.out)
 replace HB := Aside0.mk (below_drew1 HB.out)
 refine start_ (n := 17) (S := fun w' => w'.cell? ⟨gb101, 0, none⟩ = some (.bool t104) ∧ w'.cell? ⟨gb101, 1, none⟩ = some (.slice Ao16 t105.length co16) ∧ w'.cell? ⟨gb101, 2, none⟩ = some (.slice Ao17 t108.length co17) ∧ w'.cell? ⟨gb102, 0, none⟩ = some (.bool t111) ∧ w'.cell? ⟨gb102, 1, none⟩ = some (.slice Ao22 t112.length co22) ∧ w'.cell? ⟨gb102, 2, none⟩ = some (.slice Ao23 t115.length co23)) (ds := []) #[false, false, false, false, false, false, false, false, false, false, false, false, false, false, false, false, false] (by kernel_rfl) rfl rfl ⟨(blk_cell BK101.out 0).trans rfl, (blk_cell BK101.out 1).trans rfl, (blk_cell BK101.out 2).trans rfl, (blk_cell BK102.out 0).trans rfl, (blk_cell BK102.out 1).trans rfl, (blk_cell BK102.out 2).trans rfl⟩ (fun hHeld => ?_); refine with_tabW r2_Mul.tab3 r2_Mul.bits3 (fun HT_ HW_ => ?_)
 generalize w24.drew = w25 at HO107 HO110 HO114 HO117 BK101 BK102 BK103 HB hHeld ⊢
 refine zp (i := 0) (N := some 9) HT_ ?_
 refine zp (i := 2) (N := some 11) HT_ ?_
 refine zp (i := 5) (N := some 14) HT_ ?_
 refine zp (i := 7) (N := some 16) HT_ ?_
 refine zp (i := 10) (N := some 19) HT_ ?_
 refine zp (i := 12) (N := some 21) HT_ ?_
 refine take_ (i := 1) (N := some 10) (v := ?_) (a' := ?_) #[true, true, true, false, false, true, false, true, false, false, true, false, true, false, false, false, false] rfl rfl (take_ofW HT_.out HW_.out (by kernel_rfl)) (fun _ _ _ h => h) (Or.inl ⟨by rfl, ?_⟩) hHeld ?_ ?_
 rotate_left
 · rintro w' ⟨s0, s1, s2, s3, s4, s5⟩
   go_simp
   with_reducible rfl
 rotate_left
 · simp only [Act.put, List.setIfInBounds_toArray, List.set_cons_zero, List.set_cons_succ, i64_w, i32_w]
   rfl
 refine take_ (i := 3) (N := some 12) (v := ?_) (a' := ?_) #[true, true, true, true, false, true, false, true, false, false, true, false, true, false, false, false, false] rfl rfl (take_ofW HT_.out HW_.out (by kernel_rfl)) (fun _ _ _ h => h) (Or.inl ⟨by rfl, ?_⟩) hHeld ?_ ?_
 rotate_left
 · rintro w' ⟨s0, s1, s2, s3, s4, s5⟩
   go_simp
   with_reducible rfl
 rotate_left
 · simp only [Act.put, List.setIfInBounds_toArray, List.set_cons_zero, List.set_cons_succ, i64_w, i32_w]
   rfl
 refine zp (i := 4) (N := some 13) HT_ ?_
 refine take_ (i := 6) (N := some 15) (v := ?_) (a' := ?_) #[true, true, true, true, true, true, true, true, false, false, true, false, true, false, false, false, false] rfl rfl (take_ofW HT_.out HW_.out (by kernel_rfl)) (fun _ _ _ h => h) (Or.inl ⟨by rfl, ?_⟩) hHeld ?_ ?_
 rotate_left
 · rintro w' ⟨s0, s1, s2, s3, s4, s5⟩
   go_simp
   with_reducible rfl
 rotate_left
 · simp only [Act.put, List.setIfInBounds_toArray, List.set_cons_zero, List.set_cons_succ, i64_w, i32_w]
   rfl
 refine take_ (i := 8) (N := some 17) (v := ?_) (a' := ?_) #[true, true, true, true, true, true, true, true, true, false, true, false, true, false, false, false, false] rfl rfl (take_ofW HT_.out HW_.out (by kernel_rfl)) (fun _ _ _ h => h) (Or.inl ⟨by rfl, ?_⟩) hHeld ?_ ?_
 rotate_left
 · rintro w' ⟨s0, s1, s2, s3, s4, s5⟩
   go_simp
   with_reducible rfl
 rotate_left
 · simp only [Act.put, List.setIfInBounds_toArray, List.set_cons_zero, List.set_cons_succ, i64_w, i32_w]
   rfl
 refine take_ (i := 11) (N := some 20) (v := ?_) (a' := ?_) #[true, true, true, true, true, true, true, true, true, false, true, true, true, false, false, false, false] rfl rfl (take_ofW HT_.out HW_.out (by kernel_rfl)) (fun _ _ _ h => h) (Or.inl ⟨by rfl, ?_⟩) hHeld ?_ ?_
 rotate_left
 · rintro w' ⟨s0, s1, s2, s3, s4, s5⟩
   go_simp
   with_reducible rfl
 rotate_left
 · simp only [Act.put, List.setIfInBounds_toArray, List.set_cons_zero, List.set_cons_succ, i64_w, i32_w]
   rfl
 refine take_ (i := 13) (N := some 22) (v := ?_) (a' := ?_) #[true, true, true, true, true, true, true, true, true, false, true, true, true, true, false, false, false] rfl rfl (take_ofW HT_.out HW_.out (by kernel_rfl)) (fun _ _ _ h => h) (Or.inl ⟨by rfl, ?_⟩) hHeld ?_ ?_
 rotate_left
 · rintro w' ⟨s0, s1, s2, s3, s4, s5⟩
   go_simp
   with_reducible rfl
 rotate_left
 · simp only [Act.put, List.setIfInBounds_toArray, List.set_cons_zero, List.set_cons_succ, i64_w, i32_w]
   rfl
 refine one_ (i := 9) (N := some 18) #[true, true, true, true, true, true, true, true, true, true, true, true, true, true, false, false, false] rfl rfl (one_of HT_.out (by kernel_rfl)) (by decide) (fun K hK => ?_)
 refine goes_ Try.func26 (by kernel_rfl) rfl #[.slice Ao16 t105.length co16, .slice Ao22 t112.length co22] (by rfl) rfl rfl (by (try simp only [List.map_toArray, List.map_cons, List.map_nil]); first | done | rfl | (simp only [List.length_drop, List.length_take]; rfl)) ?_
 with_reducible refine (r1_Mul.calls k _ _ t105 _ _ t112 t118 _ ?side1 ?side2 ?side3 ?side4 A5.out).mono ?_
 (case side1 => exact zC (Kd.R_reads' HO107.out).2.2)
 (case side2 => exact (Kd.R_reads' HO107.out).2.1)
 (case side3 => exact zC (Kd.R_reads' HO114.out).2.2)
 (case side4 => exact (Kd.R_reads' HO114.out).2.1)
 rintro e w26 ⟨v119, rfl, ho0, hb⟩
 refine ⟨_, rfl, ?_⟩
 replace ho0 := yn ho0 HO107
 replace ho0 := yn ho0 HO110
 replace ho0 := yn ho0 HO114
 replace ho0 := yn ho0 HO117
 have HO120 := yRl3 ho0 HB GE101 GE102 GE103
 replace HO107 := yRe HO107 ho0 hb
 replace HO110 := yRe HO110 ho0 hb
 replace HO114 := yRe HO114 ho0 hb
 replace HO117 := yRe HO117 ho0 hb
 replace BK101 := yK BK101 hb
 replace BK102 := yK BK102 hb
 replace BK103 := yK BK103 hb
 replace HB := yS3 HB GE101 GE102 GE103 hb
 (try clear hb)
 (try clear ho0)
 refine hK.out _ _ ⟨(blk_cell BK101.out 0).trans rfl, (blk_cell BK101.out 1).trans rfl, (blk_cell BK101.out 2).trans rfl, (blk_cell BK102.out 0).trans rfl, (blk_cell BK102.out 1).trans rfl, (blk_cell BK102.out 2).trans rfl⟩ (fun hHeld => ?_)
 clear hK K
 refine norm_ (a' := ?_) ?_ ?_
 rotate_left
 · show Act.put _ (some 18) _ = _
   simp only [Act.put, List.setIfInBounds_toArray, List.set_cons_zero, List.set_cons_succ, i64_w, i32_w]
   rfl
 refine one_ (i := 14) (N := some 23) #[true, true, true, true, true, true, true, true, true, true, true, true, true, true, true, false, false] rfl rfl (one_of HT_.out (by kernel_rfl)) (by decide) (fun K hK => ?_)
 refine goes_ Try.func26 (by kernel_rfl) rfl #[.slice Ao17 t108.length co17, .slice Ao23 t115.length co23] (by rfl) rfl rfl (by (try simp only [List.map_toArray, List.map_cons, List.map_nil]); first | done | rfl | (simp only [List.length_drop, List.length_take]; rfl)) ?_
 with_reducible refine (r1_Mul.calls k _ _ t108 _ _ t115 t121 _ ?side1 ?side2 ?side3 ?side4 A6.out).mono ?_
 (case side1 => exact zC (Kd.R_reads' HO110.out).2.2)
 (case side2 => exact (Kd.R_reads' HO110.out).2.1)
 (case side3 => exact zC (Kd.R_reads' HO117.out).2.2)
 (case side4 => exact (Kd.R_reads' HO117.out).2.1)
 rintro e w27 ⟨v122, rfl, ho0, hb⟩
 refine ⟨_, rfl, ?_⟩
 replace ho0 := yn ho0 HO107
 replace ho0 := yn ho0 HO110
 replace ho0 := yn ho0 HO114
 replace ho0 := yn ho0 HO117
 replace ho0 := yn ho0 HO120
 have HO123 := yRl3 ho0 HB GE101 GE102 GE103
 replace HO107 := yRe HO107 ho0 hb
 replace HO110 := yRe HO110 ho0 hb
 replace HO114 := yRe HO114 ho0 hb
 replace HO117 := yRe HO117 ho0 hb
 replace HO120 := yRe HO120 ho0 hb
 replace BK101 := yK BK101 hb
 replace BK102 := yK BK102 hb
 replace BK103 := yK BK103 hb
 replace HB := yS3 HB GE101 GE102 GE103 hb
 (try clear hb)
 (try clear ho0)
 obtain ⟨Ao28, co28, eo28⟩ := Kd.R_slice HO120.out
 (first | subst eo28 | (injection eo28 with f1_ f2_ f3_; have f4_ := f1_.symm; have f5_ := f3_.symm; clear f1_ f2_ f3_; subst f4_; subst f5_))
 obtain ⟨Ao29, co29, eo29⟩ := Kd.R_slice HO123.out
 (first | subst eo29 | (injection eo29 with f1_ f2_ f3_; have f4_ := f1_.symm; have f5_ := f3_.symm; clear f1_ f2_ f3_; subst f4_; subst f5_))
 refine hK.out _ _ ⟨(blk_cell BK101.out 0).trans rfl, (blk_cell BK101.out 1).trans rfl, (blk_cell BK101.out 2).trans rfl, (blk_cell BK102.out 0).trans rfl, (blk_cell BK102.out 1).trans rfl, (blk_cell BK102.out 2).trans rfl⟩ (fun hHeld => ?_)
 clear hK K
 refine norm_ (a' := ?_) ?_ ?_
 rotate_left
 · show Act.put _ (some 23) _ = _
   simp only [Act.put, List.setIfInBounds_toArray, List.set_cons_zero, List.set_cons_succ, i64_w, i32_w]
   rfl
 refine one_ (i := 15) (N := some 24) #[true, true, true, true, true, true, true, true, true, true, true, true, true, true, true, true, false] rfl rfl (one_of HT_.out (by kernel_rfl)) (by decide) (fun K hK => ?_)
 refine goes_ Try.func90 (by kernel_rfl) rfl #[.bool (t104 != t111), .slice Ao28 t118.length co28, .slice Ao29 t121.length co29] (by rfl) rfl rfl (by (try simp only [List.map_toArray, List.map_cons, List.map_nil]); first | done | rfl | (simp only [List.length_drop, List.length_take]; rfl)) ?_
 with_reducible refine (r2_Make.calls k (t104 != t111) _ _ t118 _ _ t121 t124 t125 t128 _ ?side1 ?side2 ?side3 ?side4 A7.out).mono ?_
 (case side1 => exact zC (Kd.R_reads' HO120.out).2.2)
 (case side2 => exact (Kd.R_reads' HO120.out).2.1)
 (case side3 => exact zC (Kd.R_reads' HO123.out).2.2)
 (case side4 => exact (Kd.R_reads' HO123.out).2.1)
 rintro e w30 ⟨v126, v129, rfl, ho0, ho1, hb⟩
 refine ⟨_, rfl, ?_⟩
 replace ho0 := yn ho0 HO107
 replace ho0 := yn ho0 HO110
 replace ho0 := yn ho0 HO114
 replace ho0 := yn ho0 HO117
 replace ho0 := yn ho0 HO120
 replace ho0 := yn ho0 HO123
 have HO127 := yRl3 ho0 HB GE101 GE102 GE103
 replace ho1 := yn ho1 HO107
 replace ho1 := yn ho1 HO110
 replace ho1 := yn ho1 HO114
 replace ho1 := yn ho1 HO117
 replace ho1 := yn ho1 HO120
 replace ho1 := yn ho1 HO123
 have HO130 := yRl3 ho1 HB GE101 GE102 GE103
 replace HO107 := yRt HO107 hb ho0 ho1
 replace HO110 := yRt HO110 hb ho0 ho1
 replace HO114 := yRt HO114 hb ho0 ho1
 replace HO117 := yRt HO117 hb ho0 ho1
 replace HO120 := yRt HO120 hb ho0 ho1
 replace HO123 := yRt HO123 hb ho0 ho1
 replace BK101 := yK BK101 hb
 replace BK102 := yK BK102 hb
 replace BK103 := yK BK103 hb
 replace HB := yS3 HB GE101 GE102 GE103 hb
 (try clear hb)
 (try clear ho0)
 (try clear ho1)
 obtain ⟨Ao32, co32, eo32⟩ := Kd.R_slice HO127.out
 (first | subst eo32 | (injection eo32 with f1_ f2_ f3_; have f4_ := f1_.symm; have f5_ := f3_.symm; clear f1_ f2_ f3_; subst f4_; subst f5_))
 obtain ⟨Ao34, co34, eo34⟩ := Kd.R_slice HO130.out
 (first | subst eo34 | (injection eo34 with f1_ f2_ f3_; have f4_ := f1_.symm; have f5_ := f3_.symm; clear f1_ f2_ f3_; subst f4_; subst f5_))
 refine hK.out _ _ ⟨(blk_cell BK101.out 0).trans rfl, (blk_cell BK101.out 1).trans rfl, (blk_cell BK101.out 2).trans rfl, (blk_cell BK102.out 0).trans rfl, (blk_cell BK102.out 1).trans rfl, (blk_cell BK102.out 2).trans rfl⟩ (fun hHeld => ?_)
 clear hK K
 refine norm_ (a' := ?_) ?_ ?_
 rotate_left
 · show Act.put _ (some 24) _ = _
   simp only [Act.put, List.setIfInBounds_toArray, List.set_cons_zero, List.set_cons_succ, i64_w, i32_w]
   rfl
 refine one_ (i := 16) (N := none) #[true, true, true, true, true, true, true, true, true, true, true, true, true, true, true, true, true] rfl rfl (one_of HT_.out (by kernel_rfl)) (by decide) (fun K hK => ?_)
 have hs31 : w30.cell? ⟨gb103, 0, none⟩ = some (.bool false) := (blk_cell BK103.out 0).trans rfl
 have hfs31 := blk_frozen BK103.out 0
 have hns31_0 := NB101_103.out
 have hns31_1 := NB102_103.out
 have hms31_0 := NB103_101.out
 have hms31_1 := NB103_102.out
 have hs33 : w30.cell? ⟨gb103, 1, none⟩ = some (.slice none 0 0) := (blk_cell BK103.out 1).trans rfl
 have hfs33 := blk_frozen BK103.out 1
 have hns33_0 := NB101_103.out
 have hns33_1 := NB102_103.out
 have hms33_0 := NB103_101.out
 have hms33_1 := NB103_102.out
 have hs35 : w30.cell? ⟨gb103, 2, none⟩ = some (.slice none 0 0) := (blk_cell BK103.out 2).trans rfl
 have hfs35 := blk_frozen BK103.out 2
 have hns35_0 := NB101_103.out
 have hns35_1 := NB102_103.out
 have hms35_0 := NB103_101.out
 have hms35_1 := NB103_102.out
 refine skip_ (w1 := ?_) (by rfl) rfl ?_ ?_
 rotate_left
 · go_simp
   rfl
 refine hK.out _ _ ⟨((cell_far (p := ⟨gb103, _, none⟩) NB101_103.out _).trans (((cell_far (p := ⟨gb103, _, none⟩) NB101_103.out _).trans (((cell_far (p := ⟨gb103, _, none⟩) NB101_103.out _).trans (hHeld.1)))))), ((cell_far (p := ⟨gb103, _, none⟩) NB101_103.out _).trans (((cell_far (p := ⟨gb103, _, none⟩) NB101_103.out _).trans (((cell_far (p := ⟨gb103, _, none⟩) NB101_103.out _).trans (hHeld.2.1)))))), ((cell_far (p := ⟨gb103, _, none⟩) NB101_103.out _).trans (((cell_far (p := ⟨gb103, _, none⟩) NB101_103.out _).trans (((cell_far (p := ⟨gb103, _, none⟩) NB101_103.out _).trans (hHeld.2.2.1)))))), ((cell_far (p := ⟨gb103, _, none⟩) NB102_103.out _).trans (((cell_far (p := ⟨gb103, _, none⟩) NB102_103.out _).trans (((cell_far (p := ⟨gb103, _, none⟩) NB102_103.out _).trans (hHeld.2.2.2.1)))))), ((cell_far (p := ⟨gb103, _, none⟩) NB102_103.out _).trans (((cell_far (p := ⟨gb103, _, none⟩) NB102_103.out _).trans (((cell_far (p := ⟨gb103, _, none⟩) NB102_103.out _).trans (hHeld.2.2.2.2.1)))))), ((cell_far (p := ⟨gb103, _, none⟩) NB102_103.out _).trans (((cell_far (p := ⟨gb103, _, none⟩) NB102_103.out _).trans (((cell_far (p := ⟨gb103, _, none⟩) NB102_103.out _).trans (hHeld.2.2.2.2.2))))))⟩ (fun hHeld => ?_)
 clear hK K
 refine done_ (done_of HT_.out (by kernel_rfl)) ?_
 try go_wp2
 refine bodyPost_ret (results_cell_row rfl _ _ gb103 60 #[.bool t124, .slice Ao32 t125.length co32, .slice Ao34 t128.length co34] (0, 0) _ rfl (zP3 BK103.out) Try.underlying60 rfl (by kernel_rfl)) rfl ?_
 exact ⟨_, _, zE, by (with_reducible repeat (first | apply Kd.R_alloc | apply Kd.R_drewN | apply Kd.R_drew)); exact yf HO127.out BK103.out (fun _ hk => hk.1.1.1.1.1.1.1), by (with_reducible repeat (first | apply Kd.R_alloc | apply Kd.R_drewN | apply Kd.R_drew)); exact yf HO130.out BK103.out (fun _ hk => hk.1.1.1.1.1.1.1), zB3 HB.out GE101.out GE102.out GE103.out⟩
end Go.Proofs.Ytifkbghnmhineaa.PAll
