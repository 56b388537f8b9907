/- What functions of the program do and come to, for the statement MacwilliamsInverts, part 3. Conditions: as each theorem says. -/
import Derived.Test.YtifkbghnmhineaaQInverts2

namespace Go.Proofs.Ytifkbghnmhineaa.PAll
open Go.RowKit Go.Proofs.YtifkbghnmhineaaW.PrintWords Go.Proofs.YtifkbghnmhineaaW.PrintLast Go.Proofs.YtifkbghnmhineaaW.PrintMore
attribute [local go_sem] max2_int min2_int max_two min_two max_three min_three max_four min_four
set_option linter.unusedVariables false
set_option linter.unusedSimpArgs false
theorem nat_step.pos {k : Nat} {a b : List Int} {r : Int × List Int} (h : nat_step.f k a b = some r) : 0 < a.length := by
  unfold nat_step.f at h
  by_cases h1 : 0 ≤ (b.length : Int)
  · rw [if_pos h1] at h
    by_cases h2 : (b.length : Int) < (a.length : Int)
    · omega
    · rw [if_neg h2] at h; cases h
  · rw [if_neg h1] at h; cases h
set_option maxHeartbeats 8000000 in
set_option maxRecDepth 100000 in
theorem nat_step.calls (k : Nat) (gW capW : Nat) (preW postW : List Int) (P0_ : Nat → Prop) (u9000_ : Value) (l0 : List Int) (A1 : Option Addr) (c1 : Nat) (l1 : List Int) (r1 : Int) (r2 : List Int) (w0 w : World) (hB : Below w0.heap.size w0 w) (ho0 : Wn gW capW preW postW w w0.heap.size P0_ u9000_ l0) (hr1 : ∀ W_, Kept w W_ (fun k_ => P0_ k_) → Kd.C (Kd.int .u32) W_ A1 l1.length l1) (hc1 : l1.length ≤ c1) (h : nat_step.f k l0 l1 = some (r1, r2)) :
    Calls Try.prog 140 #[u9000_, .slice A1 l1.length c1] w fun e w' => e = .returned (.int .u32 r1) ∧ Wn gW capW preW postW w' w0.heap.size (fun k_ => (P0_ k_ ∨ w.heap.size ≤ k_)) u9000_ r2 ∧ Below w0.heap.size w0 w' ∧ Kept w w' (fun k_ => P0_ k_) := by
 have HO0 := Aside0.mk (show Wn gW capW preW postW w w0.heap.size (fun k_ => (P0_ k_ ∨ w.heap.size ≤ k_)) u9000_ l0 from Wn.mono ho0 (fun k_ hk => (.inl hk)))
 have HR1 := Aside0.mk hr1
 have HC1 := Aside0.mk hc1
 clear hr1 hc1
 have HK := Aside0.mk (Kept.refl w (fun k_ => P0_ k_))
 have HW0 := Aside0.mk hB.size
 have HB := Aside0.mk hB
 clear hB
 have H : (if 0 ≤ (l1.length : Int) then (if (l1.length : Int) < (l0.length : Int) then (if 0 ≤ (wrap64 ((l1.length : Int) - 1)) then (if (wrap64 ((l1.length : Int) - 1)) < (l0.length : Int) then (if (wrap64 ((l1.length : Int) - 1)) < (l1.length : Int) then (if (IntKind.u64.wrap (rd l1 (wrap64 ((l1.length : Int) - 1)))) = 0 then (none) else (nat_step.l0 k l0 l1 (l1.length : Int) (IntKind.u64.wrap (Int.tdiv (Go.bits .or .u64 (IntKind.u64.wrap ((IntKind.u64.wrap (rd l0 (l1.length : Int))) * 4294967296)) (IntKind.u64.wrap (rd l0 (wrap64 ((l1.length : Int) - 1))))) (IntKind.u64.wrap (rd l1 (wrap64 ((l1.length : Int) - 1)))))) (Int.tmod (Go.bits .or .u64 (IntKind.u64.wrap ((IntKind.u64.wrap (rd l0 (l1.length : Int))) * 4294967296)) (IntKind.u64.wrap (rd l0 (wrap64 ((l1.length : Int) - 1))))) (IntKind.u64.wrap (rd l1 (wrap64 ((l1.length : Int) - 1))))))) else (none)) else (none)) else (none)) else (none)) else (none)) = some (r1, r2) := h
 clear h
 replace H := zg H
 obtain ⟨c3, H⟩ := H
 have c3b0 := decide_eq_true c3
 have c3b1 : decide (0 ≤ l1.length) = true := decide_eq_true (by omega)
 clear c3
 replace H := zg H
 obtain ⟨c4, H⟩ := H
 have c4b0 := decide_eq_true c4
 have c4b1 : decide (l1.length < l0.length) = true := decide_eq_true (Int.ofNat_lt.mp c4)
 clear c4
 obtain ⟨ji5, hji5⟩ : ∃ j_ : Int, (wrap64 ((l1.length : Int) - 1)) = j_ := ⟨_, rfl⟩
 replace H : (if 0 ≤ (ji5) then (if (ji5) < (l0.length : Int) then (if (ji5) < (l1.length : Int) then (if (IntKind.u64.wrap (rd l1 (ji5))) = 0 then (none) else (nat_step.l0 k l0 l1 (l1.length : Int) (IntKind.u64.wrap (Int.tdiv (Go.bits .or .u64 (IntKind.u64.wrap ((IntKind.u64.wrap (rd l0 (l1.length : Int))) * 4294967296)) (IntKind.u64.wrap (rd l0 (ji5)))) (IntKind.u64.wrap (rd l1 (ji5))))) (Int.tmod (Go.bits .or .u64 (IntKind.u64.wrap ((IntKind.u64.wrap (rd l0 (l1.length : Int))) * 4294967296)) (IntKind.u64.wrap (rd l0 (ji5)))) (IntKind.u64.wrap (rd l1 (ji5)))))) else (none)) else (none)) else (none)) = some (r1, r2) := by first | (rw [hji5] at H; exact H) | (simp only [hji5] at H ⊢; exact H)
 have hji5w : (IntKind.i64.wrap ((l1.length : Int) - 1)) = ji5 := (i64_w _).trans hji5
 replace H := zgd H
 obtain ⟨c6b0, H⟩ := H
 replace H := zgd H
 obtain ⟨c7b0, H⟩ := H
 replace H := zgd H
 obtain ⟨c8b0, H⟩ := H
 replace H := zh H
 obtain ⟨c9, H⟩ := H
 have c9b0 := beq_eq_false_iff_ne.mpr c9
 have c9b1 := bne_iff_ne.mpr c9
 have HC10 := Aside0.mk H
 clear H
 obtain ⟨Ao11, co11, rfl⟩ := Wn.slice HO0.out
 have p101 : 0 ≤ ((l1.length : Int) : Int) := zd
 have q101 : (l1.length : Int) < (l0.length : Int) := zd
 obtain ⟨ad101, e101, hx101_0⟩ := Kd.at_int (Wn.reads' HO0.out).2.2 (l1.length : Int) p101 q101
 cases e101
 (try simp only [Go.IntWalk.toNatUp] at hx101_0)
 replace p101 := eq_true p101
 replace q101 := eq_true q101
 have p102 : 0 ≤ ((ji5) : Int) := zd
 have q102 : (ji5) < (l0.length : Int) := zd
 obtain ⟨ad102, e102, hx102_0⟩ := Kd.at_int (Wn.reads' HO0.out).2.2 (ji5) p102 q102
 obtain rfl : ad101 = ad102 := (by injection e102)
 replace p102 := eq_true p102
 replace q102 := eq_true q102
 have p103 : 0 ≤ ((ji5) : Int) := zd
 have q103 : (ji5) < (l1.length : Int) := zd
 obtain ⟨ad103, e103, hx103_0⟩ := Kd.at_int (Kd.C_kept_now HR1.out HK.out) (ji5) p103 q103
 cases e103
 replace p103 := eq_true p103
 replace q103 := eq_true q103
 have p104 : 0 ≤ ((ji5) : Int) := zd
 have q104 : (ji5) < (l1.length : Int) := zd
 obtain ⟨ad104, e104, hx104_0⟩ := Kd.at_int (Kd.C_kept_now HR1.out HK.out) (ji5) p104 q104
 obtain rfl : ad103 = ad104 := (by injection e104)
 replace p104 := eq_true p104
 replace q104 := eq_true q104
 go_enter Try.func140, Try.ntmps140
 go_upto_block 0 with (fail)
 repeat (go_quiet (fail); go_upto_block 0 with (fail))
 go_cut [7] (fun v7 wc => ∃ (kq : Nat) (x7_9 : Int), v7 = .int .u64 x7_9 ∧ Aside0 (nat_step.j1 kq l0 l1 (l1.length : Int) x7_9 = some (r1, r2)) ∧ Aside0 (kq ≤ k) ∧ Aside0 (Wn gW capW preW postW wc w0.heap.size (fun k_ => (P0_ k_ ∨ w.heap.size ≤ k_)) (.slice (some ad101) l0.length co11) l0) ∧ Aside0 (Kept w wc (fun k_ => P0_ k_)) ∧ Aside0 (Below w0.heap.size w0 wc))
 case first =>
  have H := HC10.out
  clear HC10
  have H' := Aside0.mk H
  clear H
  go_wp2
  repeat (go_quiet (fail); try go_wp2)
  go_loopg [7, 8] k (fun kq v7 v8 w' => ∃ (x7_1 : Int) (x8_1 : Int), v7 = .int .u64 x7_1 ∧ v8 = .int .u64 x8_1 ∧ Aside0 (nat_step.l0 kq l0 l1 (l1.length : Int) x7_1 x8_1 = some (r1, r2)) ∧ Aside0 (kq ≤ k) ∧ Aside0 (Wn gW capW preW postW w' w0.heap.size (fun k_ => (P0_ k_ ∨ w.heap.size ≤ k_)) (.slice (some ad101) l0.length co11) l0) ∧ Aside0 (Kept w w' (fun k_ => P0_ k_)) ∧ Aside0 (Below w0.heap.size w0 w'))
  case atStart => exact ⟨(IntKind.u64.wrap (Int.tdiv (Go.bits .or .u64 (IntKind.u64.wrap ((IntKind.u64.wrap (rd l0 (l1.length : Int))) * 4294967296)) (IntKind.u64.wrap (rd l0 (ji5)))) (IntKind.u64.wrap (rd l1 (ji5))))), (Int.tmod (Go.bits .or .u64 (IntKind.u64.wrap ((IntKind.u64.wrap (rd l0 (l1.length : Int))) * 4294967296)) (IntKind.u64.wrap (rd l0 (ji5)))) (IntKind.u64.wrap (rd l1 (ji5)))), (by first | rfl | (simp; done) | (simp only [← hji5] <;> (first | rfl | simp)) | (simp [*]; done)), (by first | rfl | (simp; done) | (simp only [← hji5] <;> (first | rfl | simp)) | (simp [*]; done)), H', ⟨Nat.le_refl _⟩, ⟨zW HO0.out⟩, ⟨by repeat (first | (with_reducible first | exact HK.out | apply Kept.alloc | apply Kept.drewN | apply Kept.drew) | exact HK.out)⟩, ⟨zB HB.out⟩⟩
  clear H'
  (try clear c3);(try clear c3b0);(try clear c3b1);(try clear c4);(try clear c4b0);(try clear c4b1);(try clear c6b0);(try clear c7b0);(try clear c8b0);(try clear c9);(try clear c9b0);(try clear c9b1);(try clear hx101_0);(try clear hx102_0);(try clear hx103_0);(try clear hx104_0);(try clear p101);(try clear p102);(try clear p103);(try clear p104);(try clear q101);(try clear q102);(try clear q103);(try clear q104)
  obtain ⟨x7_1, x8_1, rfl, rfl, HA, HK1, HO_0, HK, HB⟩ := hrel
  cases gk with | zero => exact absurd HA.out (by simp [nat_step.l0]) | succ k1 => ?_
  have H := HA.out
  clear HA
  simp only [nat_step.l0] at H
  replace H := zid H
  rcases H with ⟨c12b0, H⟩ | ⟨c12b0, H⟩
  · (first | rw [c12b0] | (simp only [i64_w, i32_w]; rw [c12b0]) | rw [c12b1] | skip)
    replace H := zi H
    rcases H with ⟨c13, H⟩ | ⟨c13, H⟩
    · have c13b0 : decide (4294967296 ≤ x7_1) = true := decide_eq_true c13
      clear c13
      (try clear hji5w)
      obtain ⟨ji14, hji14⟩ : ∃ j_ : Int, (wrap64 ((l1.length : Int) - 1)) = j_ := ⟨_, rfl⟩
      replace H : (if 0 ≤ (ji14) then (if (ji14) < (l1.length : Int) then (nat_step.l0 k1 l0 l1 (l1.length : Int) (IntKind.u64.wrap (x7_1 - 1)) (IntKind.u64.wrap (x8_1 + (IntKind.u64.wrap (rd l1 (ji14)))))) else (none)) else (none)) = some (r1, r2) := by first | (rw [hji14] at H; exact H) | (simp only [hji14] at H ⊢; exact H)
      have hji14w : (IntKind.i64.wrap ((l1.length : Int) - 1)) = ji14 := (i64_w _).trans hji14
      replace H := zgd H
      obtain ⟨c15b0, H⟩ := H
      replace H := zgd H
      obtain ⟨c16b0, H⟩ := H
      have H' := Aside0.mk H
      clear H
      have p105 : 0 ≤ ((ji14) : Int) := zd
      have q105 : (ji14) < (l1.length : Int) := zd
      obtain ⟨ad105, e105, hx105_0⟩ := Kd.at_int (Kd.C_kept_now HR1.out HK.out) (ji14) p105 q105
      obtain rfl : ad103 = ad105 := (by injection e105)
      replace p105 := eq_true p105
      replace q105 := eq_true q105
      go_wp2
      repeat (go_quiet (fail); try go_wp2)
      (try simp only [add_at] at *)
      (try simp only [add_plain] at *)
      go_roundg k1
      case measure => have := HK1.out; omega
      case rel => exact ⟨(IntKind.u64.wrap (x7_1 - 1)), (IntKind.u64.wrap (x8_1 + (IntKind.u64.wrap (rd l1 (ji14))))), zF, (by first | rfl | (simp; done) | (simp only [← hji14] <;> (first | rfl | simp)) | (simp [*]; done)), H', ⟨zo1 HK1⟩, ⟨zW HO_0.out⟩, ⟨by repeat (first | (with_reducible first | exact HK.out | apply Kept.alloc | apply Kept.drewN | apply Kept.drew) | exact HK.out)⟩, ⟨zB HB.out⟩⟩
    have c13b0 : decide (4294967296 ≤ x7_1) = false := decide_eq_false c13
    clear c13
    obtain ⟨ji17, hji17⟩ : ∃ j_ : Int, (wrap64 ((l1.length : Int) - 2)) = j_ := ⟨_, rfl⟩
    replace H : (if 0 ≤ (ji17) then (if (ji17) < (l1.length : Int) then (if (ji17) < (l0.length : Int) then (if (IntKind.u64.wrap (x7_1 * (IntKind.u64.wrap (rd l1 (ji17))))) > (Go.bits .or .u64 (IntKind.u64.wrap (x8_1 * 4294967296)) (IntKind.u64.wrap (rd l0 (ji17)))) then (if 0 ≤ (wrap64 ((l1.length : Int) - 1)) then (if (wrap64 ((l1.length : Int) - 1)) < (l1.length : Int) then (nat_step.l0 k1 l0 l1 (l1.length : Int) (IntKind.u64.wrap (x7_1 - 1)) (IntKind.u64.wrap (x8_1 + (IntKind.u64.wrap (rd l1 (wrap64 ((l1.length : Int) - 1))))))) else (none)) else (none)) else (nat_step.j1 k1 l0 l1 (l1.length : Int) x7_1)) else (none)) else (none)) else (none)) = some (r1, r2) := by first | (rw [hji17] at H; exact H) | (simp only [hji17] at H ⊢; exact H)
    have hji17w : (IntKind.i64.wrap ((l1.length : Int) - 2)) = ji17 := (i64_w _).trans hji17
    replace H := zgd H
    obtain ⟨c18b0, H⟩ := H
    replace H := zgd H
    obtain ⟨c19b0, H⟩ := H
    replace H := zgd H
    obtain ⟨c20b0, H⟩ := H
    replace H := zi H
    rcases H with ⟨c21, H⟩ | ⟨c21, H⟩
    · have c21b0 : decide ((Go.bits .or .u64 (IntKind.u64.wrap (x8_1 * 4294967296)) (IntKind.u64.wrap (rd l0 (ji17)))) < (IntKind.u64.wrap (x7_1 * (IntKind.u64.wrap (rd l1 (ji17)))))) = true := decide_eq_true c21
      clear c21
      (try clear hji5w)
      obtain ⟨ji22, hji22⟩ : ∃ j_ : Int, (wrap64 ((l1.length : Int) - 1)) = j_ := ⟨_, rfl⟩
      replace H : (if 0 ≤ (ji22) then (if (ji22) < (l1.length : Int) then (nat_step.l0 k1 l0 l1 (l1.length : Int) (IntKind.u64.wrap (x7_1 - 1)) (IntKind.u64.wrap (x8_1 + (IntKind.u64.wrap (rd l1 (ji22)))))) else (none)) else (none)) = some (r1, r2) := by first | (rw [hji22] at H; exact H) | (simp only [hji22] at H ⊢; exact H)
      have hji22w : (IntKind.i64.wrap ((l1.length : Int) - 1)) = ji22 := (i64_w _).trans hji22
      replace H := zgd H
      obtain ⟨c23b0, H⟩ := H
      replace H := zgd H
      obtain ⟨c24b0, H⟩ := H
      have H' := Aside0.mk H
      clear H
      have p106 : 0 ≤ ((ji17) : Int) := zd
      have q106 : (ji17) < (l1.length : Int) := zd
      obtain ⟨ad106, e106, hx106_0⟩ := Kd.at_int (Kd.C_kept_now HR1.out HK.out) (ji17) p106 q106
      obtain rfl : ad103 = ad106 := (by injection e106)
      replace p106 := eq_true p106
      replace q106 := eq_true q106
      have p107 : 0 ≤ ((ji17) : Int) := zd
      have q107 : (ji17) < (l0.length : Int) := zd
      obtain ⟨ad107, e107, hx107_0⟩ := Kd.at_int (Wn.reads' HO_0.out).2.2 (ji17) p107 q107
      obtain rfl : ad101 = ad107 := (by injection e107)
      replace p107 := eq_true p107
      replace q107 := eq_true q107
      have p108 : 0 ≤ ((ji22) : Int) := zd
      have q108 : (ji22) < (l1.length : Int) := zd
      obtain ⟨ad108, e108, hx108_0⟩ := Kd.at_int (Kd.C_kept_now HR1.out HK.out) (ji22) p108 q108
      obtain rfl : ad103 = ad108 := (by injection e108)
      replace p108 := eq_true p108
      replace q108 := eq_true q108
      go_wp2
      repeat (go_quiet (fail); try go_wp2)
      (try simp only [add_at] at *)
      (try simp only [add_plain] at *)
      go_roundg k1
      case measure => have := HK1.out; omega
      case rel => exact ⟨(IntKind.u64.wrap (x7_1 - 1)), (IntKind.u64.wrap (x8_1 + (IntKind.u64.wrap (rd l1 (ji22))))), zF, (by first | rfl | (simp; done) | (simp only [← hji22] <;> (first | rfl | simp)) | (simp [*]; done)), H', ⟨zo1 HK1⟩, ⟨zW HO_0.out⟩, ⟨by repeat (first | (with_reducible first | exact HK.out | apply Kept.alloc | apply Kept.drewN | apply Kept.drew) | exact HK.out)⟩, ⟨zB HB.out⟩⟩
    have c21b0 : decide ((Go.bits .or .u64 (IntKind.u64.wrap (x8_1 * 4294967296)) (IntKind.u64.wrap (rd l0 (ji17)))) < (IntKind.u64.wrap (x7_1 * (IntKind.u64.wrap (rd l1 (ji17)))))) = false := decide_eq_false c21
    clear c21
    have H' := Aside0.mk H
    clear H
    have p106 : 0 ≤ ((ji17) : Int) := zd
    have q106 : (ji17) < (l1.length : Int) := zd
    obtain ⟨ad106, e106, hx106_0⟩ := Kd.at_int (Kd.C_kept_now HR1.out HK.out) (ji17) p106 q106
    obtain rfl : ad103 = ad106 := (by injection e106)
    replace p106 := eq_true p106
    replace q106 := eq_true q106
    have p107 : 0 ≤ ((ji17) : Int) := zd
    have q107 : (ji17) < (l0.length : Int) := zd
    obtain ⟨ad107, e107, hx107_0⟩ := Kd.at_int (Wn.reads' HO_0.out).2.2 (ji17) p107 q107
    obtain rfl : ad101 = ad107 := (by injection e107)
    replace p107 := eq_true p107
    replace q107 := eq_true q107
    go_wp2
    repeat (go_quiet (fail); try go_wp2)
    go_meet
    case rel => exact ⟨_, (x7_1), zF, H', ⟨by have := HK1.out; first | omega | exact Nat.le_refl _⟩, ⟨zW HO_0.out⟩, ⟨by repeat (first | (with_reducible first | exact HK.out | apply Kept.alloc | apply Kept.drewN | apply Kept.drew) | exact HK.out)⟩, ⟨zB HB.out⟩⟩
  (first | rw [c12b0] | (simp only [i64_w, i32_w]; rw [c12b0]) | rw [c12b1] | skip)
  have H' := Aside0.mk H
  clear H
  go_wp2
  repeat (go_quiet (fail); try go_wp2)
  go_meet
  case rel => exact ⟨_, (x7_1), zF, H', ⟨by have := HK1.out; first | omega | exact Nat.le_refl _⟩, ⟨zW HO_0.out⟩, ⟨by repeat (first | (with_reducible first | exact HK.out | apply Kept.alloc | apply Kept.drewN | apply Kept.drew) | exact HK.out)⟩, ⟨zB HB.out⟩⟩
 clear HC10
 (try clear c3);(try clear c3b0);(try clear c3b1);(try clear c4);(try clear c4b0);(try clear c4b1);(try clear c6b0);(try clear c7b0);(try clear c8b0);(try clear c9);(try clear c9b0);(try clear c9b1);(try clear c12b0);(try clear c13);(try clear c13b0);(try clear c15b0);(try clear c16b0);(try clear c18b0);(try clear c19b0);(try clear c20b0);(try clear c21);(try clear c21b0);(try clear c23b0);(try clear c24b0);(try clear hx101_0);(try clear hx102_0);(try clear hx103_0);(try clear hx104_0);(try clear hx105_0);(try clear hx106_0);(try clear hx107_0);(try clear hx108_0);(try clear p101);(try clear p102);(try clear p103);(try clear p104);(try clear p105);(try clear p106);(try clear p107);(try clear p108);(try clear q101);(try clear q102);(try clear q103);(try clear q104);(try clear q105);(try clear q106);(try clear q107);(try clear q108)
 obtain ⟨kq, x7_9, rfl, HA, HJ9, HO_0, HK, HB⟩ := hcut
 cases kq with | zero => exact absurd HA.out (by simp [nat_step.j1]) | succ kj9 => ?_
 have H := HA.out
 clear HA
 simp only [nat_step.j1] at H
 have H' := Aside0.mk H
 clear H
 go_wp2
 repeat (go_quiet (fail); try go_wp2)
 go_loopg [9, 10, 86] kj9 (fun kq v9 v10 v86 w' => ∃ (x0_2 : List Int) (x9_2 : Int) (x10_2 : Int) (x86_2 : Int), v9 = .int .u64 x9_2 ∧ v10 = .int .u64 x10_2 ∧ v86 = .int .i64 x86_2 ∧ Aside0 (nat_step.l1 kq x0_2 l1 (l1.length : Int) x7_9 x9_2 x10_2 (l1.length : Int) x86_2 = some (r1, r2)) ∧ Aside0 (kq ≤ kj9) ∧ Aside0 (Wn gW capW preW postW w' w0.heap.size (fun k_ => (P0_ k_ ∨ w.heap.size ≤ k_)) (.slice (some ad101) l0.length co11) x0_2) ∧ Aside0 (Kept w w' (fun k_ => P0_ k_)) ∧ Aside0 (Below w0.heap.size w0 w'))
 case atStart => exact ⟨(l0), (0), (0), (0), zF, zF, zF, H', ⟨Nat.le_refl _⟩, ⟨zW HO_0.out⟩, ⟨by repeat (first | (with_reducible first | exact HK.out | apply Kept.alloc | apply Kept.drewN | apply Kept.drew) | exact HK.out)⟩, ⟨zB HB.out⟩⟩
 clear H'
 (try clear c3);(try clear c3b0);(try clear c3b1);(try clear c4);(try clear c4b0);(try clear c4b1);(try clear c6b0);(try clear c7b0);(try clear c8b0);(try clear c9);(try clear c9b0);(try clear c9b1);(try clear c12b0);(try clear c13);(try clear c13b0);(try clear c15b0);(try clear c16b0);(try clear c18b0);(try clear c19b0);(try clear c20b0);(try clear c21);(try clear c21b0);(try clear c23b0);(try clear c24b0);(try clear hx101_0);(try clear hx102_0);(try clear hx103_0);(try clear hx104_0);(try clear hx105_0);(try clear hx106_0);(try clear hx107_0);(try clear hx108_0);(try clear p101);(try clear p102);(try clear p103);(try clear p104);(try clear p105);(try clear p106);(try clear p107);(try clear p108);(try clear q101);(try clear q102);(try clear q103);(try clear q104);(try clear q105);(try clear q106);(try clear q107);(try clear q108)
 obtain ⟨x0_2, x9_2, x10_2, x86_2, rfl, rfl, rfl, HA, HK2, HO_0, HK, HB⟩ := hrel
 have hl0_2 := (Wn.reads' HO_0.out).1
 rw [hl0_2] at HO_0
 (try simp only [hl0_2])
 cases gk with | zero => exact absurd HA.out (by simp [nat_step.l1]) | succ k2 => ?_
 have H := HA.out
 clear HA
 simp only [nat_step.l1] at H
 replace H := zi H
 rcases H with ⟨c25, H⟩ | ⟨c25, H⟩
 · have c25b0 := decide_eq_true c25
   (try (have c25h0 := c25b0; simp only [hl0_2] at c25h0))
   clear c25
   replace H := zgd H
   obtain ⟨c26b0, H⟩ := H
   replace H := zg H
   obtain ⟨c27, H⟩ := H
   have c27b0 := decide_eq_true c27
   (try (have c27h0 := c27b0; simp only [hl0_2] at c27h0))
   clear c27
   replace H := zg H
   obtain ⟨c28, H⟩ := H
   have c28b0 := decide_eq_true c28
   (try (have c28h0 := c28b0; simp only [hl0_2] at c28h0))
   clear c28
   obtain ⟨y111, hy111⟩ : ∃ y_ : List Int, y_ = (x0_2.set (x86_2 : Int).toNat ((IntKind.u64.wrap ((IntKind.u64.wrap ((IntKind.u64.wrap (rd x0_2 x86_2)) - ((IntKind.u64.wrap ((IntKind.u64.wrap (x7_9 * (IntKind.u64.wrap (rd l1 x86_2)))) + x10_2)) % 4294967296))) - x9_2)) % 4294967296)) := ⟨_, rfl⟩
   replace H : (nat_step.l1 k2 y111 l1 (l1.length : Int) x7_9 ((IntKind.u64.wrap ((IntKind.u64.wrap ((IntKind.u64.wrap (rd x0_2 x86_2)) - ((IntKind.u64.wrap ((IntKind.u64.wrap (x7_9 * (IntKind.u64.wrap (rd l1 x86_2)))) + x10_2)) % 4294967296))) - x9_2)) / 9223372036854775808) ((IntKind.u64.wrap ((IntKind.u64.wrap (x7_9 * (IntKind.u64.wrap (rd l1 x86_2)))) + x10_2)) / 4294967296) (l1.length : Int) (wrap64 (x86_2 + 1))) = some (r1, r2) := zY hy111 H
   have Ny111 := Aside0.mk hy111
   clear hy111
   have H' := Aside0.mk H
   clear H
   have p109 : 0 ≤ (x86_2 : Int) := zd
   have q109 : x86_2 < (l1.length : Int) := zd
   obtain ⟨ad109, e109, hx109_0⟩ := Kd.at_int (Kd.C_kept_now HR1.out HK.out) x86_2 p109 q109
   obtain rfl : ad103 = ad109 := (by injection e109)
   replace p109 := eq_true p109
   replace q109 := eq_true q109
   have p110 : 0 ≤ (x86_2 : Int) := zd
   have q110 : x86_2 < (x0_2.length : Int) := zd
   obtain ⟨ad110, e110, hx110_0⟩ := Kd.at_int (Wn.reads' HO_0.out).2.2 x86_2 p110 q110
   obtain rfl : ad101 = ad110 := (by injection e110)
   replace p110 := eq_true p110
   replace q110 := eq_true q110
   have p29 : 0 ≤ (x86_2 : Int) := zd
   have q29 : (x86_2 : Int) < ((x0_2.length : Int) : Int) := zd
   obtain ⟨co29, eo29, gb29, gl29, cl29, HG29⟩ := Wn.form HO_0.out (by omega)
   (first | cases eo29 | (injection eo29 with ea_ en_ ec_; (first | subst ea_ | (injection ea_ with ea_; subst ea_)); subst ec_; clear en_))
   have GB29 := Aside0.mk gb29
   have GG29 := Aside0.mk HG29
   clear gb29 gl29 HG29
   have HMgo29 := Aside0.mk (show (P0_ gW ∨ w.heap.size ≤ gW) from (Wn.own HO_0.out _ rfl))
   (first | simp only [add_at] at hx101_0 | skip)
   (first | simp only [add_at] at hx102_0 | skip)
   (first | simp only [add_at] at hx107_0 | skip)
   (first | simp only [add_at] at hx110_0 | skip)
   obtain ⟨hx29_0, hf29_0⟩ := Wn.celln HO_0.out (x86_2 : Int) p29 q29
   replace p29 := eq_true p29
   replace q29 := eq_true q29
   obtain ⟨hy30_, hz30_⟩ := Wn.celln HO_0.out (x86_2 : Int) zd zd
   have HP30 := Wn.putg HO_0.out (x86_2 : Int) zd zd ((IntKind.u64.wrap ((IntKind.u64.wrap ((IntKind.u64.wrap (rd x0_2 x86_2)) - ((IntKind.u64.wrap ((IntKind.u64.wrap (x7_9 * (IntKind.u64.wrap (rd l1 x86_2)))) + x10_2)) % 4294967296))) - x9_2)) % 4294967296)
   go_wp2_with (first | ((with_reducible refine gate_store (t := 97) (p := 115) rfl ?_); (try (rw [drewN_self wr]; generalize hq_ : World.drewN wr _ = wr; have n0_ := Aside0.mk (Wn.at_ hq_ HO_0.out); have n1_ := Aside0.mk (kept_at hq_ HK.out); have n2_ := Aside0.mk (below_at hq_ HB.out); clear hq_ HO_0 HK HB; have HO_0 := n0_; have HK := n1_; have HB := n2_; clear n0_ n1_ n2_; (try (obtain ⟨hy30_, hz30_⟩ := Wn.celln HO_0.out (x86_2 : Int) zd zd)); (try (have HP30 := Wn.putg HO_0.out (x86_2 : Int) zd zd ((IntKind.u64.wrap ((IntKind.u64.wrap ((IntKind.u64.wrap (rd x0_2 x86_2)) - ((IntKind.u64.wrap ((IntKind.u64.wrap (x7_9 * (IntKind.u64.wrap (rd l1 x86_2)))) + x10_2)) % 4294967296))) - x9_2)) % 4294967296))))); refine store_event (t := 97) (p := 115) (v := ?vo_w31) (w1 := (wr.setCell ⟨gW, preW.length + (x86_2 : Int).toNat, none⟩ (.int .u32 ((IntKind.u64.wrap ((IntKind.u64.wrap ((IntKind.u64.wrap (rd x0_2 x86_2)) - ((IntKind.u64.wrap ((IntKind.u64.wrap (x7_9 * (IntKind.u64.wrap (rd l1 x86_2)))) + x10_2)) % 4294967296))) - x9_2)) % 4294967296)))) ?hg ?ho ?hn ?hr ?_; (case ho => rfl); (case hg => rfl); (case hn => rfl); (case hr => first | (go_simp; done) | (go_simp; rfl)); intro w31 hw; have hg : wr.grownBy w31 (some gW) := (by rw [hw]; exact HP30.2); have hp_ : Wn gW capW preW postW w31 w0.heap.size (fun k_ => (P0_ k_ ∨ w.heap.size ≤ k_)) (.slice (some ⟨gW, preW.length, none⟩) x0_2.length co11) y111 := (by rw [hw, Ny111.out]; exact HP30.1); clear HP30; replace HB := Aside0.mk ((by rw [hw]; exact below_set (HB.out) GB29.out : Below w0.heap.size w0 w31)); replace HK := Aside0.mk (Kept.of_grown (S := (fun k_ => P0_ k_)) hg (by repeat (first | (with_reducible first | exact HK.out | apply Kept.alloc | apply Kept.drewN | apply Kept.drew) | exact HK.out)) (fun k_ e_ => (Wn.own HO_0.out k_ e_))); replace HO_0 := Aside0.mk (hp_); clear hg hw hp_))
   repeat (go_quiet (first | ((with_reducible refine gate_store (t := 97) (p := 115) rfl ?_); (try (rw [drewN_self wr]; generalize hq_ : World.drewN wr _ = wr; have n0_ := Aside0.mk (Wn.at_ hq_ HO_0.out); have n1_ := Aside0.mk (kept_at hq_ HK.out); have n2_ := Aside0.mk (below_at hq_ HB.out); clear hq_ HO_0 HK HB; have HO_0 := n0_; have HK := n1_; have HB := n2_; clear n0_ n1_ n2_; (try (obtain ⟨hy30_, hz30_⟩ := Wn.celln HO_0.out (x86_2 : Int) zd zd)); (try (have HP30 := Wn.putg HO_0.out (x86_2 : Int) zd zd ((IntKind.u64.wrap ((IntKind.u64.wrap ((IntKind.u64.wrap (rd x0_2 x86_2)) - ((IntKind.u64.wrap ((IntKind.u64.wrap (x7_9 * (IntKind.u64.wrap (rd l1 x86_2)))) + x10_2)) % 4294967296))) - x9_2)) % 4294967296))))); refine store_event (t := 97) (p := 115) (v := ?vo_w31) (w1 := (wr.setCell ⟨gW, preW.length + (x86_2 : Int).toNat, none⟩ (.int .u32 ((IntKind.u64.wrap ((IntKind.u64.wrap ((IntKind.u64.wrap (rd x0_2 x86_2)) - ((IntKind.u64.wrap ((IntKind.u64.wrap (x7_9 * (IntKind.u64.wrap (rd l1 x86_2)))) + x10_2)) % 4294967296))) - x9_2)) % 4294967296)))) ?hg ?ho ?hn ?hr ?_; (case ho => rfl); (case hg => rfl); (case hn => rfl); (case hr => first | (go_simp; done) | (go_simp; rfl)); intro w31 hw; have hg : wr.grownBy w31 (some gW) := (by rw [hw]; exact HP30.2); have hp_ : Wn gW capW preW postW w31 w0.heap.size (fun k_ => (P0_ k_ ∨ w.heap.size ≤ k_)) (.slice (some ⟨gW, preW.length, none⟩) x0_2.length co11) y111 := (by rw [hw, Ny111.out]; exact HP30.1); clear HP30; replace HB := Aside0.mk ((by rw [hw]; exact below_set (HB.out) GB29.out : Below w0.heap.size w0 w31)); replace HK := Aside0.mk (Kept.of_grown (S := (fun k_ => P0_ k_)) hg (by repeat (first | (with_reducible first | exact HK.out | apply Kept.alloc | apply Kept.drewN | apply Kept.drew) | exact HK.out)) (fun k_ e_ => (Wn.own HO_0.out k_ e_))); replace HO_0 := Aside0.mk (hp_); clear hg hw hp_)); try go_wp2_with (first | ((with_reducible refine gate_store (t := 97) (p := 115) rfl ?_); (try (rw [drewN_self wr]; generalize hq_ : World.drewN wr _ = wr; have n0_ := Aside0.mk (Wn.at_ hq_ HO_0.out); have n1_ := Aside0.mk (kept_at hq_ HK.out); have n2_ := Aside0.mk (below_at hq_ HB.out); clear hq_ HO_0 HK HB; have HO_0 := n0_; have HK := n1_; have HB := n2_; clear n0_ n1_ n2_; (try (obtain ⟨hy30_, hz30_⟩ := Wn.celln HO_0.out (x86_2 : Int) zd zd)); (try (have HP30 := Wn.putg HO_0.out (x86_2 : Int) zd zd ((IntKind.u64.wrap ((IntKind.u64.wrap ((IntKind.u64.wrap (rd x0_2 x86_2)) - ((IntKind.u64.wrap ((IntKind.u64.wrap (x7_9 * (IntKind.u64.wrap (rd l1 x86_2)))) + x10_2)) % 4294967296))) - x9_2)) % 4294967296))))); refine store_event (t := 97) (p := 115) (v := ?vo_w31) (w1 := (wr.setCell ⟨gW, preW.length + (x86_2 : Int).toNat, none⟩ (.int .u32 ((IntKind.u64.wrap ((IntKind.u64.wrap ((IntKind.u64.wrap (rd x0_2 x86_2)) - ((IntKind.u64.wrap ((IntKind.u64.wrap (x7_9 * (IntKind.u64.wrap (rd l1 x86_2)))) + x10_2)) % 4294967296))) - x9_2)) % 4294967296)))) ?hg ?ho ?hn ?hr ?_; (case ho => rfl); (case hg => rfl); (case hn => rfl); (case hr => first | (go_simp; done) | (go_simp; rfl)); intro w31 hw; have hg : wr.grownBy w31 (some gW) := (by rw [hw]; exact HP30.2); have hp_ : Wn gW capW preW postW w31 w0.heap.size (fun k_ => (P0_ k_ ∨ w.heap.size ≤ k_)) (.slice (some ⟨gW, preW.length, none⟩) x0_2.length co11) y111 := (by rw [hw, Ny111.out]; exact HP30.1); clear HP30; have n0_ := Aside0.mk (hp_); have n1_ := Aside0.mk ((by rw [hw]; exact below_set (HB.out) GB29.out : Below w0.heap.size w0 w31)); have n2_ := Aside0.mk (Kept.of_grown (S := (fun k_ => P0_ k_)) hg (by repeat (first | (with_reducible first | exact HK.out | apply Kept.alloc | apply Kept.drewN | apply Kept.drew) | exact HK.out)) (fun k_ e_ => (Wn.own HO_0.out k_ e_))); clear HO_0; clear HB; clear HK; have HO_0 := n0_; have HB := n1_; have HK := n2_; clear n0_ n1_ n2_; clear hg hw hp_)))
   (try simp only [← hl0_2])
   (try simp only [add_at] at *)
   (try simp only [add_plain] at *)
   go_roundg k2
   case measure => have := HJ9.out; have := HK2.out; omega
   case rel => exact ⟨(y111), ((IntKind.u64.wrap ((IntKind.u64.wrap ((IntKind.u64.wrap (rd x0_2 x86_2)) - ((IntKind.u64.wrap ((IntKind.u64.wrap (x7_9 * (IntKind.u64.wrap (rd l1 x86_2)))) + x10_2)) % 4294967296))) - x9_2)) / 9223372036854775808), ((IntKind.u64.wrap ((IntKind.u64.wrap (x7_9 * (IntKind.u64.wrap (rd l1 x86_2)))) + x10_2)) / 4294967296), (wrap64 (x86_2 + 1)), zF, zF, zF, H', ⟨zo2 HJ9 HK2⟩, ⟨by (try simp only [hl0_2]); (with_reducible repeat (first | apply Wn.alloc | apply Wn.drewN | apply Wn.drew)); exact HO_0.out⟩, ⟨by repeat (first | (with_reducible first | exact HK.out | apply Kept.alloc | apply Kept.drewN | apply Kept.drew) | exact HK.out)⟩, ⟨zB HB.out⟩⟩
 have c25b0 := decide_eq_false c25
 (try (have c25h0 := c25b0; simp only [hl0_2] at c25h0))
 clear c25
 replace H := zg H
 obtain ⟨c32, H⟩ := H
 have c32b0 := decide_eq_true c32
 (try (have c32h0 := c32b0; simp only [hl0_2] at c32h0))
 have c32b1 : decide (0 ≤ l1.length) = true := decide_eq_true (by omega)
 (try (have c32h1 := c32b1; simp only [hl0_2] at c32h1))
 clear c32
 replace H := zg H
 obtain ⟨c33, H⟩ := H
 have c33b0 := decide_eq_true c33
 (try (have c33h0 := c33b0; simp only [hl0_2] at c33h0))
 have c33b1 : decide (l1.length < x0_2.length) = true := decide_eq_true (Int.ofNat_lt.mp c33)
 (try (have c33h1 := c33b1; simp only [hl0_2] at c33h1))
 clear c33
 obtain ⟨y113, hy113⟩ : ∃ y_ : List Int, y_ = (x0_2.set ((l1.length : Int) : Int).toNat ((IntKind.u64.wrap ((IntKind.u64.wrap ((IntKind.u64.wrap (rd x0_2 (l1.length : Int))) - x10_2)) - x9_2)) % 4294967296)) := ⟨_, rfl⟩
 replace H : (if ((IntKind.u64.wrap ((IntKind.u64.wrap ((IntKind.u64.wrap (rd x0_2 (l1.length : Int))) - x10_2)) - x9_2)) / 9223372036854775808) = 0 then (some ((x7_9) % 4294967296, y113)) else (nat_step.l2 k2 y113 l1 (l1.length : Int) x7_9 0 (l1.length : Int) 0)) = some (r1, r2) := zY hy113 H
 have Ny113 := Aside0.mk hy113
 clear hy113
 replace H := zi H
 rcases H with ⟨c35, H⟩ | ⟨c35, H⟩
 · have c35b0 := beq_iff_eq.mpr c35
   (try (have c35h0 := c35b0; simp only [hl0_2] at c35h0))
   have c35b1 := bne_eq_false_iff_eq.mpr c35
   (try (have c35h1 := c35b1; simp only [hl0_2] at c35h1))
   clear c35
   simp only [Option.some.injEq, Prod.mk.injEq] at H
   obtain ⟨rfl, rfl⟩ := H
   have p112 : 0 ≤ ((l1.length : Int) : Int) := zd
   have q112 : (l1.length : Int) < (x0_2.length : Int) := zd
   obtain ⟨ad112, e112, hx112_0⟩ := Kd.at_int (Wn.reads' HO_0.out).2.2 (l1.length : Int) p112 q112
   obtain rfl : ad101 = ad112 := (by injection e112)
   (try simp only [Go.IntWalk.toNatUp] at hx112_0)
   (try simp only [hl0_2] at p112)
   (try simp only [hl0_2] at q112)
   (try simp only [hl0_2] at hx112_0)
   replace p112 := eq_true p112
   replace q112 := eq_true q112
   have p34 : 0 ≤ ((l1.length : Int) : Int) := zd
   have q34 : ((l1.length : Int) : Int) < ((x0_2.length : Int) : Int) := zd
   obtain ⟨co34, eo34, gb34, gl34, cl34, HG34⟩ := Wn.form HO_0.out (by omega)
   (first | cases eo34 | (injection eo34 with ea_ en_ ec_; (first | subst ea_ | (injection ea_ with ea_; subst ea_)); subst ec_; clear en_))
   have GB34 := Aside0.mk gb34
   have GG34 := Aside0.mk HG34
   clear gb34 gl34 HG34
   have HMgo34 := Aside0.mk (show (P0_ gW ∨ w.heap.size ≤ gW) from (Wn.own HO_0.out _ rfl))
   (first | simp only [add_at] at hx112_0 | skip)
   obtain ⟨hx34_0, hf34_0⟩ := Wn.celln HO_0.out ((l1.length : Int) : Int) p34 q34
   replace p34 := eq_true p34
   replace q34 := eq_true q34
   obtain ⟨hy36_, hz36_⟩ := Wn.celln HO_0.out ((l1.length : Int) : Int) zd zd
   (try simp only [Go.IntWalk.toNatUp] at hy36_ hz36_)
   have HP36 := Wn.putg HO_0.out ((l1.length : Int) : Int) zd zd ((IntKind.u64.wrap ((IntKind.u64.wrap ((IntKind.u64.wrap (rd x0_2 (l1.length : Int))) - x10_2)) - x9_2)) % 4294967296)
   go_wp2_with (first | ((with_reducible refine gate_store (t := 97) (p := 132) rfl ?_); (try (rw [drewN_self wr]; generalize hq_ : World.drewN wr _ = wr; have n0_ := Aside0.mk (Wn.at_ hq_ HO_0.out); have n1_ := Aside0.mk (kept_at hq_ HK.out); have n2_ := Aside0.mk (below_at hq_ HB.out); clear hq_ HO_0 HK HB; have HO_0 := n0_; have HK := n1_; have HB := n2_; clear n0_ n1_ n2_; (try (obtain ⟨hy36_, hz36_⟩ := Wn.celln HO_0.out ((l1.length : Int) : Int) zd zd)); (try (try simp only [Go.IntWalk.toNatUp] at hy36_ hz36_)); (try (have HP36 := Wn.putg HO_0.out ((l1.length : Int) : Int) zd zd ((IntKind.u64.wrap ((IntKind.u64.wrap ((IntKind.u64.wrap (rd x0_2 (l1.length : Int))) - x10_2)) - x9_2)) % 4294967296))))); refine store_event (t := 97) (p := 132) (v := ?vo_w37) (w1 := (wr.setCell ⟨gW, preW.length + ((l1.length : Int) : Int).toNat, none⟩ (.int .u32 ((IntKind.u64.wrap ((IntKind.u64.wrap ((IntKind.u64.wrap (rd x0_2 (l1.length : Int))) - x10_2)) - x9_2)) % 4294967296)))) ?hg ?ho ?hn ?hr ?_; (case ho => rfl); (case hg => rfl); (case hn => rfl); (case hr => first | (go_simp; done) | (go_simp; rfl)); intro w37 hw; have hg : wr.grownBy w37 (some gW) := (by rw [hw]; exact HP36.2); have hp_ : Wn gW capW preW postW w37 w0.heap.size (fun k_ => (P0_ k_ ∨ w.heap.size ≤ k_)) (.slice (some ⟨gW, preW.length, none⟩) x0_2.length co11) y113 := (by rw [hw, Ny113.out]; exact HP36.1); clear HP36; replace HB := Aside0.mk ((by rw [hw]; exact below_set (HB.out) GB34.out : Below w0.heap.size w0 w37)); replace HK := Aside0.mk (Kept.of_grown (S := (fun k_ => P0_ k_)) hg (by repeat (first | (with_reducible first | exact HK.out | apply Kept.alloc | apply Kept.drewN | apply Kept.drew) | exact HK.out)) (fun k_ e_ => (Wn.own HO_0.out k_ e_))); replace HO_0 := Aside0.mk (hp_); clear hg hw hp_))
   repeat (go_quiet (first | ((with_reducible refine gate_store (t := 97) (p := 132) rfl ?_); (try (rw [drewN_self wr]; generalize hq_ : World.drewN wr _ = wr; have n0_ := Aside0.mk (Wn.at_ hq_ HO_0.out); have n1_ := Aside0.mk (kept_at hq_ HK.out); have n2_ := Aside0.mk (below_at hq_ HB.out); clear hq_ HO_0 HK HB; have HO_0 := n0_; have HK := n1_; have HB := n2_; clear n0_ n1_ n2_; (try (obtain ⟨hy36_, hz36_⟩ := Wn.celln HO_0.out ((l1.length : Int) : Int) zd zd)); (try (try simp only [Go.IntWalk.toNatUp] at hy36_ hz36_)); (try (have HP36 := Wn.putg HO_0.out ((l1.length : Int) : Int) zd zd ((IntKind.u64.wrap ((IntKind.u64.wrap ((IntKind.u64.wrap (rd x0_2 (l1.length : Int))) - x10_2)) - x9_2)) % 4294967296))))); refine store_event (t := 97) (p := 132) (v := ?vo_w37) (w1 := (wr.setCell ⟨gW, preW.length + ((l1.length : Int) : Int).toNat, none⟩ (.int .u32 ((IntKind.u64.wrap ((IntKind.u64.wrap ((IntKind.u64.wrap (rd x0_2 (l1.length : Int))) - x10_2)) - x9_2)) % 4294967296)))) ?hg ?ho ?hn ?hr ?_; (case ho => rfl); (case hg => rfl); (case hn => rfl); (case hr => first | (go_simp; done) | (go_simp; rfl)); intro w37 hw; have hg : wr.grownBy w37 (some gW) := (by rw [hw]; exact HP36.2); have hp_ : Wn gW capW preW postW w37 w0.heap.size (fun k_ => (P0_ k_ ∨ w.heap.size ≤ k_)) (.slice (some ⟨gW, preW.length, none⟩) x0_2.length co11) y113 := (by rw [hw, Ny113.out]; exact HP36.1); clear HP36; replace HB := Aside0.mk ((by rw [hw]; exact below_set (HB.out) GB34.out : Below w0.heap.size w0 w37)); replace HK := Aside0.mk (Kept.of_grown (S := (fun k_ => P0_ k_)) hg (by repeat (first | (with_reducible first | exact HK.out | apply Kept.alloc | apply Kept.drewN | apply Kept.drew) | exact HK.out)) (fun k_ e_ => (Wn.own HO_0.out k_ e_))); replace HO_0 := Aside0.mk (hp_); clear hg hw hp_)); try go_wp2_with (first | ((with_reducible refine gate_store (t := 97) (p := 132) rfl ?_); (try (rw [drewN_self wr]; generalize hq_ : World.drewN wr _ = wr; have n0_ := Aside0.mk (Wn.at_ hq_ HO_0.out); have n1_ := Aside0.mk (kept_at hq_ HK.out); have n2_ := Aside0.mk (below_at hq_ HB.out); clear hq_ HO_0 HK HB; have HO_0 := n0_; have HK := n1_; have HB := n2_; clear n0_ n1_ n2_; (try (obtain ⟨hy36_, hz36_⟩ := Wn.celln HO_0.out ((l1.length : Int) : Int) zd zd)); (try (try simp only [Go.IntWalk.toNatUp] at hy36_ hz36_)); (try (have HP36 := Wn.putg HO_0.out ((l1.length : Int) : Int) zd zd ((IntKind.u64.wrap ((IntKind.u64.wrap ((IntKind.u64.wrap (rd x0_2 (l1.length : Int))) - x10_2)) - x9_2)) % 4294967296))))); refine store_event (t := 97) (p := 132) (v := ?vo_w37) (w1 := (wr.setCell ⟨gW, preW.length + ((l1.length : Int) : Int).toNat, none⟩ (.int .u32 ((IntKind.u64.wrap ((IntKind.u64.wrap ((IntKind.u64.wrap (rd x0_2 (l1.length : Int))) - x10_2)) - x9_2)) % 4294967296)))) ?hg ?ho ?hn ?hr ?_; (case ho => rfl); (case hg => rfl); (case hn => rfl); (case hr => first | (go_simp; done) | (go_simp; rfl)); intro w37 hw; have hg : wr.grownBy w37 (some gW) := (by rw [hw]; exact HP36.2); have hp_ : Wn gW capW preW postW w37 w0.heap.size (fun k_ => (P0_ k_ ∨ w.heap.size ≤ k_)) (.slice (some ⟨gW, preW.length, none⟩) x0_2.length co11) y113 := (by rw [hw, Ny113.out]; exact HP36.1); clear HP36; have n0_ := Aside0.mk (hp_); have n1_ := Aside0.mk ((by rw [hw]; exact below_set (HB.out) GB34.out : Below w0.heap.size w0 w37)); have n2_ := Aside0.mk (Kept.of_grown (S := (fun k_ => P0_ k_)) hg (by repeat (first | (with_reducible first | exact HK.out | apply Kept.alloc | apply Kept.drewN | apply Kept.drew) | exact HK.out)) (fun k_ e_ => (Wn.own HO_0.out k_ e_))); clear HO_0; clear HB; clear HK; have HO_0 := n0_; have HB := n1_; have HK := n2_; clear n0_ n1_ n2_; clear hg hw hp_)))
   go_ret
   exact ⟨by first | rfl | (simp [errW_none, errW_some] <;> rfl) | (simp only [← hji5]; first | rfl | (simp [errW_none, errW_some] <;> rfl)) | (simp [*, errW_none, errW_some] <;> rfl), (by first | exact (zW HO_0.out) | (simp only [hl0_2]; exact (zW HO_0.out))), zB HB.out, by repeat (first | (with_reducible first | exact HK.out | apply Kept.alloc | apply Kept.drewN | apply Kept.drew) | exact HK.out)⟩
 have c35b0 := beq_eq_false_iff_ne.mpr c35
 (try (have c35h0 := c35b0; simp only [hl0_2] at c35h0))
 have c35b1 := bne_iff_ne.mpr c35
 (try (have c35h1 := c35b1; simp only [hl0_2] at c35h1))
 have H' := Aside0.mk H
 clear H
 have p112 : 0 ≤ ((l1.length : Int) : Int) := zd
 have q112 : (l1.length : Int) < (x0_2.length : Int) := zd
 obtain ⟨ad112, e112, hx112_0⟩ := Kd.at_int (Wn.reads' HO_0.out).2.2 (l1.length : Int) p112 q112
 obtain rfl : ad101 = ad112 := (by injection e112)
 (try simp only [Go.IntWalk.toNatUp] at hx112_0)
 (try simp only [hl0_2] at p112)
 (try simp only [hl0_2] at q112)
 (try simp only [hl0_2] at hx112_0)
 replace p112 := eq_true p112
 replace q112 := eq_true q112
 have p34 : 0 ≤ ((l1.length : Int) : Int) := zd
 have q34 : ((l1.length : Int) : Int) < ((x0_2.length : Int) : Int) := zd
 obtain ⟨co34, eo34, gb34, gl34, cl34, HG34⟩ := Wn.form HO_0.out (by omega)
 (first | cases eo34 | (injection eo34 with ea_ en_ ec_; (first | subst ea_ | (injection ea_ with ea_; subst ea_)); subst ec_; clear en_))
 have GB34 := Aside0.mk gb34
 have GG34 := Aside0.mk HG34
 clear gb34 gl34 HG34
 have HMgo34 := Aside0.mk (show (P0_ gW ∨ w.heap.size ≤ gW) from (Wn.own HO_0.out _ rfl))
 (first | simp only [add_at] at hx112_0 | skip)
 obtain ⟨hx34_0, hf34_0⟩ := Wn.celln HO_0.out ((l1.length : Int) : Int) p34 q34
 replace p34 := eq_true p34
 replace q34 := eq_true q34
 obtain ⟨hy38_, hz38_⟩ := Wn.celln HO_0.out ((l1.length : Int) : Int) zd zd
 (try simp only [Go.IntWalk.toNatUp] at hy38_ hz38_)
 have HP38 := Wn.putg HO_0.out ((l1.length : Int) : Int) zd zd ((IntKind.u64.wrap ((IntKind.u64.wrap ((IntKind.u64.wrap (rd x0_2 (l1.length : Int))) - x10_2)) - x9_2)) % 4294967296)
 go_wp2_with (first | ((with_reducible refine gate_store (t := 97) (p := 132) rfl ?_); (try (rw [drewN_self wr]; generalize hq_ : World.drewN wr _ = wr; have n0_ := Aside0.mk (Wn.at_ hq_ HO_0.out); have n1_ := Aside0.mk (kept_at hq_ HK.out); have n2_ := Aside0.mk (below_at hq_ HB.out); clear hq_ HO_0 HK HB; have HO_0 := n0_; have HK := n1_; have HB := n2_; clear n0_ n1_ n2_; (try (obtain ⟨hy38_, hz38_⟩ := Wn.celln HO_0.out ((l1.length : Int) : Int) zd zd)); (try (try simp only [Go.IntWalk.toNatUp] at hy38_ hz38_)); (try (have HP38 := Wn.putg HO_0.out ((l1.length : Int) : Int) zd zd ((IntKind.u64.wrap ((IntKind.u64.wrap ((IntKind.u64.wrap (rd x0_2 (l1.length : Int))) - x10_2)) - x9_2)) % 4294967296))))); refine store_event (t := 97) (p := 132) (v := ?vo_w39) (w1 := (wr.setCell ⟨gW, preW.length + ((l1.length : Int) : Int).toNat, none⟩ (.int .u32 ((IntKind.u64.wrap ((IntKind.u64.wrap ((IntKind.u64.wrap (rd x0_2 (l1.length : Int))) - x10_2)) - x9_2)) % 4294967296)))) ?hg ?ho ?hn ?hr ?_; (case ho => rfl); (case hg => rfl); (case hn => rfl); (case hr => first | (go_simp; done) | (go_simp; rfl)); intro w39 hw; have hg : wr.grownBy w39 (some gW) := (by rw [hw]; exact HP38.2); have hp_ : Wn gW capW preW postW w39 w0.heap.size (fun k_ => (P0_ k_ ∨ w.heap.size ≤ k_)) (.slice (some ⟨gW, preW.length, none⟩) x0_2.length co11) y113 := (by rw [hw, Ny113.out]; exact HP38.1); clear HP38; replace HB := Aside0.mk ((by rw [hw]; exact below_set (HB.out) GB34.out : Below w0.heap.size w0 w39)); replace HK := Aside0.mk (Kept.of_grown (S := (fun k_ => P0_ k_)) hg (by repeat (first | (with_reducible first | exact HK.out | apply Kept.alloc | apply Kept.drewN | apply Kept.drew) | exact HK.out)) (fun k_ e_ => (Wn.own HO_0.out k_ e_))); replace HO_0 := Aside0.mk (hp_); clear hg hw hp_))
 repeat (go_quiet (first | ((with_reducible refine gate_store (t := 97) (p := 132) rfl ?_); (try (rw [drewN_self wr]; generalize hq_ : World.drewN wr _ = wr; have n0_ := Aside0.mk (Wn.at_ hq_ HO_0.out); have n1_ := Aside0.mk (kept_at hq_ HK.out); have n2_ := Aside0.mk (below_at hq_ HB.out); clear hq_ HO_0 HK HB; have HO_0 := n0_; have HK := n1_; have HB := n2_; clear n0_ n1_ n2_; (try (obtain ⟨hy38_, hz38_⟩ := Wn.celln HO_0.out ((l1.length : Int) : Int) zd zd)); (try (try simp only [Go.IntWalk.toNatUp] at hy38_ hz38_)); (try (have HP38 := Wn.putg HO_0.out ((l1.length : Int) : Int) zd zd ((IntKind.u64.wrap ((IntKind.u64.wrap ((IntKind.u64.wrap (rd x0_2 (l1.length : Int))) - x10_2)) - x9_2)) % 4294967296))))); refine store_event (t := 97) (p := 132) (v := ?vo_w39) (w1 := (wr.setCell ⟨gW, preW.length + ((l1.length : Int) : Int).toNat, none⟩ (.int .u32 ((IntKind.u64.wrap ((IntKind.u64.wrap ((IntKind.u64.wrap (rd x0_2 (l1.length : Int))) - x10_2)) - x9_2)) % 4294967296)))) ?hg ?ho ?hn ?hr ?_; (case ho => rfl); (case hg => rfl); (case hn => rfl); (case hr => first | (go_simp; done) | (go_simp; rfl)); intro w39 hw; have hg : wr.grownBy w39 (some gW) := (by rw [hw]; exact HP38.2); have hp_ : Wn gW capW preW postW w39 w0.heap.size (fun k_ => (P0_ k_ ∨ w.heap.size ≤ k_)) (.slice (some ⟨gW, preW.length, none⟩) x0_2.length co11) y113 := (by rw [hw, Ny113.out]; exact HP38.1); clear HP38; replace HB := Aside0.mk ((by rw [hw]; exact below_set (HB.out) GB34.out : Below w0.heap.size w0 w39)); replace HK := Aside0.mk (Kept.of_grown (S := (fun k_ => P0_ k_)) hg (by repeat (first | (with_reducible first | exact HK.out | apply Kept.alloc | apply Kept.drewN | apply Kept.drew) | exact HK.out)) (fun k_ e_ => (Wn.own HO_0.out k_ e_))); replace HO_0 := Aside0.mk (hp_); clear hg hw hp_)); try go_wp2_with (first | ((with_reducible refine gate_store (t := 97) (p := 132) rfl ?_); (try (rw [drewN_self wr]; generalize hq_ : World.drewN wr _ = wr; have n0_ := Aside0.mk (Wn.at_ hq_ HO_0.out); have n1_ := Aside0.mk (kept_at hq_ HK.out); have n2_ := Aside0.mk (below_at hq_ HB.out); clear hq_ HO_0 HK HB; have HO_0 := n0_; have HK := n1_; have HB := n2_; clear n0_ n1_ n2_; (try (obtain ⟨hy38_, hz38_⟩ := Wn.celln HO_0.out ((l1.length : Int) : Int) zd zd)); (try (try simp only [Go.IntWalk.toNatUp] at hy38_ hz38_)); (try (have HP38 := Wn.putg HO_0.out ((l1.length : Int) : Int) zd zd ((IntKind.u64.wrap ((IntKind.u64.wrap ((IntKind.u64.wrap (rd x0_2 (l1.length : Int))) - x10_2)) - x9_2)) % 4294967296))))); refine store_event (t := 97) (p := 132) (v := ?vo_w39) (w1 := (wr.setCell ⟨gW, preW.length + ((l1.length : Int) : Int).toNat, none⟩ (.int .u32 ((IntKind.u64.wrap ((IntKind.u64.wrap ((IntKind.u64.wrap (rd x0_2 (l1.length : Int))) - x10_2)) - x9_2)) % 4294967296)))) ?hg ?ho ?hn ?hr ?_; (case ho => rfl); (case hg => rfl); (case hn => rfl); (case hr => first | (go_simp; done) | (go_simp; rfl)); intro w39 hw; have hg : wr.grownBy w39 (some gW) := (by rw [hw]; exact HP38.2); have hp_ : Wn gW capW preW postW w39 w0.heap.size (fun k_ => (P0_ k_ ∨ w.heap.size ≤ k_)) (.slice (some ⟨gW, preW.length, none⟩) x0_2.length co11) y113 := (by rw [hw, Ny113.out]; exact HP38.1); clear HP38; have n0_ := Aside0.mk (hp_); have n1_ := Aside0.mk ((by rw [hw]; exact below_set (HB.out) GB34.out : Below w0.heap.size w0 w39)); have n2_ := Aside0.mk (Kept.of_grown (S := (fun k_ => P0_ k_)) hg (by repeat (first | (with_reducible first | exact HK.out | apply Kept.alloc | apply Kept.drewN | apply Kept.drew) | exact HK.out)) (fun k_ e_ => (Wn.own HO_0.out k_ e_))); clear HO_0; clear HB; clear HK; have HO_0 := n0_; have HB := n1_; have HK := n2_; clear n0_ n1_ n2_; clear hg hw hp_)))
 go_loopg [10, 140] k2 (fun kq v10 v140 w' => ∃ (x0_3 : List Int) (x10_3 : Int) (x140_3 : Int), v10 = .int .u64 x10_3 ∧ v140 = .int .i64 x140_3 ∧ Aside0 (nat_step.l2 kq x0_3 l1 (l1.length : Int) x7_9 x10_3 (l1.length : Int) x140_3 = some (r1, r2)) ∧ Aside0 (kq ≤ k2) ∧ Aside0 (Wn gW capW preW postW w' w0.heap.size (fun k_ => (P0_ k_ ∨ w.heap.size ≤ k_)) (.slice (some ⟨gW, preW.length, none⟩) x0_2.length co11) x0_3) ∧ Aside0 (Kept w w' (fun k_ => P0_ k_)) ∧ Aside0 (Below w0.heap.size w0 w'))
 case atStart => exact ⟨(y113), (0), (0), zF, zF, H', ⟨Nat.le_refl _⟩, ⟨by (try simp only [hl0_2]); (with_reducible repeat (first | apply Wn.alloc | apply Wn.drewN | apply Wn.drew)); exact HO_0.out⟩, ⟨by repeat (first | (with_reducible first | exact HK.out | apply Kept.alloc | apply Kept.drewN | apply Kept.drew) | exact HK.out)⟩, ⟨zB HB.out⟩⟩
 clear H'
 (try clear c3);(try clear c3b0);(try clear c3b1);(try clear c4);(try clear c4b0);(try clear c4b1);(try clear c6b0);(try clear c7b0);(try clear c8b0);(try clear c9);(try clear c9b0);(try clear c9b1);(try clear c12b0);(try clear c13);(try clear c13b0);(try clear c15b0);(try clear c16b0);(try clear c18b0);(try clear c19b0);(try clear c20b0);(try clear c21);(try clear c21b0);(try clear c23b0);(try clear c24b0);(try clear c25);(try clear c25b0);(try clear c26b0);(try clear c27);(try clear c27b0);(try clear c28);(try clear c28b0);(try clear p29);(try clear q29);(try clear c32);(try clear c32b0);(try clear c32b1);(try clear c33);(try clear c33b0);(try clear c33b1);(try clear p34);(try clear q34);(try clear c35);(try clear c35b0);(try clear c35b1);(try clear hx101_0);(try clear hx102_0);(try clear hx103_0);(try clear hx104_0);(try clear hx105_0);(try clear hx106_0);(try clear hx107_0);(try clear hx108_0);(try clear hx109_0);(try clear hx110_0);(try clear hx112_0);(try clear hx29_0);(try clear hx34_0);(try clear p101);(try clear p102);(try clear p103);(try clear p104);(try clear p105);(try clear p106);(try clear p107);(try clear p108);(try clear p109);(try clear p110);(try clear p112);(try clear q101);(try clear q102);(try clear q103);(try clear q104);(try clear q105);(try clear q106);(try clear q107);(try clear q108);(try clear q109);(try clear q110);(try clear q112)
 obtain ⟨x0_3, x10_3, x140_3, rfl, rfl, HA, HK3, HO_0, HK, HB⟩ := hrel
 have hl0_3 := (Wn.reads' HO_0.out).1
 rw [hl0_3] at HO_0
 (try simp only [hl0_3])
 cases gk with | zero => exact absurd HA.out (by simp [nat_step.l2]) | succ k3 => ?_
 have H := HA.out
 clear HA
 simp only [nat_step.l2] at H
 replace H := zi H
 rcases H with ⟨c40, H⟩ | ⟨c40, H⟩
 · have c40b0 := decide_eq_true c40
   (try (have c40h0 := c40b0; simp only [hl0_2, hl0_3] at c40h0))
   clear c40
   replace H := zgd H
   obtain ⟨c41b0, H⟩ := H
   replace H := zg H
   obtain ⟨c42, H⟩ := H
   have c42b0 := decide_eq_true c42
   (try (have c42h0 := c42b0; simp only [hl0_2, hl0_3] at c42h0))
   clear c42
   replace H := zg H
   obtain ⟨c43, H⟩ := H
   have c43b0 := decide_eq_true c43
   (try (have c43h0 := c43b0; simp only [hl0_2, hl0_3] at c43h0))
   clear c43
   obtain ⟨y116, hy116⟩ : ∃ y_ : List Int, y_ = (x0_3.set (x140_3 : Int).toNat ((IntKind.u64.wrap ((IntKind.u64.wrap ((IntKind.u64.wrap (rd x0_3 x140_3)) + (IntKind.u64.wrap (rd l1 x140_3)))) + x10_3)) % 4294967296)) := ⟨_, rfl⟩
   replace H : (nat_step.l2 k3 y116 l1 (l1.length : Int) x7_9 ((IntKind.u64.wrap ((IntKind.u64.wrap ((IntKind.u64.wrap (rd x0_3 x140_3)) + (IntKind.u64.wrap (rd l1 x140_3)))) + x10_3)) / 4294967296) (l1.length : Int) (wrap64 (x140_3 + 1))) = some (r1, r2) := zY hy116 H
   have Ny116 := Aside0.mk hy116
   clear hy116
   have H' := Aside0.mk H
   clear H
   have p114 : 0 ≤ (x140_3 : Int) := zd
   have q114 : x140_3 < (x0_3.length : Int) := zd
   obtain ⟨ad114, e114, hx114_0⟩ := Kd.at_int (Wn.reads' HO_0.out).2.2 x140_3 p114 q114
   obtain rfl : (⟨gW, preW.length, none⟩ : Addr) = ad114 := (by injection e114)
   (first | simp only [add_at] at hx114_0 | simp only [add_at] at hx114_0 | simp only [Addr.add, Nat.zero_add] at hx114_0 | skip)
   replace p114 := eq_true p114
   replace q114 := eq_true q114
   have p115 : 0 ≤ (x140_3 : Int) := zd
   have q115 : x140_3 < (l1.length : Int) := zd
   obtain ⟨ad115, e115, hx115_0⟩ := Kd.at_int (Kd.C_kept_now HR1.out HK.out) x140_3 p115 q115
   obtain rfl : ad103 = ad115 := (by injection e115)
   replace p115 := eq_true p115
   replace q115 := eq_true q115
   have p44 : 0 ≤ (x140_3 : Int) := zd
   have q44 : (x140_3 : Int) < ((x0_3.length : Int) : Int) := zd
   obtain ⟨hx44_0, hf44_0⟩ := Wn.celln HO_0.out (x140_3 : Int) p44 q44
   replace p44 := eq_true p44
   replace q44 := eq_true q44
   obtain ⟨hy45_, hz45_⟩ := Wn.celln HO_0.out (x140_3 : Int) zd zd
   have HP45 := Wn.putg HO_0.out (x140_3 : Int) zd zd ((IntKind.u64.wrap ((IntKind.u64.wrap ((IntKind.u64.wrap (rd x0_3 x140_3)) + (IntKind.u64.wrap (rd l1 x140_3)))) + x10_3)) % 4294967296)
   go_wp2_with (first | ((with_reducible refine gate_store (t := 97) (p := 160) rfl ?_); (try (rw [drewN_self wr]; generalize hq_ : World.drewN wr _ = wr; have n0_ := Aside0.mk (Wn.at_ hq_ HO_0.out); have n1_ := Aside0.mk (kept_at hq_ HK.out); have n2_ := Aside0.mk (below_at hq_ HB.out); clear hq_ HO_0 HK HB; have HO_0 := n0_; have HK := n1_; have HB := n2_; clear n0_ n1_ n2_; (try (obtain ⟨hy45_, hz45_⟩ := Wn.celln HO_0.out (x140_3 : Int) zd zd)); (try (have HP45 := Wn.putg HO_0.out (x140_3 : Int) zd zd ((IntKind.u64.wrap ((IntKind.u64.wrap ((IntKind.u64.wrap (rd x0_3 x140_3)) + (IntKind.u64.wrap (rd l1 x140_3)))) + x10_3)) % 4294967296))))); refine store_event (t := 97) (p := 160) (v := ?vo_w46) (w1 := (wr.setCell ⟨gW, preW.length + (x140_3 : Int).toNat, none⟩ (.int .u32 ((IntKind.u64.wrap ((IntKind.u64.wrap ((IntKind.u64.wrap (rd x0_3 x140_3)) + (IntKind.u64.wrap (rd l1 x140_3)))) + x10_3)) % 4294967296)))) ?hg ?ho ?hn ?hr ?_; (case ho => rfl); (case hg => rfl); (case hn => rfl); (case hr => first | (go_simp; done) | (go_simp; rfl)); intro w46 hw; have hg : wr.grownBy w46 (some gW) := (by rw [hw]; exact HP45.2); have hp_ : Wn gW capW preW postW w46 w0.heap.size (fun k_ => (P0_ k_ ∨ w.heap.size ≤ k_)) (.slice (some ⟨gW, preW.length, none⟩) x0_3.length co11) y116 := (by rw [hw, Ny116.out]; exact HP45.1); clear HP45; replace HB := Aside0.mk ((by rw [hw]; exact below_set (HB.out) GB34.out : Below w0.heap.size w0 w46)); replace HK := Aside0.mk (Kept.of_grown (S := (fun k_ => P0_ k_)) hg (by repeat (first | (with_reducible first | exact HK.out | apply Kept.alloc | apply Kept.drewN | apply Kept.drew) | exact HK.out)) (fun k_ e_ => (Wn.own HO_0.out k_ e_))); replace HO_0 := Aside0.mk (hp_); clear hg hw hp_))
   repeat (go_quiet (first | ((with_reducible refine gate_store (t := 97) (p := 160) rfl ?_); (try (rw [drewN_self wr]; generalize hq_ : World.drewN wr _ = wr; have n0_ := Aside0.mk (Wn.at_ hq_ HO_0.out); have n1_ := Aside0.mk (kept_at hq_ HK.out); have n2_ := Aside0.mk (below_at hq_ HB.out); clear hq_ HO_0 HK HB; have HO_0 := n0_; have HK := n1_; have HB := n2_; clear n0_ n1_ n2_; (try (obtain ⟨hy45_, hz45_⟩ := Wn.celln HO_0.out (x140_3 : Int) zd zd)); (try (have HP45 := Wn.putg HO_0.out (x140_3 : Int) zd zd ((IntKind.u64.wrap ((IntKind.u64.wrap ((IntKind.u64.wrap (rd x0_3 x140_3)) + (IntKind.u64.wrap (rd l1 x140_3)))) + x10_3)) % 4294967296))))); refine store_event (t := 97) (p := 160) (v := ?vo_w46) (w1 := (wr.setCell ⟨gW, preW.length + (x140_3 : Int).toNat, none⟩ (.int .u32 ((IntKind.u64.wrap ((IntKind.u64.wrap ((IntKind.u64.wrap (rd x0_3 x140_3)) + (IntKind.u64.wrap (rd l1 x140_3)))) + x10_3)) % 4294967296)))) ?hg ?ho ?hn ?hr ?_; (case ho => rfl); (case hg => rfl); (case hn => rfl); (case hr => first | (go_simp; done) | (go_simp; rfl)); intro w46 hw; have hg : wr.grownBy w46 (some gW) := (by rw [hw]; exact HP45.2); have hp_ : Wn gW capW preW postW w46 w0.heap.size (fun k_ => (P0_ k_ ∨ w.heap.size ≤ k_)) (.slice (some ⟨gW, preW.length, none⟩) x0_3.length co11) y116 := (by rw [hw, Ny116.out]; exact HP45.1); clear HP45; replace HB := Aside0.mk ((by rw [hw]; exact below_set (HB.out) GB34.out : Below w0.heap.size w0 w46)); replace HK := Aside0.mk (Kept.of_grown (S := (fun k_ => P0_ k_)) hg (by repeat (first | (with_reducible first | exact HK.out | apply Kept.alloc | apply Kept.drewN | apply Kept.drew) | exact HK.out)) (fun k_ e_ => (Wn.own HO_0.out k_ e_))); replace HO_0 := Aside0.mk (hp_); clear hg hw hp_)); try go_wp2_with (first | ((with_reducible refine gate_store (t := 97) (p := 160) rfl ?_); (try (rw [drewN_self wr]; generalize hq_ : World.drewN wr _ = wr; have n0_ := Aside0.mk (Wn.at_ hq_ HO_0.out); have n1_ := Aside0.mk (kept_at hq_ HK.out); have n2_ := Aside0.mk (below_at hq_ HB.out); clear hq_ HO_0 HK HB; have HO_0 := n0_; have HK := n1_; have HB := n2_; clear n0_ n1_ n2_; (try (obtain ⟨hy45_, hz45_⟩ := Wn.celln HO_0.out (x140_3 : Int) zd zd)); (try (have HP45 := Wn.putg HO_0.out (x140_3 : Int) zd zd ((IntKind.u64.wrap ((IntKind.u64.wrap ((IntKind.u64.wrap (rd x0_3 x140_3)) + (IntKind.u64.wrap (rd l1 x140_3)))) + x10_3)) % 4294967296))))); refine store_event (t := 97) (p := 160) (v := ?vo_w46) (w1 := (wr.setCell ⟨gW, preW.length + (x140_3 : Int).toNat, none⟩ (.int .u32 ((IntKind.u64.wrap ((IntKind.u64.wrap ((IntKind.u64.wrap (rd x0_3 x140_3)) + (IntKind.u64.wrap (rd l1 x140_3)))) + x10_3)) % 4294967296)))) ?hg ?ho ?hn ?hr ?_; (case ho => rfl); (case hg => rfl); (case hn => rfl); (case hr => first | (go_simp; done) | (go_simp; rfl)); intro w46 hw; have hg : wr.grownBy w46 (some gW) := (by rw [hw]; exact HP45.2); have hp_ : Wn gW capW preW postW w46 w0.heap.size (fun k_ => (P0_ k_ ∨ w.heap.size ≤ k_)) (.slice (some ⟨gW, preW.length, none⟩) x0_3.length co11) y116 := (by rw [hw, Ny116.out]; exact HP45.1); clear HP45; have n0_ := Aside0.mk (hp_); have n1_ := Aside0.mk ((by rw [hw]; exact below_set (HB.out) GB34.out : Below w0.heap.size w0 w46)); have n2_ := Aside0.mk (Kept.of_grown (S := (fun k_ => P0_ k_)) hg (by repeat (first | (with_reducible first | exact HK.out | apply Kept.alloc | apply Kept.drewN | apply Kept.drew) | exact HK.out)) (fun k_ e_ => (Wn.own HO_0.out k_ e_))); clear HO_0; clear HB; clear HK; have HO_0 := n0_; have HB := n1_; have HK := n2_; clear n0_ n1_ n2_; clear hg hw hp_)))
   (try simp only [← hl0_3])
   (try simp only [add_at] at *)
   (try simp only [add_plain] at *)
   go_roundg k3
   case measure => have := HJ9.out; have := HK2.out; have := HK3.out; omega
   case rel => exact ⟨(y116), ((IntKind.u64.wrap ((IntKind.u64.wrap ((IntKind.u64.wrap (rd x0_3 x140_3)) + (IntKind.u64.wrap (rd l1 x140_3)))) + x10_3)) / 4294967296), (wrap64 (x140_3 + 1)), zF, zF, H', ⟨by have := HJ9.out; have := HK2.out; have := HK3.out; omega⟩, ⟨by (try simp only [hl0_2]); (try simp only [hl0_3]); (with_reducible repeat (first | apply Wn.alloc | apply Wn.drewN | apply Wn.drew)); exact HO_0.out⟩, ⟨by repeat (first | (with_reducible first | exact HK.out | apply Kept.alloc | apply Kept.drewN | apply Kept.drew) | exact HK.out)⟩, ⟨zB HB.out⟩⟩
 have c40b0 := decide_eq_false c40
 (try (have c40h0 := c40b0; simp only [hl0_2, hl0_3] at c40h0))
 clear c40
 replace H := zg H
 obtain ⟨c47, H⟩ := H
 have c47b0 := decide_eq_true c47
 (try (have c47h0 := c47b0; simp only [hl0_2, hl0_3] at c47h0))
 have c47b1 : decide (0 ≤ l1.length) = true := decide_eq_true (by omega)
 (try (have c47h1 := c47b1; simp only [hl0_2, hl0_3] at c47h1))
 clear c47
 replace H := zg H
 obtain ⟨c48, H⟩ := H
 have c48b0 := decide_eq_true c48
 (try (have c48h0 := c48b0; simp only [hl0_2, hl0_3] at c48h0))
 have c48b1 : decide (l1.length < x0_3.length) = true := decide_eq_true (Int.ofNat_lt.mp c48)
 (try (have c48h1 := c48b1; simp only [hl0_2, hl0_3] at c48h1))
 clear c48
 obtain ⟨y118, hy118⟩ : ∃ y_ : List Int, y_ = (x0_3.set ((l1.length : Int) : Int).toNat (((rd x0_3 (l1.length : Int)) + ((x10_3) % 4294967296)) % 4294967296)) := ⟨_, rfl⟩
 replace H : (some ((IntKind.u64.wrap (x7_9 - 1)) % 4294967296, y118)) = some (r1, r2) := zY hy118 H
 have Ny118 := Aside0.mk hy118
 clear hy118
 simp only [Option.some.injEq, Prod.mk.injEq] at H
 obtain ⟨rfl, rfl⟩ := H
 have p117 : 0 ≤ ((l1.length : Int) : Int) := zd
 have q117 : (l1.length : Int) < (x0_3.length : Int) := zd
 obtain ⟨ad117, e117, hx117_0⟩ := Kd.at_int (Wn.reads' HO_0.out).2.2 (l1.length : Int) p117 q117
 obtain rfl : (⟨gW, preW.length, none⟩ : Addr) = ad117 := (by injection e117)
 (first | simp only [add_at] at hx117_0 | simp only [add_at] at hx117_0 | simp only [Addr.add, Nat.zero_add] at hx117_0 | skip)
 (try simp only [Go.IntWalk.toNatUp] at hx117_0)
 (try simp only [hl0_2, hl0_3] at p117)
 (try simp only [hl0_2, hl0_3] at q117)
 (try simp only [hl0_2, hl0_3] at hx117_0)
 replace p117 := eq_true p117
 replace q117 := eq_true q117
 have p49 : 0 ≤ ((l1.length : Int) : Int) := zd
 have q49 : ((l1.length : Int) : Int) < ((x0_3.length : Int) : Int) := zd
 obtain ⟨hx49_0, hf49_0⟩ := Wn.celln HO_0.out ((l1.length : Int) : Int) p49 q49
 replace p49 := eq_true p49
 replace q49 := eq_true q49
 obtain ⟨hy50_, hz50_⟩ := Wn.celln HO_0.out ((l1.length : Int) : Int) zd zd
 (try simp only [Go.IntWalk.toNatUp] at hy50_ hz50_)
 have HP50 := Wn.putg HO_0.out ((l1.length : Int) : Int) zd zd (((rd x0_3 (l1.length : Int)) + ((x10_3) % 4294967296)) % 4294967296)
 go_wp2_with (first | ((with_reducible refine gate_store (t := 97) (p := 171) rfl ?_); (try (rw [drewN_self wr]; generalize hq_ : World.drewN wr _ = wr; have n0_ := Aside0.mk (Wn.at_ hq_ HO_0.out); have n1_ := Aside0.mk (kept_at hq_ HK.out); have n2_ := Aside0.mk (below_at hq_ HB.out); clear hq_ HO_0 HK HB; have HO_0 := n0_; have HK := n1_; have HB := n2_; clear n0_ n1_ n2_; (try (obtain ⟨hy50_, hz50_⟩ := Wn.celln HO_0.out ((l1.length : Int) : Int) zd zd)); (try (try simp only [Go.IntWalk.toNatUp] at hy50_ hz50_)); (try (have HP50 := Wn.putg HO_0.out ((l1.length : Int) : Int) zd zd (((rd x0_3 (l1.length : Int)) + ((x10_3) % 4294967296)) % 4294967296))))); refine store_event (t := 97) (p := 171) (v := ?vo_w51) (w1 := (wr.setCell ⟨gW, preW.length + ((l1.length : Int) : Int).toNat, none⟩ (.int .u32 (((rd x0_3 (l1.length : Int)) + ((x10_3) % 4294967296)) % 4294967296)))) ?hg ?ho ?hn ?hr ?_; (case ho => rfl); (case hg => rfl); (case hn => rfl); (case hr => first | (go_simp; done) | (go_simp; rfl)); intro w51 hw; have hg : wr.grownBy w51 (some gW) := (by rw [hw]; exact HP50.2); have hp_ : Wn gW capW preW postW w51 w0.heap.size (fun k_ => (P0_ k_ ∨ w.heap.size ≤ k_)) (.slice (some ⟨gW, preW.length, none⟩) x0_3.length co11) y118 := (by rw [hw, Ny118.out]; exact HP50.1); clear HP50; replace HB := Aside0.mk ((by rw [hw]; exact below_set (HB.out) GB34.out : Below w0.heap.size w0 w51)); replace HK := Aside0.mk (Kept.of_grown (S := (fun k_ => P0_ k_)) hg (by repeat (first | (with_reducible first | exact HK.out | apply Kept.alloc | apply Kept.drewN | apply Kept.drew) | exact HK.out)) (fun k_ e_ => (Wn.own HO_0.out k_ e_))); replace HO_0 := Aside0.mk (hp_); clear hg hw hp_))
 repeat (go_quiet (first | ((with_reducible refine gate_store (t := 97) (p := 171) rfl ?_); (try (rw [drewN_self wr]; generalize hq_ : World.drewN wr _ = wr; have n0_ := Aside0.mk (Wn.at_ hq_ HO_0.out); have n1_ := Aside0.mk (kept_at hq_ HK.out); have n2_ := Aside0.mk (below_at hq_ HB.out); clear hq_ HO_0 HK HB; have HO_0 := n0_; have HK := n1_; have HB := n2_; clear n0_ n1_ n2_; (try (obtain ⟨hy50_, hz50_⟩ := Wn.celln HO_0.out ((l1.length : Int) : Int) zd zd)); (try (try simp only [Go.IntWalk.toNatUp] at hy50_ hz50_)); (try (have HP50 := Wn.putg HO_0.out ((l1.length : Int) : Int) zd zd (((rd x0_3 (l1.length : Int)) + ((x10_3) % 4294967296)) % 4294967296))))); refine store_event (t := 97) (p := 171) (v := ?vo_w51) (w1 := (wr.setCell ⟨gW, preW.length + ((l1.length : Int) : Int).toNat, none⟩ (.int .u32 (((rd x0_3 (l1.length : Int)) + ((x10_3) % 4294967296)) % 4294967296)))) ?hg ?ho ?hn ?hr ?_; (case ho => rfl); (case hg => rfl); (case hn => rfl); (case hr => first | (go_simp; done) | (go_simp; rfl)); intro w51 hw; have hg : wr.grownBy w51 (some gW) := (by rw [hw]; exact HP50.2); have hp_ : Wn gW capW preW postW w51 w0.heap.size (fun k_ => (P0_ k_ ∨ w.heap.size ≤ k_)) (.slice (some ⟨gW, preW.length, none⟩) x0_3.length co11) y118 := (by rw [hw, Ny118.out]; exact HP50.1); clear HP50; replace HB := Aside0.mk ((by rw [hw]; exact below_set (HB.out) GB34.out : Below w0.heap.size w0 w51)); replace HK := Aside0.mk (Kept.of_grown (S := (fun k_ => P0_ k_)) hg (by repeat (first | (with_reducible first | exact HK.out | apply Kept.alloc | apply Kept.drewN | apply Kept.drew) | exact HK.out)) (fun k_ e_ => (Wn.own HO_0.out k_ e_))); replace HO_0 := Aside0.mk (hp_); clear hg hw hp_)); try go_wp2_with (first | ((with_reducible refine gate_store (t := 97) (p := 171) rfl ?_); (try (rw [drewN_self wr]; generalize hq_ : World.drewN wr _ = wr; have n0_ := Aside0.mk (Wn.at_ hq_ HO_0.out); have n1_ := Aside0.mk (kept_at hq_ HK.out); have n2_ := Aside0.mk (below_at hq_ HB.out); clear hq_ HO_0 HK HB; have HO_0 := n0_; have HK := n1_; have HB := n2_; clear n0_ n1_ n2_; (try (obtain ⟨hy50_, hz50_⟩ := Wn.celln HO_0.out ((l1.length : Int) : Int) zd zd)); (try (try simp only [Go.IntWalk.toNatUp] at hy50_ hz50_)); (try (have HP50 := Wn.putg HO_0.out ((l1.length : Int) : Int) zd zd (((rd x0_3 (l1.length : Int)) + ((x10_3) % 4294967296)) % 4294967296))))); refine store_event (t := 97) (p := 171) (v := ?vo_w51) (w1 := (wr.setCell ⟨gW, preW.length + ((l1.length : Int) : Int).toNat, none⟩ (.int .u32 (((rd x0_3 (l1.length : Int)) + ((x10_3) % 4294967296)) % 4294967296)))) ?hg ?ho ?hn ?hr ?_; (case ho => rfl); (case hg => rfl); (case hn => rfl); (case hr => first | (go_simp; done) | (go_simp; rfl)); intro w51 hw; have hg : wr.grownBy w51 (some gW) := (by rw [hw]; exact HP50.2); have hp_ : Wn gW capW preW postW w51 w0.heap.size (fun k_ => (P0_ k_ ∨ w.heap.size ≤ k_)) (.slice (some ⟨gW, preW.length, none⟩) x0_3.length co11) y118 := (by rw [hw, Ny118.out]; exact HP50.1); clear HP50; have n0_ := Aside0.mk (hp_); have n1_ := Aside0.mk ((by rw [hw]; exact below_set (HB.out) GB34.out : Below w0.heap.size w0 w51)); have n2_ := Aside0.mk (Kept.of_grown (S := (fun k_ => P0_ k_)) hg (by repeat (first | (with_reducible first | exact HK.out | apply Kept.alloc | apply Kept.drewN | apply Kept.drew) | exact HK.out)) (fun k_ e_ => (Wn.own HO_0.out k_ e_))); clear HO_0; clear HB; clear HK; have HO_0 := n0_; have HB := n1_; have HK := n2_; clear n0_ n1_ n2_; clear hg hw hp_)))
 go_ret
 exact ⟨by first | rfl | (simp [errW_none, errW_some] <;> rfl) | (simp only [← hji5]; first | rfl | (simp [errW_none, errW_some] <;> rfl)) | (simp [*, errW_none, errW_some] <;> rfl), (by first | exact (zW HO_0.out) | (simp only [hl0_2, hl0_3]; exact (zW HO_0.out))), zB HB.out, by repeat (first | (with_reducible first | exact HK.out | apply Kept.alloc | apply Kept.drewN | apply Kept.drew) | exact HK.out)⟩
def nat_long.T14 : Bool × List (List Nat × List Nat) := (true, [([], []), ([], []), ([], []), ([], []), ([2, 3], [2, 3]), ([4], [4]), ([5], [5]), ([], []), ([], []), ([8], [8]), ([7, 9], [7, 9]), ([10], [10]), ([11], [11]), ([12], [12]), ([6, 13], [6, 13]), ([], []), ([14, 15], [14, 15]), ([16], [16]), ([0, 1, 0, 1, 2, 3, 4, 5, 6, 7, 8, 9, 10, 11, 12, 13, 14, 15, 16, 17], [0, 1]), ([18, 17, 0, 1, 2, 3, 4, 5, 6, 7, 8, 9, 10, 11, 12, 13, 14, 15, 16, 17], [17, 18])])
def nat_long.B14 : List Nat := [0, 0, 0, 0, 12, 28, 60, 0, 0, 256, 896, 1920, 3968, 8064, 16380, 0, 65532, 131068, 262143, 524287]
theorem nat_long.tab14 : rtab .any (opsOf Try.f129 14) = nat_long.T14 := by kernel_rfl
theorem nat_long.bits14 : waitsOk nat_long.T14.2 nat_long.B14 = true := by kernel_rfl
set_option maxHeartbeats 8000000 in
set_option maxRecDepth 100000 in
theorem nat_long.calls (k : Nat) (A0 : Option Addr) (c0 : Nat) (l0 : List Int) (A1 : Option Addr) (c1 : Nat) (l1 : List Int) (r1 : List Int) (r2 : List Int) (w : World) (hr0 : Kd.C (Kd.int .u32) w A0 l0.length l0) (hc0 : l0.length ≤ c0) (hr1 : Kd.C (Kd.int .u32) w A1 l1.length l1) (hc1 : l1.length ≤ c1) (h : nat_long.f k l0 l1 = some (r1, r2)) :
    Calls Try.prog 129 #[.slice A0 l0.length c0, .slice A1 l1.length c1] w fun e w' => ∃ v0_ v1_ : Value, e = .returned (.tuple #[v0_, v1_]) ∧ Kd.R (Kd.int .u32) 97 w' w.heap.size (fun k_ => some k_ ≠ (v1_ : Value).ownBlock) v0_ r1 ∧ Kd.R (Kd.int .u32) 97 w' w.heap.size (fun k_ => some k_ ≠ (v0_ : Value).ownBlock) v1_ r2 ∧ Below w.heap.size w w' := by
 have HR0 := Aside0.mk hr0
 have HC0 := Aside0.mk hc0
 clear hr0 hc0
 have HR1 := Aside0.mk hr1
 have HC1 := Aside0.mk hc1
 clear hr1 hc1
 have HB := Aside0.mk (Below.refl w.heap.size w)
 have H : (if 0 ≤ (wrap64 ((l1.length : Int) - 1)) then (if (wrap64 ((l1.length : Int) - 1)) < (l1.length : Int) then ((bits_LeadingZeros32.f (rd l1 (wrap64 ((l1.length : Int) - 1)))).bind fun t102 => ((nat_shift.f k l1 t102).bind fun t103 => ((nat_short.f k t103).bind fun t106 => ((nat_shift.f k l0 t102).bind fun t109 => (if 0 ≤ (wrap64 ((t109.length : Int) - (t106.length : Int))) then (if (wrap64 ((t109.length : Int) - (t106.length : Int)) : Int).toNat ≤ 70368744177664 then (nat_long.l0 k (List.replicate (wrap64 ((t109.length : Int) - (t106.length : Int)) : Int).toNat 0) t102 t106 t109 (t106.length : Int) (wrap64 ((wrap64 ((t109.length : Int) - (t106.length : Int))) - 1))) else (none)) else (none)))))) else (none)) else (none)) = some (r1, r2) := h
 clear h
 obtain ⟨ji3, hji3⟩ : ∃ j_ : Int, (wrap64 ((l1.length : Int) - 1)) = j_ := ⟨_, rfl⟩
 replace H : (if 0 ≤ (ji3) then (if (ji3) < (l1.length : Int) then ((bits_LeadingZeros32.f (rd l1 (ji3))).bind fun t102 => ((nat_shift.f k l1 t102).bind fun t103 => ((nat_short.f k t103).bind fun t106 => ((nat_shift.f k l0 t102).bind fun t109 => (if 0 ≤ (wrap64 ((t109.length : Int) - (t106.length : Int))) then (if (wrap64 ((t109.length : Int) - (t106.length : Int)) : Int).toNat ≤ 70368744177664 then (nat_long.l0 k (List.replicate (wrap64 ((t109.length : Int) - (t106.length : Int)) : Int).toNat 0) t102 t106 t109 (t106.length : Int) (wrap64 ((wrap64 ((t109.length : Int) - (t106.length : Int))) - 1))) else (none)) else (none)))))) else (none)) else (none)) = some (r1, r2) := by first | (rw [hji3] at H; exact H) | (simp only [hji3] at H ⊢; exact H)
 have hji3w : (IntKind.i64.wrap ((l1.length : Int) - 1)) = ji3 := (i64_w _).trans hji3
 replace H := zgd H
 obtain ⟨c4b0, H⟩ := H
 replace H := zgd H
 obtain ⟨c5b0, H⟩ := H
 replace H := zb H
 obtain ⟨t102, A6, H⟩ := H
 replace H := zb H
 obtain ⟨t103, A7, H⟩ := H
 replace H := zb H
 obtain ⟨t106, A8, H⟩ := H
 replace H := zb H
 obtain ⟨t109, A9, H⟩ := H
 obtain ⟨ji10, hji10⟩ : ∃ j_ : Int, (wrap64 ((t109.length : Int) - (t106.length : Int))) = j_ := ⟨_, rfl⟩
 replace H : (if 0 ≤ (ji10) then (if (ji10 : Int).toNat ≤ 70368744177664 then (nat_long.l0 k (List.replicate (ji10 : Int).toNat 0) t102 t106 t109 (t106.length : Int) (wrap64 ((ji10) - 1))) else (none)) else (none)) = some (r1, r2) := by first | (rw [hji10] at H; exact H) | (simp only [hji10] at H ⊢; exact H)
 (try rw [hji10] at A6)
 (try rw [hji10] at A7)
 (try rw [hji10] at A8)
 (try rw [hji10] at A9)
 have hji10w : (IntKind.i64.wrap ((t109.length : Int) - (t106.length : Int))) = ji10 := (i64_w _).trans hji10
 replace H := zg H
 obtain ⟨c11, H⟩ := H
 have c11b0 := eq_true c11
 have c11b1 := decide_eq_true c11
 clear c11
 replace H := zg H
 obtain ⟨c12, H⟩ := H
 have c12b0 := eq_true c12
 have c12b1 := decide_eq_true c12
 clear c12
 obtain ⟨y112, hy112⟩ : ∃ y_ : List Int, y_ = (List.replicate (ji10 : Int).toNat 0) := ⟨_, rfl⟩
 replace H : (nat_long.l0 k y112 t102 t106 t109 (t106.length : Int) (wrap64 ((ji10) - 1))) = some (r1, r2) := zY hy112 H
 have Ny112 := Aside0.mk hy112
 clear hy112
 have H' := Aside0.mk H
 clear H
 have p101 : 0 ≤ ((ji3) : Int) := zd
 have q101 : (ji3) < (l1.length : Int) := zd
 obtain ⟨ad101, e101, hx101_0⟩ := Kd.at_int HR1.out (ji3) p101 q101
 cases e101
 replace p101 := eq_true p101
 replace q101 := eq_true q101
 go_enter Try.func129, Try.ntmps129
 go_wp2_with (first | ((with_reducible refine gC 138 ?_); refine goesL_ (some 18) rfl rfl Try.func138 (by kernel_rfl) rfl #[.int .u32 (rd l1 (ji3))] rfl (by (try simp only [List.map_toArray, List.map_cons, List.map_nil]); first | done | (simp only [hji3]; rfl) | rfl | (simp only [List.length_drop, List.length_take]; rfl)) ?_; (with_reducible refine (bits_LeadingZeros32.calls (rd l1 (ji3)) t102 _ A6.out).mono ?_); rintro e w' ⟨rfl, ⟨nd, rfl⟩⟩; refine ⟨_, rfl, ?_⟩) | ((with_reducible refine gC 139 ?_); refine zG (some 21) Try.func139 #[.slice (some ad101) l1.length c1, .int .i64 t102] ?_; (with_reducible refine (nat_shift.calls k _ _ l1 t102 t103 _ ?side1 ?side2 A7.out).mono ?_); (case side1 => exact zC HR1.out); (case side2 => exact HC1.out); rintro e w13 ⟨v104, rfl, ho0, hb⟩; refine ⟨_, rfl, ?_⟩; have HO105 := yRl ho0 HB; replace HB := yS HB hb; (try clear hb ho0); obtain ⟨Ao14, co14, rfl⟩ := Kd.R_slice HO105.out) | ((with_reducible refine gC 118 ?_); refine zG (some 22) Try.func118 #[.slice Ao14 t103.length co14] ?_; (with_reducible refine (nat_short.calls k (fun k_ => some k_ = (.slice Ao14 t103.length co14 : Value).ownBlock) _ _ t103 t106 _ ?side1 A8.out).mono ?_); (case side1 => exact Kd.R_V (Kd.R_tight rfl (HO105.out))); rintro e w15 ⟨v107, rfl, ho0, hb⟩; refine ⟨_, rfl, ?_⟩; replace HO105 := yRb HO105 hb; have HO108 := yVm ho0 HB; replace HB := yS HB hb; (try clear hb ho0)) | ((with_reducible refine gC 139 ?_); refine zG (some 25) Try.func139 #[.slice A0 l0.length c0, .int .i64 t102] ?_; (with_reducible refine (nat_shift.calls k _ _ l0 t102 t109 _ ?side1 ?side2 A9.out).mono ?_); (case side1 => exact zC (Kd.C_below HR0.out HB.out)); (case side2 => exact HC0.out); rintro e w16 ⟨v110, rfl, ho0, hb⟩; refine ⟨_, rfl, ?_⟩; replace HO108 := yVe HO108 ho0 hb; replace ho0 := yn ho0 HO105; have HO111 := yRl ho0 HB; replace HO105 := yRe HO105 ho0 hb; replace HB := yS HB hb; (try clear hb ho0); obtain ⟨Ao17, co17, rfl⟩ := Kd.V_slice HO108.out; obtain ⟨Ao18, co18, rfl⟩ := Kd.R_slice HO111.out) | ((with_reducible refine gate_dst (N := 32) rfl ?_); refine Kd.R_make (Kd.int .u32) _ 97 rfl (N := 32) rfl 29 _ _ rfl ji10 rfl rfl Try.underlying29 (.int .u32 0) 4 info97 rfl (by decide) (by omega) 0 (ok := fun _ => True) (okp := fun _ => True) rfl (fun _ hk => hk) trivial zd (Nat.le_trans (Nat.mul_le_mul_right _ (zd : ji10.toNat ≤ 70368744177664)) (by omega)) (Below.refl _ _) (Nat.le_refl _) ?_; intro v113 w19 ho20 hb hg_ hnew_; clear hg_ hnew_; (first | rw [← Ny112.out] at ho20 | (simp only [Int.reduceToNat] at ho20; rw [← Ny112.out] at ho20)); replace HO108 := yVe HO108 ho20 hb; replace ho20 := yn ho20 HO105; replace ho20 := yn ho20 HO111; have HO114 := yRl ho20 HB; replace HO105 := yRe HO105 ho20 hb; replace HO111 := yRe HO111 ho20 hb; replace HB := yS HB hb; clear hb ho20))
 go_loopg [10] k (fun kq v10 w' => ∃ (x4_1 : List Int) (x7_1 : List Int) (x8_1 : List Int) (x10_1 : Int), v10 = .int .i64 x10_1 ∧ Aside0 (nat_long.l0 kq x4_1 t102 x7_1 x8_1 (t106.length : Int) x10_1 = some (r1, r2)) ∧ Aside0 (kq ≤ k) ∧ Aside0 (Kd.R (Kd.int .u32) 97 w' w.heap.size (fun k_ => some k_ ≠ ((.slice Ao18 t109.length co18) : Value).ownBlock) v113 x4_1) ∧ Aside0 (Kd.V (Kd.int .u32) 97 w' w.heap.size (fun k_ => some k_ ≠ (v113 : Value).ownBlock ∧ some k_ ≠ ((.slice Ao18 t109.length co18) : Value).ownBlock) (.slice Ao17 t106.length co17) x7_1) ∧ Aside0 (Kd.R (Kd.int .u32) 97 w' w.heap.size (fun k_ => some k_ ≠ (v113 : Value).ownBlock) (.slice Ao18 t109.length co18) x8_1) ∧ Aside0 (Below w.heap.size w w'))
 case atStart => exact ⟨(y112), (t106), (t109), (wrap64 ((ji10) - 1)), (by first | rfl | (simp; done) | (simp only [← hji10] <;> (first | rfl | simp)) | (simp [*]; done)), H', ⟨Nat.le_refl _⟩, ⟨by (with_reducible repeat (first | apply Kd.R_alloc | apply Kd.R_drewN | apply Kd.R_drew)); exact Kd.R_mono HO114.out (fun _ hk => hk.2)⟩, ⟨by (with_reducible repeat (first | apply Kd.V_alloc | apply Kd.V_drewN | apply Kd.V_drew)); exact Kd.V_mono HO108.out (fun _ hk => ⟨hk.2, hk.1.2⟩)⟩, ⟨by (with_reducible repeat (first | apply Kd.R_alloc | apply Kd.R_drewN | apply Kd.R_drew)); exact Kd.R_mono HO111.out (fun _ hk => hk.2)⟩, ⟨zB HB.out⟩⟩
 clear H'
 (try clear c4b0);(try clear c5b0);(try clear c11);(try clear c11b0);(try clear c11b1);(try clear c12);(try clear c12b0);(try clear c12b1);(try clear hx101_0);(try clear p101);(try clear q101)
 obtain ⟨x4_1, x7_1, x8_1, x10_1, rfl, HA, HK1, HO_4, HO_7, HO_8, HB⟩ := hrel
 have hl7_1 := (Kd.V_reads' HO_7.out).1
 rw [hl7_1] at HO_7
 (try simp only [hl7_1])
 (try simp only [hl7_1] at HO_4)
 (try simp only [hl7_1] at HO_8)
 have hl8_1 := (Kd.R_reads' HO_8.out).1
 rw [hl8_1] at HO_8
 (try simp only [hl8_1])
 (try simp only [hl8_1] at HO_4)
 (try simp only [hl8_1] at HO_7)
 cases gk with | zero => exact absurd HA.out (by simp [nat_long.l0]) | succ k1 => ?_
 have H := HA.out
 clear HA
 simp only [nat_long.l0] at H
 replace H := zi H
 rcases H with ⟨c21, H⟩ | ⟨c21, H⟩
 · have c21b0 : decide (0 ≤ x10_1) = true := decide_eq_true c21
   clear c21
   replace H := zg H
   obtain ⟨c22, H⟩ := H
   have c22b0 := eq_true c22
   have c22b1 := decide_eq_true c22
   clear c22
   replace H := zg H
   obtain ⟨c23, H⟩ := H
   have c23b0 := eq_true c23
   have c23b1 := decide_eq_true c23
   replace H := zg H
   obtain ⟨c24, H⟩ := H
   have c24b0 := eq_true c24
   have c24b1 := decide_eq_true c24
   obtain ⟨y115, hy115⟩ : ∃ y_ : List Int, y_ = ((x8_1.take ((wrap64 ((wrap64 (x10_1 + (t106.length : Int))) + 1)) : Int).toNat).drop (x10_1 : Int).toNat) := ⟨_, rfl⟩
   replace H : ((nat_step.f k1 y115 x7_1).bind fun bt119 => (if x10_1 < (x4_1.length : Int) then (nat_long.l0 k1 (x4_1.set (x10_1 : Int).toNat bt119.1) t102 x7_1 (x8_1.take (x10_1 : Int).toNat ++ (bt119.2 ++ x8_1.drop ((wrap64 ((wrap64 (x10_1 + (t106.length : Int))) + 1)) : Int).toNat)) (t106.length : Int) (wrap64 (x10_1 - 1))) else (none))) = some (r1, r2) := zY hy115 H
   have Ny115 := Aside0.mk hy115
   clear hy115
   replace H := zb H
   obtain ⟨⟨t119, t120⟩, A25, H⟩ := H
   dsimp only at H
   replace H := zg H
   obtain ⟨c26, H⟩ := H
   have c26b0 := decide_eq_true c26
   (try (have c26h0 := c26b0; simp only [hl7_1, hl8_1] at c26h0))
   clear c26
   obtain ⟨y121, hy121⟩ : ∃ y_ : List Int, y_ = (x4_1.set (x10_1 : Int).toNat t119) := ⟨_, rfl⟩
   replace H : (nat_long.l0 k1 y121 t102 x7_1 (x8_1.take (x10_1 : Int).toNat ++ (t120 ++ x8_1.drop ((wrap64 ((wrap64 (x10_1 + (t106.length : Int))) + 1)) : Int).toNat)) (t106.length : Int) (wrap64 (x10_1 - 1))) = some (r1, r2) := zY hy121 H
   obtain ⟨y8, hy8⟩ : ∃ y_ : List Int, y_ = (x8_1.take (x10_1 : Int).toNat ++ (t120 ++ x8_1.drop ((wrap64 ((wrap64 (x10_1 + (t106.length : Int))) + 1)) : Int).toNat)) := ⟨_, rfl⟩
   rw [← hy8] at H
   have Ny8 := Aside0.mk hy8
   clear hy8
   have Ny121 := Aside0.mk hy121
   clear hy121
   have H' := Aside0.mk H
   clear H
   have q28 : ((wrap64 ((wrap64 (x10_1 + (t106.length : Int))) + 1)) : Int) ≤ ((x8_1.length : Int) : Int) := zd
   obtain ⟨i028, hi028, _, hsz28, _⟩ := info_parts info97
   have hroom28 : x8_1.length ≤ co18 := (Kd.R_reads' HO_8.out).2.1
   have hC28 : Kd.C (Kd.int .u32) _ Ao18 x8_1.length x8_1 := (Kd.R_reads' HO_8.out).2.2
   have ql28 : (x10_1 : Int) ≤ ((wrap64 ((wrap64 (x10_1 + (t106.length : Int))) + 1)) : Int) := zd
   have q028 : (0 : Int) ≤ (x10_1 : Int) := zd
   have hcut28 := cut_mid (P := Try.prog) 29 97 .i64 .i64 Try.underlying29 hi028 1 hsz28 Ao18 x8_1.length co18 x10_1 (wrap64 ((wrap64 (x10_1 + (t106.length : Int))) + 1)) q028 ql28 q28 hroom28
   have hr28 := Kd.C_mid (lo := (x10_1 : Int).toNat) (hi := ((wrap64 ((wrap64 (x10_1 + (t106.length : Int))) + 1)) : Int).toNat) (c := co18) hC28 (by omega) (by omega) hroom28
   obtain ⟨A28, hA28⟩ : ∃ A1, A1 = (if co18 = (x10_1 : Int).toNat then Ao18 else (Ao18 : Option Addr).map (·.add ((x10_1 : Int).toNat * 1))) := ⟨_, rfl⟩
   obtain ⟨c28, hc28⟩ : ∃ c1, c1 = co18 - (x10_1 : Int).toNat := ⟨_, rfl⟩
   have hy28 : y115.length = ((wrap64 ((wrap64 (x10_1 + (t106.length : Int))) + 1)) : Int).toNat - (x10_1 : Int).toNat := (by rw [Ny115.out, List.length_drop, List.length_take] <;> omega)
   rw [show ((x8_1).take ((wrap64 ((wrap64 (x10_1 + (t106.length : Int))) + 1)) : Int).toNat).drop (x10_1 : Int).toNat = y115 from Ny115.out.symm] at hr28
   replace hr28 : Kd.C (Kd.int .u32) _ A28 y115.length y115 := (by rw [hA28]; exact hr28)
   rw [← hy28, ← hA28, ← hc28] at hcut28
   have HR118 := Aside0.mk hr28
   have HC118 := Aside0.mk (show y115.length ≤ c28 from by rw [hy28, hc28]; exact Nat.sub_le_sub_right (Nat.le_trans (by omega) hroom28) _)
   clear hr28 hC28 hroom28 hi028 hsz28 hc28
   have KY28 := Aside0.mk hy28
   have KA28 := Aside0.mk hA28
   clear hy28 hA28
   have KL28 := Aside0.mk (show ((wrap64 ((wrap64 (x10_1 + (t106.length : Int))) + 1)) : Int).toNat ≤ x8_1.length from by omega)
   have KM28 := Aside0.mk (show (x10_1 : Int).toNat ≤ ((wrap64 ((wrap64 (x10_1 + (t106.length : Int))) + 1)) : Int).toNat from by omega)
   replace q28 := eq_true q28
   (try simp only [hl7_1] at hcut28)
   have HP8 := Aside0.mk (nat_step.pos A25.out)
   obtain ⟨g8, cap8, e8, _, _, _, _⟩ := Kd.R_form HO_8.out (by have h1_ := HP8.out; have h2_ := KY28.out; have h3_ := KL28.out; omega)
   have HA18 : Aside0 (Ao18 = some ⟨g8, 0, none⟩) := ⟨by injection e8⟩
   clear e8
   go_wp2_with (first | ((with_reducible refine gC 140 ?_); refine zG (some 52) Try.func140 #[.slice A28 y115.length c28, .slice Ao17 x7_1.length co17] ?_; (with_reducible refine (nat_step.calls k1 g8 co18 (x8_1.take (x10_1 : Int).toNat) (x8_1.drop ((wrap64 ((wrap64 (x10_1 + (t106.length : Int))) + 1)) : Int).toNat) (fun k_ => some k_ = (.slice Ao18 x8_1.length co18 : Value).ownBlock) (.slice A28 y115.length c28) y115 _ _ x7_1 t119 t120 w _ ?side1 ?side2 ?side3 ?side4 A25.out).mono ?_); (case side1 => repeat (first | (with_reducible first | exact HB.out | apply below_alloc | apply pw_below_drewN | apply below_drew1) | exact HB.out)); (case side2 => exact Wn.make (Kd.R_tight rfl HO_8.out) HA18.out KA28.out HC118.out Ny115.out KM28.out KL28.out HP8.out); (case side3 => exact Kd.C_kept_ownV (HO_7.out) (fun k_ hk_ hs_ => (hk_.2) hs_)); (case side4 => exact (Kd.V_reads' HO_7.out).2.1); rintro e w29 ⟨rfl, hy0, hb, hkp⟩; refine ⟨_, rfl, ?_⟩; have n0_ := Aside0.mk (Kd.R_mono (ok' := fun k_ => some k_ ≠ (.slice Ao18 x8_1.length co18 : Value).ownBlock) (Kd.R_keptB (HO_4.out) hkp (fun k_ hk_ hs_ => (hk_) hs_)) (fun k_ hk_ => hk_.1)); have n1_ := Aside0.mk (Kd.V_mono (ok' := fun k_ => some k_ ≠ (v113 : Value).ownBlock ∧ some k_ ≠ (.slice Ao18 x8_1.length co18 : Value).ownBlock) (Kd.V_keptB (HO_7.out) hkp (fun k_ hk_ hs_ => (hk_.2) hs_)) (fun k_ hk_ => ⟨hk_.1.1, hk_.1.2⟩)); have n2_ : Aside0 (Kd.R (Kd.int .u32) 97 w29 w.heap.size _ (.slice Ao18 x8_1.length co18) y8) := Aside0.mk (by rw [Ny8.out]; exact Kd.R_reok rfl (Wn.back hy0 HA18.out (by have h1_ := (Wn.reads' hy0).1; have h2_ := KY28.out; have h3_ := KL28.out; have h4_ := KM28.out; rw [List.length_append, List.length_append, List.length_take, List.length_drop]; omega)) (fun k_ e_ => HO_8.out.1 k_ e_)); have n3_ := Aside0.mk (hb); clear HO_4; clear HO_7; clear HO_8; clear HB; have HO_4 := n0_; have HO_7 := n1_; have HO_8 := n2_; have HB := n3_; clear n0_ n1_ n2_ n3_; (try clear hb); (try clear hkp); (try clear hy0); have p27 : 0 ≤ (x10_1 : Int) := zd; have q27 : (x10_1 : Int) < ((x4_1.length : Int) : Int) := zd; obtain ⟨go27, co27, eo27, gb27, gl27, cl27, HG27⟩ := Kd.R_form HO_4.out (by omega); (first | cases eo27 | (injection eo27 with ea_ en_ ec_; (first | subst ea_ | (injection ea_ with ea_; subst ea_)); subst ec_; clear en_)); have GB27 := Aside0.mk gb27; have GG27 := Aside0.mk HG27; clear gb27 gl27 HG27; obtain ⟨hx27_0, hf27_0⟩ := Kd.R_celln 0 HO_4.out (x10_1 : Int) p27 q27; replace p27 := eq_true p27; replace q27 := eq_true q27; obtain ⟨hy30_, hz30_⟩ := Kd.R_celln 0 HO_4.out (x10_1 : Int) zd zd; have HP30 := Kd.R_putg HO_4.out (x10_1 : Int) t119) | ((with_reducible refine gate_store (t := 97) (p := 53) rfl ?_); refine store_event (t := 97) (p := 53) (v := ?vo_w31) (w1 := (w29.setCell ⟨go27, (x10_1 : Int).toNat, none⟩ (.int .u32 t119))) ?hg ?ho ?hn ?hr ?_; (case ho => rfl); (case hg => rfl); (case hn => rfl); (case hr => first | (go_simp; done) | (go_simp; rfl)); intro w31 hw; have hg : w29.grownBy w31 (some go27) := (by rw [hw]; exact HP30.2); have hp_ : Kd.R (Kd.int .u32) 97 w31 w.heap.size (fun k_ => some k_ ≠ (.slice Ao18 x8_1.length co18 : Value).ownBlock) (.slice (some ⟨go27, 0, none⟩) x4_1.length co27) y121 := (by rw [hw, Ny121.out]; exact HP30.1); clear HP30; replace HO_4 := Aside0.mk (hp_); replace HO_7 := Aside0.mk (Kd.V_afterv (v := (.slice (some ⟨go27, 0, none⟩) x4_1.length co27)) (v1 := (.slice (some ⟨go27, 0, none⟩) x4_1.length co27)) (ok := (fun k_ => some k_ ≠ (.slice Ao18 x8_1.length co18 : Value).ownBlock)) (by (with_reducible repeat (first | apply Kd.V_alloc | apply Kd.V_drewN | apply Kd.V_drew)); exact Kd.V_mono HO_7.out (fun _ hk => ⟨hk.2, hk.1⟩)) hg (.inl rfl)); replace HO_8 := Aside0.mk (Kd.R_after (v := (.slice (some ⟨go27, 0, none⟩) x4_1.length co27)) (v1 := (.slice (some ⟨go27, 0, none⟩) x4_1.length co27)) (ok := (fun _ => True)) (by (with_reducible repeat (first | apply Kd.R_alloc | apply Kd.R_drewN | apply Kd.R_drew)); exact Kd.R_mono HO_8.out (fun _ hk => ⟨trivial, hk⟩)) hg (.inl rfl)); replace HB := Aside0.mk ((by rw [hw]; exact below_set (HB.out) GB27.out : Below w.heap.size w w31)); clear hg hw hp_))
   (try simp only [← hl7_1, ← hl8_1])
   go_roundg k1
   case measure => have := HK1.out; omega
   case rel => exact ⟨(y121), (x7_1), (y8), (wrap64 (x10_1 - 1)), zF, H', ⟨zo1 HK1⟩, ⟨by (try simp only [hl7_1]); (try simp only [hl8_1]); (with_reducible repeat (first | apply Kd.R_alloc | apply Kd.R_drewN | apply Kd.R_drew)); exact HO_4.out⟩, ⟨by (try simp only [hl7_1]); (try simp only [hl8_1]); (with_reducible repeat (first | apply Kd.V_alloc | apply Kd.V_drewN | apply Kd.V_drew)); exact Kd.V_mono HO_7.out (fun _ hk => ⟨hk.2, hk.1⟩)⟩, ⟨by (try simp only [hl7_1]); (try simp only [hl8_1]); (with_reducible repeat (first | apply Kd.R_alloc | apply Kd.R_drewN | apply Kd.R_drew)); exact Kd.R_mono HO_8.out (fun _ hk => hk.2)⟩, ⟨zB HB.out⟩⟩
 have c21b0 : decide (0 ≤ x10_1) = false := decide_eq_false c21
 clear c21
 replace H := zg H
 obtain ⟨c32, H⟩ := H
 have c32b0 := eq_true c32
 have c32b1 := decide_eq_true c32
 clear c32
 replace H := zg H
 obtain ⟨c33, H⟩ := H
 have c33b0 := eq_true c33
 have c33b1 := decide_eq_true c33
 clear c33
 obtain ⟨y122, hy122⟩ : ∃ y_ : List Int, y_ = (List.replicate ((t106.length : Int) : Int).toNat 0) := ⟨_, rfl⟩
 replace H : (nat_long.l1 k1 x4_1 y122 t102 x8_1 (y122.length : Int) 0) = some (r1, r2) := zY hy122 H
 have Ny122 := Aside0.mk hy122
 clear hy122
 have H' := Aside0.mk H
 clear H
 (try simp only [← hl7_1])
 go_wp2_with (first | ((with_reducible refine gate_dst (N := 55) rfl ?_); refine Kd.R_make (Kd.int .u32) _ 97 rfl (N := 55) rfl 29 _ _ rfl (t106.length : Int) rfl rfl Try.underlying29 (.int .u32 0) 4 info97 rfl (by decide) (by omega) 0 (ok := fun _ => True) (okp := fun _ => True) rfl (fun _ hk => hk) trivial zd (Nat.le_trans (Nat.mul_le_mul_right _ (zd : (t106.length : Int).toNat ≤ 70368744177664)) (by omega)) (Below.refl _ _) (Nat.le_refl _) ?_; intro v123 w34 ho35 hb hg_ hnew_; clear hg_ hnew_; (first | rw [← Ny122.out] at ho35 | (simp only [Int.reduceToNat] at ho35; rw [← Ny122.out] at ho35)); replace HO_7 := yVe HO_7 ho35 hb; replace ho35 := yn ho35 HO_4; replace ho35 := yn ho35 HO_8; have HO124 := yRl ho35 HB; replace HO_4 := yRe HO_4 ho35 hb; replace HO_8 := yRe HO_8 ho35 hb; replace HB := yS HB hb; clear hb ho35; obtain ⟨Ao36, co36, rfl⟩ := Kd.R_slice HO124.out))
 go_loopg [58] k1 (fun kq v58 w' => ∃ (x5_2 : List Int) (x58_2 : Int), v58 = .int .i64 x58_2 ∧ Aside0 (nat_long.l1 kq x4_1 x5_2 t102 x8_1 (y122.length : Int) x58_2 = some (r1, r2)) ∧ Aside0 (kq ≤ k1) ∧ Aside0 (Kd.R (Kd.int .u32) 97 w' w.heap.size (fun k_ => some k_ ≠ ((.slice Ao36 y122.length co36) : Value).ownBlock ∧ some k_ ≠ ((.slice Ao18 x8_1.length co18) : Value).ownBlock) v113 x4_1) ∧ Aside0 (Kd.R (Kd.int .u32) 97 w' w.heap.size (fun k_ => some k_ ≠ (v113 : Value).ownBlock ∧ some k_ ≠ ((.slice Ao18 x8_1.length co18) : Value).ownBlock) (.slice Ao36 y122.length co36) x5_2) ∧ Aside0 (Kd.R (Kd.int .u32) 97 w' w.heap.size (fun k_ => some k_ ≠ (v113 : Value).ownBlock ∧ some k_ ≠ ((.slice Ao36 y122.length co36) : Value).ownBlock) (.slice Ao18 x8_1.length co18) x8_1) ∧ Aside0 (Below w.heap.size w w'))
 case atStart => exact ⟨(y122), (0), zF, H', ⟨Nat.le_refl _⟩, ⟨by (try simp only [hl7_1]); (try simp only [hl8_1]); (with_reducible repeat (first | apply Kd.R_alloc | apply Kd.R_drewN | apply Kd.R_drew)); exact Kd.R_mono HO_4.out (fun _ hk => ⟨hk.2, hk.1⟩)⟩, ⟨by (try simp only [hl7_1]); (try simp only [hl8_1]); (with_reducible repeat (first | apply Kd.R_alloc | apply Kd.R_drewN | apply Kd.R_drew)); exact Kd.R_mono HO124.out (fun _ hk => ⟨hk.1.2, hk.2⟩)⟩, ⟨by (try simp only [hl7_1]); (try simp only [hl8_1]); (with_reducible repeat (first | apply Kd.R_alloc | apply Kd.R_drewN | apply Kd.R_drew)); exact HO_8.out⟩, ⟨zB HB.out⟩⟩
 clear H'
 (try clear c4b0);(try clear c5b0);(try clear c11);(try clear c11b0);(try clear c11b1);(try clear c12);(try clear c12b0);(try clear c12b1);(try clear c21);(try clear c21b0);(try clear c22);(try clear c22b0);(try clear c22b1);(try clear c23);(try clear c23b0);(try clear c23b1);(try clear c24);(try clear c24b0);(try clear c24b1);(try clear c26);(try clear c26b0);(try clear p27);(try clear q27);(try clear q28);(try clear c32);(try clear c32b0);(try clear c32b1);(try clear c33);(try clear c33b0);(try clear c33b1);(try clear hx101_0);(try clear hx27_0);(try clear p101);(try clear q028);(try clear q101)
 obtain ⟨x5_2, x58_2, rfl, HA, HK2, HO_4, HO_5, HO_8, HB⟩ := hrel
 have hl5_2 := (Kd.R_reads' HO_5.out).1
 rw [hl5_2] at HO_5
 (try simp only [hl5_2])
 (try simp only [hl5_2] at HO_4)
 (try simp only [hl5_2] at HO_8)
 cases gk with | zero => exact absurd HA.out (by simp [nat_long.l1]) | succ k2 => ?_
 have H := HA.out
 clear HA
 simp only [nat_long.l1] at H
 replace H := zi H
 rcases H with ⟨c37, H⟩ | ⟨c37, H⟩
 · have c37b0 := decide_eq_true c37
   (try (have c37h0 := c37b0; simp only [hl7_1, hl8_1, hl5_2] at c37h0))
   clear c37
   replace H := zgd H
   obtain ⟨c38b0, H⟩ := H
   replace H := zg H
   obtain ⟨c39, H⟩ := H
   have c39b0 := decide_eq_true c39
   (try (have c39h0 := c39b0; simp only [hl7_1, hl8_1, hl5_2] at c39h0))
   clear c39
   obtain ⟨ji40, hji40⟩ : ∃ j_ : Int, (wrap64 (x58_2 + 1)) = j_ := ⟨_, rfl⟩
   replace H : (if 0 ≤ (ji40) then (if (ji40) < (x8_1.length : Int) then (if 0 ≤ t102 then (if x58_2 < (x5_2.length : Int) then (nat_long.l1 k2 x4_1 (x5_2.set (x58_2 : Int).toNat ((shr .u64 (Go.bits .or .u64 (IntKind.u64.wrap (rd x8_1 x58_2)) (IntKind.u64.wrap ((IntKind.u64.wrap (rd x8_1 (ji40))) * 4294967296))) t102) % 4294967296)) t102 x8_1 (y122.length : Int) ji40) else (none)) else (none)) else (none)) else (none)) = some (r1, r2) := by first | (rw [hji40] at H; exact H) | (simp only [hji40] at H ⊢; exact H)
   have hji40w : (IntKind.i64.wrap (x58_2 + 1)) = ji40 := (i64_w _).trans hji40
   replace H := zgd H
   obtain ⟨c41b0, H⟩ := H
   replace H := zg H
   obtain ⟨c42, H⟩ := H
   have c42b0 := decide_eq_true c42
   (try (have c42h0 := c42b0; simp only [hl7_1, hl8_1, hl5_2] at c42h0))
   clear c42
   replace H := zg H
   obtain ⟨c43, H⟩ := H
   have c43b0 := eq_true c43
   have c43b1 := decide_eq_true c43
   clear c43
   obtain ⟨ji44, hji44⟩ : ∃ j_ : Int, (shr .u64 (Go.bits .or .u64 (IntKind.u64.wrap (rd x8_1 x58_2)) (IntKind.u64.wrap ((IntKind.u64.wrap (rd x8_1 (ji40))) * 4294967296))) t102) = j_ := ⟨_, rfl⟩
   replace H : (if x58_2 < (x5_2.length : Int) then (nat_long.l1 k2 x4_1 (x5_2.set (x58_2 : Int).toNat ((ji44) % 4294967296)) t102 x8_1 (y122.length : Int) ji40) else (none)) = some (r1, r2) := by first | (rw [hji44] at H; exact H) | (simp only [hji44] at H ⊢; exact H)
   have hji44_ : ((Go.bits .or .u64 (IntKind.u64.wrap (rd x8_1 x58_2)) (IntKind.u64.wrap ((IntKind.u64.wrap (rd x8_1 (ji40))) * 4294967296))) / 2 ^ min t102.toNat 64) = ji44 := hji44
   have hji44z : t102 ≤ 64 → ((Go.bits .or .u64 (IntKind.u64.wrap (rd x8_1 x58_2)) (IntKind.u64.wrap ((IntKind.u64.wrap (rd x8_1 (ji40))) * 4294967296))) / 2 ^ t102.toNat) = ji44 := shr_small hji44
   replace H := zg H
   obtain ⟨c45, H⟩ := H
   have c45b0 := decide_eq_true c45
   (try (have c45h0 := c45b0; simp only [hl7_1, hl8_1, hl5_2] at c45h0))
   clear c45
   obtain ⟨y127, hy127⟩ : ∃ y_ : List Int, y_ = (x5_2.set (x58_2 : Int).toNat ((ji44) % 4294967296)) := ⟨_, rfl⟩
   replace H : (nat_long.l1 k2 x4_1 y127 t102 x8_1 (y122.length : Int) ji40) = some (r1, r2) := zY hy127 H
   have Ny127 := Aside0.mk hy127
   clear hy127
   have H' := Aside0.mk H
   clear H
   try go_wp2
   replace HO_4 := Aside0.mk (Kd.R_drew HO_4.out)
   replace HO_5 := Aside0.mk (Kd.R_drew HO_5.out)
   replace HO_8 := Aside0.mk (Kd.R_drew HO_8.out)
   replace HB := Aside0.mk (below_drew1 HB.out)
   have p125 : 0 ≤ (x58_2 : Int) := zd
   have q125 : x58_2 < (x8_1.length : Int) := zd
   obtain ⟨ad125, e125, hx125_0⟩ := Kd.at_int (Kd.R_reads' HO_8.out).2.2 x58_2 p125 q125
   cases e125
   replace p125 := eq_true p125
   replace q125 := eq_true q125
   have p126 : 0 ≤ ((ji40) : Int) := zd
   have q126 : (ji40) < (x8_1.length : Int) := zd
   obtain ⟨ad126, e126, hx126_0⟩ := Kd.at_int (Kd.R_reads' HO_8.out).2.2 (ji40) p126 q126
   obtain rfl : ad125 = ad126 := (by injection e126)
   replace p126 := eq_true p126
   replace q126 := eq_true q126
   have p46 : 0 ≤ (x58_2 : Int) := zd
   have q46 : (x58_2 : Int) < ((x5_2.length : Int) : Int) := zd
   obtain ⟨go46, co46, eo46, gb46, gl46, cl46, HG46⟩ := Kd.R_form HO_5.out (by omega)
   (first | cases eo46 | (injection eo46 with ea_ en_ ec_; (first | subst ea_ | (injection ea_ with ea_; subst ea_)); subst ec_; clear en_))
   have GB46 := Aside0.mk gb46
   have GG46 := Aside0.mk HG46
   clear gb46 gl46 HG46
   obtain ⟨hx46_0, hf46_0⟩ := Kd.R_celln 0 HO_5.out (x58_2 : Int) p46 q46
   replace p46 := eq_true p46
   replace q46 := eq_true q46
   have HP48 := Kd.R_putn HO_5.out (x58_2 : Int) ((ji44) % 4294967296)
   rw [← Ny127.out] at HP48
   have HQ48 := Aside0.mk HP48
   clear HP48
   refine start_ (n := 20) (S := fun w' => w'.cell? (ad125.add (x58_2).toNat) = some (.int .u32 (rd x8_1 x58_2)) ∧ w'.cell? (ad125.add ((ji40)).toNat) = some (.int .u32 (rd x8_1 (ji40)))) (ds := [19]) #[false, false, false, false, false, false, false, false, false, false, false, false, false, false, false, false, false, false, false, false] (by kernel_rfl) rfl rfl ⟨hx125_0, hx126_0⟩ (fun hHeld => ?_); refine with_tabW nat_long.tab14 nat_long.bits14 (fun HT_ HW_ => ?_)
   first | (generalize wr.drew = w47 at HO_4 HO_5 HO_8 HB GG46 HQ48 hf46_0 hx125_0 hx126_0 hx46_0 hHeld ⊢) | (generalize wr.drew = w47 at HO_4 HO_5 HO_8 HB GG46 HQ48 hf46_0 hx126_0 hx46_0 hHeld ⊢) | (generalize wr.drew = w47 at HO_4 HO_5 HO_8 HB GG46 HQ48 hf46_0 hx125_0 hx46_0 hHeld ⊢) | (generalize wr.drew = w47 at HO_4 HO_5 HO_8 HB GG46 HQ48 hf46_0 hx125_0 hx126_0 hHeld ⊢) | (generalize wr.drew = w47 at HO_4 HO_5 HO_8 HB GG46 HQ48 hf46_0 hx46_0 hHeld ⊢) | (generalize wr.drew = w47 at HO_4 HO_5 HO_8 HB GG46 HQ48 hf46_0 hx126_0 hHeld ⊢) | (generalize wr.drew = w47 at HO_4 HO_5 HO_8 HB GG46 HQ48 hf46_0 hx125_0 hHeld ⊢) | (generalize wr.drew = w47 at HO_4 HO_5 HO_8 HB GG46 HQ48 hf46_0 hHeld ⊢)
   refine zp (i := 0) (N := some 61) HT_ ?_
   refine zp (i := 1) (N := some 62) HT_ ?_
   refine zp (i := 2) (N := some 63) HT_ ?_
   refine zp (i := 3) (N := some 64) HT_ ?_
   refine zp (i := 4) (N := some 65) HT_ ?_
   refine zp (i := 7) (N := some 68) HT_ ?_
   refine zp (i := 8) (N := some 69) HT_ ?_
   refine zp (i := 9) (N := some 70) HT_ ?_
   refine zp (i := 10) (N := some 71) HT_ ?_
   refine zp (i := 15) (N := some 76) HT_ ?_
   refine take_ (i := 5) (N := some 66) (v := ?_) (a' := ?_) #[true, true, true, true, true, true, false, true, true, true, true, false, false, false, false, true, false, false, false, false] rfl rfl (take_ofW HT_.out HW_.out (by kernel_rfl)) (fun _ _ _ h => h) (Or.inl ⟨by rfl, ?_⟩) hHeld ?_ ?_
   rotate_left
   · rintro w' ⟨s0, s1⟩
     go_simp
     with_reducible rfl
   rotate_left
   · simp only [Act.put, List.setIfInBounds_toArray, List.set_cons_zero, List.set_cons_succ, i64_w, i32_w]
     rfl
   refine zp (i := 6) (N := some 67) HT_ ?_
   refine take_ (i := 11) (N := some 72) (v := ?_) (a' := ?_) #[true, true, true, true, true, true, true, true, true, true, true, true, false, false, false, true, false, false, false, false] rfl rfl (take_ofW HT_.out HW_.out (by kernel_rfl)) (fun _ _ _ h => h) (Or.inl ⟨by rfl, ?_⟩) hHeld ?_ ?_
   rotate_left
   · rintro w' ⟨s0, s1⟩
     go_simp
     with_reducible rfl
   rotate_left
   · simp only [Act.put, List.setIfInBounds_toArray, List.set_cons_zero, List.set_cons_succ, i64_w, i32_w]
     rfl
   refine zp (i := 12) (N := some 73) HT_ ?_
   refine zp (i := 13) (N := some 74) HT_ ?_
   refine zp (i := 14) (N := some 75) HT_ ?_
   refine zp (i := 16) (N := some 77) HT_ ?_
   refine zp (i := 17) (N := some 78) HT_ ?_
   refine zp (i := 18) (N := some 79) HT_ ?_
   refine last_ (i := 19) (N := none) #[true, true, true, true, true, true, true, true, true, true, true, true, true, true, true, true, true, true, true, true] rfl rfl (one_of HT_.out (by kernel_rfl)) (by decide) (fun K hK => ?_)
   refine skip_ (w1 := ?_) (by rfl) rfl ?_ ?_
   rotate_left
   · go_simp
     rfl
   refine hK.out _ _ ?_
   clear hK K
   refine done_ (done_of HT_.out (by kernel_rfl)) ?_
   try go_wp2
   (try simp only [← hl5_2])
   go_roundg k2
   case measure => have := HK1.out; have := HK2.out; omega
   case rel => exact ⟨(y127), (ji40), (by first | rfl | (simp; done) | (simp only [← hji40] <;> (first | rfl | simp)) | (simp [*]; done)), H', ⟨zo2 HK1 HK2⟩, ⟨by (try simp only [hl7_1]); (try simp only [hl8_1]); (try simp only [hl5_2]); (with_reducible repeat (first | apply Kd.R_alloc | apply Kd.R_drewN | apply Kd.R_drew)); exact Kd.R_mono (Kd.R_far (p := ⟨go46, (x58_2 : Int).toNat, none⟩) (Kd.R_mono HO_4.out (fun k_ hk => (⟨hk, fun e_ => hk.1 (by rw [e_]; rfl)⟩ : _ ∧ k_ ≠ go46))) (fun _ hk => hk.2) (.int .u32 ((ji44) % 4294967296))) (fun _ hk => ⟨hk.1.1, hk.1.2⟩)⟩, ⟨by (try simp only [hl7_1]); (try simp only [hl8_1]); (try simp only [hl5_2]); (with_reducible repeat (first | apply Kd.R_alloc | apply Kd.R_drewN | apply Kd.R_drew)); exact HQ48.out⟩, ⟨by (try simp only [hl7_1]); (try simp only [hl8_1]); (try simp only [hl5_2]); (with_reducible repeat (first | apply Kd.R_alloc | apply Kd.R_drewN | apply Kd.R_drew)); exact Kd.R_mono (Kd.R_far (p := ⟨go46, (x58_2 : Int).toNat, none⟩) (Kd.R_mono HO_8.out (fun k_ hk => (⟨hk, fun e_ => hk.2 (by rw [e_]; rfl)⟩ : _ ∧ k_ ≠ go46))) (fun _ hk => hk.2) (.int .u32 ((ji44) % 4294967296))) (fun _ hk => ⟨hk.1.1, hk.1.2⟩)⟩, ⟨zB1 HB.out GB46.out⟩⟩
 have c37b0 := decide_eq_false c37
 (try (have c37h0 := c37b0; simp only [hl7_1, hl8_1, hl5_2] at c37h0))
 clear c37
 simp only [Option.some.injEq, Prod.mk.injEq] at H
 obtain ⟨rfl, rfl⟩ := H
 go_wp2
 go_ret2
 exact ⟨_, _, by first | rfl | (simp [errW_none, errW_some] <;> rfl) | (simp only [← hji3, ← hji10]; first | rfl | (simp [errW_none, errW_some] <;> rfl)) | (simp [*, errW_none, errW_some] <;> rfl), by (with_reducible repeat (first | apply Kd.R_alloc | apply Kd.R_drewN | apply Kd.R_drew)); exact Kd.R_mono HO_4.out (fun _ hk => hk.1), by (with_reducible repeat (first | apply Kd.R_alloc | apply Kd.R_drewN | apply Kd.R_drew)); exact Kd.R_mono HO_5.out (fun _ hk => hk.1), zB HB.out⟩
set_option maxHeartbeats 8000000 in
set_option maxRecDepth 100000 in
theorem nat_DivMod.calls (k : Nat) (P0_ : Nat → Prop) (A0 : Option Addr) (c0 : Nat) (l0 : List Int) (P1_ : Nat → Prop) (A1 : Option Addr) (c1 : Nat) (l1 : List Int) (r1 : List Int) (r2 : List Int) (r3 : Int) (w : World) (hs0 : Kd.V (Kd.int .u32) 97 w w.heap.size (fun k_ => P0_ k_) (.slice A0 l0.length c0) l0) (hs1 : Kd.V (Kd.int .u32) 97 w w.heap.size (fun k_ => P1_ k_) (.slice A1 l1.length c1) l1) (h : nat_DivMod.f k l0 l1 = some (r1, r2, r3)) :
    Calls Try.prog 105 #[.slice A0 l0.length c0, .slice A1 l1.length c1] w fun e w' => ∃ v0_ v1_ : Value, e = .returned (.tuple #[v0_, v1_, .int .i64 r3]) ∧ Kd.V (Kd.int .u32) 97 w' w.heap.size (fun k_ => ((P0_ k_ ∨ P1_ k_) ∨ w.heap.size ≤ k_) ∧ some k_ ≠ (v1_ : Value).ownBlock) v0_ r1 ∧ Kd.R (Kd.int .u32) 97 w' w.heap.size (fun k_ => (w.heap.size ≤ k_)) v1_ r2 ∧ Below w.heap.size w w' := by
 have HO0 := Aside0.mk (show Kd.V (Kd.int .u32) 97 w w.heap.size (fun k_ => ((P0_ k_ ∨ P1_ k_) ∨ w.heap.size ≤ k_)) (.slice A0 l0.length c0) l0 from Kd.V_mono hs0 (fun k_ hk => .inl (.inl hk)))
 have HO1 := Aside0.mk (show Kd.V (Kd.int .u32) 97 w w.heap.size (fun k_ => ((P0_ k_ ∨ P1_ k_) ∨ w.heap.size ≤ k_)) (.slice A1 l1.length c1) l1 from Kd.V_mono hs1 (fun k_ hk => .inl (.inr hk)))
 have HB := Aside0.mk (Below.refl w.heap.size w)
 have H : ((nat_short.f k l0).bind fun t101 => ((nat_short.f k l1).bind fun t104 => (if (t104.length : Int) = 0 then (some (([] : List Int), ([] : List Int), 7)) else ((nat_Cmp.f k t101 t104).bind fun t107 => (if t107 < 0 then ((nat_Trim.f k t101).bind fun t108 => (some (([] : List Int), t108, 0))) else (if (t104.length : Int) = 1 then (if 0 < (t104.length : Int) then ((nat_digit.f k t101 (rd t104 0)).bind fun bt112 => ((nat_Of.f k (IntKind.u64.wrap (bt112.2))).bind fun t116 => (some (bt112.1, t116, 0)))) else (none)) else ((nat_long.f k t101 t104).bind fun bt119 => ((nat_Trim.f k bt119.1).bind fun t125 => ((nat_Trim.f k bt119.2).bind fun t128 => (some (t125, t128, 0))))))))))) = some (r1, r2, r3) := h
 clear h
 replace H := zb H
 obtain ⟨t101, A3, H⟩ := H
 replace H := zb H
 obtain ⟨t104, A4, H⟩ := H
 replace H := zi H
 rcases H with ⟨c5, H⟩ | ⟨c5, H⟩
 · have c5b0 := beq_iff_eq.mpr c5
   have c5b1 := bne_eq_false_iff_eq.mpr c5
   clear c5
   simp only [Option.some.injEq, Prod.mk.injEq] at H
   obtain ⟨rfl, rfl, rfl⟩ := H
   go_enter Try.func105, Try.ntmps105
   go_wp2_with (first | ((with_reducible refine gC 118 ?_); refine zG (some 12) Try.func118 #[.slice A0 l0.length c0] ?_; (with_reducible refine (nat_short.calls k (fun k_ => ((P0_ k_ ∨ P1_ k_) ∨ w.heap.size ≤ k_)) _ _ l0 t101 _ ?side1 A3.out).mono ?_); (case side1 => exact HO0.out); rintro e w6 ⟨v102, rfl, ho0, hb⟩; refine ⟨_, rfl, ?_⟩; replace HO0 := yVb HO0 hb; replace HO1 := yVb HO1 hb; have HO103 := Aside0.mk (Kd.V_lower (Kd.V_mono (ok' := fun k_ => ((P0_ k_ ∨ P1_ k_) ∨ w.heap.size ≤ k_)) ho0 (fun k_ hk_ => Or.elim hk_ (fun hs_ => hs_) (fun hn_ => (.inr (Nat.le_trans (below_size (zB HB.out)) hn_))))) (below_size (zB HB.out))); replace HB := yS HB hb; (try clear hb ho0)) | ((with_reducible refine gC 118 ?_); refine zG (some 14) Try.func118 #[.slice A1 l1.length c1] ?_; (with_reducible refine (nat_short.calls k (fun k_ => ((P0_ k_ ∨ P1_ k_) ∨ w.heap.size ≤ k_)) _ _ l1 t104 _ ?side1 A4.out).mono ?_); (case side1 => exact HO1.out); rintro e w7 ⟨v105, rfl, ho0, hb⟩; refine ⟨_, rfl, ?_⟩; replace HO0 := yVb HO0 hb; replace HO1 := yVb HO1 hb; replace HO103 := yVb HO103 hb; have HO106 := Aside0.mk (Kd.V_lower (Kd.V_mono (ok' := fun k_ => ((P0_ k_ ∨ P1_ k_) ∨ w.heap.size ≤ k_)) ho0 (fun k_ hk_ => Or.elim hk_ (fun hs_ => hs_) (fun hn_ => (.inr (Nat.le_trans (below_size (zB HB.out)) hn_))))) (below_size (zB HB.out))); replace HB := yS HB hb; (try clear hb ho0); obtain ⟨Ao8, co8, rfl⟩ := Kd.V_slice HO106.out))
   go_ret3
   exact ⟨_, _, zE, by exact Kd.V_nil _ _ _ _ _, z0, zB HB.out⟩
 have c5b0 := beq_eq_false_iff_ne.mpr c5
 have c5b1 := bne_iff_ne.mpr c5
 have c5b2 : ¬ (t104 = []) := fun h_ => c5 (by rw [h_]; rfl)
 replace H := zb H
 obtain ⟨t107, A9, H⟩ := H
 replace H := zid H
 rcases H with ⟨c10b0, H⟩ | ⟨c10b0, H⟩
 · replace H := zb H
   obtain ⟨t108, A11, H⟩ := H
   simp only [Option.some.injEq, Prod.mk.injEq] at H
   obtain ⟨rfl, rfl, rfl⟩ := H
   go_enter Try.func105, Try.ntmps105
   go_wp2_with (first | ((with_reducible refine gC 118 ?_); refine zG (some 12) Try.func118 #[.slice A0 l0.length c0] ?_; (with_reducible refine (nat_short.calls k (fun k_ => ((P0_ k_ ∨ P1_ k_) ∨ w.heap.size ≤ k_)) _ _ l0 t101 _ ?side1 A3.out).mono ?_); (case side1 => exact HO0.out); rintro e w12 ⟨v102, rfl, ho0, hb⟩; refine ⟨_, rfl, ?_⟩; replace HO0 := yVb HO0 hb; replace HO1 := yVb HO1 hb; have HO103 := Aside0.mk (Kd.V_lower (Kd.V_mono (ok' := fun k_ => ((P0_ k_ ∨ P1_ k_) ∨ w.heap.size ≤ k_)) ho0 (fun k_ hk_ => Or.elim hk_ (fun hs_ => hs_) (fun hn_ => (.inr (Nat.le_trans (below_size (zB HB.out)) hn_))))) (below_size (zB HB.out))); replace HB := yS HB hb; (try clear hb ho0)) | ((with_reducible refine gC 118 ?_); refine zG (some 14) Try.func118 #[.slice A1 l1.length c1] ?_; (with_reducible refine (nat_short.calls k (fun k_ => ((P0_ k_ ∨ P1_ k_) ∨ w.heap.size ≤ k_)) _ _ l1 t104 _ ?side1 A4.out).mono ?_); (case side1 => exact HO1.out); rintro e w13 ⟨v105, rfl, ho0, hb⟩; refine ⟨_, rfl, ?_⟩; replace HO0 := yVb HO0 hb; replace HO1 := yVb HO1 hb; replace HO103 := yVb HO103 hb; have HO106 := Aside0.mk (Kd.V_lower (Kd.V_mono (ok' := fun k_ => ((P0_ k_ ∨ P1_ k_) ∨ w.heap.size ≤ k_)) ho0 (fun k_ hk_ => Or.elim hk_ (fun hs_ => hs_) (fun hn_ => (.inr (Nat.le_trans (below_size (zB HB.out)) hn_))))) (below_size (zB HB.out))); replace HB := yS HB hb; (try clear hb ho0); obtain ⟨Ao14, co14, rfl⟩ := Kd.V_slice HO106.out; obtain ⟨Ao15, co15, rfl⟩ := Kd.V_slice HO103.out) | ((with_reducible refine gC 79 ?_); refine zG (some 22) Try.func79 #[.slice Ao15 t101.length co15, .slice Ao14 t104.length co14] ?_; (with_reducible refine (nat_Cmp.calls k _ _ t101 _ _ t104 t107 _ ?side1 ?side2 ?side3 ?side4 A9.out).mono ?_); (case side1 => exact zC (Kd.V_reads' HO103.out).2.2); (case side2 => exact (Kd.V_reads' HO103.out).2.1); (case side3 => exact zC (Kd.V_reads' HO106.out).2.2); (case side4 => exact (Kd.V_reads' HO106.out).2.1); rintro e w16 ⟨rfl, hb⟩; refine ⟨_, rfl, ?_⟩; replace HO0 := yVb HO0 hb; replace HO1 := yVb HO1 hb; replace HO103 := yVb HO103 hb; replace HO106 := yVb HO106 hb; replace HB := yS HB hb; (try clear hb); (try clear hb2); (try clear hk); (try clear hi)) | ((with_reducible refine gC 103 ?_); refine zG (some 25) Try.func103 #[.slice Ao15 t101.length co15] ?_; (with_reducible refine (nat_Trim.calls k _ _ t101 t108 _ ?side1 ?side2 A11.out).mono ?_); (case side1 => exact zC (Kd.V_reads' HO103.out).2.2); (case side2 => exact (Kd.V_reads' HO103.out).2.1); rintro e w17 ⟨v109, rfl, ho0, hb⟩; refine ⟨_, rfl, ?_⟩; replace HO0 := yVe HO0 ho0 hb; replace HO1 := yVe HO1 ho0 hb; replace HO103 := yVe HO103 ho0 hb; replace HO106 := yVe HO106 ho0 hb; replace ho0 := Kd.R_newM (M := fun k_ => (w.heap.size ≤ k_)) ho0 (below_size (zB HB.out)) (fun k_ h_ => h_); have HO110 := yRl ho0 HB; replace HB := yS HB hb; (try clear hb ho0)))
   go_ret3
   exact ⟨_, _, zE, by exact Kd.V_nil _ _ _ _ _, by (with_reducible repeat (first | apply Kd.R_alloc | apply Kd.R_drewN | apply Kd.R_drew)); exact Kd.R_mono HO110.out (fun _ hk => hk.1), zB HB.out⟩
 replace H := zi H
 rcases H with ⟨c18, H⟩ | ⟨c18, H⟩
 · have c18b0 := beq_iff_eq.mpr c18
   have c18b1 := bne_eq_false_iff_eq.mpr c18
   clear c18
   replace H := zg H
   obtain ⟨c19, H⟩ := H
   have c19b0 := decide_eq_true c19
   have c19b1 : decide (0 < t104.length) = true := decide_eq_true (by omega)
   clear c19
   replace H := zb H
   obtain ⟨⟨t112, t115⟩, A20, H⟩ := H
   dsimp only at H
   replace H := zb H
   obtain ⟨t116, A21, H⟩ := H
   simp only [Option.some.injEq, Prod.mk.injEq] at H
   obtain ⟨rfl, rfl, rfl⟩ := H
   go_enter Try.func105, Try.ntmps105
   go_wp2_with (first | ((with_reducible refine gC 118 ?_); refine zG (some 12) Try.func118 #[.slice A0 l0.length c0] ?_; (with_reducible refine (nat_short.calls k (fun k_ => ((P0_ k_ ∨ P1_ k_) ∨ w.heap.size ≤ k_)) _ _ l0 t101 _ ?side1 A3.out).mono ?_); (case side1 => exact HO0.out); rintro e w22 ⟨v102, rfl, ho0, hb⟩; refine ⟨_, rfl, ?_⟩; replace HO0 := yVb HO0 hb; replace HO1 := yVb HO1 hb; have HO103 := Aside0.mk (Kd.V_lower (Kd.V_mono (ok' := fun k_ => ((P0_ k_ ∨ P1_ k_) ∨ w.heap.size ≤ k_)) ho0 (fun k_ hk_ => Or.elim hk_ (fun hs_ => hs_) (fun hn_ => (.inr (Nat.le_trans (below_size (zB HB.out)) hn_))))) (below_size (zB HB.out))); replace HB := yS HB hb; (try clear hb ho0)) | ((with_reducible refine gC 118 ?_); refine zG (some 14) Try.func118 #[.slice A1 l1.length c1] ?_; (with_reducible refine (nat_short.calls k (fun k_ => ((P0_ k_ ∨ P1_ k_) ∨ w.heap.size ≤ k_)) _ _ l1 t104 _ ?side1 A4.out).mono ?_); (case side1 => exact HO1.out); rintro e w23 ⟨v105, rfl, ho0, hb⟩; refine ⟨_, rfl, ?_⟩; replace HO0 := yVb HO0 hb; replace HO1 := yVb HO1 hb; replace HO103 := yVb HO103 hb; have HO106 := Aside0.mk (Kd.V_lower (Kd.V_mono (ok' := fun k_ => ((P0_ k_ ∨ P1_ k_) ∨ w.heap.size ≤ k_)) ho0 (fun k_ hk_ => Or.elim hk_ (fun hs_ => hs_) (fun hn_ => (.inr (Nat.le_trans (below_size (zB HB.out)) hn_))))) (below_size (zB HB.out))); replace HB := yS HB hb; (try clear hb ho0); obtain ⟨Ao24, co24, rfl⟩ := Kd.V_slice HO106.out; obtain ⟨Ao25, co25, rfl⟩ := Kd.V_slice HO103.out) | ((with_reducible refine gC 79 ?_); refine zG (some 22) Try.func79 #[.slice Ao25 t101.length co25, .slice Ao24 t104.length co24] ?_; (with_reducible refine (nat_Cmp.calls k _ _ t101 _ _ t104 t107 _ ?side1 ?side2 ?side3 ?side4 A9.out).mono ?_); (case side1 => exact zC (Kd.V_reads' HO103.out).2.2); (case side2 => exact (Kd.V_reads' HO103.out).2.1); (case side3 => exact zC (Kd.V_reads' HO106.out).2.2); (case side4 => exact (Kd.V_reads' HO106.out).2.1); rintro e w26 ⟨rfl, hb⟩; refine ⟨_, rfl, ?_⟩; replace HO0 := yVb HO0 hb; replace HO1 := yVb HO1 hb; replace HO103 := yVb HO103 hb; replace HO106 := yVb HO106 hb; replace HB := yS HB hb; (try clear hb); (try clear hb2); (try clear hk); (try clear hi); have p111 : 0 ≤ (0 : Int) := (by omega); have q111 : 0 < (t104.length : Int) := zd; obtain ⟨ad111, e111, hx111_0⟩ := Kd.at_int (Kd.V_reads' HO106.out).2.2 0 p111 q111; cases e111; have qi111 : (0 < t104.length) = True := eq_true (by omega); (try rw [show ((0 : Int)).toNat = 0 from rfl] at hx111_0); (try rw [Addr.add_zero'] at hx111_0); replace p111 := eq_true p111; replace q111 := eq_true q111) | ((with_reducible refine gC 115 ?_); refine zG (some 35) Try.func115 #[.slice Ao25 t101.length co25, .int .u32 (rd t104 0)] ?_; (with_reducible refine (nat_digit.calls k _ _ t101 (rd t104 0) t112 t115 _ ?side1 ?side2 A20.out).mono ?_); (case side1 => exact zC (Kd.V_reads' HO103.out).2.2); (case side2 => exact (Kd.V_reads' HO103.out).2.1); rintro e w27 ⟨v113, rfl, ho0, hb⟩; refine ⟨_, rfl, ?_⟩; replace HO0 := yVb HO0 hb; replace HO1 := yVb HO1 hb; replace HO103 := yVb HO103 hb; replace HO106 := yVb HO106 hb; have HO114 := Aside0.mk (Kd.V_lower (Kd.V_mono (ok' := fun k_ => ((P0_ k_ ∨ P1_ k_) ∨ w.heap.size ≤ k_)) ho0 (fun k_ hk_ => (.inr (Nat.le_trans (below_size (zB HB.out)) hk_)))) (below_size (zB HB.out))); replace HB := yS HB hb; (try clear hb ho0)) | ((with_reducible refine gC 80 ?_); refine zG (some 41) Try.func80 #[.int .u64 (IntKind.u64.wrap (t115))] ?_; (with_reducible refine (nat_Of.calls k (IntKind.u64.wrap (t115)) t116 _ A21.out).mono ?_); rintro e w28 ⟨v117, rfl, ho0, hb⟩; refine ⟨_, rfl, ?_⟩; replace HO0 := yVe HO0 ho0 hb; replace HO1 := yVe HO1 ho0 hb; replace HO103 := yVe HO103 ho0 hb; replace HO106 := yVe HO106 ho0 hb; replace HO114 := yVe HO114 ho0 hb; replace ho0 := Kd.R_newM (M := fun k_ => (w.heap.size ≤ k_)) ho0 (below_size (zB HB.out)) (fun k_ h_ => h_); have HO118 := yRl ho0 HB; replace HB := yS HB hb; (try clear hb ho0)))
   go_ret3
   exact ⟨_, _, zE, zV HO114.out, by (with_reducible repeat (first | apply Kd.R_alloc | apply Kd.R_drewN | apply Kd.R_drew)); exact Kd.R_mono HO118.out (fun _ hk => hk.1), zB HB.out⟩
 have c18b0 := beq_eq_false_iff_ne.mpr c18
 have c18b1 := bne_iff_ne.mpr c18
 replace H := zb H
 obtain ⟨⟨t119, t120⟩, A29, H⟩ := H
 dsimp only at H
 replace H := zb H
 obtain ⟨t125, A30, H⟩ := H
 replace H := zb H
 obtain ⟨t128, A31, H⟩ := H
 simp only [Option.some.injEq, Prod.mk.injEq] at H
 obtain ⟨rfl, rfl, rfl⟩ := H
 go_enter Try.func105, Try.ntmps105
 go_wp2_with (first | ((with_reducible refine gC 118 ?_); refine zG (some 12) Try.func118 #[.slice A0 l0.length c0] ?_; (with_reducible refine (nat_short.calls k (fun k_ => ((P0_ k_ ∨ P1_ k_) ∨ w.heap.size ≤ k_)) _ _ l0 t101 _ ?side1 A3.out).mono ?_); (case side1 => exact HO0.out); rintro e w32 ⟨v102, rfl, ho0, hb⟩; refine ⟨_, rfl, ?_⟩; replace HO0 := yVb HO0 hb; replace HO1 := yVb HO1 hb; have HO103 := Aside0.mk (Kd.V_lower (Kd.V_mono (ok' := fun k_ => ((P0_ k_ ∨ P1_ k_) ∨ w.heap.size ≤ k_)) ho0 (fun k_ hk_ => Or.elim hk_ (fun hs_ => hs_) (fun hn_ => (.inr (Nat.le_trans (below_size (zB HB.out)) hn_))))) (below_size (zB HB.out))); replace HB := yS HB hb; (try clear hb ho0)) | ((with_reducible refine gC 118 ?_); refine zG (some 14) Try.func118 #[.slice A1 l1.length c1] ?_; (with_reducible refine (nat_short.calls k (fun k_ => ((P0_ k_ ∨ P1_ k_) ∨ w.heap.size ≤ k_)) _ _ l1 t104 _ ?side1 A4.out).mono ?_); (case side1 => exact HO1.out); rintro e w33 ⟨v105, rfl, ho0, hb⟩; refine ⟨_, rfl, ?_⟩; replace HO0 := yVb HO0 hb; replace HO1 := yVb HO1 hb; replace HO103 := yVb HO103 hb; have HO106 := Aside0.mk (Kd.V_lower (Kd.V_mono (ok' := fun k_ => ((P0_ k_ ∨ P1_ k_) ∨ w.heap.size ≤ k_)) ho0 (fun k_ hk_ => Or.elim hk_ (fun hs_ => hs_) (fun hn_ => (.inr (Nat.le_trans (below_size (zB HB.out)) hn_))))) (below_size (zB HB.out))); replace HB := yS HB hb; (try clear hb ho0); obtain ⟨Ao34, co34, rfl⟩ := Kd.V_slice HO106.out; obtain ⟨Ao35, co35, rfl⟩ := Kd.V_slice HO103.out) | ((with_reducible refine gC 79 ?_); refine zG (some 22) Try.func79 #[.slice Ao35 t101.length co35, .slice Ao34 t104.length co34] ?_; (with_reducible refine (nat_Cmp.calls k _ _ t101 _ _ t104 t107 _ ?side1 ?side2 ?side3 ?side4 A9.out).mono ?_); (case side1 => exact zC (Kd.V_reads' HO103.out).2.2); (case side2 => exact (Kd.V_reads' HO103.out).2.1); (case side3 => exact zC (Kd.V_reads' HO106.out).2.2); (case side4 => exact (Kd.V_reads' HO106.out).2.1); rintro e w36 ⟨rfl, hb⟩; refine ⟨_, rfl, ?_⟩; replace HO0 := yVb HO0 hb; replace HO1 := yVb HO1 hb; replace HO103 := yVb HO103 hb; replace HO106 := yVb HO106 hb; replace HB := yS HB hb; (try clear hb); (try clear hb2); (try clear hk); (try clear hi)) | ((with_reducible refine gC 129 ?_); refine zG (some 45) Try.func129 #[.slice Ao35 t101.length co35, .slice Ao34 t104.length co34] ?_; (with_reducible refine (nat_long.calls k _ _ t101 _ _ t104 t119 t120 _ ?side1 ?side2 ?side3 ?side4 A29.out).mono ?_); (case side1 => exact zC (Kd.V_reads' HO103.out).2.2); (case side2 => exact (Kd.V_reads' HO103.out).2.1); (case side3 => exact zC (Kd.V_reads' HO106.out).2.2); (case side4 => exact (Kd.V_reads' HO106.out).2.1); rintro e w37 ⟨v121, v123, rfl, ho0, ho1, hb⟩; refine ⟨_, rfl, ?_⟩; replace HO0 := yVt HO0 hb ho0 ho1; replace HO1 := yVt HO1 hb ho0 ho1; replace HO103 := yVt HO103 hb ho0 ho1; replace HO106 := yVt HO106 hb ho0 ho1; replace ho0 := Kd.R_newM (M := fun k_ => (w.heap.size ≤ k_)) ho0 (below_size (zB HB.out)) (fun k_ h_ => h_); have HO122 := yRl ho0 HB; replace ho1 := Kd.R_newM (M := fun k_ => (w.heap.size ≤ k_)) ho1 (below_size (zB HB.out)) (fun k_ h_ => h_); have HO124 := yRl ho1 HB; replace HB := yS HB hb; (try clear hb ho0); (try clear ho1); obtain ⟨Ao38, co38, rfl⟩ := Kd.R_slice HO122.out) | ((with_reducible refine gC 103 ?_); refine zG (some 49) Try.func103 #[.slice Ao38 t119.length co38] ?_; (with_reducible refine (nat_Trim.calls k _ _ t119 t125 _ ?side1 ?side2 A30.out).mono ?_); (case side1 => exact zC (Kd.R_reads' HO122.out).2.2); (case side2 => exact (Kd.R_reads' HO122.out).2.1); rintro e w39 ⟨v126, rfl, ho0, hb⟩; refine ⟨_, rfl, ?_⟩; replace HO0 := yVe HO0 ho0 hb; replace HO1 := yVe HO1 ho0 hb; replace HO103 := yVe HO103 ho0 hb; replace HO106 := yVe HO106 ho0 hb; replace ho0 := Kd.R_newM (M := fun k_ => (w.heap.size ≤ k_)) ho0 (below_size (zB HB.out)) (fun k_ h_ => h_); replace ho0 := yn ho0 HO122; replace ho0 := yn ho0 HO124; have HO127 := yRl ho0 HB; replace HO122 := yRe HO122 ho0 hb; replace HO124 := yRe HO124 ho0 hb; replace HB := yS HB hb; (try clear hb ho0); obtain ⟨Ao40, co40, rfl⟩ := Kd.R_slice HO124.out) | ((with_reducible refine gC 103 ?_); refine zG (some 51) Try.func103 #[.slice Ao40 t120.length co40] ?_; (with_reducible refine (nat_Trim.calls k _ _ t120 t128 _ ?side1 ?side2 A31.out).mono ?_); (case side1 => exact zC (Kd.R_reads' HO124.out).2.2); (case side2 => exact (Kd.R_reads' HO124.out).2.1); rintro e w41 ⟨v129, rfl, ho0, hb⟩; refine ⟨_, rfl, ?_⟩; replace HO0 := yVe HO0 ho0 hb; replace HO1 := yVe HO1 ho0 hb; replace HO103 := yVe HO103 ho0 hb; replace HO106 := yVe HO106 ho0 hb; replace ho0 := Kd.R_newM (M := fun k_ => (w.heap.size ≤ k_)) ho0 (below_size (zB HB.out)) (fun k_ h_ => h_); replace ho0 := yn ho0 HO122; replace ho0 := yn ho0 HO124; replace ho0 := yn ho0 HO127; have HO130 := yRl ho0 HB; replace HO122 := yRe HO122 ho0 hb; replace HO124 := yRe HO124 ho0 hb; replace HO127 := yRe HO127 ho0 hb; replace HB := yS HB hb; (try clear hb ho0)))
 go_ret3
 exact ⟨_, _, zE, Kd.V_mono (ok := fun k_ => (w.heap.size ≤ k_) ∧ some k_ ≠ (v129 : Value).ownBlock) (Kd.R_V (by (with_reducible repeat (first | apply Kd.R_alloc | apply Kd.R_drewN | apply Kd.R_drew)); exact Kd.R_mono HO127.out (fun _ hk => ⟨hk.1.1.1.1, hk.2⟩))) (fun k_ hk => by first | exact ⟨(.inr (hk.1)), hk.2⟩ | exact (.inr (hk))), by (with_reducible repeat (first | apply Kd.R_alloc | apply Kd.R_drewN | apply Kd.R_drew)); exact Kd.R_mono HO130.out (fun _ hk => hk.1.1.1.1), zB HB.out⟩
set_option maxHeartbeats 8000000 in
set_option maxRecDepth 100000 in
theorem nat_Gcd.calls (k : Nat) (A0 : Option Addr) (c0 : Nat) (l0 : List Int) (A1 : Option Addr) (c1 : Nat) (l1 : List Int) (r : List Int) (w : World) (hr0 : Kd.C (Kd.int .u32) w A0 l0.length l0) (hc0 : l0.length ≤ c0) (hr1 : Kd.C (Kd.int .u32) w A1 l1.length l1) (hc1 : l1.length ≤ c1) (h : nat_Gcd.f k l0 l1 = some r) :
    Calls Try.prog 108 #[.slice A0 l0.length c0, .slice A1 l1.length c1] w fun e w' => ∃ v0_ : Value, e = .returned (v0_) ∧ Kd.R (Kd.int .u32) 97 w' w.heap.size (fun _ => True) v0_ r ∧ Below w.heap.size w w' := by
 have HR0 := Aside0.mk hr0
 have HC0 := Aside0.mk hc0
 clear hr0 hc0
 have HR1 := Aside0.mk hr1
 have HC1 := Aside0.mk hc1
 clear hr1 hc1
 have HB := Aside0.mk (Below.refl w.heap.size w)
 have H : ((nat_short.f k l0).bind fun t101 => ((nat_short.f k l1).bind fun t104 => (nat_Gcd.l0 k t101 t104))) = some r := h
 clear h
 replace H := zb H
 obtain ⟨t101, A3, H⟩ := H
 replace H := zb H
 obtain ⟨t104, A4, H⟩ := H
 have H' := Aside0.mk H
 clear H
 go_enter Try.func108, Try.ntmps108
 go_wp2_with (first | ((with_reducible refine gC 118 ?_); refine zG (some 9) Try.func118 #[.slice A0 l0.length c0] ?_; (with_reducible refine (nat_short.calls k (fun k_ => k_ < w.heap.size) _ _ l0 t101 _ ?side1 A3.out).mono ?_); (case side1 => exact Kd.V_mk HC0.out (Kd.F_below (Kd.C_F (Kd.heap_int .u32) HR0.out) (zB HB.out))); rintro e w5 ⟨v102, rfl, ho0, hb⟩; refine ⟨_, rfl, ?_⟩; have HO103 := yVm ho0 HB; replace HB := yS HB hb; (try clear hb ho0)) | ((with_reducible refine gC 118 ?_); refine zG (some 11) Try.func118 #[.slice A1 l1.length c1] ?_; (with_reducible refine (nat_short.calls k (fun k_ => k_ < w.heap.size) _ _ l1 t104 _ ?side1 A4.out).mono ?_); (case side1 => exact Kd.V_mk HC1.out (Kd.F_below (Kd.C_F (Kd.heap_int .u32) HR1.out) (zB HB.out))); rintro e w6 ⟨v105, rfl, ho0, hb⟩; refine ⟨_, rfl, ?_⟩; replace HO103 := yVb HO103 hb; have HO106 := yVm ho0 HB; replace HB := yS HB hb; (try clear hb ho0)))
 go_loopg [0, 1] k (fun kq v0 v1 w' => ∃ (x0_1 : List Int) (x1_1 : List Int), Aside0 (nat_Gcd.l0 kq x0_1 x1_1 = some r) ∧ Aside0 (kq ≤ k) ∧ Aside0 (Kd.V (Kd.int .u32) 97 w' w.heap.size (fun _ => True) v0 x0_1) ∧ Aside0 (Kd.V (Kd.int .u32) 97 w' w.heap.size (fun _ => True) v1 x1_1) ∧ Aside0 (Below w.heap.size w w'))
 case atStart => exact ⟨(t101), (t104), H', ⟨Nat.le_refl _⟩, ⟨zV HO103.out⟩, ⟨zV HO106.out⟩, ⟨zB HB.out⟩⟩
 clear H'
 obtain ⟨x0_1, x1_1, HA, HK1, HO_0, HO_1, HB⟩ := hrel
 cases gk with | zero => exact absurd HA.out (by simp [nat_Gcd.l0]) | succ k1 => ?_
 have H := HA.out
 clear HA
 simp only [nat_Gcd.l0] at H
 replace H := zi H
 rcases H with ⟨c7, H⟩ | ⟨c7, H⟩
 · have c7b0 : decide (0 < (x1_1.length : Int)) = true := decide_eq_true c7
   have c7b1 : decide (0 < x1_1.length) = true := decide_eq_true (by omega)
   clear c7
   replace H := zb H
   obtain ⟨⟨t107, t110, t113⟩, A8, H⟩ := H
   dsimp only at H
   have H' := Aside0.mk H
   clear H
   obtain ⟨Ao9, co9, rfl⟩ := Kd.V_slice HO_1.out
   obtain ⟨Ao10, co10, rfl⟩ := Kd.V_slice HO_0.out
   go_wp2_with (first | ((with_reducible refine gC 105 ?_); refine zG (some 18) Try.func105 #[.slice Ao10 x0_1.length co10, .slice Ao9 x1_1.length co9] ?_; (with_reducible refine (nat_DivMod.calls k1 (fun k_ => True) _ _ x0_1 (fun k_ => True) _ _ x1_1 t107 t110 t113 _ ?side1 ?side2 A8.out).mono ?_); (case side1 => exact HO_0.out); (case side2 => exact HO_1.out); rintro e w11 ⟨v108, v111, rfl, ho0, ho1, hb⟩; refine ⟨_, rfl, ?_⟩; replace HO_0 := yVe HO_0 ho1 hb; replace HO_1 := yVe HO_1 ho1 hb; have HO109 := Aside0.mk (Kd.V_lower (Kd.V_mono (ok' := fun k_ => some k_ ≠ (v111 : Value).ownBlock) ho0 (fun k_ hk_ => hk_.2)) (below_size (zB HB.out))); have HO112 := yRm ho1 HB; replace HB := yS HB hb; (try clear hb ho0); (try clear ho1)))
   go_roundg k1
   case measure => have := HK1.out; omega
   case rel => exact ⟨(x1_1), (t110), H', ⟨zo1 HK1⟩, ⟨by (with_reducible repeat (first | apply Kd.V_alloc | apply Kd.V_drewN | apply Kd.V_drew)); exact Kd.V_mono HO_1.out (fun _ hk => trivial)⟩, ⟨Kd.R_V (zR HO112.out)⟩, ⟨zB HB.out⟩⟩
 have c7b0 : decide (0 < (x1_1.length : Int)) = false := decide_eq_false c7
 have c7b1 : decide (0 < x1_1.length) = false := decide_eq_false (by omega)
 clear c7
 replace H := zb H
 obtain ⟨t114, A12, H⟩ := H
 obtain rfl := Option.some.inj H
 obtain ⟨Ao13, co13, rfl⟩ := Kd.V_slice HO_1.out
 obtain ⟨Ao14, co14, rfl⟩ := Kd.V_slice HO_0.out
 go_wp2_with (first | ((with_reducible refine gC 103 ?_); refine zG (some 25) Try.func103 #[.slice Ao14 x0_1.length co14] ?_; (with_reducible refine (nat_Trim.calls k1 _ _ x0_1 t114 _ ?side1 ?side2 A12.out).mono ?_); (case side1 => exact zC (Kd.V_reads' HO_0.out).2.2); (case side2 => exact (Kd.V_reads' HO_0.out).2.1); rintro e w15 ⟨v115, rfl, ho0, hb⟩; refine ⟨_, rfl, ?_⟩; replace HO_0 := yVe HO_0 ho0 hb; replace HO_1 := yVe HO_1 ho0 hb; have HO116 := yRl ho0 HB; replace HB := yS HB hb; (try clear hb ho0)))
 go_ret
 exact ⟨_, zE, zR HO116.out, zB HB.out⟩
set_option maxHeartbeats 8000000 in
set_option maxRecDepth 100000 in
theorem rational_one.calls  (r : List Int) (w : World) (h : rational_one.f  = some r) :
    Calls Try.prog 141 #[] w fun e w' => ∃ v0_ : Value, e = .returned (v0_) ∧ Kd.R (Kd.int .u32) 97 w' w.heap.size (fun _ => True) v0_ r ∧ Below w.heap.size w w' := by
 have HB := Aside0.mk (Below.refl w.heap.size w)
 have H : (some (([1] : List Int))) = some r := h
 clear h
 obtain ⟨y101, hy101⟩ : ∃ y_ : List Int, y_ = (([1] : List Int)) := ⟨_, rfl⟩
 replace H : (some y101) = some r := zY hy101 H
 have Ny101 := Aside0.mk hy101
 clear hy101
 obtain rfl := Option.some.inj H
 go_enter Try.func141, Try.ntmps141
 go_wp2_with (first | ((with_reducible refine gate_dst (N := 1) rfl ?_); refine Kd.R_lit (Kd.int .u32) _ 97 ?hg (N := 1) ?hd (xs := ([1] : List Int)) (inner := [.int .u32 1]) (ok := fun _ => True) (okp := fun _ => True) ?hr ?hp (fun _ hk => hk) trivial (Below.refl _ _) (Nat.le_refl _) (by simp) ?_; (case hd => rfl); (case hg => rfl); (case hr => first | (go_simp; done) | (go_simp; rfl)); (case hp => exact (Reps.one (show Kd.M (Kd.int .u32) _ _ _ 1 [.int .u32 1] from rfl) (Reps.none _ _))); intro v102 w1 ho2 hb hg_ hnew_; clear hg_ hnew_; (first | rw [← Ny101.out] at ho2 | (simp only [Int.reduceToNat] at ho2; rw [← Ny101.out] at ho2)); have HO103 := yRl ho2 HB; replace HB := yS HB hb; clear hb ho2))
 go_ret
 exact ⟨_, zE, zR HO103.out, zB HB.out⟩
set_option maxHeartbeats 8000000 in
set_option maxRecDepth 100000 in
theorem rational_canonical.calls (k : Nat) (a0 : Bool) (P1_ : Nat → Prop) (A1 : Option Addr) (c1 : Nat) (l1 : List Int) (P2_ : Nat → Prop) (A2 : Option Addr) (c2 : Nat) (l2 : List Int) (r1 : Bool) (r2 : List Int) (r3 : List Int) (w : World) (hs1 : Kd.V (Kd.int .u32) 97 w w.heap.size (fun k_ => P1_ k_) (.slice A1 l1.length c1) l1) (hs2 : Kd.V (Kd.int .u32) 97 w w.heap.size (fun k_ => P2_ k_) (.slice A2 l2.length c2) l2) (h : rational_canonical.f k a0 l1 l2 = some (r1, r2, r3)) :
    Calls Try.prog 131 #[.bool a0, .slice A1 l1.length c1, .slice A2 l2.length c2] w fun e w' => ∃ v1_ v2_ : Value, e = .returned (.agg #[.bool r1, v1_, v2_]) ∧ Kd.V (Kd.int .u32) 97 w' w.heap.size (fun k_ => ((P1_ k_ ∨ P2_ k_) ∨ w.heap.size ≤ k_)) v1_ r2 ∧ Kd.V (Kd.int .u32) 97 w' w.heap.size (fun k_ => ((P1_ k_ ∨ P2_ k_) ∨ w.heap.size ≤ k_)) v2_ r3 ∧ Below w.heap.size w w' := by
 have hu60 := Try.underlying60
 have HO1 := Aside0.mk (show Kd.V (Kd.int .u32) 97 w w.heap.size (fun k_ => ((P1_ k_ ∨ P2_ k_) ∨ w.heap.size ≤ k_)) (.slice A1 l1.length c1) l1 from Kd.V_mono hs1 (fun k_ hk => .inl (.inl hk)))
 have HO2 := Aside0.mk (show Kd.V (Kd.int .u32) 97 w w.heap.size (fun k_ => ((P1_ k_ ∨ P2_ k_) ∨ w.heap.size ≤ k_)) (.slice A2 l2.length c2) l2 from Kd.V_mono hs2 (fun k_ hk => .inl (.inr hk)))
 have HB := Aside0.mk (Below.refl w.heap.size w)
 have H : ((nat_Bits.f k l1).bind fun t102 => (if t102 = 0 then (rational_canonical.j0 k a0 l1 l2 true) else ((nat_Bits.f k l2).bind fun t103 => (rational_canonical.j0 k a0 l1 l2 (t103 == 0))))) = some (r1, r2, r3) := h
 clear h
 have HC4 := Aside0.mk H
 clear H
 go_enter Try.func131, Try.ntmps131
 go_upto_region 1 with (first | ((with_reducible refine gate_dst (N := 6) rfl ?_); refine box_event ?hg (N := 6) ?hd (cs := #[.bool false, .slice none 0 0, .slice none 0 0]) (t := 60) ?hr ?_; (case hd => rfl); (case hg => rfl); (case hr => first | (go_simp; done) | (go_simp; rfl)); intro gb101 hg w5 hbox hb; replace HO1 := yVB HO1 hg hb; replace HO2 := yVB HO2 hg hb; have BK101 := Aside0.mk (hbox); have GW101 := yg hg HB; have GE101 := yg hg HB; replace HB := yS HB hb; clear hb hbox hg))
 (try simp only [Act.put, List.setIfInBounds_toArray, List.set_cons_zero, List.set_cons_succ])
 go_cut [15] (fun v15 wc => ∃ (kq : Nat) (x15_3 : Bool), v15 = .bool x15_3 ∧ Aside0 (rational_canonical.j0 kq a0 l1 l2 x15_3 = some (r1, r2, r3)) ∧ Aside0 (kq ≤ k) ∧ Aside0 (Kd.V (Kd.int .u32) 97 wc w.heap.size (fun k_ => ((P1_ k_ ∨ P2_ k_) ∨ w.heap.size ≤ k_) ∧ k_ ≠ gb101) (.slice A1 l1.length c1) l1) ∧ Aside0 (Kd.V (Kd.int .u32) 97 wc w.heap.size (fun k_ => ((P1_ k_ ∨ P2_ k_) ∨ w.heap.size ≤ k_) ∧ k_ ≠ gb101) (.slice A2 l2.length c2) l2) ∧ Aside0 (wc.heap[gb101]? = some (.cells #[.bool false, (.slice none 0 0), (.slice none 0 0)] 60 (0, 0))) ∧ Aside0 (Below w.heap.size w wc))
 case first =>
  have H := HC4.out
  clear HC4
  replace H := zb H
  obtain ⟨t102, A6, H⟩ := H
  replace H := zi H
  rcases H with ⟨c7, H⟩ | ⟨c7, H⟩
  · have c7b0 := beq_iff_eq.mpr c7
    have c7b1 := bne_eq_false_iff_eq.mpr c7
    clear c7
    (first | rw [c7b0] | (simp only [i64_w, i32_w]; rw [c7b0]) | rw [c7b1] | skip)
    have H' := Aside0.mk H
    clear H
    go_wp2_with (first | ((with_reducible refine gC 87 ?_); refine zG (some 9) Try.func87 #[.slice A1 l1.length c1] ?_; (with_reducible refine (nat_Bits.calls k _ _ l1 t102 _ ?side1 ?side2 A6.out).mono ?_); (case side1 => exact zC (Kd.V_reads' HO1.out).2.2); (case side2 => exact (Kd.V_reads' HO1.out).2.1); rintro e w8 ⟨rfl, hb⟩; refine ⟨_, rfl, ?_⟩; replace HO1 := yVb HO1 hb; replace HO2 := yVb HO2 hb; replace BK101 := yK BK101 hb; replace HB := yS1 HB GE101 hb; (try clear hb); (try clear hb2); (try clear hk); (try clear hi)))
    go_meet
    case rel => exact ⟨_, (true), zF, H', ⟨zO⟩, ⟨zV HO1.out⟩, ⟨zV HO2.out⟩, ⟨by (with_reducible repeat (first | refine blk_drewN ?_ _ | refine blk_drew ?_ | refine blk_alloc ?_ _)); exact BK101.out⟩, ⟨zB1 HB.out GE101.out⟩⟩
  have c7b0 := beq_eq_false_iff_ne.mpr c7
  have c7b1 := bne_iff_ne.mpr c7
  (first | rw [c7b0] | (simp only [i64_w, i32_w]; rw [c7b0]) | rw [c7b1] | skip)
  replace H := zb H
  obtain ⟨t103, A9, H⟩ := H
  have H' := Aside0.mk H
  clear H
  go_wp2_with (first | ((with_reducible refine gC 87 ?_); refine zG (some 9) Try.func87 #[.slice A1 l1.length c1] ?_; (with_reducible refine (nat_Bits.calls k _ _ l1 t102 _ ?side1 ?side2 A6.out).mono ?_); (case side1 => exact zC (Kd.V_reads' HO1.out).2.2); (case side2 => exact (Kd.V_reads' HO1.out).2.1); rintro e w10 ⟨rfl, hb⟩; refine ⟨_, rfl, ?_⟩; replace HO1 := yVb HO1 hb; replace HO2 := yVb HO2 hb; replace BK101 := yK BK101 hb; replace HB := yS1 HB GE101 hb; (try clear hb); (try clear hb2); (try clear hk); (try clear hi)) | (go_at_call 87; (with_reducible refine (nat_Bits.calls k _ _ l2 t103 _ ?side1 ?side2 A9.out).mono ?_); (case side1 => exact zC (Kd.V_reads' HO2.out).2.2); (case side2 => exact (Kd.V_reads' HO2.out).2.1); rintro e w11 ⟨rfl, hb⟩; replace HO1 := yVb HO1 hb; replace HO2 := yVb HO2 hb; replace BK101 := yK BK101 hb; replace HB := yS1 HB GE101 hb; (try clear hb); (try clear hb2); (try clear hk); (try clear hi)))
  go_meet
  case rel => exact ⟨_, ((t103 == 0)), zF, H', ⟨zO⟩, ⟨zV HO1.out⟩, ⟨zV HO2.out⟩, ⟨by (with_reducible repeat (first | refine blk_drewN ?_ _ | refine blk_drew ?_ | refine blk_alloc ?_ _)); exact BK101.out⟩, ⟨zB1 HB.out GE101.out⟩⟩
 clear HC4
 (try clear c7);(try clear c7b0);(try clear c7b1)
 obtain ⟨kq, x15_3, rfl, HA, HJ3, HO_1, HO_2, BK101, HB⟩ := hcut
 cases kq with | zero => exact absurd HA.out (by simp [rational_canonical.j0]) | succ kj3 => ?_
 have H := HA.out
 clear HA
 simp only [rational_canonical.j0] at H
 by_cases c12 : x15_3 = true
 · subst c12
   rw [if_pos rfl] at H
   replace H := zb H
   obtain ⟨t104, A13, H⟩ := H
   simp only [Option.some.injEq, Prod.mk.injEq] at H
   obtain ⟨rfl, rfl, rfl⟩ := H
   go_wp2_with (first | ((with_reducible refine gC 141 ?_); refine zG (some 16) Try.func141 #[] ?_; (with_reducible refine (rational_one.calls  t104 _ A13.out).mono ?_); rintro e w14 ⟨v105, rfl, ho0, hb⟩; refine ⟨_, rfl, ?_⟩; replace HO_1 := yVe HO_1 ho0 hb; replace HO_2 := yVe HO_2 ho0 hb; replace ho0 := Kd.R_newM (M := fun k_ => (w.heap.size ≤ k_)) ho0 (below_size (zB1 HB.out GE101.out)) (fun k_ h_ => h_); have HO106 := yRl1 ho0 HB GE101; replace BK101 := yK BK101 hb; replace HB := yS1 HB GE101 hb; (try clear hb ho0); obtain ⟨Ao15, co15, rfl⟩ := Kd.R_slice HO106.out; obtain ⟨hcz16_0, hcz16_1, hcz16_2, hfz16_0, hfz16_1, hfz16_2⟩ := zz3 BK101))
   refine bodyPost_ret (results_cell_row rfl _ _ gb101 60 #[.bool false, .slice none 0 0, .slice Ao15 t104.length co15] (0, 0) _ rfl (zP3 BK101.out) Try.underlying60 rfl (by kernel_rfl)) rfl ?_
   exact ⟨_, _, zE, by exact Kd.V_nil _ _ _ _ _, Kd.V_mono (Kd.R_V (by (with_reducible repeat (first | apply Kd.R_alloc | apply Kd.R_drewN | apply Kd.R_drew)); exact yf HO106.out BK101.out (fun _ hk => hk.1.1))) (fun k_ hk => by first | exact ⟨(.inr (hk.1)), hk.2⟩ | exact (.inr (hk))), zB1 HB.out GE101.out⟩
 replace c12 := Bool.eq_false_iff.mpr c12
 subst c12
 rw [if_neg Bool.false_ne_true] at H
 replace H := zb H
 obtain ⟨t107, A17, H⟩ := H
 replace H := zb H
 obtain ⟨⟨t110, t113, t116⟩, A18, H⟩ := H
 dsimp only at H
 replace H := zb H
 obtain ⟨⟨t117, t120, t123⟩, A19, H⟩ := H
 dsimp only at H
 simp only [Option.some.injEq, Prod.mk.injEq] at H
 obtain ⟨rfl, rfl, rfl⟩ := H
 go_wp2_with (first | ((with_reducible refine gC 108 ?_); refine zG (some 20) Try.func108 #[.slice A1 l1.length c1, .slice A2 l2.length c2] ?_; (with_reducible refine (nat_Gcd.calls kj3 _ _ l1 _ _ l2 t107 _ ?side1 ?side2 ?side3 ?side4 A17.out).mono ?_); (case side1 => exact zC (Kd.V_reads' HO_1.out).2.2); (case side2 => exact (Kd.V_reads' HO_1.out).2.1); (case side3 => exact zC (Kd.V_reads' HO_2.out).2.2); (case side4 => exact (Kd.V_reads' HO_2.out).2.1); rintro e w20 ⟨v108, rfl, ho0, hb⟩; refine ⟨_, rfl, ?_⟩; replace HO_1 := yVe HO_1 ho0 hb; replace HO_2 := yVe HO_2 ho0 hb; replace ho0 := Kd.R_newM (M := fun k_ => (w.heap.size ≤ k_)) ho0 (below_size (zB1 HB.out GE101.out)) (fun k_ h_ => h_); have HO109 := yRl1 ho0 HB GE101; replace BK101 := yK BK101 hb; replace HB := yS1 HB GE101 hb; (try clear hb ho0); obtain ⟨Ao21, co21, rfl⟩ := Kd.R_slice HO109.out) | ((with_reducible refine gC 105 ?_); refine zG (some 24) Try.func105 #[.slice A1 l1.length c1, .slice Ao21 t107.length co21] ?_; (with_reducible refine (nat_DivMod.calls kj3 (fun k_ => ((((P1_ k_ ∨ P2_ k_) ∨ w.heap.size ≤ k_) ∧ k_ ≠ gb101) ∧ some k_ ≠ (.slice Ao21 t107.length co21 : Value).ownBlock)) _ _ l1 (fun k_ => some k_ = (.slice Ao21 t107.length co21 : Value).ownBlock) _ _ t107 t110 t113 t116 _ ?side1 ?side2 A18.out).mono ?_); (case side1 => exact HO_1.out); (case side2 => exact Kd.R_V (Kd.R_tight rfl (Kd.R_types (HO109.out) BK101.out (by decide)))); rintro e w22 ⟨v111, v114, rfl, ho0, ho1, hb⟩; refine ⟨_, rfl, ?_⟩; replace HO_1 := yVe HO_1 ho1 hb; replace HO_2 := yVe HO_2 ho1 hb; have HO112 := Aside0.mk (Kd.V_lower (Kd.V_mono (ok' := fun k_ => ((P1_ k_ ∨ P2_ k_) ∨ w.heap.size ≤ k_) ∧ some k_ ≠ (v114 : Value).ownBlock ∧ k_ ≠ gb101) ho0 (fun k_ hk_ => ⟨Or.elim hk_.1 (fun hs_ => Or.elim hs_ (fun hs_ => hs_.1.1) (fun hs_ => (.inr (((Kd.R_types (HO109.out) BK101.out (by decide)).1 k_ hs_.symm).1.1)))) (fun hn_ => (.inr (Nat.le_trans (below_size (zB1 HB.out GE101.out)) hn_))), hk_.2, Or.elim hk_.1 (fun hs_ => Or.elim hs_ (fun hs_ => hs_.1.2) (fun hs_ => ((Kd.R_types (HO109.out) BK101.out (by decide)).1 k_ hs_.symm).2)) (fun hn_ => (Kd.freshB (g := gb101) (o := .cells #[.bool false, .slice none 0 0, .slice none 0 0] 60 (0, 0)) (by (with_reducible repeat (first | refine blk_drewN ?_ _ | refine blk_drew ?_ | refine blk_alloc ?_ _)); exact BK101.out) k_ hn_))⟩)) (below_size (zB1 HB.out GE101.out))); replace ho1 := Kd.R_newM (M := fun k_ => (w.heap.size ≤ k_)) (yt ho1) (below_size (zB1 HB.out GE101.out)) (fun k_ h_ => h_); replace ho1 := yn ho1 HO109; have HO115 := yRl1 ho1 HB GE101; replace HO109 := yRe HO109 ho1 hb; replace BK101 := yK BK101 hb; replace HB := yS1 HB GE101 hb; (try clear hb ho0); (try clear ho1)) | ((with_reducible refine gC 105 ?_); refine zG (some 31) Try.func105 #[.slice A2 l2.length c2, .slice Ao21 t107.length co21] ?_; (with_reducible refine (nat_DivMod.calls kj3 (fun k_ => (((((P1_ k_ ∨ P2_ k_) ∨ w.heap.size ≤ k_) ∧ k_ ≠ gb101) ∧ some k_ ≠ (.slice Ao21 t107.length co21 : Value).ownBlock) ∧ some k_ ≠ (v114 : Value).ownBlock)) _ _ l2 (fun k_ => some k_ = (.slice Ao21 t107.length co21 : Value).ownBlock) _ _ t107 t117 t120 t123 _ ?side1 ?side2 A19.out).mono ?_); (case side1 => exact HO_2.out); (case side2 => exact Kd.R_V (Kd.R_tight rfl (Kd.R_types (HO109.out) BK101.out (by decide)))); rintro e w23 ⟨v118, v121, rfl, ho0, ho1, hb⟩; refine ⟨_, rfl, ?_⟩; replace HO_1 := yVe HO_1 ho1 hb; replace HO_2 := yVe HO_2 ho1 hb; replace HO112 := yVe HO112 ho1 hb; have HO119 := Aside0.mk (Kd.V_lower (Kd.V_mono (ok' := fun k_ => ((P1_ k_ ∨ P2_ k_) ∨ w.heap.size ≤ k_) ∧ some k_ ≠ (v121 : Value).ownBlock ∧ some k_ ≠ (v114 : Value).ownBlock ∧ k_ ≠ gb101) ho0 (fun k_ hk_ => ⟨Or.elim hk_.1 (fun hs_ => Or.elim hs_ (fun hs_ => hs_.1.1.1) (fun hs_ => (.inr (((Kd.R_types (HO109.out) BK101.out (by decide)).1 k_ hs_.symm).1.1.1)))) (fun hn_ => (.inr (Nat.le_trans (below_size (zB1 HB.out GE101.out)) hn_))), hk_.2, Or.elim hk_.1 (fun hs_ => Or.elim hs_ (fun hs_ => hs_.2) (fun hs_ => ((Kd.R_types (HO109.out) BK101.out (by decide)).1 k_ hs_.symm).1.2)) (fun hn_ => (Kd.fresh' (Kd.R_lt (zR HO115.out)) k_ hn_)), Or.elim hk_.1 (fun hs_ => Or.elim hs_ (fun hs_ => hs_.1.1.2) (fun hs_ => ((Kd.R_types (HO109.out) BK101.out (by decide)).1 k_ hs_.symm).2)) (fun hn_ => (Kd.freshB (g := gb101) (o := .cells #[.bool false, .slice none 0 0, .slice none 0 0] 60 (0, 0)) (by (with_reducible repeat (first | refine blk_drewN ?_ _ | refine blk_drew ?_ | refine blk_alloc ?_ _)); exact BK101.out) k_ hn_))⟩)) (below_size (zB1 HB.out GE101.out))); replace ho1 := Kd.R_newM (M := fun k_ => (w.heap.size ≤ k_)) (yt ho1) (below_size (zB1 HB.out GE101.out)) (fun k_ h_ => h_); replace ho1 := yn ho1 HO109; replace ho1 := yn ho1 HO115; have HO122 := yRl1 ho1 HB GE101; replace HO109 := yRe HO109 ho1 hb; replace HO115 := yRe HO115 ho1 hb; replace BK101 := yK BK101 hb; replace HB := yS1 HB GE101 hb; (try clear hb ho0); (try clear ho1); obtain ⟨Ao24, co24, rfl⟩ := Kd.V_slice HO119.out; obtain ⟨Ao25, co25, rfl⟩ := Kd.V_slice HO112.out; obtain ⟨hcz26_0, hcz26_1, hcz26_2, hfz26_0, hfz26_1, hfz26_2⟩ := zz3 BK101))
 refine bodyPost_ret (results_cell_row rfl _ _ gb101 60 #[.bool a0, .slice Ao25 t110.length co25, .slice Ao24 t117.length co24] (0, 0) _ rfl (zP3 BK101.out) Try.underlying60 rfl (by kernel_rfl)) rfl ?_
 exact ⟨_, _, zE, by (with_reducible repeat (first | apply Kd.V_alloc | apply Kd.V_drewN | apply Kd.V_drew)); exact Kd.V_mono (Kd.V_far (p := ⟨gb101, 2, none⟩) (Kd.V_far (p := ⟨gb101, 1, none⟩) (Kd.V_far (p := ⟨gb101, 0, none⟩) (Kd.V_mono HO112.out (fun k_ hk => (⟨hk, hk.1.2.2⟩ : _ ∧ k_ ≠ gb101))) (fun _ hk => hk.2) (.bool a0)) (fun _ hk => hk.2) (.slice Ao25 t110.length co25)) (fun _ hk => hk.2) (.slice Ao24 t117.length co24)) (fun _ hk => hk.1.1.1), by (with_reducible repeat (first | apply Kd.V_alloc | apply Kd.V_drewN | apply Kd.V_drew)); exact Kd.V_mono (Kd.V_far (p := ⟨gb101, 2, none⟩) (Kd.V_far (p := ⟨gb101, 1, none⟩) (Kd.V_far (p := ⟨gb101, 0, none⟩) (Kd.V_mono HO119.out (fun k_ hk => (⟨hk, hk.2.2.2⟩ : _ ∧ k_ ≠ gb101))) (fun _ hk => hk.2) (.bool a0)) (fun _ hk => hk.2) (.slice Ao25 t110.length co25)) (fun _ hk => hk.2) (.slice Ao24 t117.length co24)) (fun _ hk => hk.1.1), zB1 HB.out GE101.out⟩
set_option maxHeartbeats 8000000 in
set_option maxRecDepth 100000 in
theorem rational_Trim.calls (k : Nat) (a0_0 : Bool) (P0_1_ : Nat → Prop) (A0_1 : Option Addr) (c0_1 : Nat) (l0_1 : List Int) (P0_2_ : Nat → Prop) (A0_2 : Option Addr) (c0_2 : Nat) (l0_2 : List Int) (r1 : Bool) (r2 : List Int) (r3 : List Int) (w : World) (hs0_1 : Kd.V (Kd.int .u32) 97 w w.heap.size (fun k_ => P0_1_ k_) (.slice A0_1 l0_1.length c0_1) l0_1) (hs0_2 : Kd.V (Kd.int .u32) 97 w w.heap.size (fun k_ => P0_2_ k_) (.slice A0_2 l0_2.length c0_2) l0_2) (h : rational_Trim.f k a0_0 l0_1 l0_2 = some (r1, r2, r3)) :
    Calls Try.prog 107 #[.agg #[.bool a0_0, .slice A0_1 l0_1.length c0_1, .slice A0_2 l0_2.length c0_2]] w fun e w' => ∃ v1_ v2_ : Value, e = .returned (.agg #[.bool r1, v1_, v2_]) ∧ Kd.V (Kd.int .u32) 97 w' w.heap.size (fun k_ => ((P0_1_ k_ ∨ P0_2_ k_) ∨ w.heap.size ≤ k_)) v1_ r2 ∧ Kd.V (Kd.int .u32) 97 w' w.heap.size (fun k_ => ((P0_1_ k_ ∨ P0_2_ k_) ∨ w.heap.size ≤ k_)) v2_ r3 ∧ Below w.heap.size w w' := by
 have hu60 := Try.underlying60
 have HO0_1 := Aside0.mk (show Kd.V (Kd.int .u32) 97 w w.heap.size (fun k_ => ((P0_1_ k_ ∨ P0_2_ k_) ∨ w.heap.size ≤ k_)) (.slice A0_1 l0_1.length c0_1) l0_1 from Kd.V_mono hs0_1 (fun k_ hk => .inl (.inl hk)))
 have HO0_2 := Aside0.mk (show Kd.V (Kd.int .u32) 97 w w.heap.size (fun k_ => ((P0_1_ k_ ∨ P0_2_ k_) ∨ w.heap.size ≤ k_)) (.slice A0_2 l0_2.length c0_2) l0_2 from Kd.V_mono hs0_2 (fun k_ hk => .inl (.inr hk)))
 have HB := Aside0.mk (Below.refl w.heap.size w)
 have H : ((rational_canonical.f k a0_0 l0_1 l0_2).bind fun bt103 => (some (bt103.1, bt103.2.1, bt103.2.2))) = some (r1, r2, r3) := h
 clear h
 replace H := zb H
 obtain ⟨⟨t103, t104, t107⟩, A2, H⟩ := H
 dsimp only at H
 simp only [Option.some.injEq, Prod.mk.injEq] at H
 obtain ⟨rfl, rfl, rfl⟩ := H
 go_enter Try.func107, Try.ntmps107
 go_wp2_with (first | ((with_reducible refine gate_dst (N := 1) rfl ?_); refine box_event ?hg (N := 1) ?hd (cs := #[.bool a0_0, .slice A0_1 l0_1.length c0_1, .slice A0_2 l0_2.length c0_2]) (t := 60) ?hr ?_; (case hd => rfl); (case hg => rfl); (case hr => first | (go_simp; done) | (go_simp; rfl)); intro gb101 hg w3 hbox hb; replace HO0_1 := yVB HO0_1 hg hb; replace HO0_2 := yVB HO0_2 hg hb; have BK101 := Aside0.mk (hbox); have GW101 := yg hg HB; have GE101 := yg hg HB; replace HB := yS HB hb; clear hb hbox hg) | ((with_reducible refine gate_dst (N := 2) rfl ?_); refine box_event ?hg (N := 2) ?hd (cs := #[.bool false, .slice none 0 0, .slice none 0 0]) (t := 60) ?hr ?_; (case hd => rfl); (case hg => rfl); (case hr => first | (go_simp; done) | (go_simp; rfl)); intro gb102 hg w4 hbox hb; replace HO0_1 := yVB HO0_1 hg hb; replace HO0_2 := yVB HO0_2 hg hb; have BK102 := Aside0.mk (hbox); have GW102 := yg1 hg HB GE101; have GE102 := yg1 hg HB GE101; replace HB := yS1 HB GE101 hb; have NB101_102 := ynl hg BK101; have NB102_101 := yng hg BK101; replace BK101 := yK BK101 hb; clear hb hbox hg; have hnb5 := NB101_102.out; have hnc5 := NB102_101.out; obtain ⟨hcz6_0, hcz6_1, hcz6_2, hfz6_0, hfz6_1, hfz6_2⟩ := zz3 BK101) | ((with_reducible refine gC 131 ?_); refine zG (some 9) Try.func131 #[.bool a0_0, .slice A0_1 l0_1.length c0_1, .slice A0_2 l0_2.length c0_2] ?_; (with_reducible refine (rational_canonical.calls k a0_0 (fun k_ => ((((P0_1_ k_ ∨ P0_2_ k_) ∨ w.heap.size ≤ k_) ∧ k_ ≠ gb101) ∧ k_ ≠ gb102)) _ _ l0_1 (fun k_ => ((((P0_1_ k_ ∨ P0_2_ k_) ∨ w.heap.size ≤ k_) ∧ k_ ≠ gb101) ∧ k_ ≠ gb102)) _ _ l0_2 t103 t104 t107 _ ?side1 ?side2 A2.out).mono ?_); (case side1 => exact HO0_1.out); (case side2 => exact HO0_2.out); rintro e w7 ⟨v105, v108, rfl, ho0, ho1, hb⟩; refine ⟨_, rfl, ?_⟩; replace HO0_1 := yVb HO0_1 hb; replace HO0_2 := yVb HO0_2 hb; have HO106 := Aside0.mk (Kd.V_lower (Kd.V_mono (ok' := fun k_ => ((P0_1_ k_ ∨ P0_2_ k_) ∨ w.heap.size ≤ k_) ∧ k_ ≠ gb101 ∧ k_ ≠ gb102) ho0 (fun k_ hk_ => ⟨Or.elim hk_ (fun hs_ => Or.elim hs_ (fun hs_ => hs_.1.1) (fun hs_ => hs_.1.1)) (fun hn_ => (.inr (Nat.le_trans (below_size (zB2 HB.out GE101.out GE102.out)) hn_))), Or.elim hk_ (fun hs_ => Or.elim hs_ (fun hs_ => hs_.1.2) (fun hs_ => hs_.1.2)) (fun hn_ => (Kd.freshB (g := gb101) (o := .cells #[.bool a0_0, .slice A0_1 l0_1.length c0_1, .slice A0_2 l0_2.length c0_2] 60 (0, 0)) (by (with_reducible repeat (first | refine blk_drewN ?_ _ | refine blk_drew ?_ | refine blk_alloc ?_ _)); exact BK101.out) k_ hn_)), Or.elim hk_ (fun hs_ => Or.elim hs_ (fun hs_ => hs_.2) (fun hs_ => hs_.2)) (fun hn_ => (Kd.freshB (g := gb102) (o := .cells #[.bool false, .slice none 0 0, .slice none 0 0] 60 (0, 0)) (by (with_reducible repeat (first | refine blk_drewN ?_ _ | refine blk_drew ?_ | refine blk_alloc ?_ _)); exact BK102.out) k_ hn_))⟩)) (below_size (zB2 HB.out GE101.out GE102.out))); have HO109 := Aside0.mk (Kd.V_lower (Kd.V_mono (ok' := fun k_ => ((P0_1_ k_ ∨ P0_2_ k_) ∨ w.heap.size ≤ k_) ∧ k_ ≠ gb101 ∧ k_ ≠ gb102) ho1 (fun k_ hk_ => ⟨Or.elim hk_ (fun hs_ => Or.elim hs_ (fun hs_ => hs_.1.1) (fun hs_ => hs_.1.1)) (fun hn_ => (.inr (Nat.le_trans (below_size (zB2 HB.out GE101.out GE102.out)) hn_))), Or.elim hk_ (fun hs_ => Or.elim hs_ (fun hs_ => hs_.1.2) (fun hs_ => hs_.1.2)) (fun hn_ => (Kd.freshB (g := gb101) (o := .cells #[.bool a0_0, .slice A0_1 l0_1.length c0_1, .slice A0_2 l0_2.length c0_2] 60 (0, 0)) (by (with_reducible repeat (first | refine blk_drewN ?_ _ | refine blk_drew ?_ | refine blk_alloc ?_ _)); exact BK101.out) k_ hn_)), Or.elim hk_ (fun hs_ => Or.elim hs_ (fun hs_ => hs_.2) (fun hs_ => hs_.2)) (fun hn_ => (Kd.freshB (g := gb102) (o := .cells #[.bool false, .slice none 0 0, .slice none 0 0] 60 (0, 0)) (by (with_reducible repeat (first | refine blk_drewN ?_ _ | refine blk_drew ?_ | refine blk_alloc ?_ _)); exact BK102.out) k_ hn_))⟩)) (below_size (zB2 HB.out GE101.out GE102.out))); replace BK101 := yK BK101 hb; replace BK102 := yK BK102 hb; replace HB := yS2 HB GE101 GE102 hb; (try clear hb ho0); (try clear ho1); obtain ⟨hcz8_0, hcz8_1, hcz8_2, hfz8_0, hfz8_1, hfz8_2⟩ := zz3 BK102; obtain ⟨Ao9, co9, rfl⟩ := Kd.V_slice HO106.out; obtain ⟨Ao10, co10, rfl⟩ := Kd.V_slice HO109.out))
 refine bodyPost_ret (results_cell_row rfl _ _ gb102 60 #[.bool t103, .slice Ao9 t104.length co9, .slice Ao10 t107.length co10] (0, 0) _ rfl (zP3 BK102.out) Try.underlying60 rfl (by kernel_rfl)) rfl ?_
 exact ⟨_, _, zE, by (with_reducible repeat (first | apply Kd.V_alloc | apply Kd.V_drewN | apply Kd.V_drew)); exact Kd.V_mono (Kd.V_far (p := ⟨gb102, 2, none⟩) (Kd.V_far (p := ⟨gb102, 1, none⟩) (Kd.V_far (p := ⟨gb102, 0, none⟩) (Kd.V_mono HO106.out (fun k_ hk => (⟨hk, hk.2.2⟩ : _ ∧ k_ ≠ gb102))) (fun _ hk => hk.2) (.bool t103)) (fun _ hk => hk.2) (.slice Ao9 t104.length co9)) (fun _ hk => hk.2) (.slice Ao10 t107.length co10)) (fun _ hk => hk.1.1), by (with_reducible repeat (first | apply Kd.V_alloc | apply Kd.V_drewN | apply Kd.V_drew)); exact Kd.V_mono (Kd.V_far (p := ⟨gb102, 2, none⟩) (Kd.V_far (p := ⟨gb102, 1, none⟩) (Kd.V_far (p := ⟨gb102, 0, none⟩) (Kd.V_mono HO109.out (fun k_ hk => (⟨hk, hk.2.2⟩ : _ ∧ k_ ≠ gb102))) (fun _ hk => hk.2) (.bool t103)) (fun _ hk => hk.2) (.slice Ao9 t104.length co9)) (fun _ hk => hk.2) (.slice Ao10 t107.length co10)) (fun _ hk => hk.1.1), zB2 HB.out GE101.out GE102.out⟩
set_option maxHeartbeats 8000000 in
set_option maxRecDepth 100000 in
theorem mw_ratio.calls (k : Nat) (a0_0 : Bool) (P0_1_ : Nat → Prop) (A0_1 : Option Addr) (c0_1 : Nat) (l0_1 : List Int) (P1_ : Nat → Prop) (A1 : Option Addr) (c1 : Nat) (l1 : List Int) (r1 : Bool) (r2 : List Int) (r3 : List Int) (w : World) (hs0_1 : Kd.V (Kd.int .u32) 97 w w.heap.size (fun k_ => P0_1_ k_) (.slice A0_1 l0_1.length c0_1) l0_1) (hs1 : Kd.V (Kd.int .u32) 97 w w.heap.size (fun k_ => P1_ k_) (.slice A1 l1.length c1) l1) (h : mw_ratio.f k a0_0 l0_1 l1 = some (r1, r2, r3)) :
    Calls Try.prog 93 #[.agg #[.bool a0_0, .slice A0_1 l0_1.length c0_1], .slice A1 l1.length c1] w fun e w' => ∃ v1_ v2_ : Value, e = .returned (.agg #[.bool r1, v1_, v2_]) ∧ Kd.V (Kd.int .u32) 97 w' w.heap.size (fun k_ => ((P0_1_ k_ ∨ P1_ k_) ∨ w.heap.size ≤ k_)) v1_ r2 ∧ Kd.V (Kd.int .u32) 97 w' w.heap.size (fun k_ => ((P0_1_ k_ ∨ P1_ k_) ∨ w.heap.size ≤ k_)) v2_ r3 ∧ Below w.heap.size w w' := by
 have hu113 := Try.underlying113
 have hu60 := Try.underlying60
 have HO0_1 := Aside0.mk (show Kd.V (Kd.int .u32) 97 w w.heap.size (fun k_ => ((P0_1_ k_ ∨ P1_ k_) ∨ w.heap.size ≤ k_)) (.slice A0_1 l0_1.length c0_1) l0_1 from Kd.V_mono hs0_1 (fun k_ hk => .inl (.inl hk)))
 have HO1 := Aside0.mk (show Kd.V (Kd.int .u32) 97 w w.heap.size (fun k_ => ((P0_1_ k_ ∨ P1_ k_) ∨ w.heap.size ≤ k_)) (.slice A1 l1.length c1) l1 from Kd.V_mono hs1 (fun k_ hk => .inl (.inr hk)))
 have HB := Aside0.mk (Below.refl w.heap.size w)
 have H : ((rational_Trim.f k a0_0 l0_1 l1).bind fun bt103 => (some (bt103.1, bt103.2.1, bt103.2.2))) = some (r1, r2, r3) := h
 clear h
 replace H := zb H
 obtain ⟨⟨t103, t104, t107⟩, A3, H⟩ := H
 dsimp only at H
 simp only [Option.some.injEq, Prod.mk.injEq] at H
 obtain ⟨rfl, rfl, rfl⟩ := H
 go_enter Try.func93, Try.ntmps93
 go_wp2_with (first | ((with_reducible refine gate_dst (N := 2) rfl ?_); refine box_event ?hg (N := 2) ?hd (cs := #[.bool a0_0, .slice A0_1 l0_1.length c0_1]) (t := 113) ?hr ?_; (case hd => rfl); (case hg => rfl); (case hr => first | (go_simp; done) | (go_simp; rfl)); intro gb101 hg w4 hbox hb; replace HO0_1 := yVB HO0_1 hg hb; replace HO1 := yVB HO1 hg hb; have BK101 := Aside0.mk (hbox); have GW101 := yg hg HB; have GE101 := yg hg HB; replace HB := yS HB hb; clear hb hbox hg) | ((with_reducible refine gate_dst (N := 4) rfl ?_); refine box_event ?hg (N := 4) ?hd (cs := #[.bool false, .slice none 0 0, .slice none 0 0]) (t := 60) ?hr ?_; (case hd => rfl); (case hg => rfl); (case hr => first | (go_simp; done) | (go_simp; rfl)); intro gb102 hg w5 hbox hb; replace HO0_1 := yVB HO0_1 hg hb; replace HO1 := yVB HO1 hg hb; have BK102 := Aside0.mk (hbox); have GW102 := yg1 hg HB GE101; have GE102 := yg1 hg HB GE101; replace HB := yS1 HB GE101 hb; have NB101_102 := ynl hg BK101; have NB102_101 := yng hg BK101; replace BK101 := yK BK101 hb; clear hb hbox hg; have hnb6 := NB101_102.out; have hnc6 := NB102_101.out; obtain ⟨hcz7_0, hcz7_1, hfz7_0, hfz7_1⟩ := zz2 BK101) | ((with_reducible refine gC 107 ?_); refine zG (some 11) Try.func107 #[.agg #[.bool a0_0, .slice A0_1 l0_1.length c0_1, .slice A1 l1.length c1]] ?_; (with_reducible refine (rational_Trim.calls k a0_0 (fun k_ => ((((P0_1_ k_ ∨ P1_ k_) ∨ w.heap.size ≤ k_) ∧ k_ ≠ gb101) ∧ k_ ≠ gb102)) _ _ l0_1 (fun k_ => ((((P0_1_ k_ ∨ P1_ k_) ∨ w.heap.size ≤ k_) ∧ k_ ≠ gb101) ∧ k_ ≠ gb102)) _ _ l1 t103 t104 t107 _ ?side1 ?side2 A3.out).mono ?_); (case side1 => exact HO0_1.out); (case side2 => exact HO1.out); rintro e w8 ⟨v105, v108, rfl, ho0, ho1, hb⟩; refine ⟨_, rfl, ?_⟩; replace HO0_1 := yVb HO0_1 hb; replace HO1 := yVb HO1 hb; have HO106 := Aside0.mk (Kd.V_lower (Kd.V_mono (ok' := fun k_ => ((P0_1_ k_ ∨ P1_ k_) ∨ w.heap.size ≤ k_) ∧ k_ ≠ gb101 ∧ k_ ≠ gb102) ho0 (fun k_ hk_ => ⟨Or.elim hk_ (fun hs_ => Or.elim hs_ (fun hs_ => hs_.1.1) (fun hs_ => hs_.1.1)) (fun hn_ => (.inr (Nat.le_trans (below_size (zB2 HB.out GE101.out GE102.out)) hn_))), Or.elim hk_ (fun hs_ => Or.elim hs_ (fun hs_ => hs_.1.2) (fun hs_ => hs_.1.2)) (fun hn_ => (Kd.freshB (g := gb101) (o := .cells #[.bool a0_0, .slice A0_1 l0_1.length c0_1] 113 (0, 0)) (by (with_reducible repeat (first | refine blk_drewN ?_ _ | refine blk_drew ?_ | refine blk_alloc ?_ _)); exact BK101.out) k_ hn_)), Or.elim hk_ (fun hs_ => Or.elim hs_ (fun hs_ => hs_.2) (fun hs_ => hs_.2)) (fun hn_ => (Kd.freshB (g := gb102) (o := .cells #[.bool false, .slice none 0 0, .slice none 0 0] 60 (0, 0)) (by (with_reducible repeat (first | refine blk_drewN ?_ _ | refine blk_drew ?_ | refine blk_alloc ?_ _)); exact BK102.out) k_ hn_))⟩)) (below_size (zB2 HB.out GE101.out GE102.out))); have HO109 := Aside0.mk (Kd.V_lower (Kd.V_mono (ok' := fun k_ => ((P0_1_ k_ ∨ P1_ k_) ∨ w.heap.size ≤ k_) ∧ k_ ≠ gb101 ∧ k_ ≠ gb102) ho1 (fun k_ hk_ => ⟨Or.elim hk_ (fun hs_ => Or.elim hs_ (fun hs_ => hs_.1.1) (fun hs_ => hs_.1.1)) (fun hn_ => (.inr (Nat.le_trans (below_size (zB2 HB.out GE101.out GE102.out)) hn_))), Or.elim hk_ (fun hs_ => Or.elim hs_ (fun hs_ => hs_.1.2) (fun hs_ => hs_.1.2)) (fun hn_ => (Kd.freshB (g := gb101) (o := .cells #[.bool a0_0, .slice A0_1 l0_1.length c0_1] 113 (0, 0)) (by (with_reducible repeat (first | refine blk_drewN ?_ _ | refine blk_drew ?_ | refine blk_alloc ?_ _)); exact BK101.out) k_ hn_)), Or.elim hk_ (fun hs_ => Or.elim hs_ (fun hs_ => hs_.2) (fun hs_ => hs_.2)) (fun hn_ => (Kd.freshB (g := gb102) (o := .cells #[.bool false, .slice none 0 0, .slice none 0 0] 60 (0, 0)) (by (with_reducible repeat (first | refine blk_drewN ?_ _ | refine blk_drew ?_ | refine blk_alloc ?_ _)); exact BK102.out) k_ hn_))⟩)) (below_size (zB2 HB.out GE101.out GE102.out))); replace BK101 := yK BK101 hb; replace BK102 := yK BK102 hb; replace HB := yS2 HB GE101 GE102 hb; (try clear hb ho0); (try clear ho1); obtain ⟨hcz9_0, hcz9_1, hcz9_2, hfz9_0, hfz9_1, hfz9_2⟩ := zz3 BK102; obtain ⟨Ao10, co10, rfl⟩ := Kd.V_slice HO106.out; obtain ⟨Ao11, co11, rfl⟩ := Kd.V_slice HO109.out))
 refine bodyPost_ret (results_cell_row rfl _ _ gb102 60 #[.bool t103, .slice Ao10 t104.length co10, .slice Ao11 t107.length co11] (0, 0) _ rfl (zP3 BK102.out) Try.underlying60 rfl (by kernel_rfl)) rfl ?_
 exact ⟨_, _, zE, by (with_reducible repeat (first | apply Kd.V_alloc | apply Kd.V_drewN | apply Kd.V_drew)); exact Kd.V_mono (Kd.V_far (p := ⟨gb102, 2, none⟩) (Kd.V_far (p := ⟨gb102, 1, none⟩) (Kd.V_far (p := ⟨gb102, 0, none⟩) (Kd.V_mono HO106.out (fun k_ hk => (⟨hk, hk.2.2⟩ : _ ∧ k_ ≠ gb102))) (fun _ hk => hk.2) (.bool t103)) (fun _ hk => hk.2) (.slice Ao10 t104.length co10)) (fun _ hk => hk.2) (.slice Ao11 t107.length co11)) (fun _ hk => hk.1.1), by (with_reducible repeat (first | apply Kd.V_alloc | apply Kd.V_drewN | apply Kd.V_drew)); exact Kd.V_mono (Kd.V_far (p := ⟨gb102, 2, none⟩) (Kd.V_far (p := ⟨gb102, 1, none⟩) (Kd.V_far (p := ⟨gb102, 0, none⟩) (Kd.V_mono HO109.out (fun k_ hk => (⟨hk, hk.2.2⟩ : _ ∧ k_ ≠ gb102))) (fun _ hk => hk.2) (.bool t103)) (fun _ hk => hk.2) (.slice Ao10 t104.length co10)) (fun _ hk => hk.2) (.slice Ao11 t107.length co11)) (fun _ hk => hk.1.1), zB2 HB.out GE101.out GE102.out⟩
def mw_Transform.T11 : Bool × List (List Nat × List Nat) := (true, [([], []), ([0], [0]), ([], []), ([2], [2]), ([], []), ([3, 4], [3, 4]), ([1, 5, 5], [1, 5]), ([6], [6]), ([7], [7]), ([7], [7]), ([7], [7]), ([8, 6, 0, 1, 2, 3, 4, 5, 6, 7, 8], [8]), ([9, 11, 0, 1, 2, 3, 4, 5, 6, 7, 8, 9, 11], [9]), ([10, 12, 0, 1, 2, 3, 4, 5, 6, 7, 8, 9, 10, 11, 12], [10])])
def mw_Transform.B11 : List Nat := [0, 1, 0, 4, 0, 28, 63, 127, 255, 255, 255, 511, 3071, 8191]
theorem mw_Transform.tab11 : rtab .any (opsOf Try.f64 11) = mw_Transform.T11 := by kernel_rfl
theorem mw_Transform.bits11 : waitsOk mw_Transform.T11.2 mw_Transform.B11 = true := by kernel_rfl
def mw_Transform.T19 : Bool × List (List Nat × List Nat) := (true, [([], []), ([], []), ([1], [1]), ([], []), ([3], [3]), ([], []), ([4, 5], [4, 5]), ([6], [6]), ([2, 7], [2, 7]), ([8], [8]), ([0, 9, 7], [0, 9]), ([10, 10, 0, 1, 2, 3, 4, 5, 6, 7, 8, 9, 10], [0, 10])])
def mw_Transform.B19 : List Nat := [0, 0, 2, 0, 8, 0, 56, 120, 254, 510, 1023, 2047]
theorem mw_Transform.tab19 : rtab .any (opsOf Try.f64 19) = mw_Transform.T19 := by kernel_rfl
theorem mw_Transform.bits19 : waitsOk mw_Transform.T19.2 mw_Transform.B19 = true := by kernel_rfl
set_option maxHeartbeats 8000000 in
set_option maxRecDepth 100000 in
theorem mw_Transform.calls (k : Nat) (a0 : Int) (P1_ : Nat → Prop) (A1 : Option Addr) (c1 : Nat) (l1 : List (S60)) (r1 : List (S60)) (r2 : Int) (w : World) (hs1 : Kd.V k60 60 w w.heap.size (fun k_ => P1_ k_) (.slice A1 l1.length c1) l1) (h : mw_Transform.f k a0 l1 = some (r1, r2)) :
    Calls Try.prog 64 #[.int .i64 a0, .slice A1 l1.length c1] w fun e w' => ∃ v0_ : Value, e = .returned (.tuple #[v0_, .int .i64 r2]) ∧ Kd.N k60 60 w' w.heap.size (fun k_ => (P1_ k_ ∨ w.heap.size ≤ k_)) v0_ r1 ∧ Below w.heap.size w w' := by
 have hu60 := Try.underlying60
 have hu113 := Try.underlying113
 have HO1 := Aside0.mk (show Kd.V k60 60 w w.heap.size (fun k_ => (P1_ k_ ∨ w.heap.size ≤ k_)) (.slice A1 l1.length c1) l1 from Kd.V_mono hs1 (fun k_ hk => .inl hk))
 have HB := Aside0.mk (Below.refl w.heap.size w)
 have H : ((mw_wrong.f a0 (l1.length : Int)).bind fun t101 => (if t101 = 0 then (mw_Transform.l0 k a0 (([1] : List Int)) ([] : List (S60)) l1 (l1.length : Int) 0) else (some (([] : List (S60)), t101)))) = some (r1, r2) := h
 clear h
 replace H := zb H
 obtain ⟨t101, A3, H⟩ := H
 replace H := zi H
 rcases H with ⟨c4, H⟩ | ⟨c4, H⟩
 · have c4b0 := beq_iff_eq.mpr c4
   have c4b1 := bne_eq_false_iff_eq.mpr c4
   clear c4
   obtain ⟨y102, hy102⟩ : ∃ y_ : List Int, y_ = (([1] : List Int)) := ⟨_, rfl⟩
   replace H : (mw_Transform.l0 k a0 y102 ([] : List (S60)) l1 (l1.length : Int) 0) = some (r1, r2) := zY hy102 H
   have Ny102 := Aside0.mk hy102
   clear hy102
   have H' := Aside0.mk H
   clear H
   go_enter Try.func64, Try.ntmps64
   go_wp2_with (first | ((with_reducible refine gC 102 ?_); refine zG (some 26) Try.func102 #[.int .i64 a0, .int .i64 (l1.length : Int)] ?_; (with_reducible refine (mw_wrong.calls a0 (l1.length : Int) t101 _ A3.out).mono ?_); rintro e w' ⟨rfl, ⟨nd, rfl⟩⟩; refine ⟨_, rfl, ?_⟩) | ((with_reducible refine gate_dst (N := 30) rfl ?_); refine Kd.R_lit (Kd.int .u32) _ 97 ?hg (N := 30) ?hd (xs := ([1] : List Int)) (inner := [.int .u32 1]) (ok := fun _ => True) (okp := fun _ => True) ?hr ?hp (fun _ hk => hk) trivial (Below.refl _ _) (Nat.le_refl _) (by simp) ?_; (case hd => rfl); (case hg => rfl); (case hr => first | (go_simp; done) | (go_simp; rfl)); (case hp => exact (Reps.one (show Kd.M (Kd.int .u32) _ _ _ 1 [.int .u32 1] from rfl) (Reps.none _ _))); intro v103 w5 ho6 hb hg_ hnew_; clear hg_ hnew_; (first | rw [← Ny102.out] at ho6 | (simp only [Int.reduceToNat] at ho6; rw [← Ny102.out] at ho6)); replace HO1 := yVe HO1 ho6 hb; replace ho6 := Kd.R_newM (M := fun k_ => (w.heap.size ≤ k_)) ho6 (below_size (zB HB.out)) (fun k_ h_ => h_); have HO104 := yRl ho6 HB; replace HB := yS HB hb; clear hb ho6))
   go_loopg [7, 8, 33] k (fun kq v7 v8 v33 w' => ∃ (x7_1 : List Int) (x8_1 : List (S60)) (x33_1 : Int), v33 = .int .i64 x33_1 ∧ Aside0 (mw_Transform.l0 kq a0 x7_1 x8_1 l1 (l1.length : Int) x33_1 = some (r1, r2)) ∧ Aside0 (kq ≤ k) ∧ Aside0 (Kd.R (Kd.int .u32) 97 w' w.heap.size (fun k_ => (w.heap.size ≤ k_)) v7 x7_1) ∧ Aside0 (Kd.N k60 60 w' w.heap.size (fun k_ => (P1_ k_ ∨ w.heap.size ≤ k_) ∧ some k_ ≠ (v7 : Value).ownBlock) v8 x8_1) ∧ Aside0 (Kd.V k60 60 w' w.heap.size (fun k_ => (P1_ k_ ∨ w.heap.size ≤ k_) ∧ some k_ ≠ (v7 : Value).ownBlock ∧ some k_ ≠ (v8 : Value).ownBlock) (.slice A1 l1.length c1) l1) ∧ Aside0 (Below w.heap.size w w'))
   case atStart => exact ⟨(y102), (([] : List (S60))), (0), zF, H', ⟨Nat.le_refl _⟩, ⟨by (with_reducible repeat (first | apply Kd.R_alloc | apply Kd.R_drewN | apply Kd.R_drew)); exact Kd.R_mono HO104.out (fun _ hk => hk.1)⟩, ⟨by first | exact Kd.S_nil _ _ _ _ _ | exact Kd.N_nil _ _ _ _ _ | exact Kd.V_nil _ _ _ _ _ | exact Kd.Q_nil _ _ _ _ _ | exact Kd.R_nil _ _ _ _ _⟩, ⟨by (with_reducible repeat (first | apply Kd.V_alloc | apply Kd.V_drewN | apply Kd.V_drew)); exact Kd.V_mono HO1.out (fun _ hk => ⟨hk.1, ⟨hk.2, (by simp [Value.ownBlock])⟩⟩)⟩, ⟨zB HB.out⟩⟩
   clear H'
   (try clear c4);(try clear c4b0);(try clear c4b1)
   obtain ⟨x7_1, x8_1, x33_1, rfl, HA, HK1, HO_7, HO_8, HO_31, HB⟩ := hrel
   cases gk with | zero => exact absurd HA.out (by simp [mw_Transform.l0]) | succ k1 => ?_
   have H := HA.out
   clear HA
   simp only [mw_Transform.l0] at H
   replace H := zid H
   rcases H with ⟨c7b0, H⟩ | ⟨c7b0, H⟩
   · replace H := zgd H
     obtain ⟨c8b0, H⟩ := H
     replace H := zgd H
     obtain ⟨c9b0, H⟩ := H
     replace H := zb H
     obtain ⟨⟨t107, t108, t111⟩, A10, H⟩ := H
     dsimp only at H
     replace H := zg H
     obtain ⟨c11, H⟩ := H
     have LMc11 := Aside0.mk c11
     clear c11
     obtain ⟨y114, hy114⟩ : ∃ y_ : List (S60), y_ = (x8_1 ++ [(⟨t107, t108, t111⟩ : S60)]) := ⟨_, rfl⟩
     replace H : ((nat_Gcd.f k1 t111 x7_1).bind fun t117 => ((nat_DivMod.f k1 t111 t117).bind fun bt120 => ((nat_Mul.f k1 (([x7_1, bt120.1] : List (List Int)))).bind fun t130 => (mw_Transform.l0 k1 a0 t130 y114 l1 (l1.length : Int) (wrap64 (x33_1 + 1)))))) = some (r1, r2) := zY hy114 H
     have Ny114 := Aside0.mk hy114
     clear hy114
     replace H := zb H
     obtain ⟨t117, A12, H⟩ := H
     replace H := zb H
     obtain ⟨⟨t120, t123, t126⟩, A13, H⟩ := H
     dsimp only at H
     obtain ⟨y127, hy127⟩ : ∃ y_ : List (List Int), y_ = (([x7_1, t120] : List (List Int))) := ⟨_, rfl⟩
     replace H : ((nat_Mul.f k1 y127).bind fun t130 => (mw_Transform.l0 k1 a0 t130 y114 l1 (l1.length : Int) (wrap64 (x33_1 + 1)))) = some (r1, r2) := zY hy127 H
     have Ny127 := Aside0.mk hy127
     clear hy127
     replace H := zb H
     obtain ⟨t130, A14, H⟩ := H
     have H' := Aside0.mk H
     clear H
     have p105 : 0 ≤ (x33_1 : Int) := zd
     have q105 : x33_1 < (l1.length : Int) := zd
     obtain ⟨ad105, A105_1, c105_1, A105_2, c105_2, e105, hx105_0, hx105_1, hx105_2, hl105_1, hi105_1, hl105_2, hi105_2⟩ := at_T60 (Kd.V_reads' HO_31.out).2.2 x33_1 p105 q105
     cases e105
     obtain ⟨ce105, hce105, hMe105, hcc105⟩ := Kd.V_get HO_31.out z60 x33_1 p105 (by first | exact q105 | exact zd | (have e_ := (Kd.V_reads' HO_31.out).1; omega))
     obtain ⟨ua105_1, uc105_1, ua105_2, uc105_2, rfl, ul105_1, ge105_1, ul105_2, ge105_2⟩ := k60_openF hMe105
     have hv105_1 := hcc105 1 _ rfl
     rw [add_field _ _ 1 (by omega)] at hv105_1
     replace hv105_1 := Option.some.inj (hv105_1.symm.trans hx105_1)
     injection hv105_1 with hva_ hvn_ hvc_
     rw [hva_] at ge105_1
     rw [hvc_] at ul105_1
     have HL105_1 := Aside0.mk (show Kd.V (Kd.int .u32) 97 _ w.heap.size _ _ ((rd_T60 l1 x33_1).f1) from Kd.V_mk ul105_1 ge105_1)
     clear hva_ hvn_ hvc_ ge105_1 ul105_1
     have hv105_2 := hcc105 2 _ rfl
     rw [add_field _ _ 2 (by omega)] at hv105_2
     replace hv105_2 := Option.some.inj (hv105_2.symm.trans hx105_2)
     injection hv105_2 with hva_ hvn_ hvc_
     rw [hva_] at ge105_2
     rw [hvc_] at ul105_2
     have HL105_2 := Aside0.mk (show Kd.V (Kd.int .u32) 97 _ w.heap.size _ _ ((rd_T60 l1 x33_1).f2) from Kd.V_mk ul105_2 ge105_2)
     clear hva_ hvn_ hvc_ ge105_2 ul105_2
     clear hcc105 hce105
     have HR105_1 := Aside0.mk hi105_1
     have HC105_1 := Aside0.mk hl105_1
     clear hi105_1 hl105_1
     have HR105_2 := Aside0.mk hi105_2
     have HC105_2 := Aside0.mk hl105_2
     clear hi105_2 hl105_2
     replace p105 := eq_true p105
     replace q105 := eq_true q105
     try go_wp2_with (first | ((with_reducible refine gate_dst (N := 10) rfl ?_); refine box_event ?hg (N := 10) ?hd (cs := #[.bool false, .slice none 0 0, .slice none 0 0]) (t := 60) ?hr ?_; (case hd => rfl); (case hg => rfl); (case hr => first | (go_simp; done) | (go_simp; rfl)); intro gb106 hg w15 hbox hb; replace HO_7 := yRb HO_7 hb; replace HO_8 := Aside0.mk (Kd.N_below (Kd.N_elderB (zN HO_8.out) gb106 (Nat.le_of_eq hg.symm)) hb); replace HO_31 := yVB HO_31 hg hb; replace HL105_1 := yVB HL105_1 hg hb; replace HL105_2 := yVB HL105_2 hg hb; (try replace HR105_1 := yCb HR105_1 hb); (try replace HR105_2 := yCb HR105_2 hb); have BK106 := Aside0.mk (hbox); have GW106 := yg hg HB; have GE106 := yg hg HB; replace HB := yS HB hb; clear hb hbox hg; obtain ⟨hcz16_0, hcz16_1, hcz16_2, hfz16_0, hfz16_1, hfz16_2⟩ := zz3 BK106) | ((with_reducible refine gate_store (t := 60) (p := 10) rfl ?_); refine store_event (t := 60) (p := 10) (v := ?vo_w17) (w1 := (((w15.setCell ⟨gb106, 0, none⟩ (.bool ((rd_T60 l1 x33_1).f0))).setCell ⟨gb106, 1, none⟩ (.slice A105_1 ((rd_T60 l1 x33_1).f1).length c105_1)).setCell ⟨gb106, 2, none⟩ (.slice A105_2 ((rd_T60 l1 x33_1).f2).length c105_2))) ?hg ?ho ?hn ?hr ?_; (case ho => rfl); (case hg => rfl); (case hn => rfl); (case hr => first | (go_simp; done) | (go_simp; rfl)); intro w17 hw; have n0_ : Aside0 (Kd.R (Kd.int .u32) 97 w17 w.heap.size (fun k_ => (w.heap.size ≤ k_)) u7 x7_1) := ⟨(by rw [hw]; exact (by (with_reducible repeat (first | apply Kd.R_alloc | apply Kd.R_drewN | apply Kd.R_drew)); exact yf HO_7.out BK106.out (fun _ hk => hk.1)))⟩; have n1_ : Aside0 (Kd.N k60 60 w17 w.heap.size (fun k_ => (P1_ k_ ∨ w.heap.size ≤ k_) ∧ some k_ ≠ (u7 : Value).ownBlock ∧ k_ ≠ gb106) u8 x8_1) := ⟨(by rw [hw]; exact (by (with_reducible repeat (first | apply Kd.N_alloc | apply Kd.N_drewN | apply Kd.N_drew)); exact Kd.N_mono (Kd.N_far (p := ⟨gb106, 2, none⟩) (Kd.N_far (p := ⟨gb106, 1, none⟩) (Kd.N_far (p := ⟨gb106, 0, none⟩) (Kd.N_mono HO_8.out (fun k_ hk => (⟨hk, hk.2⟩ : _ ∧ k_ ≠ gb106))) (fun _ hk => hk.2) (.bool ((rd_T60 l1 x33_1).f0))) (fun _ hk => hk.2) (.slice A105_1 ((rd_T60 l1 x33_1).f1).length c105_1)) (fun _ hk => hk.2) (.slice A105_2 ((rd_T60 l1 x33_1).f2).length c105_2)) (fun _ hk => ⟨hk.1.1.1, ⟨hk.1.1.2, hk.1.2⟩⟩)))⟩; have n2_ : Aside0 (Kd.V k60 60 w17 w.heap.size (fun k_ => (P1_ k_ ∨ w.heap.size ≤ k_) ∧ some k_ ≠ (u7 : Value).ownBlock ∧ some k_ ≠ (u8 : Value).ownBlock ∧ k_ ≠ gb106) (.slice (some ad105) l1.length c1) l1) := ⟨(by rw [hw]; exact (by (with_reducible repeat (first | apply Kd.V_alloc | apply Kd.V_drewN | apply Kd.V_drew)); exact Kd.V_mono (Kd.V_far (p := ⟨gb106, 2, none⟩) (Kd.V_far (p := ⟨gb106, 1, none⟩) (Kd.V_far (p := ⟨gb106, 0, none⟩) (Kd.V_mono HO_31.out (fun k_ hk => (⟨hk, hk.2⟩ : _ ∧ k_ ≠ gb106))) (fun _ hk => hk.2) (.bool ((rd_T60 l1 x33_1).f0))) (fun _ hk => hk.2) (.slice A105_1 ((rd_T60 l1 x33_1).f1).length c105_1)) (fun _ hk => hk.2) (.slice A105_2 ((rd_T60 l1 x33_1).f2).length c105_2)) (fun _ hk => ⟨hk.1.1.1, ⟨hk.1.1.2.1, ⟨hk.1.1.2.2, hk.1.2⟩⟩⟩)))⟩; have n3_ : Aside0 (Kd.V (Kd.int .u32) 97 w17 w.heap.size (fun k_ => (P1_ k_ ∨ w.heap.size ≤ k_) ∧ some k_ ≠ (u7 : Value).ownBlock ∧ some k_ ≠ (u8 : Value).ownBlock ∧ k_ ≠ gb106) (.slice A105_1 ((rd_T60 l1 x33_1).f1).length c105_1) ((rd_T60 l1 x33_1).f1)) := ⟨(by rw [hw]; exact (by (with_reducible repeat (first | apply Kd.V_alloc | apply Kd.V_drewN | apply Kd.V_drew)); exact Kd.V_mono (Kd.V_far (p := ⟨gb106, 2, none⟩) (Kd.V_far (p := ⟨gb106, 1, none⟩) (Kd.V_far (p := ⟨gb106, 0, none⟩) (Kd.V_mono HL105_1.out (fun k_ hk => (⟨hk, hk.2⟩ : _ ∧ k_ ≠ gb106))) (fun _ hk => hk.2) (.bool ((rd_T60 l1 x33_1).f0))) (fun _ hk => hk.2) (.slice A105_1 ((rd_T60 l1 x33_1).f1).length c105_1)) (fun _ hk => hk.2) (.slice A105_2 ((rd_T60 l1 x33_1).f2).length c105_2)) (fun _ hk => ⟨hk.1.1.1, ⟨hk.1.1.2.1, ⟨hk.1.1.2.2, hk.1.2⟩⟩⟩)))⟩; have n4_ : Aside0 (Kd.V (Kd.int .u32) 97 w17 w.heap.size (fun k_ => (P1_ k_ ∨ w.heap.size ≤ k_) ∧ some k_ ≠ (u7 : Value).ownBlock ∧ some k_ ≠ (u8 : Value).ownBlock ∧ k_ ≠ gb106) (.slice A105_2 ((rd_T60 l1 x33_1).f2).length c105_2) ((rd_T60 l1 x33_1).f2)) := ⟨(by rw [hw]; exact (by (with_reducible repeat (first | apply Kd.V_alloc | apply Kd.V_drewN | apply Kd.V_drew)); exact Kd.V_mono (Kd.V_far (p := ⟨gb106, 2, none⟩) (Kd.V_far (p := ⟨gb106, 1, none⟩) (Kd.V_far (p := ⟨gb106, 0, none⟩) (Kd.V_mono HL105_2.out (fun k_ hk => (⟨hk, hk.2⟩ : _ ∧ k_ ≠ gb106))) (fun _ hk => hk.2) (.bool ((rd_T60 l1 x33_1).f0))) (fun _ hk => hk.2) (.slice A105_1 ((rd_T60 l1 x33_1).f1).length c105_1)) (fun _ hk => hk.2) (.slice A105_2 ((rd_T60 l1 x33_1).f2).length c105_2)) (fun _ hk => ⟨hk.1.1.1, ⟨hk.1.1.2.1, ⟨hk.1.1.2.2, hk.1.2⟩⟩⟩)))⟩; have n5_ : Aside0 (w17.heap[gb106]? = some (.cells #[.bool ((rd_T60 l1 x33_1).f0), .slice A105_1 ((rd_T60 l1 x33_1).f1).length c105_1, .slice A105_2 ((rd_T60 l1 x33_1).f2).length c105_2] 60 (0, 0))) := ⟨(by rw [hw]; exact (zP3 BK106.out))⟩; have n6_ : Aside0 (Below w.heap.size w w17) := ⟨(by rw [hw]; exact (zB1 HB.out GE106.out))⟩; clear hw; clear HO_7; clear HO_8; clear HO_31; clear HL105_1; clear HL105_2; clear BK106; clear HB; have HO_7 := n0_; have HO_8 := n1_; have HO_31 := n2_; have HL105_1 := n3_; have HL105_2 := n4_; have BK106 := n5_; have HB := n6_; clear n0_ n1_ n2_ n3_ n4_ n5_ n6_; obtain ⟨hcz18_0, hcz18_1, hcz18_2, hfz18_0, hfz18_1, hfz18_2⟩ := zz3 BK106) | ((with_reducible refine gC 107 ?_); refine zG (some 38) Try.func107 #[.agg #[.bool ((rd_T60 l1 x33_1).f0), .slice A105_1 ((rd_T60 l1 x33_1).f1).length c105_1, .slice A105_2 ((rd_T60 l1 x33_1).f2).length c105_2]] ?_; (with_reducible refine (rational_Trim.calls k1 ((rd_T60 l1 x33_1).f0) (fun k_ => ((P1_ k_ ∨ w.heap.size ≤ k_) ∧ (some k_ ≠ (u7 : Value).ownBlock ∧ (some k_ ≠ (u8 : Value).ownBlock ∧ k_ ≠ gb106)))) _ _ ((rd_T60 l1 x33_1).f1) (fun k_ => ((P1_ k_ ∨ w.heap.size ≤ k_) ∧ (some k_ ≠ (u7 : Value).ownBlock ∧ (some k_ ≠ (u8 : Value).ownBlock ∧ k_ ≠ gb106)))) _ _ ((rd_T60 l1 x33_1).f2) t107 t108 t111 _ ?side1 ?side2 A10.out).mono ?_); (case side1 => exact HL105_1.out); (case side2 => exact HL105_2.out); rintro e w19 ⟨v109, v112, rfl, ho0, ho1, hb⟩; refine ⟨_, rfl, ?_⟩; replace HO_31 := yVb HO_31 hb; replace HL105_1 := yVb HL105_1 hb; replace HL105_2 := yVb HL105_2 hb; have HO110 := Aside0.mk (Kd.V_lower (Kd.V_mono (ok' := fun k_ => (P1_ k_ ∨ w.heap.size ≤ k_) ∧ some k_ ≠ (u7 : Value).ownBlock ∧ some k_ ≠ (u8 : Value).ownBlock ∧ k_ ≠ gb106) ho0 (fun k_ hk_ => ⟨Or.elim hk_ (fun hs_ => Or.elim hs_ (fun hs_ => hs_.1) (fun hs_ => hs_.1)) (fun hn_ => (.inr (Nat.le_trans (below_size (zB1 HB.out GE106.out)) hn_))), Or.elim hk_ (fun hs_ => Or.elim hs_ (fun hs_ => hs_.2.1) (fun hs_ => hs_.2.1)) (fun hn_ => (Kd.fresh' (Kd.R_lt (zR HO_7.out)) k_ hn_)), Or.elim hk_ (fun hs_ => Or.elim hs_ (fun hs_ => hs_.2.2.1) (fun hs_ => hs_.2.2.1)) (fun hn_ => (Kd.fresh' (Kd.N_lt (zN HO_8.out)) k_ hn_)), Or.elim hk_ (fun hs_ => Or.elim hs_ (fun hs_ => hs_.2.2.2) (fun hs_ => hs_.2.2.2)) (fun hn_ => (Kd.freshB (g := gb106) (o := .cells #[.bool ((rd_T60 l1 x33_1).f0), .slice A105_1 ((rd_T60 l1 x33_1).f1).length c105_1, .slice A105_2 ((rd_T60 l1 x33_1).f2).length c105_2] 60 (0, 0)) (by (with_reducible repeat (first | refine blk_drewN ?_ _ | refine blk_drew ?_ | refine blk_alloc ?_ _)); exact BK106.out) k_ hn_))⟩)) (below_size (zB1 HB.out GE106.out))); have HO113 := Aside0.mk (Kd.V_lower (Kd.V_mono (ok' := fun k_ => (P1_ k_ ∨ w.heap.size ≤ k_) ∧ some k_ ≠ (u7 : Value).ownBlock ∧ some k_ ≠ (u8 : Value).ownBlock ∧ k_ ≠ gb106) ho1 (fun k_ hk_ => ⟨Or.elim hk_ (fun hs_ => Or.elim hs_ (fun hs_ => hs_.1) (fun hs_ => hs_.1)) (fun hn_ => (.inr (Nat.le_trans (below_size (zB1 HB.out GE106.out)) hn_))), Or.elim hk_ (fun hs_ => Or.elim hs_ (fun hs_ => hs_.2.1) (fun hs_ => hs_.2.1)) (fun hn_ => (Kd.fresh' (Kd.R_lt (zR HO_7.out)) k_ hn_)), Or.elim hk_ (fun hs_ => Or.elim hs_ (fun hs_ => hs_.2.2.1) (fun hs_ => hs_.2.2.1)) (fun hn_ => (Kd.fresh' (Kd.N_lt (zN HO_8.out)) k_ hn_)), Or.elim hk_ (fun hs_ => Or.elim hs_ (fun hs_ => hs_.2.2.2) (fun hs_ => hs_.2.2.2)) (fun hn_ => (Kd.freshB (g := gb106) (o := .cells #[.bool ((rd_T60 l1 x33_1).f0), .slice A105_1 ((rd_T60 l1 x33_1).f1).length c105_1, .slice A105_2 ((rd_T60 l1 x33_1).f2).length c105_2] 60 (0, 0)) (by (with_reducible repeat (first | refine blk_drewN ?_ _ | refine blk_drew ?_ | refine blk_alloc ?_ _)); exact BK106.out) k_ hn_))⟩)) (below_size (zB1 HB.out GE106.out))); replace HO_7 := yRb HO_7 hb; replace HO_8 := yNb HO_8 hb; (try replace HR105_1 := yCb HR105_1 hb); (try replace HR105_2 := yCb HR105_2 hb); replace BK106 := yK BK106 hb; replace HB := yS1 HB GE106 hb; (try clear hb ho0); (try clear ho1); obtain ⟨hcz20_0, hcz20_1, hcz20_2, hfz20_0, hfz20_1, hfz20_2⟩ := zz3 BK106; obtain ⟨Ao21, co21, rfl⟩ := Kd.V_slice HO110.out; obtain ⟨Ao22, co22, rfl⟩ := Kd.V_slice HO113.out) | ((with_reducible refine gate_store (t := 60) (p := 10) rfl ?_); refine store_event (t := 60) (p := 10) (v := ?vo_w23) (w1 := (((w19.setCell ⟨gb106, 0, none⟩ (.bool t107)).setCell ⟨gb106, 1, none⟩ (.slice Ao21 t108.length co21)).setCell ⟨gb106, 2, none⟩ (.slice Ao22 t111.length co22))) ?hg ?ho ?hn ?hr ?_; (case ho => rfl); (case hg => rfl); (case hn => rfl); (case hr => first | (go_simp; done) | (go_simp; rfl)); intro w23 hw; have n0_ : Aside0 (Kd.R (Kd.int .u32) 97 w23 w.heap.size (fun k_ => (w.heap.size ≤ k_)) u7 x7_1) := ⟨(by rw [hw]; exact (by (with_reducible repeat (first | apply Kd.R_alloc | apply Kd.R_drewN | apply Kd.R_drew)); exact yf HO_7.out BK106.out (fun _ hk => hk.1)))⟩; have n1_ : Aside0 (Kd.N k60 60 w23 w.heap.size (fun k_ => (P1_ k_ ∨ w.heap.size ≤ k_) ∧ some k_ ≠ (u7 : Value).ownBlock ∧ k_ ≠ gb106) u8 x8_1) := ⟨(by rw [hw]; exact (by (with_reducible repeat (first | apply Kd.N_alloc | apply Kd.N_drewN | apply Kd.N_drew)); exact Kd.N_mono (Kd.N_far (p := ⟨gb106, 2, none⟩) (Kd.N_far (p := ⟨gb106, 1, none⟩) (Kd.N_far (p := ⟨gb106, 0, none⟩) (Kd.N_mono HO_8.out (fun k_ hk => (⟨hk, hk.2.2⟩ : _ ∧ k_ ≠ gb106))) (fun _ hk => hk.2) (.bool t107)) (fun _ hk => hk.2) (.slice Ao21 t108.length co21)) (fun _ hk => hk.2) (.slice Ao22 t111.length co22)) (fun _ hk => ⟨hk.1.1, ⟨hk.1.2.1, hk.1.2.2⟩⟩)))⟩; have n2_ : Aside0 (Kd.V k60 60 w23 w.heap.size (fun k_ => (P1_ k_ ∨ w.heap.size ≤ k_) ∧ some k_ ≠ (u7 : Value).ownBlock ∧ some k_ ≠ (u8 : Value).ownBlock ∧ k_ ≠ gb106) (.slice (some ad105) l1.length c1) l1) := ⟨(by rw [hw]; exact (by (with_reducible repeat (first | apply Kd.V_alloc | apply Kd.V_drewN | apply Kd.V_drew)); exact Kd.V_mono (Kd.V_far (p := ⟨gb106, 2, none⟩) (Kd.V_far (p := ⟨gb106, 1, none⟩) (Kd.V_far (p := ⟨gb106, 0, none⟩) (Kd.V_mono HO_31.out (fun k_ hk => (⟨hk, hk.2.2.2⟩ : _ ∧ k_ ≠ gb106))) (fun _ hk => hk.2) (.bool t107)) (fun _ hk => hk.2) (.slice Ao21 t108.length co21)) (fun _ hk => hk.2) (.slice Ao22 t111.length co22)) (fun _ hk => ⟨hk.1.1, ⟨hk.1.2.1, ⟨hk.1.2.2.1, hk.1.2.2.2⟩⟩⟩)))⟩; have n3_ : Aside0 (Kd.V (Kd.int .u32) 97 w23 w.heap.size (fun k_ => (P1_ k_ ∨ w.heap.size ≤ k_) ∧ some k_ ≠ (u7 : Value).ownBlock ∧ some k_ ≠ (u8 : Value).ownBlock ∧ k_ ≠ gb106) (.slice A105_1 ((rd_T60 l1 x33_1).f1).length c105_1) ((rd_T60 l1 x33_1).f1)) := ⟨(by rw [hw]; exact (by (with_reducible repeat (first | apply Kd.V_alloc | apply Kd.V_drewN | apply Kd.V_drew)); exact Kd.V_mono (Kd.V_far (p := ⟨gb106, 2, none⟩) (Kd.V_far (p := ⟨gb106, 1, none⟩) (Kd.V_far (p := ⟨gb106, 0, none⟩) (Kd.V_mono HL105_1.out (fun k_ hk => (⟨hk, hk.2.2.2⟩ : _ ∧ k_ ≠ gb106))) (fun _ hk => hk.2) (.bool t107)) (fun _ hk => hk.2) (.slice Ao21 t108.length co21)) (fun _ hk => hk.2) (.slice Ao22 t111.length co22)) (fun _ hk => ⟨hk.1.1, ⟨hk.1.2.1, ⟨hk.1.2.2.1, hk.1.2.2.2⟩⟩⟩)))⟩; have n4_ : Aside0 (Kd.V (Kd.int .u32) 97 w23 w.heap.size (fun k_ => (P1_ k_ ∨ w.heap.size ≤ k_) ∧ some k_ ≠ (u7 : Value).ownBlock ∧ some k_ ≠ (u8 : Value).ownBlock ∧ k_ ≠ gb106) (.slice A105_2 ((rd_T60 l1 x33_1).f2).length c105_2) ((rd_T60 l1 x33_1).f2)) := ⟨(by rw [hw]; exact (by (with_reducible repeat (first | apply Kd.V_alloc | apply Kd.V_drewN | apply Kd.V_drew)); exact Kd.V_mono (Kd.V_far (p := ⟨gb106, 2, none⟩) (Kd.V_far (p := ⟨gb106, 1, none⟩) (Kd.V_far (p := ⟨gb106, 0, none⟩) (Kd.V_mono HL105_2.out (fun k_ hk => (⟨hk, hk.2.2.2⟩ : _ ∧ k_ ≠ gb106))) (fun _ hk => hk.2) (.bool t107)) (fun _ hk => hk.2) (.slice Ao21 t108.length co21)) (fun _ hk => hk.2) (.slice Ao22 t111.length co22)) (fun _ hk => ⟨hk.1.1, ⟨hk.1.2.1, ⟨hk.1.2.2.1, hk.1.2.2.2⟩⟩⟩)))⟩; have n5_ : Aside0 (Kd.V (Kd.int .u32) 97 w23 w.heap.size (fun k_ => (P1_ k_ ∨ w.heap.size ≤ k_) ∧ some k_ ≠ (u7 : Value).ownBlock ∧ some k_ ≠ (u8 : Value).ownBlock ∧ k_ ≠ gb106) (.slice Ao21 t108.length co21) t108) := ⟨(by rw [hw]; exact (by (with_reducible repeat (first | apply Kd.V_alloc | apply Kd.V_drewN | apply Kd.V_drew)); exact Kd.V_mono (Kd.V_far (p := ⟨gb106, 2, none⟩) (Kd.V_far (p := ⟨gb106, 1, none⟩) (Kd.V_far (p := ⟨gb106, 0, none⟩) (Kd.V_mono HO110.out (fun k_ hk => (⟨hk, hk.2.2.2⟩ : _ ∧ k_ ≠ gb106))) (fun _ hk => hk.2) (.bool t107)) (fun _ hk => hk.2) (.slice Ao21 t108.length co21)) (fun _ hk => hk.2) (.slice Ao22 t111.length co22)) (fun _ hk => ⟨hk.1.1, ⟨hk.1.2.1, ⟨hk.1.2.2.1, hk.1.2.2.2⟩⟩⟩)))⟩; have n6_ : Aside0 (Kd.V (Kd.int .u32) 97 w23 w.heap.size (fun k_ => (P1_ k_ ∨ w.heap.size ≤ k_) ∧ some k_ ≠ (u7 : Value).ownBlock ∧ some k_ ≠ (u8 : Value).ownBlock ∧ k_ ≠ gb106) (.slice Ao22 t111.length co22) t111) := ⟨(by rw [hw]; exact (by (with_reducible repeat (first | apply Kd.V_alloc | apply Kd.V_drewN | apply Kd.V_drew)); exact Kd.V_mono (Kd.V_far (p := ⟨gb106, 2, none⟩) (Kd.V_far (p := ⟨gb106, 1, none⟩) (Kd.V_far (p := ⟨gb106, 0, none⟩) (Kd.V_mono HO113.out (fun k_ hk => (⟨hk, hk.2.2.2⟩ : _ ∧ k_ ≠ gb106))) (fun _ hk => hk.2) (.bool t107)) (fun _ hk => hk.2) (.slice Ao21 t108.length co21)) (fun _ hk => hk.2) (.slice Ao22 t111.length co22)) (fun _ hk => ⟨hk.1.1, ⟨hk.1.2.1, ⟨hk.1.2.2.1, hk.1.2.2.2⟩⟩⟩)))⟩; have n7_ : Aside0 (w23.heap[gb106]? = some (.cells #[.bool t107, .slice Ao21 t108.length co21, .slice Ao22 t111.length co22] 60 (0, 0))) := ⟨(by rw [hw]; exact (zP3 BK106.out))⟩; have n8_ : Aside0 (Below w.heap.size w w23) := ⟨(by rw [hw]; exact (zB1 HB.out GE106.out))⟩; clear hw; clear HO_7; clear HO_8; clear HO_31; clear HL105_1; clear HL105_2; clear HO110; clear HO113; clear BK106; clear HB; have HO_7 := n0_; have HO_8 := n1_; have HO_31 := n2_; have HL105_1 := n3_; have HL105_2 := n4_; have HO110 := n5_; have HO113 := n6_; have BK106 := n7_; have HB := n8_; clear n0_ n1_ n2_ n3_ n4_ n5_ n6_ n7_ n8_; obtain ⟨hcz24_0, hcz24_1, hcz24_2, hfz24_0, hfz24_1, hfz24_2⟩ := zz3 BK106) | ((with_reducible refine gate_builtin (b := .append) (xs := #[.tmp 39, .tmp 41]) rfl ?_); at_builtin; refine Kd.N_append k60 (w0 := w) w.heap.size rfl (.tmp 39) (.tmp 41) 83 60 (.agg #[(.bool false), (.slice none 0 0), (.slice none 0 0)]) 56 rfl Try.underlying83 info60 rfl (by decide) (by omega) u8 x8_1 (⟨t107, t108, t111⟩ : S60) [.bool t107, .slice Ao21 t108.length co21, .slice Ao22 t111.length co22] (fun k_ => (P1_ k_ ∨ w.heap.size ≤ k_) ∧ some k_ ≠ (u7 : Value).ownBlock ∧ k_ ≠ gb106) (fun k_ => ((fun k_ => (P1_ k_ ∨ w.heap.size ≤ k_) ∧ some k_ ≠ (u7 : Value).ownBlock ∧ k_ ≠ gb106)) k_ ∧ some k_ ≠ (u8 : Value).ownBlock) rfl rfl ?aP (fun _ hk => hk) ?aF ?aO ?aB ?aS ?aL ?_; (case aP => exact (k60_mkF _ _ (⟨t107, t108, t111⟩ : S60) (Kd.V_reads' (Kd.V_mono (ok' := (fun k_ => ((fun k_ => (P1_ k_ ∨ w.heap.size ≤ k_) ∧ some k_ ≠ (u7 : Value).ownBlock ∧ k_ ≠ gb106)) k_ ∧ some k_ ≠ (u8 : Value).ownBlock)) (HO110.out) (fun k_ hk => by exact ⟨⟨hk.1, ⟨hk.2.1, hk.2.2.2⟩⟩, hk.2.2.1⟩))).2.1 (Kd.V_F (Kd.V_mono (ok' := (fun k_ => ((fun k_ => (P1_ k_ ∨ w.heap.size ≤ k_) ∧ some k_ ≠ (u7 : Value).ownBlock ∧ k_ ≠ gb106)) k_ ∧ some k_ ≠ (u8 : Value).ownBlock)) (HO110.out) (fun k_ hk => by exact ⟨⟨hk.1, ⟨hk.2.1, hk.2.2.2⟩⟩, hk.2.2.1⟩))) (Kd.V_reads' (Kd.V_mono (ok' := (fun k_ => ((fun k_ => (P1_ k_ ∨ w.heap.size ≤ k_) ∧ some k_ ≠ (u7 : Value).ownBlock ∧ k_ ≠ gb106)) k_ ∧ some k_ ≠ (u8 : Value).ownBlock)) (HO113.out) (fun k_ hk => by exact ⟨⟨hk.1, ⟨hk.2.1, hk.2.2.2⟩⟩, hk.2.2.1⟩))).2.1 (Kd.V_F (Kd.V_mono (ok' := (fun k_ => ((fun k_ => (P1_ k_ ∨ w.heap.size ≤ k_) ∧ some k_ ≠ (u7 : Value).ownBlock ∧ k_ ≠ gb106)) k_ ∧ some k_ ≠ (u8 : Value).ownBlock)) (HO113.out) (fun k_ hk => by exact ⟨⟨hk.1, ⟨hk.2.1, hk.2.2.2⟩⟩, hk.2.2.1⟩))))); (case aB => exact (zB1 HB.out GE106.out)); (case aF => exact (fun k_ hk => ⟨(.inr (Nat.le_trans (below_size (zB1 HB.out GE106.out)) hk)), Kd.fresh' (Kd.R_lt (zR HO_7.out)) k_ hk, Kd.freshB (g := gb106) (o := .cells #[.bool t107, .slice Ao21 t108.length co21, .slice Ao22 t111.length co22] 60 (0, 0)) (by (with_reducible repeat (first | refine blk_drewN ?_ _ | refine blk_drew ?_ | refine blk_alloc ?_ _)); exact BK106.out) k_ hk⟩)); (case aO => exact (zN HO_8.out)); (case aS => exact (below_size (zB1 HB.out GE106.out))); (case aL => have := LMc11.out; omega); intro v115 w25 ho hb hg hat; rw [← Ny114.out] at ho; replace HO_7 := Aside0.mk (Kd.R_over' (zR HO_7.out) (Kd.N_typed (zN HO_8.out)) (by decide) hg); replace HO_31 := Aside0.mk (Kd.V_afterv (ok := (fun k_ => (P1_ k_ ∨ w.heap.size ≤ k_) ∧ some k_ ≠ (u7 : Value).ownBlock ∧ k_ ≠ gb106)) (by (with_reducible repeat (first | apply Kd.V_alloc | apply Kd.V_drewN | apply Kd.V_drew)); exact Kd.V_mono HO_31.out (fun _ hk => ⟨⟨hk.1, ⟨hk.2.1, hk.2.2.2⟩⟩, hk.2.2.1⟩)) hg hat); replace HL105_1 := Aside0.mk (Kd.V_afterv (ok := (fun k_ => (P1_ k_ ∨ w.heap.size ≤ k_) ∧ some k_ ≠ (u7 : Value).ownBlock ∧ k_ ≠ gb106)) (by (with_reducible repeat (first | apply Kd.V_alloc | apply Kd.V_drewN | apply Kd.V_drew)); exact Kd.V_mono HL105_1.out (fun _ hk => ⟨⟨hk.1, ⟨hk.2.1, hk.2.2.2⟩⟩, hk.2.2.1⟩)) hg hat); replace HL105_2 := Aside0.mk (Kd.V_afterv (ok := (fun k_ => (P1_ k_ ∨ w.heap.size ≤ k_) ∧ some k_ ≠ (u7 : Value).ownBlock ∧ k_ ≠ gb106)) (by (with_reducible repeat (first | apply Kd.V_alloc | apply Kd.V_drewN | apply Kd.V_drew)); exact Kd.V_mono HL105_2.out (fun _ hk => ⟨⟨hk.1, ⟨hk.2.1, hk.2.2.2⟩⟩, hk.2.2.1⟩)) hg hat); replace BK106 := Aside0.mk (blk_grown (g := gb106) (o := .cells #[.bool t107, .slice Ao21 t108.length co21, .slice Ao22 t111.length co22] 60 (0, 0)) (by (with_reducible repeat (first | refine blk_drewN ?_ _ | refine blk_drew ?_ | refine blk_alloc ?_ _)); exact BK106.out) hg (Kd.N_away HO_8.out (fun _ hk => hk.2.2))); replace HO110 := Aside0.mk (Kd.V_afterv (ok := (fun k_ => (P1_ k_ ∨ w.heap.size ≤ k_) ∧ some k_ ≠ (u7 : Value).ownBlock ∧ k_ ≠ gb106)) (by (with_reducible repeat (first | apply Kd.V_alloc | apply Kd.V_drewN | apply Kd.V_drew)); exact Kd.V_mono HO110.out (fun _ hk => ⟨⟨hk.1, ⟨hk.2.1, hk.2.2.2⟩⟩, hk.2.2.1⟩)) hg hat); replace HO113 := Aside0.mk (Kd.V_afterv (ok := (fun k_ => (P1_ k_ ∨ w.heap.size ≤ k_) ∧ some k_ ≠ (u7 : Value).ownBlock ∧ k_ ≠ gb106)) (by (with_reducible repeat (first | apply Kd.V_alloc | apply Kd.V_drewN | apply Kd.V_drew)); exact Kd.V_mono HO113.out (fun _ hk => ⟨⟨hk.1, ⟨hk.2.1, hk.2.2.2⟩⟩, hk.2.2.1⟩)) hg hat); replace HB := Aside0.mk (hb); have HO116 := Aside0.mk (ho); clear HO_8; clear ho hb hg hat))
     replace HO_7 := Aside0.mk (Kd.R_drew HO_7.out)
     replace HO_31 := Aside0.mk (Kd.V_drew HO_31.out)
     replace HL105_1 := Aside0.mk (Kd.V_drew HL105_1.out)
     replace HL105_2 := Aside0.mk (Kd.V_drew HL105_2.out)
     replace HO110 := Aside0.mk (Kd.V_drew HO110.out)
     replace HO113 := Aside0.mk (Kd.V_drew HO113.out)
     replace HO116 := Aside0.mk (Kd.N_drew HO116.out)
     replace BK106 := Aside0.mk (blk_drew BK106.out)
     replace HB := Aside0.mk (below_drew1 HB.out)
     obtain ⟨Ao27, co27, eo27⟩ := Kd.R_slice HO_7.out
     (first | subst eo27 | (injection eo27 with f1_ f2_ f3_; have f4_ := f1_.symm; have f5_ := f3_.symm; clear f1_ f2_ f3_; subst f4_; subst f5_))
     refine start_ (n := 14) (S := fun w' => w'.cell? ⟨gb106, 0, none⟩ = some (.bool t107) ∧ w'.cell? ⟨gb106, 1, none⟩ = some (.slice Ao21 t108.length co21) ∧ w'.cell? ⟨gb106, 2, none⟩ = some (.slice Ao22 t111.length co22)) (ds := []) #[false, false, false, false, false, false, false, false, false, false, false, false, false, false] (by kernel_rfl) rfl rfl ⟨(blk_cell BK106.out 0).trans rfl, (blk_cell BK106.out 1).trans rfl, (blk_cell BK106.out 2).trans rfl⟩ (fun hHeld => ?_); refine with_tabW mw_Transform.tab11 mw_Transform.bits11 (fun HT_ HW_ => ?_)
     generalize w25.drew = w26 at HO_7 HO_31 HL105_1 HL105_2 HO110 HO113 HO116 BK106 HB hHeld ⊢
     refine zp (i := 0) (N := some 44) HT_ ?_
     refine zp (i := 2) (N := some 46) HT_ ?_
     refine zp (i := 4) (N := some 48) HT_ ?_
     refine take_ (i := 1) (N := some 45) (v := ?_) (a' := ?_) #[true, true, true, false, true, false, false, false, false, false, false, false, false, false] rfl rfl (take_ofW HT_.out HW_.out (by kernel_rfl)) (fun _ _ _ h => h) (Or.inl ⟨by rfl, ?_⟩) hHeld ?_ ?_
     rotate_left
     · rintro w' ⟨s0, s1, s2⟩
       go_simp
       with_reducible rfl
     rotate_left
     · simp only [Act.put, List.setIfInBounds_toArray, List.set_cons_zero, List.set_cons_succ, i64_w, i32_w]
       rfl
     refine take_ (i := 3) (N := some 47) (v := ?_) (a' := ?_) #[true, true, true, true, true, false, false, false, false, false, false, false, false, false] rfl rfl (take_ofW HT_.out HW_.out (by kernel_rfl)) (fun _ _ _ h => h) (Or.inl ⟨by rfl, ?_⟩) hHeld ?_ ?_
     rotate_left
     · rintro w' ⟨s0, s1, s2⟩
       go_simp
       with_reducible rfl
     rotate_left
     · simp only [Act.put, List.setIfInBounds_toArray, List.set_cons_zero, List.set_cons_succ, i64_w, i32_w]
       rfl
     refine one_ (i := 5) (N := some 49) #[true, true, true, true, true, true, false, false, false, false, false, false, false, false] rfl rfl (one_of HT_.out (by kernel_rfl)) (by decide) (fun K hK => ?_)
     refine goes_ Try.func108 (by kernel_rfl) rfl #[.slice Ao22 t111.length co22, .slice Ao27 x7_1.length co27] (by rfl) rfl rfl (by (try simp only [List.map_toArray, List.map_cons, List.map_nil]); first | done | rfl | (simp only [List.length_drop, List.length_take]; rfl)) ?_
     with_reducible refine (nat_Gcd.calls k1 _ _ t111 _ _ x7_1 t117 _ ?side1 ?side2 ?side3 ?side4 A12.out).mono ?_
     (case side1 => exact zC (Kd.V_reads' HO113.out).2.2)
     (case side2 => exact (Kd.V_reads' HO113.out).2.1)
     (case side3 => exact zC (Kd.R_reads' HO_7.out).2.2)
     (case side4 => exact (Kd.R_reads' HO_7.out).2.1)
     rintro e w28 ⟨v118, rfl, ho0, hb⟩
     refine ⟨_, rfl, ?_⟩
     replace HO_31 := yVe HO_31 ho0 hb
     replace HL105_1 := yVe HL105_1 ho0 hb
     replace HL105_2 := yVe HL105_2 ho0 hb
     replace HO110 := yVe HO110 ho0 hb
     replace HO113 := yVe HO113 ho0 hb
     replace HO116 := yNe HO116 ho0 hb
     replace ho0 := Kd.R_newM (M := fun k_ => (w.heap.size ≤ k_)) ho0 (below_size (zB1 HB.out GE106.out)) (fun k_ h_ => h_)
     replace ho0 := yn ho0 HO_7
     have HO119 := yRl1 ho0 HB GE106
     replace HO_7 := yRe HO_7 ho0 hb
     replace BK106 := yK BK106 hb
     replace HB := yS1 HB GE106 hb
     (try clear hb)
     (try clear ho0)
     obtain ⟨Ao29, co29, eo29⟩ := Kd.R_slice HO119.out
     (first | subst eo29 | (injection eo29 with f1_ f2_ f3_; have f4_ := f1_.symm; have f5_ := f3_.symm; clear f1_ f2_ f3_; subst f4_; subst f5_))
     refine hK.out _ _ ⟨(blk_cell BK106.out 0).trans rfl, (blk_cell BK106.out 1).trans rfl, (blk_cell BK106.out 2).trans rfl⟩ (fun hHeld => ?_)
     clear hK K
     refine norm_ (a' := ?_) ?_ ?_
     rotate_left
     · show Act.put _ (some 49) _ = _
       simp only [Act.put, List.setIfInBounds_toArray, List.set_cons_zero, List.set_cons_succ, i64_w, i32_w]
       rfl
     refine one_ (i := 6) (N := some 50) #[true, true, true, true, true, true, true, false, false, false, false, false, false, false] rfl rfl (one_of HT_.out (by kernel_rfl)) (by decide) (fun K hK => ?_)
     refine goes_ Try.func105 (by kernel_rfl) rfl #[.slice Ao22 t111.length co22, .slice Ao29 t117.length co29] (by rfl) rfl rfl (by (try simp only [List.map_toArray, List.map_cons, List.map_nil]); first | done | rfl | (simp only [List.length_drop, List.length_take]; rfl)) ?_
     with_reducible refine (nat_DivMod.calls k1 (fun k_ => ((((P1_ k_ ∨ w.heap.size ≤ k_) ∧ (some k_ ≠ (.slice Ao27 x7_1.length co27 : Value).ownBlock ∧ k_ ≠ gb106)) ∧ some k_ ≠ (v115 : Value).ownBlock) ∧ some k_ ≠ (.slice Ao29 t117.length co29 : Value).ownBlock)) _ _ t111 (fun k_ => some k_ = (.slice Ao29 t117.length co29 : Value).ownBlock) _ _ t117 t120 t123 t126 _ ?side1 ?side2 A13.out).mono ?_
     (case side1 => exact HO113.out)
     (case side2 => exact Kd.R_V (Kd.R_tight rfl (Kd.R_types (Kd.R_apart' (HO119.out) (Kd.N_typed HO116.out) (by decide)) BK106.out (by decide))))
     rintro e w30 ⟨v121, v124, rfl, ho0, ho1, hb⟩
     refine ⟨_, rfl, ?_⟩
     replace HO_31 := yVe HO_31 ho1 hb
     replace HL105_1 := yVe HL105_1 ho1 hb
     replace HL105_2 := yVe HL105_2 ho1 hb
     replace HO110 := yVe HO110 ho1 hb
     replace HO113 := yVe HO113 ho1 hb
     have HO122 := Aside0.mk (Kd.V_lower (Kd.V_mono (ok' := fun k_ => (P1_ k_ ∨ w.heap.size ≤ k_) ∧ some k_ ≠ (v124 : Value).ownBlock ∧ some k_ ≠ (.slice Ao27 x7_1.length co27 : Value).ownBlock ∧ some k_ ≠ (v115 : Value).ownBlock ∧ k_ ≠ gb106) ho0 (fun k_ hk_ => ⟨Or.elim hk_.1 (fun hs_ => Or.elim hs_ (fun hs_ => hs_.1.1.1) (fun hs_ => (.inr (((Kd.R_types (Kd.R_apart' (HO119.out) (Kd.N_typed HO116.out) (by decide)) BK106.out (by decide)).1 k_ hs_.symm).1.1.1.1)))) (fun hn_ => (.inr (Nat.le_trans (below_size (zB1 HB.out GE106.out)) hn_))), hk_.2, Or.elim hk_.1 (fun hs_ => Or.elim hs_ (fun hs_ => hs_.1.1.2.1) (fun hs_ => ((Kd.R_types (Kd.R_apart' (HO119.out) (Kd.N_typed HO116.out) (by decide)) BK106.out (by decide)).1 k_ hs_.symm).1.1.2)) (fun hn_ => (Kd.fresh' (Kd.R_lt (zR HO_7.out)) k_ hn_)), Or.elim hk_.1 (fun hs_ => Or.elim hs_ (fun hs_ => hs_.1.2) (fun hs_ => ((Kd.R_types (Kd.R_apart' (HO119.out) (Kd.N_typed HO116.out) (by decide)) BK106.out (by decide)).1 k_ hs_.symm).1.2)) (fun hn_ => (Kd.fresh' (Kd.N_lt (zN HO116.out)) k_ hn_)), Or.elim hk_.1 (fun hs_ => Or.elim hs_ (fun hs_ => hs_.1.1.2.2) (fun hs_ => ((Kd.R_types (Kd.R_apart' (HO119.out) (Kd.N_typed HO116.out) (by decide)) BK106.out (by decide)).1 k_ hs_.symm).2)) (fun hn_ => (Kd.freshB (g := gb106) (o := .cells #[.bool t107, .slice Ao21 t108.length co21, .slice Ao22 t111.length co22] 60 (0, 0)) (by (with_reducible repeat (first | refine blk_drewN ?_ _ | refine blk_drew ?_ | refine blk_alloc ?_ _)); exact BK106.out) k_ hn_))⟩)) (below_size (zB1 HB.out GE106.out)))
     replace HO116 := yNe HO116 ho1 hb
     replace ho1 := Kd.R_newM (M := fun k_ => (w.heap.size ≤ k_)) (yt ho1) (below_size (zB1 HB.out GE106.out)) (fun k_ h_ => h_)
     replace ho1 := yn ho1 HO_7
     replace ho1 := yn ho1 HO119
     have HO125 := yRl1 ho1 HB GE106
     replace HO_7 := yRe HO_7 ho1 hb
     replace HO119 := yRe HO119 ho1 hb
     replace BK106 := yK BK106 hb
     replace HB := yS1 HB GE106 hb
     (try clear hb)
     (try clear ho0)
     (try clear ho1)
     refine hK.out _ _ ⟨(blk_cell BK106.out 0).trans rfl, (blk_cell BK106.out 1).trans rfl, (blk_cell BK106.out 2).trans rfl⟩ (fun hHeld => ?_)
     clear hK K
     refine norm_ (a' := ?_) ?_ ?_
     rotate_left
     · show Act.put _ (some 50) _ = _
       simp only [Act.put, List.setIfInBounds_toArray, List.set_cons_zero, List.set_cons_succ, i64_w, i32_w]
       rfl
     refine zp (i := 7) (N := some 43) HT_ ?_
     refine zp (i := 8) (N := some 51) HT_ ?_
     refine zp (i := 9) (N := some 52) HT_ ?_
     refine zp (i := 10) (N := some 53) HT_ ?_
     refine zp (i := 11) (N := some 11) HT_ ?_
     refine zp (i := 12) (N := some 12) HT_ ?_
     refine zp (i := 13) (N := some 13) HT_ ?_
     refine done_ (done_of HT_.out (by kernel_rfl)) ?_
     obtain ⟨Ao31, co31, rfl⟩ := Kd.V_slice HO122.out
     try go_wp2_with (first | ((with_reducible refine gate_dst (N := 56) rfl ?_); refine Kd.N_lit (Kd.slice 97 (Kd.int .u32)) _ 29 ?hg (N' := 56) ?hd (xs := ([x7_1, t120] : List (List Int))) (inner := [.slice Ao27 x7_1.length co27, .slice Ao31 t120.length co31]) (ok := (fun k_ => (P1_ k_ ∨ w.heap.size ≤ k_) ∧ some k_ ≠ (v115 : Value).ownBlock ∧ some k_ ≠ (v124 : Value).ownBlock ∧ k_ ≠ gb106)) (okp := (fun k_ => (P1_ k_ ∨ w.heap.size ≤ k_) ∧ some k_ ≠ (v115 : Value).ownBlock ∧ some k_ ≠ (v124 : Value).ownBlock ∧ k_ ≠ gb106)) ?hr ?hp (fun _ hk => hk) ((show ∀ k_, w30.heap.size ≤ k_ → (fun k_ => (P1_ k_ ∨ w.heap.size ≤ k_) ∧ some k_ ≠ (v115 : Value).ownBlock ∧ some k_ ≠ (v124 : Value).ownBlock ∧ k_ ≠ gb106) k_ from fun k_ hk => ⟨(.inr (Nat.le_trans (below_size (zB1 HB.out GE106.out)) hk)), Kd.fresh' (Kd.N_lt (zN HO116.out)) k_ hk, Kd.fresh' (Kd.R_lt (zR HO125.out)) k_ hk, Kd.freshB (g := gb106) (o := .cells #[.bool t107, .slice Ao21 t108.length co21, .slice Ao22 t111.length co22] 60 (0, 0)) (by (with_reducible repeat (first | refine blk_drewN ?_ _ | refine blk_drew ?_ | refine blk_alloc ?_ _)); exact BK106.out) k_ hk⟩) _ (Nat.le_refl _)) (Below.refl _ _) (Nat.le_refl _) (by simp) ?_; (case hd => rfl); (case hg => rfl); (case hr => first | (go_simp; done) | (go_simp; rfl)); (case hp => exact (Reps.one (show Kd.FK (Kd.slice 97 (Kd.int .u32)) _ _ x7_1 [.slice Ao27 x7_1.length co27] from (Mw.FK_of_R (Kd.R_mono (ok' := (fun k_ => (P1_ k_ ∨ w.heap.size ≤ k_) ∧ some k_ ≠ (v115 : Value).ownBlock ∧ some k_ ≠ (v124 : Value).ownBlock ∧ k_ ≠ gb106)) (Kd.R_types (Kd.R_apart' (HO_7.out) (Kd.N_typed HO116.out) (by decide)) BK106.out (by decide)) (fun k_ hk => by exact ⟨(.inr (hk.1.1.1.1)), ⟨hk.1.2, ⟨hk.1.1.2, hk.2⟩⟩⟩)))) (Reps.one (show Kd.FK (Kd.slice 97 (Kd.int .u32)) _ _ t120 [.slice Ao31 t120.length co31] from (Kd.FK_slice_mk (Kd.V_reads' (Kd.V_mono (ok' := (fun k_ => (P1_ k_ ∨ w.heap.size ≤ k_) ∧ some k_ ≠ (v115 : Value).ownBlock ∧ some k_ ≠ (v124 : Value).ownBlock ∧ k_ ≠ gb106)) (HO122.out) (fun k_ hk => by exact ⟨hk.1, ⟨hk.2.2.2.1, ⟨hk.2.1, hk.2.2.2.2⟩⟩⟩))).2.1 (Kd.V_F (Kd.V_mono (ok' := (fun k_ => (P1_ k_ ∨ w.heap.size ≤ k_) ∧ some k_ ≠ (v115 : Value).ownBlock ∧ some k_ ≠ (v124 : Value).ownBlock ∧ k_ ≠ gb106)) (HO122.out) (fun k_ hk => by exact ⟨hk.1, ⟨hk.2.2.2.1, ⟨hk.2.1, hk.2.2.2.2⟩⟩⟩))))) (Reps.none _ _)))); intro v128 w32 ho33 hb hg_ hnew_; clear hg_ hnew_; (first | rw [← Ny127.out] at ho33 | (simp only [Int.reduceToNat] at ho33; rw [← Ny127.out] at ho33)); replace HO_31 := Aside0.mk (Kd.V_elder' (zV HO_31.out) (Kd.N_base ho33) hb); replace HL105_1 := Aside0.mk (Kd.V_elder' (zV HL105_1.out) (Kd.N_base ho33) hb); replace HL105_2 := Aside0.mk (Kd.V_elder' (zV HL105_2.out) (Kd.N_base ho33) hb); replace HO110 := Aside0.mk (Kd.V_elder' (zV HO110.out) (Kd.N_base ho33) hb); replace HO113 := Aside0.mk (Kd.V_elder' (zV HO113.out) (Kd.N_base ho33) hb); replace HO116 := Aside0.mk (Kd.N_elder' (zN HO116.out) (Kd.N_base ho33) hb); replace HO119 := yRb HO119 hb; replace HO122 := Aside0.mk (Kd.V_elder' (zV HO122.out) (Kd.N_base ho33) hb); replace HO125 := yRb HO125 hb; have HO129 := Aside0.mk (Kd.N_lower ho33 (below_size (zB1 HB.out GE106.out))); replace BK106 := yK BK106 hb; replace HB := yS1 HB GE106 hb; clear HO_7; clear hb ho33; obtain ⟨Ao34, co34, rfl⟩ := Kd.N_slice HO129.out) | ((with_reducible refine gC 74 ?_); refine zG (some 57) Try.func74 #[.slice Ao34 y127.length co34] ?_; (with_reducible refine (nat_Mul.calls k1 _ _ y127 t130 _ ?side1 ?side2 A14.out).mono ?_); (case side1 => exact zC (Kd.N_reads' HO129.out).2.2); (case side2 => exact (Kd.N_reads' HO129.out).2.1); rintro e w35 ⟨v131, rfl, ho0, hb⟩; refine ⟨_, rfl, ?_⟩; replace HO_31 := yVe HO_31 ho0 hb; replace HL105_1 := yVe HL105_1 ho0 hb; replace HL105_2 := yVe HL105_2 ho0 hb; replace HO110 := yVe HO110 ho0 hb; replace HO113 := yVe HO113 ho0 hb; replace HO116 := yNe HO116 ho0 hb; replace HO122 := yVe HO122 ho0 hb; replace HO129 := yNe HO129 ho0 hb; replace ho0 := Kd.R_newM (M := fun k_ => (w.heap.size ≤ k_)) ho0 (below_size (zB1 HB.out GE106.out)) (fun k_ h_ => h_); replace ho0 := yn ho0 HO119; replace ho0 := yn ho0 HO125; have HO132 := yRl1 ho0 HB GE106; replace HO119 := yRe HO119 ho0 hb; replace HO125 := yRe HO125 ho0 hb; replace BK106 := yK BK106 hb; replace HB := yS1 HB GE106 hb; (try clear hb ho0)))
     go_roundg k1
     case measure => have := HK1.out; omega
     case rel => exact ⟨(t130), (y114), (wrap64 (x33_1 + 1)), zF, H', ⟨zo1 HK1⟩, ⟨by (with_reducible repeat (first | apply Kd.R_alloc | apply Kd.R_drewN | apply Kd.R_drew)); exact Kd.R_mono HO132.out (fun _ hk => hk.1.1.1)⟩, ⟨by (with_reducible repeat (first | apply Kd.N_alloc | apply Kd.N_drewN | apply Kd.N_drew)); exact Kd.N_mono HO116.out (fun _ hk => ⟨hk.1.1.1.1.1, hk.2⟩)⟩, ⟨by (with_reducible repeat (first | apply Kd.V_alloc | apply Kd.V_drewN | apply Kd.V_drew)); exact Kd.V_mono HO_31.out (fun _ hk => ⟨hk.1.1.1.1.1.1, ⟨hk.2, hk.1.1.1.1.2⟩⟩)⟩, ⟨zB1 HB.out GE106.out⟩⟩
   have H' := Aside0.mk H
   clear H
   obtain ⟨Ao36, co36, rfl⟩ := Kd.N_slice HO_8.out
   go_wp2
   go_loopg [14, 61] k1 (fun kq v14 v61 w' => ∃ (x14_2 : List (S113)) (x61_2 : Int), v61 = .int .i64 x61_2 ∧ Aside0 (mw_Transform.l1 kq a0 x7_1 x14_2 x8_1 (x8_1.length : Int) x61_2 = some (r1, r2)) ∧ Aside0 (kq ≤ k1) ∧ Aside0 (Kd.R (Kd.int .u32) 97 w' w.heap.size (fun k_ => (w.heap.size ≤ k_)) u7 x7_1) ∧ Aside0 (Kd.N k113 113 w' w.heap.size (fun k_ => (P1_ k_ ∨ w.heap.size ≤ k_) ∧ some k_ ≠ (u7 : Value).ownBlock ∧ some k_ ≠ ((.slice Ao36 x8_1.length co36) : Value).ownBlock) v14 x14_2) ∧ Aside0 (Kd.N k60 60 w' w.heap.size (fun k_ => (P1_ k_ ∨ w.heap.size ≤ k_) ∧ some k_ ≠ (u7 : Value).ownBlock ∧ some k_ ≠ (v14 : Value).ownBlock) (.slice Ao36 x8_1.length co36) x8_1) ∧ Aside0 (Below w.heap.size w w'))
   case atStart => exact ⟨(([] : List (S113))), (0), zF, H', ⟨Nat.le_refl _⟩, ⟨zR HO_7.out⟩, ⟨by first | exact Kd.S_nil _ _ _ _ _ | exact Kd.N_nil _ _ _ _ _ | exact Kd.V_nil _ _ _ _ _ | exact Kd.Q_nil _ _ _ _ _ | exact Kd.R_nil _ _ _ _ _⟩, ⟨by (with_reducible repeat (first | apply Kd.N_alloc | apply Kd.N_drewN | apply Kd.N_drew)); exact Kd.N_mono HO_8.out (fun _ hk => ⟨hk.1, ⟨hk.2, (by simp [Value.ownBlock])⟩⟩)⟩, ⟨zB HB.out⟩⟩
   clear H'
   (try clear c4);(try clear c4b0);(try clear c4b1);(try clear c7b0);(try clear c8b0);(try clear c9b0);(try clear c11);(try clear hcz16_0);(try clear hcz16_1);(try clear hcz16_2);(try clear hcz18_0);(try clear hcz18_1);(try clear hcz18_2);(try clear hcz20_0);(try clear hcz20_1);(try clear hcz20_2);(try clear hcz24_0);(try clear hcz24_1);(try clear hcz24_2);(try clear hfz16_0);(try clear hfz16_1);(try clear hfz16_2);(try clear hfz18_0);(try clear hfz18_1);(try clear hfz18_2);(try clear hfz20_0);(try clear hfz20_1);(try clear hfz20_2);(try clear hfz24_0);(try clear hfz24_1);(try clear hfz24_2);(try clear hx105_0);(try clear hx105_1);(try clear hx105_2);(try clear p105);(try clear q105)
   obtain ⟨x14_2, x61_2, rfl, HA, HK2, HO_7, HO_14, HO_59, HB⟩ := hrel
   cases gk with | zero => exact absurd HA.out (by simp [mw_Transform.l1]) | succ k2 => ?_
   have H := HA.out
   clear HA
   simp only [mw_Transform.l1] at H
   replace H := zid H
   rcases H with ⟨c37b0, H⟩ | ⟨c37b0, H⟩
   · replace H := zgd H
     obtain ⟨c38b0, H⟩ := H
     replace H := zgd H
     obtain ⟨c39b0, H⟩ := H
     replace H := zb H
     obtain ⟨⟨t135, t138, t141⟩, A40, H⟩ := H
     dsimp only at H
     obtain ⟨y142, hy142⟩ : ∃ y_ : List (List Int), y_ = (([(rd_T60 x8_1 x61_2).f1, t135] : List (List Int))) := ⟨_, rfl⟩
     replace H : ((nat_Mul.f k2 y142).bind fun t145 => (if x14_2.length < 4398046511104 then (mw_Transform.l1 k2 a0 x7_1 (x14_2 ++ [(⟨(rd_T60 x8_1 x61_2).f0, t145⟩ : S113)]) x8_1 (x8_1.length : Int) (wrap64 (x61_2 + 1))) else (none))) = some (r1, r2) := zY hy142 H
     have Ny142 := Aside0.mk hy142
     clear hy142
     replace H := zb H
     obtain ⟨t145, A41, H⟩ := H
     replace H := zg H
     obtain ⟨c42, H⟩ := H
     have LMc42 := Aside0.mk c42
     clear c42
     obtain ⟨y148, hy148⟩ : ∃ y_ : List (S113), y_ = (x14_2 ++ [(⟨(rd_T60 x8_1 x61_2).f0, t145⟩ : S113)]) := ⟨_, rfl⟩
     replace H : (mw_Transform.l1 k2 a0 x7_1 y148 x8_1 (x8_1.length : Int) (wrap64 (x61_2 + 1))) = some (r1, r2) := zY hy148 H
     have Ny148 := Aside0.mk hy148
     clear hy148
     have H' := Aside0.mk H
     clear H
     have p133 : 0 ≤ (x61_2 : Int) := zd
     have q133 : x61_2 < (x8_1.length : Int) := zd
     obtain ⟨ad133, A133_1, c133_1, A133_2, c133_2, e133, hx133_0, hx133_1, hx133_2, hl133_1, hi133_1, hl133_2, hi133_2⟩ := at_T60 (Kd.N_reads' HO_59.out).2.2 x61_2 p133 q133
     cases e133
     obtain ⟨ce133, hce133, hMe133, hcc133⟩ := Kd.N_get HO_59.out z60 x61_2 p133 (by first | exact q133 | exact zd | (have e_ := (Kd.N_reads' HO_59.out).1; omega))
     obtain ⟨ua133_1, uc133_1, ua133_2, uc133_2, rfl, ul133_1, ge133_1, ul133_2, ge133_2⟩ := k60_openF hMe133
     have hv133_1 := hcc133 1 _ rfl
     rw [add_field _ _ 1 (by omega)] at hv133_1
     replace hv133_1 := Option.some.inj (hv133_1.symm.trans hx133_1)
     injection hv133_1 with hva_ hvn_ hvc_
     rw [hva_] at ge133_1
     rw [hvc_] at ul133_1
     have HL133_1 := Aside0.mk (show Kd.V (Kd.int .u32) 97 _ w.heap.size _ _ ((rd_T60 x8_1 x61_2).f1) from Kd.V_mk ul133_1 ge133_1)
     clear hva_ hvn_ hvc_ ge133_1 ul133_1
     have hv133_2 := hcc133 2 _ rfl
     rw [add_field _ _ 2 (by omega)] at hv133_2
     replace hv133_2 := Option.some.inj (hv133_2.symm.trans hx133_2)
     injection hv133_2 with hva_ hvn_ hvc_
     rw [hva_] at ge133_2
     rw [hvc_] at ul133_2
     have HL133_2 := Aside0.mk (show Kd.V (Kd.int .u32) 97 _ w.heap.size _ _ ((rd_T60 x8_1 x61_2).f2) from Kd.V_mk ul133_2 ge133_2)
     clear hva_ hvn_ hvc_ ge133_2 ul133_2
     clear hcc133 hce133
     have HR133_1 := Aside0.mk hi133_1
     have HC133_1 := Aside0.mk hl133_1
     clear hi133_1 hl133_1
     have HR133_2 := Aside0.mk hi133_2
     have HC133_2 := Aside0.mk hl133_2
     clear hi133_2 hl133_2
     replace p133 := eq_true p133
     replace q133 := eq_true q133
     try go_wp2_with (first | ((with_reducible refine gate_dst (N := 16) rfl ?_); refine box_event ?hg (N := 16) ?hd (cs := #[.bool false, .slice none 0 0, .slice none 0 0]) (t := 60) ?hr ?_; (case hd => rfl); (case hg => rfl); (case hr => first | (go_simp; done) | (go_simp; rfl)); intro gb134 hg w43 hbox hb; replace HO_7 := yRb HO_7 hb; replace HO_14 := Aside0.mk (Kd.N_below (Kd.N_elderB (zN HO_14.out) gb134 (Nat.le_of_eq hg.symm)) hb); replace HO_59 := Aside0.mk (Kd.N_below (Kd.N_elderB (zN HO_59.out) gb134 (Nat.le_of_eq hg.symm)) hb); replace HL133_1 := yVB HL133_1 hg hb; replace HL133_2 := yVB HL133_2 hg hb; (try replace HR133_1 := yCb HR133_1 hb); (try replace HR133_2 := yCb HR133_2 hb); have BK134 := Aside0.mk (hbox); have GW134 := yg hg HB; have GE134 := yg hg HB; replace HB := yS HB hb; clear hb hbox hg; obtain ⟨hcz44_0, hcz44_1, hcz44_2, hfz44_0, hfz44_1, hfz44_2⟩ := zz3 BK134) | ((with_reducible refine gate_store (t := 60) (p := 16) rfl ?_); refine store_event (t := 60) (p := 16) (v := ?vo_w45) (w1 := (((w43.setCell ⟨gb134, 0, none⟩ (.bool ((rd_T60 x8_1 x61_2).f0))).setCell ⟨gb134, 1, none⟩ (.slice A133_1 ((rd_T60 x8_1 x61_2).f1).length c133_1)).setCell ⟨gb134, 2, none⟩ (.slice A133_2 ((rd_T60 x8_1 x61_2).f2).length c133_2))) ?hg ?ho ?hn ?hr ?_; (case ho => rfl); (case hg => rfl); (case hn => rfl); (case hr => first | (go_simp; done) | (go_simp; rfl)); intro w45 hw; have n0_ : Aside0 (Kd.R (Kd.int .u32) 97 w45 w.heap.size (fun k_ => (w.heap.size ≤ k_)) u7 x7_1) := ⟨(by rw [hw]; exact (by (with_reducible repeat (first | apply Kd.R_alloc | apply Kd.R_drewN | apply Kd.R_drew)); exact yf HO_7.out BK134.out (fun _ hk => hk.1)))⟩; have n1_ : Aside0 (Kd.N k113 113 w45 w.heap.size (fun k_ => (P1_ k_ ∨ w.heap.size ≤ k_) ∧ some k_ ≠ (u7 : Value).ownBlock ∧ some k_ ≠ (.slice (some ad133) x8_1.length co36 : Value).ownBlock ∧ k_ ≠ gb134) u14 x14_2) := ⟨(by rw [hw]; exact (by (with_reducible repeat (first | apply Kd.N_alloc | apply Kd.N_drewN | apply Kd.N_drew)); exact Kd.N_mono (Kd.N_far (p := ⟨gb134, 2, none⟩) (Kd.N_far (p := ⟨gb134, 1, none⟩) (Kd.N_far (p := ⟨gb134, 0, none⟩) (Kd.N_mono HO_14.out (fun k_ hk => (⟨hk, hk.2⟩ : _ ∧ k_ ≠ gb134))) (fun _ hk => hk.2) (.bool ((rd_T60 x8_1 x61_2).f0))) (fun _ hk => hk.2) (.slice A133_1 ((rd_T60 x8_1 x61_2).f1).length c133_1)) (fun _ hk => hk.2) (.slice A133_2 ((rd_T60 x8_1 x61_2).f2).length c133_2)) (fun _ hk => ⟨hk.1.1.1, ⟨hk.1.1.2.1, ⟨hk.1.1.2.2, hk.1.2⟩⟩⟩)))⟩; have n2_ : Aside0 (Kd.N k60 60 w45 w.heap.size (fun k_ => (P1_ k_ ∨ w.heap.size ≤ k_) ∧ some k_ ≠ (u7 : Value).ownBlock ∧ some k_ ≠ (u14 : Value).ownBlock ∧ k_ ≠ gb134) (.slice (some ad133) x8_1.length co36) x8_1) := ⟨(by rw [hw]; exact (by (with_reducible repeat (first | apply Kd.N_alloc | apply Kd.N_drewN | apply Kd.N_drew)); exact Kd.N_mono (Kd.N_far (p := ⟨gb134, 2, none⟩) (Kd.N_far (p := ⟨gb134, 1, none⟩) (Kd.N_far (p := ⟨gb134, 0, none⟩) (Kd.N_mono HO_59.out (fun k_ hk => (⟨hk, hk.2⟩ : _ ∧ k_ ≠ gb134))) (fun _ hk => hk.2) (.bool ((rd_T60 x8_1 x61_2).f0))) (fun _ hk => hk.2) (.slice A133_1 ((rd_T60 x8_1 x61_2).f1).length c133_1)) (fun _ hk => hk.2) (.slice A133_2 ((rd_T60 x8_1 x61_2).f2).length c133_2)) (fun _ hk => ⟨hk.1.1.1, ⟨hk.1.1.2.1, ⟨hk.1.1.2.2, hk.1.2⟩⟩⟩)))⟩; have n3_ : Aside0 (Kd.V (Kd.int .u32) 97 w45 w.heap.size (fun k_ => (P1_ k_ ∨ w.heap.size ≤ k_) ∧ some k_ ≠ (u7 : Value).ownBlock ∧ some k_ ≠ (u14 : Value).ownBlock ∧ some k_ ≠ (.slice (some ad133) x8_1.length co36 : Value).ownBlock ∧ k_ ≠ gb134) (.slice A133_1 ((rd_T60 x8_1 x61_2).f1).length c133_1) ((rd_T60 x8_1 x61_2).f1)) := ⟨(by rw [hw]; exact (by (with_reducible repeat (first | apply Kd.V_alloc | apply Kd.V_drewN | apply Kd.V_drew)); exact Kd.V_mono (Kd.V_far (p := ⟨gb134, 2, none⟩) (Kd.V_far (p := ⟨gb134, 1, none⟩) (Kd.V_far (p := ⟨gb134, 0, none⟩) (Kd.V_mono HL133_1.out (fun k_ hk => (⟨hk, hk.2⟩ : _ ∧ k_ ≠ gb134))) (fun _ hk => hk.2) (.bool ((rd_T60 x8_1 x61_2).f0))) (fun _ hk => hk.2) (.slice A133_1 ((rd_T60 x8_1 x61_2).f1).length c133_1)) (fun _ hk => hk.2) (.slice A133_2 ((rd_T60 x8_1 x61_2).f2).length c133_2)) (fun _ hk => ⟨hk.1.1.1.1, ⟨hk.1.1.1.2.1, ⟨hk.1.1.1.2.2, ⟨hk.1.1.2, hk.1.2⟩⟩⟩⟩)))⟩; have n4_ : Aside0 (Kd.V (Kd.int .u32) 97 w45 w.heap.size (fun k_ => (P1_ k_ ∨ w.heap.size ≤ k_) ∧ some k_ ≠ (u7 : Value).ownBlock ∧ some k_ ≠ (u14 : Value).ownBlock ∧ some k_ ≠ (.slice (some ad133) x8_1.length co36 : Value).ownBlock ∧ k_ ≠ gb134) (.slice A133_2 ((rd_T60 x8_1 x61_2).f2).length c133_2) ((rd_T60 x8_1 x61_2).f2)) := ⟨(by rw [hw]; exact (by (with_reducible repeat (first | apply Kd.V_alloc | apply Kd.V_drewN | apply Kd.V_drew)); exact Kd.V_mono (Kd.V_far (p := ⟨gb134, 2, none⟩) (Kd.V_far (p := ⟨gb134, 1, none⟩) (Kd.V_far (p := ⟨gb134, 0, none⟩) (Kd.V_mono HL133_2.out (fun k_ hk => (⟨hk, hk.2⟩ : _ ∧ k_ ≠ gb134))) (fun _ hk => hk.2) (.bool ((rd_T60 x8_1 x61_2).f0))) (fun _ hk => hk.2) (.slice A133_1 ((rd_T60 x8_1 x61_2).f1).length c133_1)) (fun _ hk => hk.2) (.slice A133_2 ((rd_T60 x8_1 x61_2).f2).length c133_2)) (fun _ hk => ⟨hk.1.1.1.1, ⟨hk.1.1.1.2.1, ⟨hk.1.1.1.2.2, ⟨hk.1.1.2, hk.1.2⟩⟩⟩⟩)))⟩; have n5_ : Aside0 (w45.heap[gb134]? = some (.cells #[.bool ((rd_T60 x8_1 x61_2).f0), .slice A133_1 ((rd_T60 x8_1 x61_2).f1).length c133_1, .slice A133_2 ((rd_T60 x8_1 x61_2).f2).length c133_2] 60 (0, 0))) := ⟨(by rw [hw]; exact (zP3 BK134.out))⟩; have n6_ : Aside0 (Below w.heap.size w w45) := ⟨(by rw [hw]; exact (zB1 HB.out GE134.out))⟩; clear hw; clear HO_7; clear HO_14; clear HO_59; clear HL133_1; clear HL133_2; clear BK134; clear HB; have HO_7 := n0_; have HO_14 := n1_; have HO_59 := n2_; have HL133_1 := n3_; have HL133_2 := n4_; have BK134 := n5_; have HB := n6_; clear n0_ n1_ n2_ n3_ n4_ n5_ n6_; obtain ⟨hcz46_0, hcz46_1, hcz46_2, hfz46_0, hfz46_1, hfz46_2⟩ := zz3 BK134; obtain ⟨Ao47, co47, rfl⟩ := Kd.R_slice HO_7.out) | ((with_reducible refine gC 105 ?_); refine zG (some 69) Try.func105 #[.slice Ao47 x7_1.length co47, .slice A133_2 ((rd_T60 x8_1 x61_2).f2).length c133_2] ?_; (with_reducible refine (nat_DivMod.calls k2 (fun k_ => some k_ = (.slice Ao47 x7_1.length co47 : Value).ownBlock) _ _ x7_1 (fun k_ => ((P1_ k_ ∨ w.heap.size ≤ k_) ∧ (some k_ ≠ (.slice Ao47 x7_1.length co47 : Value).ownBlock ∧ (some k_ ≠ (u14 : Value).ownBlock ∧ (some k_ ≠ (.slice (some ad133) x8_1.length co36 : Value).ownBlock ∧ k_ ≠ gb134))))) _ _ ((rd_T60 x8_1 x61_2).f2) t135 t138 t141 _ ?side1 ?side2 A40.out).mono ?_); (case side1 => exact Kd.R_V (Kd.R_tight rfl (Kd.R_types (Kd.R_apart' (Kd.R_apart' (HO_7.out) (Kd.N_typed HO_14.out) (by decide)) (Kd.N_typed HO_59.out) (by decide)) BK134.out (by decide)))); (case side2 => exact HL133_2.out); rintro e w48 ⟨v136, v139, rfl, ho0, ho1, hb⟩; refine ⟨_, rfl, ?_⟩; replace HL133_1 := yVe HL133_1 ho1 hb; replace HL133_2 := yVe HL133_2 ho1 hb; have HO137 := Aside0.mk (Kd.V_lower (Kd.V_mono (ok' := fun k_ => (P1_ k_ ∨ w.heap.size ≤ k_) ∧ some k_ ≠ (v139 : Value).ownBlock ∧ some k_ ≠ (u14 : Value).ownBlock ∧ some k_ ≠ (.slice (some ad133) x8_1.length co36 : Value).ownBlock ∧ k_ ≠ gb134) ho0 (fun k_ hk_ => ⟨Or.elim hk_.1 (fun hs_ => Or.elim hs_ (fun hs_ => (.inr (((Kd.R_types (Kd.R_apart' (Kd.R_apart' (HO_7.out) (Kd.N_typed HO_14.out) (by decide)) (Kd.N_typed HO_59.out) (by decide)) BK134.out (by decide)).1 k_ hs_.symm).1.1.1))) (fun hs_ => hs_.1)) (fun hn_ => (.inr (Nat.le_trans (below_size (zB1 HB.out GE134.out)) hn_))), hk_.2, Or.elim hk_.1 (fun hs_ => Or.elim hs_ (fun hs_ => ((Kd.R_types (Kd.R_apart' (Kd.R_apart' (HO_7.out) (Kd.N_typed HO_14.out) (by decide)) (Kd.N_typed HO_59.out) (by decide)) BK134.out (by decide)).1 k_ hs_.symm).1.1.2) (fun hs_ => hs_.2.2.1)) (fun hn_ => (Kd.fresh' (Kd.N_lt (zN HO_14.out)) k_ hn_)), Or.elim hk_.1 (fun hs_ => Or.elim hs_ (fun hs_ => ((Kd.R_types (Kd.R_apart' (Kd.R_apart' (HO_7.out) (Kd.N_typed HO_14.out) (by decide)) (Kd.N_typed HO_59.out) (by decide)) BK134.out (by decide)).1 k_ hs_.symm).1.2) (fun hs_ => hs_.2.2.2.1)) (fun hn_ => (Kd.fresh' (Kd.N_lt (zN HO_59.out)) k_ hn_)), Or.elim hk_.1 (fun hs_ => Or.elim hs_ (fun hs_ => ((Kd.R_types (Kd.R_apart' (Kd.R_apart' (HO_7.out) (Kd.N_typed HO_14.out) (by decide)) (Kd.N_typed HO_59.out) (by decide)) BK134.out (by decide)).1 k_ hs_.symm).2) (fun hs_ => hs_.2.2.2.2)) (fun hn_ => (Kd.freshB (g := gb134) (o := .cells #[.bool ((rd_T60 x8_1 x61_2).f0), .slice A133_1 ((rd_T60 x8_1 x61_2).f1).length c133_1, .slice A133_2 ((rd_T60 x8_1 x61_2).f2).length c133_2] 60 (0, 0)) (by (with_reducible repeat (first | refine blk_drewN ?_ _ | refine blk_drew ?_ | refine blk_alloc ?_ _)); exact BK134.out) k_ hn_))⟩)) (below_size (zB1 HB.out GE134.out))); replace HO_14 := yNe HO_14 ho1 hb; replace HO_59 := yNe HO_59 ho1 hb; replace ho1 := Kd.R_newM (M := fun k_ => (w.heap.size ≤ k_)) (yt ho1) (below_size (zB1 HB.out GE134.out)) (fun k_ h_ => h_); replace ho1 := yn ho1 HO_7; have HO140 := yRl1 ho1 HB GE134; replace HO_7 := yRe HO_7 ho1 hb; (try replace HR133_1 := yCb HR133_1 hb); (try replace HR133_2 := yCb HR133_2 hb); replace BK134 := yK BK134 hb; replace HB := yS1 HB GE134 hb; (try clear hb ho0); (try clear ho1)))
     replace HO_7 := Aside0.mk (Kd.R_drew HO_7.out)
     replace HO_14 := Aside0.mk (Kd.N_drew HO_14.out)
     replace HO_59 := Aside0.mk (Kd.N_drew HO_59.out)
     replace HL133_1 := Aside0.mk (Kd.V_drew HL133_1.out)
     replace HL133_2 := Aside0.mk (Kd.V_drew HL133_2.out)
     replace HO137 := Aside0.mk (Kd.V_drew HO137.out)
     replace HO140 := Aside0.mk (Kd.R_drew HO140.out)
     replace BK134 := Aside0.mk (blk_drew BK134.out)
     replace HR133_1 := Aside0.mk (Kd.C_drew HR133_1.out)
     replace HR133_2 := Aside0.mk (Kd.C_drew HR133_2.out)
     replace HB := Aside0.mk (below_drew1 HB.out)
     obtain ⟨Ao50, co50, eo50⟩ := Kd.V_slice HO137.out
     (first | subst eo50 | (injection eo50 with f1_ f2_ f3_; have f4_ := f1_.symm; have f5_ := f3_.symm; clear f1_ f2_ f3_; subst f4_; subst f5_))
     refine start_ (n := 12) (S := fun w' => w'.cell? ⟨gb134, 0, none⟩ = some (.bool ((rd_T60 x8_1 x61_2).f0)) ∧ w'.cell? ⟨gb134, 1, none⟩ = some (.slice A133_1 ((rd_T60 x8_1 x61_2).f1).length c133_1) ∧ w'.cell? ⟨gb134, 2, none⟩ = some (.slice A133_2 ((rd_T60 x8_1 x61_2).f2).length c133_2)) (ds := []) #[false, false, false, false, false, false, false, false, false, false, false, false] (by kernel_rfl) rfl rfl ⟨(blk_cell BK134.out 0).trans rfl, (blk_cell BK134.out 1).trans rfl, (blk_cell BK134.out 2).trans rfl⟩ (fun hHeld => ?_); refine with_tabW mw_Transform.tab19 mw_Transform.bits19 (fun HT_ HW_ => ?_)
     generalize w48.drew = w49 at HO_7 HO_14 HO_59 HL133_1 HL133_2 HO137 HO140 BK134 HR133_1 HR133_2 HB hHeld ⊢
     refine zp (i := 0) (N := some 73) HT_ ?_
     refine zp (i := 1) (N := some 74) HT_ ?_
     refine zp (i := 3) (N := some 76) HT_ ?_
     refine zp (i := 5) (N := some 78) HT_ ?_
     refine take_ (i := 2) (N := some 75) (v := ?_) (a' := ?_) #[true, true, true, true, false, true, false, false, false, false, false, false] rfl rfl (take_ofW HT_.out HW_.out (by kernel_rfl)) (fun _ _ _ h => h) (Or.inl ⟨by rfl, ?_⟩) hHeld ?_ ?_
     rotate_left
     · rintro w' ⟨s0, s1, s2⟩
       go_simp
       with_reducible rfl
     rotate_left
     · simp only [Act.put, List.setIfInBounds_toArray, List.set_cons_zero, List.set_cons_succ, i64_w, i32_w]
       rfl
     refine take_ (i := 4) (N := some 77) (v := ?_) (a' := ?_) #[true, true, true, true, true, true, false, false, false, false, false, false] rfl rfl (take_ofW HT_.out HW_.out (by kernel_rfl)) (fun _ _ _ h => h) (Or.inl ⟨by rfl, ?_⟩) hHeld ?_ ?_
     rotate_left
     · rintro w' ⟨s0, s1, s2⟩
       go_simp
       with_reducible rfl
     rotate_left
     · simp only [Act.put, List.setIfInBounds_toArray, List.set_cons_zero, List.set_cons_succ, i64_w, i32_w]
       rfl
     refine one_ (i := 6) (N := some 79) #[true, true, true, true, true, true, true, false, false, false, false, false] rfl rfl (one_of HT_.out (by kernel_rfl)) (by decide) (fun K hK => ?_)
     refine Kd.N_lit_step (Kd.slice 97 (Kd.int .u32)) _ 29 ?hg (N' := 79) ?hd (xs := ([(rd_T60 x8_1 x61_2).f1, t135] : List (List Int))) (inner := [.slice A133_1 ((rd_T60 x8_1 x61_2).f1).length c133_1, .slice Ao50 t135.length co50]) (ok := (fun k_ => (P1_ k_ ∨ w.heap.size ≤ k_) ∧ some k_ ≠ (u14 : Value).ownBlock ∧ some k_ ≠ (.slice (some ad133) x8_1.length co36 : Value).ownBlock ∧ some k_ ≠ (v139 : Value).ownBlock ∧ k_ ≠ gb134)) (okp := (fun k_ => (P1_ k_ ∨ w.heap.size ≤ k_) ∧ some k_ ≠ (u14 : Value).ownBlock ∧ some k_ ≠ (.slice (some ad133) x8_1.length co36 : Value).ownBlock ∧ some k_ ≠ (v139 : Value).ownBlock ∧ k_ ≠ gb134)) ?hr ?hp (fun _ hk => hk) ((show ∀ k_, w49.heap.size ≤ k_ → (fun k_ => (P1_ k_ ∨ w.heap.size ≤ k_) ∧ some k_ ≠ (u14 : Value).ownBlock ∧ some k_ ≠ (.slice (some ad133) x8_1.length co36 : Value).ownBlock ∧ some k_ ≠ (v139 : Value).ownBlock ∧ k_ ≠ gb134) k_ from fun k_ hk => ⟨(.inr (Nat.le_trans (below_size (zB1 HB.out GE134.out)) hk)), Kd.fresh' (Kd.N_lt (zN HO_14.out)) k_ hk, Kd.fresh' (Kd.N_lt (zN HO_59.out)) k_ hk, Kd.fresh' (Kd.R_lt (zR HO140.out)) k_ hk, Kd.freshB (g := gb134) (o := .cells #[.bool ((rd_T60 x8_1 x61_2).f0), .slice A133_1 ((rd_T60 x8_1 x61_2).f1).length c133_1, .slice A133_2 ((rd_T60 x8_1 x61_2).f2).length c133_2] 60 (0, 0)) (by (with_reducible repeat (first | refine blk_drewN ?_ _ | refine blk_drew ?_ | refine blk_alloc ?_ _)); exact BK134.out) k_ hk⟩) _ (Nat.le_refl _)) (Below.refl _ _) (Nat.le_refl _) (by simp) ?_; (case hd => rfl); (case hg => rfl); (case hr => first | (go_simp; done) | (go_simp; rfl)); (case hp => exact (Reps.one (show Kd.FK (Kd.slice 97 (Kd.int .u32)) _ _ ((rd_T60 x8_1 x61_2).f1) [.slice A133_1 ((rd_T60 x8_1 x61_2).f1).length c133_1] from (Kd.FK_slice_mk (Kd.V_reads' (Kd.V_mono (ok' := (fun k_ => (P1_ k_ ∨ w.heap.size ≤ k_) ∧ some k_ ≠ (u14 : Value).ownBlock ∧ some k_ ≠ (.slice (some ad133) x8_1.length co36 : Value).ownBlock ∧ some k_ ≠ (v139 : Value).ownBlock ∧ k_ ≠ gb134)) (HL133_1.out) (fun k_ hk => by exact ⟨hk.1.1, ⟨hk.1.2.2.1, ⟨hk.1.2.2.2.1, ⟨hk.2, hk.1.2.2.2.2⟩⟩⟩⟩))).2.1 (Kd.V_F (Kd.V_mono (ok' := (fun k_ => (P1_ k_ ∨ w.heap.size ≤ k_) ∧ some k_ ≠ (u14 : Value).ownBlock ∧ some k_ ≠ (.slice (some ad133) x8_1.length co36 : Value).ownBlock ∧ some k_ ≠ (v139 : Value).ownBlock ∧ k_ ≠ gb134)) (HL133_1.out) (fun k_ hk => by exact ⟨hk.1.1, ⟨hk.1.2.2.1, ⟨hk.1.2.2.2.1, ⟨hk.2, hk.1.2.2.2.2⟩⟩⟩⟩))))) (Reps.one (show Kd.FK (Kd.slice 97 (Kd.int .u32)) _ _ t135 [.slice Ao50 t135.length co50] from (Kd.FK_slice_mk (Kd.V_reads' (Kd.V_mono (ok' := (fun k_ => (P1_ k_ ∨ w.heap.size ≤ k_) ∧ some k_ ≠ (u14 : Value).ownBlock ∧ some k_ ≠ (.slice (some ad133) x8_1.length co36 : Value).ownBlock ∧ some k_ ≠ (v139 : Value).ownBlock ∧ k_ ≠ gb134)) (HO137.out) (fun k_ hk => by exact ⟨hk.1, ⟨hk.2.2.1, ⟨hk.2.2.2.1, ⟨hk.2.1, hk.2.2.2.2⟩⟩⟩⟩))).2.1 (Kd.V_F (Kd.V_mono (ok' := (fun k_ => (P1_ k_ ∨ w.heap.size ≤ k_) ∧ some k_ ≠ (u14 : Value).ownBlock ∧ some k_ ≠ (.slice (some ad133) x8_1.length co36 : Value).ownBlock ∧ some k_ ≠ (v139 : Value).ownBlock ∧ k_ ≠ gb134)) (HO137.out) (fun k_ hk => by exact ⟨hk.1, ⟨hk.2.2.1, ⟨hk.2.2.2.1, ⟨hk.2.1, hk.2.2.2.2⟩⟩⟩⟩))))) (Reps.none _ _))))
     intro v143 w51 ho52 hb hg_ hnew_
     clear hg_ hnew_
     (first | rw [← Ny142.out] at ho52 | (simp only [Int.reduceToNat] at ho52; rw [← Ny142.out] at ho52))
     replace HO_7 := yRb HO_7 hb
     replace HO_14 := Aside0.mk (Kd.N_elder' (zN HO_14.out) (Kd.N_base ho52) hb)
     replace HO_59 := Aside0.mk (Kd.N_elder' (zN HO_59.out) (Kd.N_base ho52) hb)
     replace HL133_1 := Aside0.mk (Kd.V_elder' (zV HL133_1.out) (Kd.N_base ho52) hb)
     replace HL133_2 := Aside0.mk (Kd.V_elder' (zV HL133_2.out) (Kd.N_base ho52) hb)
     replace HO137 := Aside0.mk (Kd.V_elder' (zV HO137.out) (Kd.N_base ho52) hb)
     replace HO140 := yRb HO140 hb
     have HO144 := Aside0.mk (Kd.N_lower ho52 (below_size (zB1 HB.out GE134.out)))
     (try replace HR133_1 := yCb HR133_1 hb)
     (try replace HR133_2 := yCb HR133_2 hb)
     replace BK134 := yK BK134 hb
     replace HB := yS1 HB GE134 hb
     clear hb ho52
     obtain ⟨Ao53, co53, eo53⟩ := Kd.N_slice HO144.out
     (first | subst eo53 | (injection eo53 with f1_ f2_ f3_; have f4_ := f1_.symm; have f5_ := f3_.symm; clear f1_ f2_ f3_; subst f4_; subst f5_))
     refine hK.out _ _ ⟨(blk_cell BK134.out 0).trans rfl, (blk_cell BK134.out 1).trans rfl, (blk_cell BK134.out 2).trans rfl⟩ (fun hHeld => ?_)
     clear hK K
     refine norm_ (a' := ?_) ?_ ?_
     rotate_left
     · show Act.put _ (some 79) _ = _
       simp only [Act.put, List.setIfInBounds_toArray, List.set_cons_zero, List.set_cons_succ, i64_w, i32_w]
       rfl
     refine one_ (i := 7) (N := some 80) #[true, true, true, true, true, true, true, true, false, false, false, false] rfl rfl (one_of HT_.out (by kernel_rfl)) (by decide) (fun K hK => ?_)
     refine goes_ Try.func74 (by kernel_rfl) rfl #[.slice Ao53 y142.length co53] (by rfl) rfl rfl (by (try simp only [List.map_toArray, List.map_cons, List.map_nil]); first | done | rfl | (simp only [List.length_drop, List.length_take]; rfl)) ?_
     with_reducible refine (nat_Mul.calls k2 _ _ y142 t145 _ ?side1 ?side2 A41.out).mono ?_
     (case side1 => exact zC (Kd.N_reads' HO144.out).2.2)
     (case side2 => exact (Kd.N_reads' HO144.out).2.1)
     rintro e w54 ⟨v146, rfl, ho0, hb⟩
     refine ⟨_, rfl, ?_⟩
     replace HO_14 := yNe HO_14 ho0 hb
     replace HO_59 := yNe HO_59 ho0 hb
     replace HL133_1 := yVe HL133_1 ho0 hb
     replace HL133_2 := yVe HL133_2 ho0 hb
     replace HO137 := yVe HO137 ho0 hb
     replace HO144 := yNe HO144 ho0 hb
     replace ho0 := Kd.R_newM (M := fun k_ => (w.heap.size ≤ k_)) ho0 (below_size (zB1 HB.out GE134.out)) (fun k_ h_ => h_)
     replace ho0 := yn ho0 HO_7
     replace ho0 := yn ho0 HO140
     have HO147 := yRl1 ho0 HB GE134
     replace HO_7 := yRe HO_7 ho0 hb
     replace HO140 := yRe HO140 ho0 hb
     (try replace HR133_1 := yCb HR133_1 hb)
     (try replace HR133_2 := yCb HR133_2 hb)
     replace BK134 := yK BK134 hb
     replace HB := yS1 HB GE134 hb
     (try clear hb)
     (try clear ho0)
     obtain ⟨Ao55, co55, eo55⟩ := Kd.R_slice HO147.out
     (first | subst eo55 | (injection eo55 with f1_ f2_ f3_; have f4_ := f1_.symm; have f5_ := f3_.symm; clear f1_ f2_ f3_; subst f4_; subst f5_))
     refine hK.out _ _ ⟨(blk_cell BK134.out 0).trans rfl, (blk_cell BK134.out 1).trans rfl, (blk_cell BK134.out 2).trans rfl⟩ (fun hHeld => ?_)
     clear hK K
     refine norm_ (a' := ?_) ?_ ?_
     rotate_left
     · show Act.put _ (some 80) _ = _
       simp only [Act.put, List.setIfInBounds_toArray, List.set_cons_zero, List.set_cons_succ, i64_w, i32_w]
       rfl
     refine zp (i := 8) (N := some 81) HT_ ?_
     refine one_ (i := 9) (N := some 82) #[true, true, true, true, true, true, true, true, true, true, false, false] rfl rfl (one_of HT_.out (by kernel_rfl)) (by decide) (fun K hK => ?_)
     refine value_ (w1 := ?_) (v := ?_) (by rfl) rfl ?_ ?_
     rotate_left 2
     · go_simp
       constructor
       · rfl
       rfl
     refine hK.out _ _ ⟨(blk_cell (blk_alloc BK134.out _) 0).trans rfl, (blk_cell (blk_alloc BK134.out _) 1).trans rfl, (blk_cell (blk_alloc BK134.out _) 2).trans rfl⟩ (fun hHeld => ?_)
     clear hK K
     refine norm_ (a' := ?_) ?_ ?_
     rotate_left
     · show Act.put _ (some 82) _ = _
       simp only [Act.put, List.setIfInBounds_toArray, List.set_cons_zero, List.set_cons_succ, i64_w, i32_w]
       rfl
     refine one_ (i := 10) (N := some 83) #[true, true, true, true, true, true, true, true, true, true, true, false] rfl rfl (one_of HT_.out (by kernel_rfl)) (by decide) (fun K hK => ?_)
     refine Kd.N_append_step k113 (w0 := w) w.heap.size (by rfl) (.tmp 73) (.tmp 82) 114 113 (.agg #[(.bool false), (.slice none 0 0)]) 32 rfl Try.underlying114 info113 rfl (by decide) (by omega) u14 x14_2 (⟨(rd_T60 x8_1 x61_2).f0, t145⟩ : S113) [.bool ((rd_T60 x8_1 x61_2).f0), .slice Ao55 t145.length co55] (fun k_ => (P1_ k_ ∨ w.heap.size ≤ k_) ∧ some k_ ≠ (.slice Ao47 x7_1.length co47 : Value).ownBlock ∧ some k_ ≠ (.slice (some ad133) x8_1.length co36 : Value).ownBlock ∧ some k_ ≠ (v139 : Value).ownBlock ∧ some k_ ≠ (.slice Ao53 y142.length co53 : Value).ownBlock ∧ k_ ≠ gb134) (fun k_ => ((fun k_ => (P1_ k_ ∨ w.heap.size ≤ k_) ∧ some k_ ≠ (.slice Ao47 x7_1.length co47 : Value).ownBlock ∧ some k_ ≠ (.slice (some ad133) x8_1.length co36 : Value).ownBlock ∧ some k_ ≠ (v139 : Value).ownBlock ∧ some k_ ≠ (.slice Ao53 y142.length co53 : Value).ownBlock ∧ k_ ≠ gb134)) k_ ∧ some k_ ≠ (u14 : Value).ownBlock) rfl rfl ?aP (fun _ hk => hk) ?aF ?aO ?aB ?aS ?aL ?_
     (case aP => exact (k113_mkF _ _ (⟨(rd_T60 x8_1 x61_2).f0, t145⟩ : S113) (Kd.R_reads' (Kd.R_mono (ok' := (fun k_ => ((fun k_ => (P1_ k_ ∨ w.heap.size ≤ k_) ∧ some k_ ≠ (.slice Ao47 x7_1.length co47 : Value).ownBlock ∧ some k_ ≠ (.slice (some ad133) x8_1.length co36 : Value).ownBlock ∧ some k_ ≠ (v139 : Value).ownBlock ∧ some k_ ≠ (.slice Ao53 y142.length co53 : Value).ownBlock ∧ k_ ≠ gb134)) k_ ∧ some k_ ≠ (u14 : Value).ownBlock)) (Kd.R_types (Kd.R_apart' (Kd.R_apart' (Kd.R_apart' (HO147.out) (Kd.N_typed HO_59.out) (by decide)) (Kd.N_typed HO144.out) (by decide)) (Kd.N_typed HO_14.out) (by decide)) BK134.out (by decide)) (fun k_ hk => by exact ⟨⟨(.inr (hk.1.1.1.1.1.1.1)), ⟨hk.1.1.1.1.1.2, ⟨hk.1.1.1.2, ⟨hk.1.1.1.1.2, ⟨hk.1.1.2, hk.2⟩⟩⟩⟩⟩, hk.1.2⟩))).2.1 (Kd.R_F (Kd.R_mono (ok' := (fun k_ => ((fun k_ => (P1_ k_ ∨ w.heap.size ≤ k_) ∧ some k_ ≠ (.slice Ao47 x7_1.length co47 : Value).ownBlock ∧ some k_ ≠ (.slice (some ad133) x8_1.length co36 : Value).ownBlock ∧ some k_ ≠ (v139 : Value).ownBlock ∧ some k_ ≠ (.slice Ao53 y142.length co53 : Value).ownBlock ∧ k_ ≠ gb134)) k_ ∧ some k_ ≠ (u14 : Value).ownBlock)) (Kd.R_types (Kd.R_apart' (Kd.R_apart' (Kd.R_apart' (HO147.out) (Kd.N_typed HO_59.out) (by decide)) (Kd.N_typed HO144.out) (by decide)) (Kd.N_typed HO_14.out) (by decide)) BK134.out (by decide)) (fun k_ hk => by exact ⟨⟨(.inr (hk.1.1.1.1.1.1.1)), ⟨hk.1.1.1.1.1.2, ⟨hk.1.1.1.2, ⟨hk.1.1.1.1.2, ⟨hk.1.1.2, hk.2⟩⟩⟩⟩⟩, hk.1.2⟩)))))
     (case aB => exact (zB1 HB.out GE134.out))
     (case aF => exact (fun k_ hk => ⟨(.inr (Nat.le_trans (below_size (zB1 HB.out GE134.out)) hk)), Kd.fresh' (Kd.R_lt (zR HO_7.out)) k_ hk, Kd.fresh' (Kd.N_lt (zN HO_59.out)) k_ hk, Kd.fresh' (Kd.R_lt (zR HO140.out)) k_ hk, Kd.fresh' (Kd.N_lt (zN HO144.out)) k_ hk, Kd.freshB (g := gb134) (o := .cells #[.bool ((rd_T60 x8_1 x61_2).f0), .slice A133_1 ((rd_T60 x8_1 x61_2).f1).length c133_1, .slice A133_2 ((rd_T60 x8_1 x61_2).f2).length c133_2] 60 (0, 0)) (by (with_reducible repeat (first | refine blk_drewN ?_ _ | refine blk_drew ?_ | refine blk_alloc ?_ _)); exact BK134.out) k_ hk⟩))
     (case aO => exact (by (with_reducible repeat (first | apply Kd.N_alloc | apply Kd.N_drewN | apply Kd.N_drew)); exact Kd.N_mono HO_14.out (fun _ hk => ⟨hk.1.1.1.1, ⟨hk.1.1.1.2.1, ⟨hk.1.1.1.2.2.1, ⟨hk.1.1.2, ⟨hk.1.2, hk.1.1.1.2.2.2⟩⟩⟩⟩⟩)))
     (case aS => exact (below_size (zB1 HB.out GE134.out)))
     (case aL => have := LMc42.out; omega)
     intro v149 w56 ho hb hg hat
     rw [← Ny148.out] at ho
     replace HO_7 := Aside0.mk (Kd.R_over' (zR HO_7.out) (Kd.N_typed (zN HO_14.out)) (by decide) hg)
     replace HO_59 := Aside0.mk (Kd.N_afterv (ok := (fun k_ => (P1_ k_ ∨ w.heap.size ≤ k_) ∧ some k_ ≠ (.slice Ao47 x7_1.length co47 : Value).ownBlock ∧ some k_ ≠ (v139 : Value).ownBlock ∧ some k_ ≠ (.slice Ao53 y142.length co53 : Value).ownBlock ∧ some k_ ≠ (.slice Ao55 t145.length co55 : Value).ownBlock ∧ k_ ≠ gb134)) (by (with_reducible repeat (first | apply Kd.N_alloc | apply Kd.N_drewN | apply Kd.N_drew)); exact Kd.N_mono HO_59.out (fun _ hk => ⟨⟨hk.1.1.1.1, ⟨hk.1.1.1.2.1, ⟨hk.1.1.2, ⟨hk.1.2, ⟨hk.2, hk.1.1.1.2.2.2⟩⟩⟩⟩⟩, hk.1.1.1.2.2.1⟩)) hg hat)
     replace HL133_1 := Aside0.mk (Kd.V_afterv (ok := (fun k_ => (P1_ k_ ∨ w.heap.size ≤ k_) ∧ some k_ ≠ (.slice Ao47 x7_1.length co47 : Value).ownBlock ∧ some k_ ≠ (.slice (some ad133) x8_1.length co36 : Value).ownBlock ∧ some k_ ≠ (v139 : Value).ownBlock ∧ some k_ ≠ (.slice Ao53 y142.length co53 : Value).ownBlock ∧ some k_ ≠ (.slice Ao55 t145.length co55 : Value).ownBlock ∧ k_ ≠ gb134)) (by (with_reducible repeat (first | apply Kd.V_alloc | apply Kd.V_drewN | apply Kd.V_drew)); exact Kd.V_mono HL133_1.out (fun _ hk => ⟨⟨hk.1.1.1.1, ⟨hk.1.1.1.2.1, ⟨hk.1.1.1.2.2.2.1, ⟨hk.1.1.2, ⟨hk.1.2, ⟨hk.2, hk.1.1.1.2.2.2.2⟩⟩⟩⟩⟩⟩, hk.1.1.1.2.2.1⟩)) hg hat)
     replace HL133_2 := Aside0.mk (Kd.V_afterv (ok := (fun k_ => (P1_ k_ ∨ w.heap.size ≤ k_) ∧ some k_ ≠ (.slice Ao47 x7_1.length co47 : Value).ownBlock ∧ some k_ ≠ (.slice (some ad133) x8_1.length co36 : Value).ownBlock ∧ some k_ ≠ (v139 : Value).ownBlock ∧ some k_ ≠ (.slice Ao53 y142.length co53 : Value).ownBlock ∧ some k_ ≠ (.slice Ao55 t145.length co55 : Value).ownBlock ∧ k_ ≠ gb134)) (by (with_reducible repeat (first | apply Kd.V_alloc | apply Kd.V_drewN | apply Kd.V_drew)); exact Kd.V_mono HL133_2.out (fun _ hk => ⟨⟨hk.1.1.1.1, ⟨hk.1.1.1.2.1, ⟨hk.1.1.1.2.2.2.1, ⟨hk.1.1.2, ⟨hk.1.2, ⟨hk.2, hk.1.1.1.2.2.2.2⟩⟩⟩⟩⟩⟩, hk.1.1.1.2.2.1⟩)) hg hat)
     replace BK134 := Aside0.mk (blk_grown (g := gb134) (o := .cells #[.bool ((rd_T60 x8_1 x61_2).f0), .slice A133_1 ((rd_T60 x8_1 x61_2).f1).length c133_1, .slice A133_2 ((rd_T60 x8_1 x61_2).f2).length c133_2] 60 (0, 0)) (by (with_reducible repeat (first | refine blk_drewN ?_ _ | refine blk_drew ?_ | refine blk_alloc ?_ _)); exact BK134.out) hg (Kd.N_ne HO_14.out BK134.out (by decide)))
     replace HO137 := Aside0.mk (Kd.V_afterv (ok := (fun k_ => (P1_ k_ ∨ w.heap.size ≤ k_) ∧ some k_ ≠ (.slice (some ad133) x8_1.length co36 : Value).ownBlock ∧ some k_ ≠ (v139 : Value).ownBlock ∧ some k_ ≠ (.slice Ao53 y142.length co53 : Value).ownBlock ∧ some k_ ≠ (.slice Ao55 t145.length co55 : Value).ownBlock ∧ k_ ≠ gb134)) (by (with_reducible repeat (first | apply Kd.V_alloc | apply Kd.V_drewN | apply Kd.V_drew)); exact Kd.V_mono HO137.out (fun _ hk => ⟨⟨hk.1.1.1, ⟨hk.1.1.2.2.2.1, ⟨hk.1.1.2.1, ⟨hk.1.2, ⟨hk.2, hk.1.1.2.2.2.2⟩⟩⟩⟩⟩, hk.1.1.2.2.1⟩)) hg hat)
     replace HO140 := Aside0.mk (Kd.R_over' (zR HO140.out) (Kd.N_typed (zN HO_14.out)) (by decide) hg)
     replace HO144 := Aside0.mk (Kd.N_afterv (ok := (fun k_ => (P1_ k_ ∨ w.heap.size ≤ k_) ∧ some k_ ≠ (.slice (some ad133) x8_1.length co36 : Value).ownBlock ∧ some k_ ≠ (v139 : Value).ownBlock ∧ some k_ ≠ (.slice Ao55 t145.length co55 : Value).ownBlock ∧ k_ ≠ gb134)) (by (with_reducible repeat (first | apply Kd.N_alloc | apply Kd.N_drewN | apply Kd.N_drew)); exact Kd.N_mono HO144.out (fun _ hk => ⟨⟨hk.1.1, ⟨hk.1.2.2.1, ⟨hk.1.2.2.2.1, ⟨hk.2, hk.1.2.2.2.2⟩⟩⟩⟩, hk.1.2.1⟩)) hg hat)
     replace HB := Aside0.mk (hb)
     have HO150 := Aside0.mk (ho)
     clear HO_14 HO147
     clear ho hb hg hat
     refine hK.out _ _ ⟨(blk_cell BK134.out 0).trans rfl, (blk_cell BK134.out 1).trans rfl, (blk_cell BK134.out 2).trans rfl⟩ (fun hHeld => ?_)
     clear hK K
     refine norm_ (a' := ?_) ?_ ?_
     rotate_left
     · show Act.put _ (some 83) _ = _
       simp only [Act.put, List.setIfInBounds_toArray, List.set_cons_zero, List.set_cons_succ, i64_w, i32_w]
       rfl
     refine zp (i := 11) (N := some 14) HT_ ?_
     refine done_ (done_of HT_.out (by kernel_rfl)) ?_
     try go_wp2
     go_roundg k2
     case measure => have := HK1.out; have := HK2.out; omega
     case rel => exact ⟨(y148), (wrap64 (x61_2 + 1)), zF, H', ⟨zo2 HK1 HK2⟩, ⟨by (with_reducible repeat (first | apply Kd.R_alloc | apply Kd.R_drewN | apply Kd.R_drew)); exact Kd.R_mono HO_7.out (fun _ hk => hk.1.1)⟩, ⟨by (with_reducible repeat (first | apply Kd.N_alloc | apply Kd.N_drewN | apply Kd.N_drew)); exact Kd.N_mono HO150.out (fun _ hk => ⟨hk.1, ⟨hk.2.1, hk.2.2.1⟩⟩)⟩, ⟨by (with_reducible repeat (first | apply Kd.N_alloc | apply Kd.N_drewN | apply Kd.N_drew)); exact Kd.N_mono HO_59.out (fun _ hk => ⟨hk.1.1, ⟨hk.1.2.1, hk.2⟩⟩)⟩, ⟨zB1 HB.out GE134.out⟩⟩
   replace H := zb H
   obtain ⟨t151, A57, H⟩ := H
   have H' := Aside0.mk H
   clear H
   obtain ⟨Ao58, co58, rfl⟩ := Kd.N_slice HO_14.out
   go_wp2_with (first | ((with_reducible refine gC 104 ?_); refine zG (some 87) Try.func104 #[.int .i64 a0, .slice Ao58 x14_2.length co58] ?_; (with_reducible refine (mw_sums.calls k2 a0 _ _ x14_2 t151 _ ?side1 ?side2 A57.out).mono ?_); (case side1 => exact zC (Kd.N_reads' HO_14.out).2.2); (case side2 => exact (Kd.N_reads' HO_14.out).2.1); rintro e w59 ⟨v152, rfl, ho0, hb⟩; refine ⟨_, rfl, ?_⟩; have HO153 := Aside0.mk (Kd.N_lower (Kd.N_mono (ok' := fun k_ => (P1_ k_ ∨ w.heap.size ≤ k_) ∧ some k_ ≠ (u7 : Value).ownBlock ∧ some k_ ≠ (.slice Ao58 x14_2.length co58 : Value).ownBlock ∧ some k_ ≠ (.slice Ao36 x8_1.length co36 : Value).ownBlock) ho0 (fun k_ hk_ => ⟨(.inr (Nat.le_trans (below_size (zB HB.out)) hk_)), (Kd.fresh' (Kd.R_lt (zR HO_7.out)) k_ hk_), (Kd.fresh' (Kd.N_lt (zN HO_14.out)) k_ hk_), (Kd.fresh' (Kd.N_lt (zN HO_59.out)) k_ hk_)⟩)) (below_size (zB HB.out))); replace HO_7 := yRb HO_7 hb; replace HO_14 := Aside0.mk (Kd.N_elder' (zN HO_14.out) (Kd.N_base ho0) hb); replace HO_59 := Aside0.mk (Kd.N_elder' (zN HO_59.out) (Kd.N_base ho0) hb); replace HB := yS HB hb; (try clear hb ho0); obtain ⟨Ao60, co60, rfl⟩ := Kd.N_slice HO153.out))
   go_loopg [20, 89] k2 (fun kq v20 v89 w' => ∃ (x20_3 : List (S60)) (x89_3 : Int), v89 = .int .i64 x89_3 ∧ Aside0 (mw_Transform.l2 kq x7_1 x20_3 t151 (t151.length : Int) x89_3 = some (r1, r2)) ∧ Aside0 (kq ≤ k2) ∧ Aside0 (Kd.R (Kd.int .u32) 97 w' w.heap.size (fun k_ => (w.heap.size ≤ k_)) u7 x7_1) ∧ Aside0 (Kd.N k60 60 w' w.heap.size (fun k_ => (P1_ k_ ∨ w.heap.size ≤ k_) ∧ some k_ ≠ ((.slice Ao60 t151.length co60) : Value).ownBlock) v20 x20_3) ∧ Aside0 (Kd.N k113 113 w' w.heap.size (fun k_ => (P1_ k_ ∨ w.heap.size ≤ k_) ∧ some k_ ≠ (u7 : Value).ownBlock ∧ some k_ ≠ (v20 : Value).ownBlock) (.slice Ao60 t151.length co60) t151) ∧ Aside0 (Below w.heap.size w w'))
   case atStart => exact ⟨(([] : List (S60))), (0), zF, H', ⟨Nat.le_refl _⟩, ⟨zR HO_7.out⟩, ⟨by first | exact Kd.S_nil _ _ _ _ _ | exact Kd.N_nil _ _ _ _ _ | exact Kd.V_nil _ _ _ _ _ | exact Kd.Q_nil _ _ _ _ _ | exact Kd.R_nil _ _ _ _ _⟩, ⟨by (with_reducible repeat (first | apply Kd.N_alloc | apply Kd.N_drewN | apply Kd.N_drew)); exact Kd.N_mono HO153.out (fun _ hk => ⟨hk.1, ⟨hk.2.1, (by simp [Value.ownBlock])⟩⟩)⟩, ⟨zB HB.out⟩⟩
   clear H'
   (try clear c4);(try clear c4b0);(try clear c4b1);(try clear c7b0);(try clear c8b0);(try clear c9b0);(try clear c11);(try clear c37b0);(try clear c38b0);(try clear c39b0);(try clear c42);(try clear hcz16_0);(try clear hcz16_1);(try clear hcz16_2);(try clear hcz18_0);(try clear hcz18_1);(try clear hcz18_2);(try clear hcz20_0);(try clear hcz20_1);(try clear hcz20_2);(try clear hcz24_0);(try clear hcz24_1);(try clear hcz24_2);(try clear hcz44_0);(try clear hcz44_1);(try clear hcz44_2);(try clear hcz46_0);(try clear hcz46_1);(try clear hcz46_2);(try clear hfz16_0);(try clear hfz16_1);(try clear hfz16_2);(try clear hfz18_0);(try clear hfz18_1);(try clear hfz18_2);(try clear hfz20_0);(try clear hfz20_1);(try clear hfz20_2);(try clear hfz24_0);(try clear hfz24_1);(try clear hfz24_2);(try clear hfz44_0);(try clear hfz44_1);(try clear hfz44_2);(try clear hfz46_0);(try clear hfz46_1);(try clear hfz46_2);(try clear hx105_0);(try clear hx105_1);(try clear hx105_2);(try clear hx133_0);(try clear hx133_1);(try clear hx133_2);(try clear p105);(try clear p133);(try clear q105);(try clear q133)
   obtain ⟨x20_3, x89_3, rfl, HA, HK3, HO_7, HO_20, HO_87, HB⟩ := hrel
   cases gk with | zero => exact absurd HA.out (by simp [mw_Transform.l2]) | succ k3 => ?_
   have H := HA.out
   clear HA
   simp only [mw_Transform.l2] at H
   replace H := zid H
   rcases H with ⟨c61b0, H⟩ | ⟨c61b0, H⟩
   · replace H := zgd H
     obtain ⟨c62b0, H⟩ := H
     replace H := zgd H
     obtain ⟨c63b0, H⟩ := H
     replace H := zb H
     obtain ⟨⟨t156, t157, t160⟩, A64, H⟩ := H
     dsimp only at H
     replace H := zg H
     obtain ⟨c65, H⟩ := H
     have LMc65 := Aside0.mk c65
     clear c65
     obtain ⟨y163, hy163⟩ : ∃ y_ : List (S60), y_ = (x20_3 ++ [(⟨t156, t157, t160⟩ : S60)]) := ⟨_, rfl⟩
     replace H : (mw_Transform.l2 k3 x7_1 y163 t151 (t151.length : Int) (wrap64 (x89_3 + 1))) = some (r1, r2) := zY hy163 H
     have Ny163 := Aside0.mk hy163
     clear hy163
     have H' := Aside0.mk H
     clear H
     have p154 : 0 ≤ (x89_3 : Int) := zd
     have q154 : x89_3 < (t151.length : Int) := zd
     obtain ⟨ad154, A154_1, c154_1, e154, hx154_0, hx154_1, hl154_1, hi154_1⟩ := at_T113 (Kd.N_reads' HO_87.out).2.2 x89_3 p154 q154
     cases e154
     obtain ⟨ce154, hce154, hMe154, hcc154⟩ := Kd.N_get HO_87.out z113 x89_3 p154 (by first | exact q154 | exact zd | (have e_ := (Kd.N_reads' HO_87.out).1; omega))
     obtain ⟨ua154_1, uc154_1, rfl, ul154_1, ge154_1⟩ := k113_openF hMe154
     have hv154_1 := hcc154 1 _ rfl
     rw [add_field _ _ 1 (by omega)] at hv154_1
     replace hv154_1 := Option.some.inj (hv154_1.symm.trans hx154_1)
     injection hv154_1 with hva_ hvn_ hvc_
     rw [hva_] at ge154_1
     rw [hvc_] at ul154_1
     have HL154_1 := Aside0.mk (show Kd.V (Kd.int .u32) 97 _ w.heap.size _ _ ((rd_T113 t151 x89_3).f1) from Kd.V_mk ul154_1 ge154_1)
     clear hva_ hvn_ hvc_ ge154_1 ul154_1
     clear hcc154 hce154
     have HR154_1 := Aside0.mk hi154_1
     have HC154_1 := Aside0.mk hl154_1
     clear hi154_1 hl154_1
     replace p154 := eq_true p154
     replace q154 := eq_true q154
     go_wp2_with (first | ((with_reducible refine gate_dst (N := 22) rfl ?_); refine box_event ?hg (N := 22) ?hd (cs := #[.bool false, .slice none 0 0]) (t := 113) ?hr ?_; (case hd => rfl); (case hg => rfl); (case hr => first | (go_simp; done) | (go_simp; rfl)); intro gb155 hg w66 hbox hb; replace HO_7 := yRb HO_7 hb; replace HO_20 := Aside0.mk (Kd.N_below (Kd.N_elderB (zN HO_20.out) gb155 (Nat.le_of_eq hg.symm)) hb); replace HO_87 := Aside0.mk (Kd.N_below (Kd.N_elderB (zN HO_87.out) gb155 (Nat.le_of_eq hg.symm)) hb); replace HL154_1 := yVB HL154_1 hg hb; (try replace HR154_1 := yCb HR154_1 hb); have BK155 := Aside0.mk (hbox); have GW155 := yg hg HB; have GE155 := yg hg HB; replace HB := yS HB hb; clear hb hbox hg; obtain ⟨hcz67_0, hcz67_1, hfz67_0, hfz67_1⟩ := zz2 BK155) | ((with_reducible refine gate_store (t := 113) (p := 22) rfl ?_); refine store_event (t := 113) (p := 22) (v := ?vo_w68) (w1 := ((w66.setCell ⟨gb155, 0, none⟩ (.bool ((rd_T113 t151 x89_3).f0))).setCell ⟨gb155, 1, none⟩ (.slice A154_1 ((rd_T113 t151 x89_3).f1).length c154_1))) ?hg ?ho ?hn ?hr ?_; (case ho => rfl); (case hg => rfl); (case hn => rfl); (case hr => first | (go_simp; done) | (go_simp; rfl)); intro w68 hw; have n0_ : Aside0 (Kd.R (Kd.int .u32) 97 w68 w.heap.size (fun k_ => (w.heap.size ≤ k_)) u7 x7_1) := ⟨(by rw [hw]; exact (by (with_reducible repeat (first | apply Kd.R_alloc | apply Kd.R_drewN | apply Kd.R_drew)); exact Kd.R_mono (Kd.R_far (p := ⟨gb155, 1, none⟩) (Kd.R_far (p := ⟨gb155, 0, none⟩) (Kd.R_types HO_7.out BK155.out (by decide)) (fun _ hk => hk.2) (.bool ((rd_T113 t151 x89_3).f0))) (fun _ hk => hk.2) (.slice A154_1 ((rd_T113 t151 x89_3).f1).length c154_1)) (fun _ hk => hk.1)))⟩; have n1_ : Aside0 (Kd.N k60 60 w68 w.heap.size (fun k_ => (P1_ k_ ∨ w.heap.size ≤ k_) ∧ some k_ ≠ (.slice (some ad154) t151.length co60 : Value).ownBlock ∧ k_ ≠ gb155) u20 x20_3) := ⟨(by rw [hw]; exact (by (with_reducible repeat (first | apply Kd.N_alloc | apply Kd.N_drewN | apply Kd.N_drew)); exact Kd.N_mono (Kd.N_far (p := ⟨gb155, 1, none⟩) (Kd.N_far (p := ⟨gb155, 0, none⟩) (Kd.N_mono HO_20.out (fun k_ hk => (⟨hk, hk.2⟩ : _ ∧ k_ ≠ gb155))) (fun _ hk => hk.2) (.bool ((rd_T113 t151 x89_3).f0))) (fun _ hk => hk.2) (.slice A154_1 ((rd_T113 t151 x89_3).f1).length c154_1)) (fun _ hk => ⟨hk.1.1.1, ⟨hk.1.1.2, hk.1.2⟩⟩)))⟩; have n2_ : Aside0 (Kd.N k113 113 w68 w.heap.size (fun k_ => (P1_ k_ ∨ w.heap.size ≤ k_) ∧ some k_ ≠ (u7 : Value).ownBlock ∧ some k_ ≠ (u20 : Value).ownBlock ∧ k_ ≠ gb155) (.slice (some ad154) t151.length co60) t151) := ⟨(by rw [hw]; exact (by (with_reducible repeat (first | apply Kd.N_alloc | apply Kd.N_drewN | apply Kd.N_drew)); exact Kd.N_mono (Kd.N_far (p := ⟨gb155, 1, none⟩) (Kd.N_far (p := ⟨gb155, 0, none⟩) (Kd.N_mono HO_87.out (fun k_ hk => (⟨hk, hk.2⟩ : _ ∧ k_ ≠ gb155))) (fun _ hk => hk.2) (.bool ((rd_T113 t151 x89_3).f0))) (fun _ hk => hk.2) (.slice A154_1 ((rd_T113 t151 x89_3).f1).length c154_1)) (fun _ hk => ⟨hk.1.1.1, ⟨hk.1.1.2.1, ⟨hk.1.1.2.2, hk.1.2⟩⟩⟩)))⟩; have n3_ : Aside0 (Kd.V (Kd.int .u32) 97 w68 w.heap.size (fun k_ => (P1_ k_ ∨ w.heap.size ≤ k_) ∧ some k_ ≠ (u7 : Value).ownBlock ∧ some k_ ≠ (u20 : Value).ownBlock ∧ some k_ ≠ (.slice (some ad154) t151.length co60 : Value).ownBlock ∧ k_ ≠ gb155) (.slice A154_1 ((rd_T113 t151 x89_3).f1).length c154_1) ((rd_T113 t151 x89_3).f1)) := ⟨(by rw [hw]; exact (by (with_reducible repeat (first | apply Kd.V_alloc | apply Kd.V_drewN | apply Kd.V_drew)); exact Kd.V_mono (Kd.V_far (p := ⟨gb155, 1, none⟩) (Kd.V_far (p := ⟨gb155, 0, none⟩) (Kd.V_mono HL154_1.out (fun k_ hk => (⟨hk, hk.2⟩ : _ ∧ k_ ≠ gb155))) (fun _ hk => hk.2) (.bool ((rd_T113 t151 x89_3).f0))) (fun _ hk => hk.2) (.slice A154_1 ((rd_T113 t151 x89_3).f1).length c154_1)) (fun _ hk => ⟨hk.1.1.1.1, ⟨hk.1.1.1.2.1, ⟨hk.1.1.1.2.2, ⟨hk.1.1.2, hk.1.2⟩⟩⟩⟩)))⟩; have n4_ : Aside0 (w68.heap[gb155]? = some (.cells #[.bool ((rd_T113 t151 x89_3).f0), .slice A154_1 ((rd_T113 t151 x89_3).f1).length c154_1] 113 (0, 0))) := ⟨(by rw [hw]; exact (zP2 BK155.out))⟩; have n5_ : Aside0 (Below w.heap.size w w68) := ⟨(by rw [hw]; exact (zB1 HB.out GE155.out))⟩; clear hw; clear HO_7; clear HO_20; clear HO_87; clear HL154_1; clear BK155; clear HB; have HO_7 := n0_; have HO_20 := n1_; have HO_87 := n2_; have HL154_1 := n3_; have BK155 := n4_; have HB := n5_; clear n0_ n1_ n2_ n3_ n4_ n5_; obtain ⟨hcz69_0, hcz69_1, hfz69_0, hfz69_1⟩ := zz2 BK155; obtain ⟨Ao70, co70, rfl⟩ := Kd.R_slice HO_7.out) | ((with_reducible refine gC 93 ?_); refine zG (some 96) Try.func93 #[.agg #[.bool ((rd_T113 t151 x89_3).f0), .slice A154_1 ((rd_T113 t151 x89_3).f1).length c154_1], .slice Ao70 x7_1.length co70] ?_; (with_reducible refine (mw_ratio.calls k3 ((rd_T113 t151 x89_3).f0) (fun k_ => ((P1_ k_ ∨ w.heap.size ≤ k_) ∧ (some k_ ≠ (.slice Ao70 x7_1.length co70 : Value).ownBlock ∧ (some k_ ≠ (u20 : Value).ownBlock ∧ (some k_ ≠ (.slice (some ad154) t151.length co60 : Value).ownBlock ∧ k_ ≠ gb155))))) _ _ ((rd_T113 t151 x89_3).f1) (fun k_ => some k_ = (.slice Ao70 x7_1.length co70 : Value).ownBlock) _ _ x7_1 t156 t157 t160 _ ?side1 ?side2 A64.out).mono ?_); (case side1 => exact HL154_1.out); (case side2 => exact Kd.R_V (Kd.R_tight rfl (Kd.R_types (Kd.R_apart' (Kd.R_apart' (HO_7.out) (Kd.N_typed HO_20.out) (by decide)) (Kd.N_typed HO_87.out) (by decide)) BK155.out (by decide)))); rintro e w71 ⟨v158, v161, rfl, ho0, ho1, hb⟩; refine ⟨_, rfl, ?_⟩; replace HL154_1 := yVb HL154_1 hb; have HO159 := Aside0.mk (Kd.V_lower (Kd.V_mono (ok' := fun k_ => (P1_ k_ ∨ w.heap.size ≤ k_) ∧ some k_ ≠ (u20 : Value).ownBlock ∧ some k_ ≠ (.slice (some ad154) t151.length co60 : Value).ownBlock ∧ k_ ≠ gb155) ho0 (fun k_ hk_ => ⟨Or.elim hk_ (fun hs_ => Or.elim hs_ (fun hs_ => hs_.1) (fun hs_ => (.inr (((Kd.R_types (Kd.R_apart' (Kd.R_apart' (HO_7.out) (Kd.N_typed HO_20.out) (by decide)) (Kd.N_typed HO_87.out) (by decide)) BK155.out (by decide)).1 k_ hs_.symm).1.1.1)))) (fun hn_ => (.inr (Nat.le_trans (below_size (zB1 HB.out GE155.out)) hn_))), Or.elim hk_ (fun hs_ => Or.elim hs_ (fun hs_ => hs_.2.2.1) (fun hs_ => ((Kd.R_types (Kd.R_apart' (Kd.R_apart' (HO_7.out) (Kd.N_typed HO_20.out) (by decide)) (Kd.N_typed HO_87.out) (by decide)) BK155.out (by decide)).1 k_ hs_.symm).1.1.2)) (fun hn_ => (Kd.fresh' (Kd.N_lt (zN HO_20.out)) k_ hn_)), Or.elim hk_ (fun hs_ => Or.elim hs_ (fun hs_ => hs_.2.2.2.1) (fun hs_ => ((Kd.R_types (Kd.R_apart' (Kd.R_apart' (HO_7.out) (Kd.N_typed HO_20.out) (by decide)) (Kd.N_typed HO_87.out) (by decide)) BK155.out (by decide)).1 k_ hs_.symm).1.2)) (fun hn_ => (Kd.fresh' (Kd.N_lt (zN HO_87.out)) k_ hn_)), Or.elim hk_ (fun hs_ => Or.elim hs_ (fun hs_ => hs_.2.2.2.2) (fun hs_ => ((Kd.R_types (Kd.R_apart' (Kd.R_apart' (HO_7.out) (Kd.N_typed HO_20.out) (by decide)) (Kd.N_typed HO_87.out) (by decide)) BK155.out (by decide)).1 k_ hs_.symm).2)) (fun hn_ => (Kd.freshB (g := gb155) (o := .cells #[.bool ((rd_T113 t151 x89_3).f0), .slice A154_1 ((rd_T113 t151 x89_3).f1).length c154_1] 113 (0, 0)) (by (with_reducible repeat (first | refine blk_drewN ?_ _ | refine blk_drew ?_ | refine blk_alloc ?_ _)); exact BK155.out) k_ hn_))⟩)) (below_size (zB1 HB.out GE155.out))); have HO162 := Aside0.mk (Kd.V_lower (Kd.V_mono (ok' := fun k_ => (P1_ k_ ∨ w.heap.size ≤ k_) ∧ some k_ ≠ (u20 : Value).ownBlock ∧ some k_ ≠ (.slice (some ad154) t151.length co60 : Value).ownBlock ∧ k_ ≠ gb155) ho1 (fun k_ hk_ => ⟨Or.elim hk_ (fun hs_ => Or.elim hs_ (fun hs_ => hs_.1) (fun hs_ => (.inr (((Kd.R_types (Kd.R_apart' (Kd.R_apart' (HO_7.out) (Kd.N_typed HO_20.out) (by decide)) (Kd.N_typed HO_87.out) (by decide)) BK155.out (by decide)).1 k_ hs_.symm).1.1.1)))) (fun hn_ => (.inr (Nat.le_trans (below_size (zB1 HB.out GE155.out)) hn_))), Or.elim hk_ (fun hs_ => Or.elim hs_ (fun hs_ => hs_.2.2.1) (fun hs_ => ((Kd.R_types (Kd.R_apart' (Kd.R_apart' (HO_7.out) (Kd.N_typed HO_20.out) (by decide)) (Kd.N_typed HO_87.out) (by decide)) BK155.out (by decide)).1 k_ hs_.symm).1.1.2)) (fun hn_ => (Kd.fresh' (Kd.N_lt (zN HO_20.out)) k_ hn_)), Or.elim hk_ (fun hs_ => Or.elim hs_ (fun hs_ => hs_.2.2.2.1) (fun hs_ => ((Kd.R_types (Kd.R_apart' (Kd.R_apart' (HO_7.out) (Kd.N_typed HO_20.out) (by decide)) (Kd.N_typed HO_87.out) (by decide)) BK155.out (by decide)).1 k_ hs_.symm).1.2)) (fun hn_ => (Kd.fresh' (Kd.N_lt (zN HO_87.out)) k_ hn_)), Or.elim hk_ (fun hs_ => Or.elim hs_ (fun hs_ => hs_.2.2.2.2) (fun hs_ => ((Kd.R_types (Kd.R_apart' (Kd.R_apart' (HO_7.out) (Kd.N_typed HO_20.out) (by decide)) (Kd.N_typed HO_87.out) (by decide)) BK155.out (by decide)).1 k_ hs_.symm).2)) (fun hn_ => (Kd.freshB (g := gb155) (o := .cells #[.bool ((rd_T113 t151 x89_3).f0), .slice A154_1 ((rd_T113 t151 x89_3).f1).length c154_1] 113 (0, 0)) (by (with_reducible repeat (first | refine blk_drewN ?_ _ | refine blk_drew ?_ | refine blk_alloc ?_ _)); exact BK155.out) k_ hn_))⟩)) (below_size (zB1 HB.out GE155.out))); replace HO_7 := yRb HO_7 hb; replace HO_20 := yNb HO_20 hb; replace HO_87 := yNb HO_87 hb; (try replace HR154_1 := yCb HR154_1 hb); replace BK155 := yK BK155 hb; replace HB := yS1 HB GE155 hb; (try clear hb ho0); (try clear ho1); obtain ⟨Ao73, co73, rfl⟩ := Kd.V_slice HO159.out; obtain ⟨Ao74, co74, rfl⟩ := Kd.V_slice HO162.out) | ((with_reducible refine gate_builtin (b := .append) (xs := #[.tmp 93, .tmp 97]) rfl ?_); at_builtin; refine Kd.N_append k60 (w0 := w) w.heap.size rfl (.tmp 93) (.tmp 97) 83 60 (.agg #[(.bool false), (.slice none 0 0), (.slice none 0 0)]) 56 rfl Try.underlying83 info60 rfl (by decide) (by omega) u20 x20_3 (⟨t156, t157, t160⟩ : S60) [.bool t156, .slice Ao73 t157.length co73, .slice Ao74 t160.length co74] (fun k_ => (P1_ k_ ∨ w.heap.size ≤ k_) ∧ some k_ ≠ (.slice (some ad154) t151.length co60 : Value).ownBlock ∧ k_ ≠ gb155) (fun k_ => ((fun k_ => (P1_ k_ ∨ w.heap.size ≤ k_) ∧ some k_ ≠ (.slice (some ad154) t151.length co60 : Value).ownBlock ∧ k_ ≠ gb155)) k_ ∧ some k_ ≠ (u20 : Value).ownBlock) rfl rfl ?aP (fun _ hk => hk) ?aF ?aO ?aB ?aS ?aL ?_; (case aP => exact (k60_mkF _ _ (⟨t156, t157, t160⟩ : S60) (Kd.V_reads' (Kd.V_mono (ok' := (fun k_ => ((fun k_ => (P1_ k_ ∨ w.heap.size ≤ k_) ∧ some k_ ≠ (.slice (some ad154) t151.length co60 : Value).ownBlock ∧ k_ ≠ gb155)) k_ ∧ some k_ ≠ (u20 : Value).ownBlock)) (HO159.out) (fun k_ hk => by exact ⟨⟨hk.1, ⟨hk.2.2.1, hk.2.2.2⟩⟩, hk.2.1⟩))).2.1 (Kd.V_F (Kd.V_mono (ok' := (fun k_ => ((fun k_ => (P1_ k_ ∨ w.heap.size ≤ k_) ∧ some k_ ≠ (.slice (some ad154) t151.length co60 : Value).ownBlock ∧ k_ ≠ gb155)) k_ ∧ some k_ ≠ (u20 : Value).ownBlock)) (HO159.out) (fun k_ hk => by exact ⟨⟨hk.1, ⟨hk.2.2.1, hk.2.2.2⟩⟩, hk.2.1⟩))) (Kd.V_reads' (Kd.V_mono (ok' := (fun k_ => ((fun k_ => (P1_ k_ ∨ w.heap.size ≤ k_) ∧ some k_ ≠ (.slice (some ad154) t151.length co60 : Value).ownBlock ∧ k_ ≠ gb155)) k_ ∧ some k_ ≠ (u20 : Value).ownBlock)) (HO162.out) (fun k_ hk => by exact ⟨⟨hk.1, ⟨hk.2.2.1, hk.2.2.2⟩⟩, hk.2.1⟩))).2.1 (Kd.V_F (Kd.V_mono (ok' := (fun k_ => ((fun k_ => (P1_ k_ ∨ w.heap.size ≤ k_) ∧ some k_ ≠ (.slice (some ad154) t151.length co60 : Value).ownBlock ∧ k_ ≠ gb155)) k_ ∧ some k_ ≠ (u20 : Value).ownBlock)) (HO162.out) (fun k_ hk => by exact ⟨⟨hk.1, ⟨hk.2.2.1, hk.2.2.2⟩⟩, hk.2.1⟩))))); (case aB => exact (zB1 HB.out GE155.out)); (case aF => exact (fun k_ hk => ⟨(.inr (Nat.le_trans (below_size (zB1 HB.out GE155.out)) hk)), Kd.fresh' (Kd.N_lt (zN HO_87.out)) k_ hk, Kd.freshB (g := gb155) (o := .cells #[.bool ((rd_T113 t151 x89_3).f0), .slice A154_1 ((rd_T113 t151 x89_3).f1).length c154_1] 113 (0, 0)) (by (with_reducible repeat (first | refine blk_drewN ?_ _ | refine blk_drew ?_ | refine blk_alloc ?_ _)); exact BK155.out) k_ hk⟩)); (case aO => exact (zN HO_20.out)); (case aS => exact (below_size (zB1 HB.out GE155.out))); (case aL => have := LMc65.out; omega); intro v164 w72 ho hb hg hat; rw [← Ny163.out] at ho; replace HO_7 := Aside0.mk (Kd.R_over' (zR HO_7.out) (Kd.N_typed (zN HO_20.out)) (by decide) hg); replace HO_87 := Aside0.mk (Kd.N_afterv (ok := (fun k_ => (P1_ k_ ∨ w.heap.size ≤ k_) ∧ some k_ ≠ (.slice Ao70 x7_1.length co70 : Value).ownBlock ∧ k_ ≠ gb155)) (by (with_reducible repeat (first | apply Kd.N_alloc | apply Kd.N_drewN | apply Kd.N_drew)); exact Kd.N_mono HO_87.out (fun _ hk => ⟨⟨hk.1, ⟨hk.2.1, hk.2.2.2⟩⟩, hk.2.2.1⟩)) hg hat); replace HL154_1 := Aside0.mk (Kd.V_afterv (ok := (fun k_ => (P1_ k_ ∨ w.heap.size ≤ k_) ∧ some k_ ≠ (.slice Ao70 x7_1.length co70 : Value).ownBlock ∧ some k_ ≠ (.slice (some ad154) t151.length co60 : Value).ownBlock ∧ k_ ≠ gb155)) (by (with_reducible repeat (first | apply Kd.V_alloc | apply Kd.V_drewN | apply Kd.V_drew)); exact Kd.V_mono HL154_1.out (fun _ hk => ⟨⟨hk.1, ⟨hk.2.1, ⟨hk.2.2.2.1, hk.2.2.2.2⟩⟩⟩, hk.2.2.1⟩)) hg hat); replace BK155 := Aside0.mk (blk_grown (g := gb155) (o := .cells #[.bool ((rd_T113 t151 x89_3).f0), .slice A154_1 ((rd_T113 t151 x89_3).f1).length c154_1] 113 (0, 0)) (by (with_reducible repeat (first | refine blk_drewN ?_ _ | refine blk_drew ?_ | refine blk_alloc ?_ _)); exact BK155.out) hg (Kd.N_ne HO_20.out BK155.out (by decide))); replace HO159 := Aside0.mk (Kd.V_afterv (ok := (fun k_ => (P1_ k_ ∨ w.heap.size ≤ k_) ∧ some k_ ≠ (.slice (some ad154) t151.length co60 : Value).ownBlock ∧ k_ ≠ gb155)) (by (with_reducible repeat (first | apply Kd.V_alloc | apply Kd.V_drewN | apply Kd.V_drew)); exact Kd.V_mono HO159.out (fun _ hk => ⟨⟨hk.1, ⟨hk.2.2.1, hk.2.2.2⟩⟩, hk.2.1⟩)) hg hat); replace HO162 := Aside0.mk (Kd.V_afterv (ok := (fun k_ => (P1_ k_ ∨ w.heap.size ≤ k_) ∧ some k_ ≠ (.slice (some ad154) t151.length co60 : Value).ownBlock ∧ k_ ≠ gb155)) (by (with_reducible repeat (first | apply Kd.V_alloc | apply Kd.V_drewN | apply Kd.V_drew)); exact Kd.V_mono HO162.out (fun _ hk => ⟨⟨hk.1, ⟨hk.2.2.1, hk.2.2.2⟩⟩, hk.2.1⟩)) hg hat); replace HB := Aside0.mk (hb); have HO165 := Aside0.mk (ho); clear HO_20; clear ho hb hg hat))
     go_roundg k3
     case measure => have := HK1.out; have := HK2.out; have := HK3.out; omega
     case rel => exact ⟨(y163), (wrap64 (x89_3 + 1)), zF, H', ⟨by have := HK1.out; have := HK2.out; have := HK3.out; omega⟩, ⟨zR HO_7.out⟩, ⟨by (with_reducible repeat (first | apply Kd.N_alloc | apply Kd.N_drewN | apply Kd.N_drew)); exact Kd.N_mono HO165.out (fun _ hk => ⟨hk.1, hk.2.1⟩)⟩, ⟨by (with_reducible repeat (first | apply Kd.N_alloc | apply Kd.N_drewN | apply Kd.N_drew)); exact Kd.N_mono HO_87.out (fun _ hk => ⟨hk.1.1, ⟨hk.1.2.1, hk.2⟩⟩)⟩, ⟨zB1 HB.out GE155.out⟩⟩
   simp only [Option.some.injEq, Prod.mk.injEq] at H
   obtain ⟨rfl, rfl⟩ := H
   go_wp2
   go_ret2
   exact ⟨_, zE, by (with_reducible repeat (first | apply Kd.N_alloc | apply Kd.N_drewN | apply Kd.N_drew)); exact Kd.N_mono HO_20.out (fun _ hk => hk.1), zB HB.out⟩
 have c4b0 := beq_eq_false_iff_ne.mpr c4
 have c4b1 := bne_iff_ne.mpr c4
 simp only [Option.some.injEq, Prod.mk.injEq] at H
 obtain ⟨rfl, rfl⟩ := H
 go_enter Try.func64, Try.ntmps64
 go_wp2_with (first | ((with_reducible refine gC 102 ?_); refine zG (some 26) Try.func102 #[.int .i64 a0, .int .i64 (l1.length : Int)] ?_; (with_reducible refine (mw_wrong.calls a0 (l1.length : Int) t101 _ A3.out).mono ?_); rintro e w' ⟨rfl, ⟨nd, rfl⟩⟩; refine ⟨_, rfl, ?_⟩))
 go_ret2
 exact ⟨_, zE, by first | exact Kd.S_nil _ _ _ _ _ | exact Kd.N_nil _ _ _ _ _ | exact Kd.V_nil _ _ _ _ _ | exact Kd.Q_nil _ _ _ _ _ | exact Kd.R_nil _ _ _ _ _, zB HB.out⟩
end Go.Proofs.Ytifkbghnmhineaa.PAll
