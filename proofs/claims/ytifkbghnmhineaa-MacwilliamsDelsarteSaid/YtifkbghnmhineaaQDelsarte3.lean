/- What functions of the program do and come to, for the statement MacwilliamsDelsarte, part 3. Conditions: as each theorem says. -/
import Derived.Test.YtifkbghnmhineaaQDelsarte2

namespace Go.Proofs.Ytifkbghnmhineaa.PAll
open Go.RowKit Go.Proofs.YtifkbghnmhineaaW.PrintWords Go.Proofs.YtifkbghnmhineaaW.PrintLast Go.Proofs.YtifkbghnmhineaaW.PrintMore
attribute [local go_sem] max2_int min2_int max_two min_two max_three min_three max_four min_four
set_option linter.unusedVariables false
set_option linter.unusedSimpArgs false
theorem nat_step.pos {k:Nat} {a b:List Int} {r:Int×List Int} (h:nat_step.f k a b=some r):0<a.length:=by
 unfold nat_step.f at h
 by_cases h1:0≤(b.length:Int)
 ·rw[if_pos h1] at h
  by_cases h2:(b.length:Int)<(a.length:Int)
  ·omega
  ·rw[if_neg h2] at h;cases h
 ·rw[if_neg h1] at h;cases h
set_option maxHeartbeats 8000000 in
set_option maxRecDepth 100000 in
theorem nat_step.calls (k:Nat) (gW capW:Nat) (preW postW:List Int) (P0_:Nat→Prop) (u9000_:Value) (l0:List Int) (A1:Option Addr) (c1:Nat) (l1:List Int) (r1:Int) (r2:List Int) (w0 w:World) (hB:Below w0.heap.size w0 w) (ho0:Wn gW capW preW postW w w0.heap.size P0_ u9000_ l0) (hr1:∀W_,Kept w W_ (fun k_=>P0_ k_)→Kd.C (Kd.int .u32) W_ A1 l1.length l1) (hc1:l1.length≤c1) (h:nat_step.f k l0 l1=some (r1,r2)):
 Calls Try.prog 140 #[u9000_, .slice A1 l1.length c1] w fun e w'=>e= .returned (.int .u32 r1)∧Wn gW capW preW postW w' w0.heap.size (fun k_=>(P0_ k_∨w.heap.size≤k_)) u9000_ r2∧Below w0.heap.size w0 w'∧Kept w w' (fun k_=>P0_ k_):=by
 have HO0:=zk (show Wn gW capW preW postW w w0.heap.size (fun k_=>(P0_ k_∨w.heap.size≤k_)) u9000_ l0 from Wn.mono ho0 (fun k_ hk=>(.inl hk)))
 have HR1:=zk hr1
 have HC1:=zk hc1
 clear hr1 hc1
 have HK:=zk (Kept.refl w (fun k_=>P0_ k_))
 have HW0:=zk hB.size
 have HB:=zk hB
 clear hB
 have H:=h
 clear h
 unfold nat_step.f at H
 replace H:=zg H
 obtain⟨c3,H⟩:=H
 have c3b0:=decide_eq_true c3
 have c3b1:decide (0≤l1.length)=true:=decide_eq_true (by omega)
 clear c3
 replace H:=zg H
 obtain⟨c4,H⟩:=H
 have c4b0:=decide_eq_true c4
 have c4b1:decide (l1.length<l0.length)=true:=decide_eq_true (Int.ofNat_lt.mp c4)
 clear c4
 obtain⟨ji5,hji5⟩:∃j_:Int,(wrap64 ((l1.length:Int)-1))=j_:=⟨_,rfl⟩
 replace H:(if 0≤(ji5) then(if(ji5)<(l0.length:Int) then(if(ji5)<(l1.length:Int) then(if(IntKind.u64.wrap (rd l1 (ji5)))=0 then(none) else(nat_step.l0 k l0 l1 (l1.length:Int) (IntKind.u64.wrap (Int.tdiv (Go.bits .or .u64 (IntKind.u64.wrap ((IntKind.u64.wrap (rd l0 (l1.length:Int)))*4294967296)) (IntKind.u64.wrap (rd l0 (ji5)))) (IntKind.u64.wrap (rd l1 (ji5))))) (Int.tmod (Go.bits .or .u64 (IntKind.u64.wrap ((IntKind.u64.wrap (rd l0 (l1.length:Int)))*4294967296)) (IntKind.u64.wrap (rd l0 (ji5)))) (IntKind.u64.wrap (rd l1 (ji5)))))) else(none)) else(none)) else(none))=some (r1,r2):=by first|(rw[hji5] at H;exact H)|(simp only[hji5] at H ⊢;exact H)
 have hji5w:(IntKind.i64.wrap ((l1.length:Int)-1))=ji5:=(i64_w _).trans hji5
 replace H:=zgd H
 obtain⟨c6b0,H⟩:=H
 replace H:=zgd H
 obtain⟨c7b0,H⟩:=H
 replace H:=zgd H
 obtain⟨c8b0,H⟩:=H
 replace H:=zh H
 obtain⟨c9,H⟩:=H
 have c9b0:=beq_eq_false_iff_ne.mpr c9
 have c9b1:=bne_iff_ne.mpr c9
 have HC10:=zk H
 clear H
 obtain⟨Ao11,co11,rfl⟩:=Wn.slice HO0.out
 have pa1:0≤((l1.length:Int):Int):=zd
 have qa1:(l1.length:Int)<(l0.length:Int):=zd
 obtain⟨ada1,ea1,hxa1_0⟩:=Kd.at_int (Wn.reads' HO0.out).2.2 (l1.length:Int) pa1 qa1
 cases ea1
 (try simp only[Go.IntWalk.toNatUp] at hxa1_0)
 replace pa1:=eq_true pa1
 replace qa1:=eq_true qa1
 have pa2:0≤((ji5):Int):=zd
 have qa2:(ji5)<(l0.length:Int):=zd
 obtain⟨ada2,ea2,hxa2_0⟩:=Kd.at_int (Wn.reads' HO0.out).2.2 (ji5) pa2 qa2
 obtain rfl:ada1=ada2:=(by injection ea2)
 replace pa2:=eq_true pa2
 replace qa2:=eq_true qa2
 have pa3:0≤((ji5):Int):=zd
 have qa3:(ji5)<(l1.length:Int):=zd
 obtain⟨ada3,ea3,hxa3_0⟩:=Kd.at_int (Kd.C_kept_now HR1.out HK.out) (ji5) pa3 qa3
 cases ea3
 replace pa3:=eq_true pa3
 replace qa3:=eq_true qa3
 have pa4:0≤((ji5):Int):=zd
 have qa4:(ji5)<(l1.length:Int):=zd
 obtain⟨ada4,ea4,hxa4_0⟩:=Kd.at_int (Kd.C_kept_now HR1.out HK.out) (ji5) pa4 qa4
 obtain rfl:ada3=ada4:=(by injection ea4)
 replace pa4:=eq_true pa4
 replace qa4:=eq_true qa4
 go_enter Try.func140,Try.ntmps140
 go_upto_block 0 with(fail)
 repeat(go_quiet (fail);go_upto_block 0 with(fail))
 go_cut [7] (fun v7 wc=>∃(kq:Nat) (x7_9:Int),v7= .int .u64 x7_9∧Aside0 (nat_step.j1 kq l0 l1 (l1.length:Int) x7_9=some (r1,r2))∧Aside0 (kq≤k)∧Aside0 (Wn gW capW preW postW wc w0.heap.size (fun k_=>(P0_ k_∨w.heap.size≤k_)) (.slice (some ada1) l0.length co11) l0)∧Aside0 (Kept w wc (fun k_=>P0_ k_))∧Aside0 (Below w0.heap.size w0 wc))
 case first=>
  have H:=HC10.out
  clear HC10
  have H':=zk H
  clear H
  go_wp2
  repeat(go_quiet (fail);try go_wp2)
  go_loopg [7,8] k (fun kq v7 v8 w'=>∃(x7_1:Int) (x8_1:Int),v7= .int .u64 x7_1∧v8= .int .u64 x8_1∧Aside0 (nat_step.l0 kq l0 l1 (l1.length:Int) x7_1 x8_1=some (r1,r2))∧Aside0 (kq≤k)∧Aside0 (Wn gW capW preW postW w' w0.heap.size (fun k_=>(P0_ k_∨w.heap.size≤k_)) (.slice (some ada1) l0.length co11) l0)∧Aside0 (Kept w w' (fun k_=>P0_ k_))∧Aside0 (Below w0.heap.size w0 w'))
  case atStart=>exact⟨(IntKind.u64.wrap (Int.tdiv (Go.bits .or .u64 (IntKind.u64.wrap ((IntKind.u64.wrap (rd l0 (l1.length:Int)))*4294967296)) (IntKind.u64.wrap (rd l0 (ji5)))) (IntKind.u64.wrap (rd l1 (ji5))))),(Int.tmod (Go.bits .or .u64 (IntKind.u64.wrap ((IntKind.u64.wrap (rd l0 (l1.length:Int)))*4294967296)) (IntKind.u64.wrap (rd l0 (ji5)))) (IntKind.u64.wrap (rd l1 (ji5)))),(by first|rfl|(simp;done)|(simp only[←hji5]<;>(first|rfl|simp))|(simp [*];done)),(by first|rfl|(simp;done)|(simp only[←hji5]<;>(first|rfl|simp))|(simp [*];done)),H',⟨Nat.le_refl _⟩,⟨zW HO0.out⟩,⟨by repeat(first|(with_reducible first|exact HK.out|apply Kept.alloc|apply Kept.drewN|apply Kept.drew)|exact HK.out)⟩,⟨zB HB.out⟩⟩
  clear H'
  (try clear c3);(try clear c3b0);(try clear c3b1);(try clear c4);(try clear c4b0);(try clear c4b1);(try clear c6b0);(try clear c7b0);(try clear c8b0);(try clear c9);(try clear c9b0);(try clear c9b1);(try clear hxa1_0);(try clear hxa2_0);(try clear hxa3_0);(try clear hxa4_0);(try clear pa1);(try clear pa2);(try clear pa3);(try clear pa4);(try clear qa1);(try clear qa2);(try clear qa3);(try clear qa4)
  obtain⟨x7_1,x8_1,rfl,rfl,HA,HK1,HO_0,HK,HB⟩:=hrel
  cases gk with|zero=>exact absurd HA.out (by simp [nat_step.l0])|succ k1=>?_
  have H:=HA.out
  clear HA
  simp only[nat_step.l0] at H
  replace H:=zid H
  rcases H with⟨c12b0,H⟩|⟨c12b0,H⟩
  ·(first|rw[c12b0]|(simp only[i64_w,i32_w];rw[c12b0])|rw[c12b1]|skip)
   replace H:=zi H
   rcases H with⟨c13,H⟩|⟨c13,H⟩
   ·have c13b0:decide (4294967296≤x7_1)=true:=decide_eq_true c13
    clear c13
    (try clear hji5w)
    obtain⟨ji14,hji14⟩:∃j_:Int,(wrap64 ((l1.length:Int)-1))=j_:=⟨_,rfl⟩
    replace H:(if 0≤(ji14) then(if(ji14)<(l1.length:Int) then(nat_step.l0 k1 l0 l1 (l1.length:Int) (IntKind.u64.wrap (x7_1-1)) (IntKind.u64.wrap (x8_1+(IntKind.u64.wrap (rd l1 (ji14)))))) else(none)) else(none))=some (r1,r2):=by first|(rw[hji14] at H;exact H)|(simp only[hji14] at H ⊢;exact H)
    have hji14w:(IntKind.i64.wrap ((l1.length:Int)-1))=ji14:=(i64_w _).trans hji14
    replace H:=zgd H
    obtain⟨c15b0,H⟩:=H
    replace H:=zgd H
    obtain⟨c16b0,H⟩:=H
    have H':=zk H
    clear H
    have pa5:0≤((ji14):Int):=zd
    have qa5:(ji14)<(l1.length:Int):=zd
    obtain⟨ada5,ea5,hxa5_0⟩:=Kd.at_int (Kd.C_kept_now HR1.out HK.out) (ji14) pa5 qa5
    obtain rfl:ada3=ada5:=(by injection ea5)
    replace pa5:=eq_true pa5
    replace qa5:=eq_true qa5
    go_wp2
    repeat(go_quiet (fail);try go_wp2)
    (try simp only[add_at] at*)
    (try simp only[add_plain] at*)
    go_roundg k1
    case measure=>have:=HK1.out;omega
    case rel=>exact⟨(IntKind.u64.wrap (x7_1-1)),(IntKind.u64.wrap (x8_1+(IntKind.u64.wrap (rd l1 (ji14))))),zF,(by first|rfl|(simp;done)|(simp only[←hji14]<;>(first|rfl|simp))|(simp [*];done)),H',⟨zo1 HK1⟩,⟨zW HO_0.out⟩,⟨by repeat(first|(with_reducible first|exact HK.out|apply Kept.alloc|apply Kept.drewN|apply Kept.drew)|exact HK.out)⟩,⟨zB HB.out⟩⟩
   have c13b0:decide (4294967296≤x7_1)=false:=decide_eq_false c13
   clear c13
   obtain⟨ji17,hji17⟩:∃j_:Int,(wrap64 ((l1.length:Int)-2))=j_:=⟨_,rfl⟩
   replace H:(if 0≤(ji17) then(if(ji17)<(l1.length:Int) then(if(ji17)<(l0.length:Int) then(if(IntKind.u64.wrap (x7_1*(IntKind.u64.wrap (rd l1 (ji17)))))>(Go.bits .or .u64 (IntKind.u64.wrap (x8_1*4294967296)) (IntKind.u64.wrap (rd l0 (ji17)))) then(if 0≤(wrap64 ((l1.length:Int)-1)) then(if(wrap64 ((l1.length:Int)-1))<(l1.length:Int) then(nat_step.l0 k1 l0 l1 (l1.length:Int) (IntKind.u64.wrap (x7_1-1)) (IntKind.u64.wrap (x8_1+(IntKind.u64.wrap (rd l1 (wrap64 ((l1.length:Int)-1))))))) else(none)) else(none)) else(nat_step.j1 k1 l0 l1 (l1.length:Int) x7_1)) else(none)) else(none)) else(none))=some (r1,r2):=by first|(rw[hji17] at H;exact H)|(simp only[hji17] at H ⊢;exact H)
   have hji17w:(IntKind.i64.wrap ((l1.length:Int)-2))=ji17:=(i64_w _).trans hji17
   replace H:=zgd H
   obtain⟨c18b0,H⟩:=H
   replace H:=zgd H
   obtain⟨c19b0,H⟩:=H
   replace H:=zgd H
   obtain⟨c20b0,H⟩:=H
   replace H:=zi H
   rcases H with⟨c21,H⟩|⟨c21,H⟩
   ·have c21b0:decide ((Go.bits .or .u64 (IntKind.u64.wrap (x8_1*4294967296)) (IntKind.u64.wrap (rd l0 (ji17))))<(IntKind.u64.wrap (x7_1*(IntKind.u64.wrap (rd l1 (ji17))))))=true:=decide_eq_true c21
    clear c21
    (try clear hji5w)
    obtain⟨ji22,hji22⟩:∃j_:Int,(wrap64 ((l1.length:Int)-1))=j_:=⟨_,rfl⟩
    replace H:(if 0≤(ji22) then(if(ji22)<(l1.length:Int) then(nat_step.l0 k1 l0 l1 (l1.length:Int) (IntKind.u64.wrap (x7_1-1)) (IntKind.u64.wrap (x8_1+(IntKind.u64.wrap (rd l1 (ji22)))))) else(none)) else(none))=some (r1,r2):=by first|(rw[hji22] at H;exact H)|(simp only[hji22] at H ⊢;exact H)
    have hji22w:(IntKind.i64.wrap ((l1.length:Int)-1))=ji22:=(i64_w _).trans hji22
    replace H:=zgd H
    obtain⟨c23b0,H⟩:=H
    replace H:=zgd H
    obtain⟨c24b0,H⟩:=H
    have H':=zk H
    clear H
    have pa6:0≤((ji17):Int):=zd
    have qa6:(ji17)<(l1.length:Int):=zd
    obtain⟨ada6,ea6,hxa6_0⟩:=Kd.at_int (Kd.C_kept_now HR1.out HK.out) (ji17) pa6 qa6
    obtain rfl:ada3=ada6:=(by injection ea6)
    replace pa6:=eq_true pa6
    replace qa6:=eq_true qa6
    have pa7:0≤((ji17):Int):=zd
    have qa7:(ji17)<(l0.length:Int):=zd
    obtain⟨ada7,ea7,hxa7_0⟩:=Kd.at_int (Wn.reads' HO_0.out).2.2 (ji17) pa7 qa7
    obtain rfl:ada1=ada7:=(by injection ea7)
    replace pa7:=eq_true pa7
    replace qa7:=eq_true qa7
    have pa8:0≤((ji22):Int):=zd
    have qa8:(ji22)<(l1.length:Int):=zd
    obtain⟨ada8,ea8,hxa8_0⟩:=Kd.at_int (Kd.C_kept_now HR1.out HK.out) (ji22) pa8 qa8
    obtain rfl:ada3=ada8:=(by injection ea8)
    replace pa8:=eq_true pa8
    replace qa8:=eq_true qa8
    go_wp2
    repeat(go_quiet (fail);try go_wp2)
    (try simp only[add_at] at*)
    (try simp only[add_plain] at*)
    go_roundg k1
    case measure=>have:=HK1.out;omega
    case rel=>exact⟨(IntKind.u64.wrap (x7_1-1)),(IntKind.u64.wrap (x8_1+(IntKind.u64.wrap (rd l1 (ji22))))),zF,(by first|rfl|(simp;done)|(simp only[←hji22]<;>(first|rfl|simp))|(simp [*];done)),H',⟨zo1 HK1⟩,⟨zW HO_0.out⟩,⟨by repeat(first|(with_reducible first|exact HK.out|apply Kept.alloc|apply Kept.drewN|apply Kept.drew)|exact HK.out)⟩,⟨zB HB.out⟩⟩
   have c21b0:decide ((Go.bits .or .u64 (IntKind.u64.wrap (x8_1*4294967296)) (IntKind.u64.wrap (rd l0 (ji17))))<(IntKind.u64.wrap (x7_1*(IntKind.u64.wrap (rd l1 (ji17))))))=false:=decide_eq_false c21
   clear c21
   have H':=zk H
   clear H
   have pa6:0≤((ji17):Int):=zd
   have qa6:(ji17)<(l1.length:Int):=zd
   obtain⟨ada6,ea6,hxa6_0⟩:=Kd.at_int (Kd.C_kept_now HR1.out HK.out) (ji17) pa6 qa6
   obtain rfl:ada3=ada6:=(by injection ea6)
   replace pa6:=eq_true pa6
   replace qa6:=eq_true qa6
   have pa7:0≤((ji17):Int):=zd
   have qa7:(ji17)<(l0.length:Int):=zd
   obtain⟨ada7,ea7,hxa7_0⟩:=Kd.at_int (Wn.reads' HO_0.out).2.2 (ji17) pa7 qa7
   obtain rfl:ada1=ada7:=(by injection ea7)
   replace pa7:=eq_true pa7
   replace qa7:=eq_true qa7
   go_wp2
   repeat(go_quiet (fail);try go_wp2)
   go_meet
   case rel=>exact⟨_,(x7_1),zF,H',⟨by have:=HK1.out;first|omega|exact Nat.le_refl _⟩,⟨zW HO_0.out⟩,⟨by repeat(first|(with_reducible first|exact HK.out|apply Kept.alloc|apply Kept.drewN|apply Kept.drew)|exact HK.out)⟩,⟨zB HB.out⟩⟩
  (first|rw[c12b0]|(simp only[i64_w,i32_w];rw[c12b0])|rw[c12b1]|skip)
  have H':=zk H
  clear H
  go_wp2
  repeat(go_quiet (fail);try go_wp2)
  go_meet
  case rel=>exact⟨_,(x7_1),zF,H',⟨by have:=HK1.out;first|omega|exact Nat.le_refl _⟩,⟨zW HO_0.out⟩,⟨by repeat(first|(with_reducible first|exact HK.out|apply Kept.alloc|apply Kept.drewN|apply Kept.drew)|exact HK.out)⟩,⟨zB HB.out⟩⟩
 clear HC10
 (try clear c3);(try clear c3b0);(try clear c3b1);(try clear c4);(try clear c4b0);(try clear c4b1);(try clear c6b0);(try clear c7b0);(try clear c8b0);(try clear c9);(try clear c9b0);(try clear c9b1);(try clear c12b0);(try clear c13);(try clear c13b0);(try clear c15b0);(try clear c16b0);(try clear c18b0);(try clear c19b0);(try clear c20b0);(try clear c21);(try clear c21b0);(try clear c23b0);(try clear c24b0);(try clear hxa1_0);(try clear hxa2_0);(try clear hxa3_0);(try clear hxa4_0);(try clear hxa5_0);(try clear hxa6_0);(try clear hxa7_0);(try clear hxa8_0);(try clear pa1);(try clear pa2);(try clear pa3);(try clear pa4);(try clear pa5);(try clear pa6);(try clear pa7);(try clear pa8);(try clear qa1);(try clear qa2);(try clear qa3);(try clear qa4);(try clear qa5);(try clear qa6);(try clear qa7);(try clear qa8)
 obtain⟨kq,x7_9,rfl,HA,HJ9,HO_0,HK,HB⟩:=hcut
 cases kq with|zero=>exact absurd HA.out (by simp [nat_step.j1])|succ kj9=>?_
 have H:=HA.out
 clear HA
 simp only[nat_step.j1] at H
 have H':=zk H
 clear H
 go_wp2
 repeat(go_quiet (fail);try go_wp2)
 go_loopg [9,10,86] kj9 (fun kq v9 v10 v86 w'=>∃(x0_2:List Int) (x9_2:Int) (x10_2:Int) (x86_2:Int),v9= .int .u64 x9_2∧v10= .int .u64 x10_2∧v86= .int .i64 x86_2∧Aside0 (nat_step.l1 kq x0_2 l1 (l1.length:Int) x7_9 x9_2 x10_2 (l1.length:Int) x86_2=some (r1,r2))∧Aside0 (kq≤kj9)∧Aside0 (Wn gW capW preW postW w' w0.heap.size (fun k_=>(P0_ k_∨w.heap.size≤k_)) (.slice (some ada1) l0.length co11) x0_2)∧Aside0 (Kept w w' (fun k_=>P0_ k_))∧Aside0 (Below w0.heap.size w0 w'))
 case atStart=>exact⟨(l0),(0),(0),(0),zF,zF,zF,H',⟨Nat.le_refl _⟩,⟨zW HO_0.out⟩,⟨by repeat(first|(with_reducible first|exact HK.out|apply Kept.alloc|apply Kept.drewN|apply Kept.drew)|exact HK.out)⟩,⟨zB HB.out⟩⟩
 clear H'
 (try clear c3);(try clear c3b0);(try clear c3b1);(try clear c4);(try clear c4b0);(try clear c4b1);(try clear c6b0);(try clear c7b0);(try clear c8b0);(try clear c9);(try clear c9b0);(try clear c9b1);(try clear c12b0);(try clear c13);(try clear c13b0);(try clear c15b0);(try clear c16b0);(try clear c18b0);(try clear c19b0);(try clear c20b0);(try clear c21);(try clear c21b0);(try clear c23b0);(try clear c24b0);(try clear hxa1_0);(try clear hxa2_0);(try clear hxa3_0);(try clear hxa4_0);(try clear hxa5_0);(try clear hxa6_0);(try clear hxa7_0);(try clear hxa8_0);(try clear pa1);(try clear pa2);(try clear pa3);(try clear pa4);(try clear pa5);(try clear pa6);(try clear pa7);(try clear pa8);(try clear qa1);(try clear qa2);(try clear qa3);(try clear qa4);(try clear qa5);(try clear qa6);(try clear qa7);(try clear qa8)
 obtain⟨x0_2,x9_2,x10_2,x86_2,rfl,rfl,rfl,HA,HK2,HO_0,HK,HB⟩:=hrel
 have hl0_2:=(Wn.reads' HO_0.out).1
 rw[hl0_2] at HO_0
 (try simp only[hl0_2])
 cases gk with|zero=>exact absurd HA.out (by simp [nat_step.l1])|succ k2=>?_
 have H:=HA.out
 clear HA
 simp only[nat_step.l1] at H
 replace H:=zi H
 rcases H with⟨c25,H⟩|⟨c25,H⟩
 ·have c25b0:=decide_eq_true c25
  (try(have c25h0:=c25b0;simp only[hl0_2] at c25h0))
  clear c25
  replace H:=zgd H
  obtain⟨c26b0,H⟩:=H
  replace H:=zg H
  obtain⟨c27,H⟩:=H
  have c27b0:=decide_eq_true c27
  (try(have c27h0:=c27b0;simp only[hl0_2] at c27h0))
  clear c27
  replace H:=zg H
  obtain⟨c28,H⟩:=H
  have c28b0:=decide_eq_true c28
  (try(have c28h0:=c28b0;simp only[hl0_2] at c28h0))
  clear c28
  obtain⟨yb1,hyb1⟩:∃y_:List Int,y_=(x0_2.set (x86_2:Int).toNat ((IntKind.u64.wrap ((IntKind.u64.wrap ((IntKind.u64.wrap (rd x0_2 x86_2))-((IntKind.u64.wrap ((IntKind.u64.wrap (x7_9*(IntKind.u64.wrap (rd l1 x86_2))))+x10_2)) % 4294967296)))-x9_2)) % 4294967296)):=⟨_,rfl⟩
  replace H:(nat_step.l1 k2 yb1 l1 (l1.length:Int) x7_9 ((IntKind.u64.wrap ((IntKind.u64.wrap ((IntKind.u64.wrap (rd x0_2 x86_2))-((IntKind.u64.wrap ((IntKind.u64.wrap (x7_9*(IntKind.u64.wrap (rd l1 x86_2))))+x10_2)) % 4294967296)))-x9_2)) / 9223372036854775808) ((IntKind.u64.wrap ((IntKind.u64.wrap (x7_9*(IntKind.u64.wrap (rd l1 x86_2))))+x10_2)) / 4294967296) (l1.length:Int) (wrap64 (x86_2+1)))=some (r1,r2):=zY hyb1 H
  have Nyb1:=zk hyb1
  clear hyb1
  have H':=zk H
  clear H
  have pa9:0≤(x86_2:Int):=zd
  have qa9:x86_2<(l1.length:Int):=zd
  obtain⟨ada9,ea9,hxa9_0⟩:=Kd.at_int (Kd.C_kept_now HR1.out HK.out) x86_2 pa9 qa9
  obtain rfl:ada3=ada9:=(by injection ea9)
  replace pa9:=eq_true pa9
  replace qa9:=eq_true qa9
  have pb0:0≤(x86_2:Int):=zd
  have qb0:x86_2<(x0_2.length:Int):=zd
  obtain⟨adb0,eb0,hxb0_0⟩:=Kd.at_int (Wn.reads' HO_0.out).2.2 x86_2 pb0 qb0
  obtain rfl:ada1=adb0:=(by injection eb0)
  replace pb0:=eq_true pb0
  replace qb0:=eq_true qb0
  have p29:0≤(x86_2:Int):=zd
  have q29:(x86_2:Int)<((x0_2.length:Int):Int):=zd
  obtain⟨co29,eo29,gb29,gl29,cl29,HG29⟩:=Wn.form HO_0.out (by omega)
  (first|cases eo29|(injection eo29 with ea_ en_ ec_;(first|subst ea_|(injection ea_ with ea_;subst ea_));subst ec_;clear en_))
  have GB29:=zk gb29
  have GG29:=zk HG29
  clear gb29 gl29 HG29
  have HMgo29:=zk (show(P0_ gW∨w.heap.size≤gW) from(Wn.own HO_0.out _ rfl))
  (first|simp only[add_at] at hxa1_0|skip)
  (first|simp only[add_at] at hxa2_0|skip)
  (first|simp only[add_at] at hxa7_0|skip)
  (first|simp only[add_at] at hxb0_0|skip)
  obtain⟨hx29_0,hf29_0⟩:=Wn.celln HO_0.out (x86_2:Int) p29 q29
  replace p29:=eq_true p29
  replace q29:=eq_true q29
  obtain⟨hy30_,hz30_⟩:=Wn.celln HO_0.out (x86_2:Int) zd zd
  have HP30:=Wn.putg HO_0.out (x86_2:Int) zd zd ((IntKind.u64.wrap ((IntKind.u64.wrap ((IntKind.u64.wrap (rd x0_2 x86_2))-((IntKind.u64.wrap ((IntKind.u64.wrap (x7_9*(IntKind.u64.wrap (rd l1 x86_2))))+x10_2)) % 4294967296)))-x9_2)) % 4294967296)
  go_wp2_with (first|((with_reducible refine gate_store (t:=97) (p:=115) rfl ?_);(try(rw[drewN_self wr];generalize hq_:World.drewN wr _=wr;have n0_:=zk (Wn.at_ hq_ HO_0.out);have n1_:=zk (kept_at hq_ HK.out);have n2_:=zk (below_at hq_ HB.out);clear hq_ HO_0 HK HB;have HO_0:=n0_;have HK:=n1_;have HB:=n2_;clear n0_ n1_ n2_;(try(obtain⟨hy30_,hz30_⟩:=Wn.celln HO_0.out (x86_2:Int) zd zd));(try(have HP30:=Wn.putg HO_0.out (x86_2:Int) zd zd ((IntKind.u64.wrap ((IntKind.u64.wrap ((IntKind.u64.wrap (rd x0_2 x86_2))-((IntKind.u64.wrap ((IntKind.u64.wrap (x7_9*(IntKind.u64.wrap (rd l1 x86_2))))+x10_2)) % 4294967296)))-x9_2)) % 4294967296)))));refine store_event (t:=97) (p:=115) (v:=?vo_w31) (w1:=(wr.setCell ⟨gW,preW.length+(x86_2:Int).toNat,none⟩ (.int .u32 ((IntKind.u64.wrap ((IntKind.u64.wrap ((IntKind.u64.wrap (rd x0_2 x86_2))-((IntKind.u64.wrap ((IntKind.u64.wrap (x7_9*(IntKind.u64.wrap (rd l1 x86_2))))+x10_2)) % 4294967296)))-x9_2)) % 4294967296)))) ?hg ?ho ?hn ?hr ?_;(case ho=>rfl);(case hg=>rfl);(case hn=>rfl);(case hr=>first|(go_simp;done)|(go_simp;rfl));intro w31 hw;have hg:wr.grownBy w31 (some gW):=(by rw[hw];exact HP30.2);have hp_:Wn gW capW preW postW w31 w0.heap.size (fun k_=>(P0_ k_∨w.heap.size≤k_)) (.slice (some ⟨gW,preW.length,none⟩) x0_2.length co11) yb1:=(by rw[hw,Nyb1.out];exact HP30.1);clear HP30;replace HB:=zk ((by rw[hw];exact below_set (HB.out) GB29.out:Below w0.heap.size w0 w31));replace HK:=zk (Kept.of_grown (S:=(fun k_=>P0_ k_)) hg (by repeat(first|(with_reducible first|exact HK.out|apply Kept.alloc|apply Kept.drewN|apply Kept.drew)|exact HK.out)) (fun k_ e_=>(Wn.own HO_0.out k_ e_)));replace HO_0:=zk (hp_);clear hg hw hp_))
  repeat(go_quiet (first|((with_reducible refine gate_store (t:=97) (p:=115) rfl ?_);(try(rw[drewN_self wr];generalize hq_:World.drewN wr _=wr;have n0_:=zk (Wn.at_ hq_ HO_0.out);have n1_:=zk (kept_at hq_ HK.out);have n2_:=zk (below_at hq_ HB.out);clear hq_ HO_0 HK HB;have HO_0:=n0_;have HK:=n1_;have HB:=n2_;clear n0_ n1_ n2_;(try(obtain⟨hy30_,hz30_⟩:=Wn.celln HO_0.out (x86_2:Int) zd zd));(try(have HP30:=Wn.putg HO_0.out (x86_2:Int) zd zd ((IntKind.u64.wrap ((IntKind.u64.wrap ((IntKind.u64.wrap (rd x0_2 x86_2))-((IntKind.u64.wrap ((IntKind.u64.wrap (x7_9*(IntKind.u64.wrap (rd l1 x86_2))))+x10_2)) % 4294967296)))-x9_2)) % 4294967296)))));refine store_event (t:=97) (p:=115) (v:=?vo_w31) (w1:=(wr.setCell ⟨gW,preW.length+(x86_2:Int).toNat,none⟩ (.int .u32 ((IntKind.u64.wrap ((IntKind.u64.wrap ((IntKind.u64.wrap (rd x0_2 x86_2))-((IntKind.u64.wrap ((IntKind.u64.wrap (x7_9*(IntKind.u64.wrap (rd l1 x86_2))))+x10_2)) % 4294967296)))-x9_2)) % 4294967296)))) ?hg ?ho ?hn ?hr ?_;(case ho=>rfl);(case hg=>rfl);(case hn=>rfl);(case hr=>first|(go_simp;done)|(go_simp;rfl));intro w31 hw;have hg:wr.grownBy w31 (some gW):=(by rw[hw];exact HP30.2);have hp_:Wn gW capW preW postW w31 w0.heap.size (fun k_=>(P0_ k_∨w.heap.size≤k_)) (.slice (some ⟨gW,preW.length,none⟩) x0_2.length co11) yb1:=(by rw[hw,Nyb1.out];exact HP30.1);clear HP30;replace HB:=zk ((by rw[hw];exact below_set (HB.out) GB29.out:Below w0.heap.size w0 w31));replace HK:=zk (Kept.of_grown (S:=(fun k_=>P0_ k_)) hg (by repeat(first|(with_reducible first|exact HK.out|apply Kept.alloc|apply Kept.drewN|apply Kept.drew)|exact HK.out)) (fun k_ e_=>(Wn.own HO_0.out k_ e_)));replace HO_0:=zk (hp_);clear hg hw hp_));try go_wp2_with (first|((with_reducible refine gate_store (t:=97) (p:=115) rfl ?_);(try(rw[drewN_self wr];generalize hq_:World.drewN wr _=wr;have n0_:=zk (Wn.at_ hq_ HO_0.out);have n1_:=zk (kept_at hq_ HK.out);have n2_:=zk (below_at hq_ HB.out);clear hq_ HO_0 HK HB;have HO_0:=n0_;have HK:=n1_;have HB:=n2_;clear n0_ n1_ n2_;(try(obtain⟨hy30_,hz30_⟩:=Wn.celln HO_0.out (x86_2:Int) zd zd));(try(have HP30:=Wn.putg HO_0.out (x86_2:Int) zd zd ((IntKind.u64.wrap ((IntKind.u64.wrap ((IntKind.u64.wrap (rd x0_2 x86_2))-((IntKind.u64.wrap ((IntKind.u64.wrap (x7_9*(IntKind.u64.wrap (rd l1 x86_2))))+x10_2)) % 4294967296)))-x9_2)) % 4294967296)))));refine store_event (t:=97) (p:=115) (v:=?vo_w31) (w1:=(wr.setCell ⟨gW,preW.length+(x86_2:Int).toNat,none⟩ (.int .u32 ((IntKind.u64.wrap ((IntKind.u64.wrap ((IntKind.u64.wrap (rd x0_2 x86_2))-((IntKind.u64.wrap ((IntKind.u64.wrap (x7_9*(IntKind.u64.wrap (rd l1 x86_2))))+x10_2)) % 4294967296)))-x9_2)) % 4294967296)))) ?hg ?ho ?hn ?hr ?_;(case ho=>rfl);(case hg=>rfl);(case hn=>rfl);(case hr=>first|(go_simp;done)|(go_simp;rfl));intro w31 hw;have hg:wr.grownBy w31 (some gW):=(by rw[hw];exact HP30.2);have hp_:Wn gW capW preW postW w31 w0.heap.size (fun k_=>(P0_ k_∨w.heap.size≤k_)) (.slice (some ⟨gW,preW.length,none⟩) x0_2.length co11) yb1:=(by rw[hw,Nyb1.out];exact HP30.1);clear HP30;have n0_:=zk (hp_);have n1_:=zk ((by rw[hw];exact below_set (HB.out) GB29.out:Below w0.heap.size w0 w31));have n2_:=zk (Kept.of_grown (S:=(fun k_=>P0_ k_)) hg (by repeat(first|(with_reducible first|exact HK.out|apply Kept.alloc|apply Kept.drewN|apply Kept.drew)|exact HK.out)) (fun k_ e_=>(Wn.own HO_0.out k_ e_)));clear HO_0;clear HB;clear HK;have HO_0:=n0_;have HB:=n1_;have HK:=n2_;clear n0_ n1_ n2_;clear hg hw hp_)))
  (try simp only[←hl0_2])
  (try simp only[add_at] at*)
  (try simp only[add_plain] at*)
  go_roundg k2
  case measure=>have:=HJ9.out;have:=HK2.out;omega
  case rel=>exact⟨(yb1),((IntKind.u64.wrap ((IntKind.u64.wrap ((IntKind.u64.wrap (rd x0_2 x86_2))-((IntKind.u64.wrap ((IntKind.u64.wrap (x7_9*(IntKind.u64.wrap (rd l1 x86_2))))+x10_2)) % 4294967296)))-x9_2)) / 9223372036854775808),((IntKind.u64.wrap ((IntKind.u64.wrap (x7_9*(IntKind.u64.wrap (rd l1 x86_2))))+x10_2)) / 4294967296),(wrap64 (x86_2+1)),zF,zF,zF,H',⟨zo2 HJ9 HK2⟩,⟨by(try simp only[hl0_2]);(with_reducible repeat(first|apply Wn.alloc|apply Wn.drewN|apply Wn.drew));exact HO_0.out⟩,⟨by repeat(first|(with_reducible first|exact HK.out|apply Kept.alloc|apply Kept.drewN|apply Kept.drew)|exact HK.out)⟩,⟨zB HB.out⟩⟩
 have c25b0:=decide_eq_false c25
 (try(have c25h0:=c25b0;simp only[hl0_2] at c25h0))
 clear c25
 replace H:=zg H
 obtain⟨c32,H⟩:=H
 have c32b0:=decide_eq_true c32
 (try(have c32h0:=c32b0;simp only[hl0_2] at c32h0))
 have c32b1:decide (0≤l1.length)=true:=decide_eq_true (by omega)
 (try(have c32h1:=c32b1;simp only[hl0_2] at c32h1))
 clear c32
 replace H:=zg H
 obtain⟨c33,H⟩:=H
 have c33b0:=decide_eq_true c33
 (try(have c33h0:=c33b0;simp only[hl0_2] at c33h0))
 have c33b1:decide (l1.length<x0_2.length)=true:=decide_eq_true (Int.ofNat_lt.mp c33)
 (try(have c33h1:=c33b1;simp only[hl0_2] at c33h1))
 clear c33
 obtain⟨yb3,hyb3⟩:∃y_:List Int,y_=(x0_2.set ((l1.length:Int):Int).toNat ((IntKind.u64.wrap ((IntKind.u64.wrap ((IntKind.u64.wrap (rd x0_2 (l1.length:Int)))-x10_2))-x9_2)) % 4294967296)):=⟨_,rfl⟩
 replace H:(if((IntKind.u64.wrap ((IntKind.u64.wrap ((IntKind.u64.wrap (rd x0_2 (l1.length:Int)))-x10_2))-x9_2)) / 9223372036854775808)=0 then(some ((x7_9) % 4294967296,yb3)) else(nat_step.l2 k2 yb3 l1 (l1.length:Int) x7_9 0 (l1.length:Int) 0))=some (r1,r2):=zY hyb3 H
 have Nyb3:=zk hyb3
 clear hyb3
 replace H:=zi H
 rcases H with⟨c35,H⟩|⟨c35,H⟩
 ·have c35b0:=beq_iff_eq.mpr c35
  (try(have c35h0:=c35b0;simp only[hl0_2] at c35h0))
  have c35b1:=bne_eq_false_iff_eq.mpr c35
  (try(have c35h1:=c35b1;simp only[hl0_2] at c35h1))
  clear c35
  simp only[Option.some.injEq,Prod.mk.injEq] at H
  obtain⟨rfl,rfl⟩:=H
  have pb2:0≤((l1.length:Int):Int):=zd
  have qb2:(l1.length:Int)<(x0_2.length:Int):=zd
  obtain⟨adb2,eb2,hxb2_0⟩:=Kd.at_int (Wn.reads' HO_0.out).2.2 (l1.length:Int) pb2 qb2
  obtain rfl:ada1=adb2:=(by injection eb2)
  (try simp only[Go.IntWalk.toNatUp] at hxb2_0)
  (try simp only[hl0_2] at pb2)
  (try simp only[hl0_2] at qb2)
  (try simp only[hl0_2] at hxb2_0)
  replace pb2:=eq_true pb2
  replace qb2:=eq_true qb2
  have p34:0≤((l1.length:Int):Int):=zd
  have q34:((l1.length:Int):Int)<((x0_2.length:Int):Int):=zd
  obtain⟨co34,eo34,gb34,gl34,cl34,HG34⟩:=Wn.form HO_0.out (by omega)
  (first|cases eo34|(injection eo34 with ea_ en_ ec_;(first|subst ea_|(injection ea_ with ea_;subst ea_));subst ec_;clear en_))
  have GB34:=zk gb34
  have GG34:=zk HG34
  clear gb34 gl34 HG34
  have HMgo34:=zk (show(P0_ gW∨w.heap.size≤gW) from(Wn.own HO_0.out _ rfl))
  (first|simp only[add_at] at hxb2_0|skip)
  obtain⟨hx34_0,hf34_0⟩:=Wn.celln HO_0.out ((l1.length:Int):Int) p34 q34
  replace p34:=eq_true p34
  replace q34:=eq_true q34
  obtain⟨hy36_,hz36_⟩:=Wn.celln HO_0.out ((l1.length:Int):Int) zd zd
  (try simp only[Go.IntWalk.toNatUp] at hy36_ hz36_)
  have HP36:=Wn.putg HO_0.out ((l1.length:Int):Int) zd zd ((IntKind.u64.wrap ((IntKind.u64.wrap ((IntKind.u64.wrap (rd x0_2 (l1.length:Int)))-x10_2))-x9_2)) % 4294967296)
  go_wp2_with (first|((with_reducible refine gate_store (t:=97) (p:=132) rfl ?_);(try(rw[drewN_self wr];generalize hq_:World.drewN wr _=wr;have n0_:=zk (Wn.at_ hq_ HO_0.out);have n1_:=zk (kept_at hq_ HK.out);have n2_:=zk (below_at hq_ HB.out);clear hq_ HO_0 HK HB;have HO_0:=n0_;have HK:=n1_;have HB:=n2_;clear n0_ n1_ n2_;(try(obtain⟨hy36_,hz36_⟩:=Wn.celln HO_0.out ((l1.length:Int):Int) zd zd));(try(try simp only[Go.IntWalk.toNatUp] at hy36_ hz36_));(try(have HP36:=Wn.putg HO_0.out ((l1.length:Int):Int) zd zd ((IntKind.u64.wrap ((IntKind.u64.wrap ((IntKind.u64.wrap (rd x0_2 (l1.length:Int)))-x10_2))-x9_2)) % 4294967296)))));refine store_event (t:=97) (p:=132) (v:=?vo_w37) (w1:=(wr.setCell ⟨gW,preW.length+((l1.length:Int):Int).toNat,none⟩ (.int .u32 ((IntKind.u64.wrap ((IntKind.u64.wrap ((IntKind.u64.wrap (rd x0_2 (l1.length:Int)))-x10_2))-x9_2)) % 4294967296)))) ?hg ?ho ?hn ?hr ?_;(case ho=>rfl);(case hg=>rfl);(case hn=>rfl);(case hr=>first|(go_simp;done)|(go_simp;rfl));intro w37 hw;have hg:wr.grownBy w37 (some gW):=(by rw[hw];exact HP36.2);have hp_:Wn gW capW preW postW w37 w0.heap.size (fun k_=>(P0_ k_∨w.heap.size≤k_)) (.slice (some ⟨gW,preW.length,none⟩) x0_2.length co11) yb3:=(by rw[hw,Nyb3.out];exact HP36.1);clear HP36;replace HB:=zk ((by rw[hw];exact below_set (HB.out) GB34.out:Below w0.heap.size w0 w37));replace HK:=zk (Kept.of_grown (S:=(fun k_=>P0_ k_)) hg (by repeat(first|(with_reducible first|exact HK.out|apply Kept.alloc|apply Kept.drewN|apply Kept.drew)|exact HK.out)) (fun k_ e_=>(Wn.own HO_0.out k_ e_)));replace HO_0:=zk (hp_);clear hg hw hp_))
  repeat(go_quiet (first|((with_reducible refine gate_store (t:=97) (p:=132) rfl ?_);(try(rw[drewN_self wr];generalize hq_:World.drewN wr _=wr;have n0_:=zk (Wn.at_ hq_ HO_0.out);have n1_:=zk (kept_at hq_ HK.out);have n2_:=zk (below_at hq_ HB.out);clear hq_ HO_0 HK HB;have HO_0:=n0_;have HK:=n1_;have HB:=n2_;clear n0_ n1_ n2_;(try(obtain⟨hy36_,hz36_⟩:=Wn.celln HO_0.out ((l1.length:Int):Int) zd zd));(try(try simp only[Go.IntWalk.toNatUp] at hy36_ hz36_));(try(have HP36:=Wn.putg HO_0.out ((l1.length:Int):Int) zd zd ((IntKind.u64.wrap ((IntKind.u64.wrap ((IntKind.u64.wrap (rd x0_2 (l1.length:Int)))-x10_2))-x9_2)) % 4294967296)))));refine store_event (t:=97) (p:=132) (v:=?vo_w37) (w1:=(wr.setCell ⟨gW,preW.length+((l1.length:Int):Int).toNat,none⟩ (.int .u32 ((IntKind.u64.wrap ((IntKind.u64.wrap ((IntKind.u64.wrap (rd x0_2 (l1.length:Int)))-x10_2))-x9_2)) % 4294967296)))) ?hg ?ho ?hn ?hr ?_;(case ho=>rfl);(case hg=>rfl);(case hn=>rfl);(case hr=>first|(go_simp;done)|(go_simp;rfl));intro w37 hw;have hg:wr.grownBy w37 (some gW):=(by rw[hw];exact HP36.2);have hp_:Wn gW capW preW postW w37 w0.heap.size (fun k_=>(P0_ k_∨w.heap.size≤k_)) (.slice (some ⟨gW,preW.length,none⟩) x0_2.length co11) yb3:=(by rw[hw,Nyb3.out];exact HP36.1);clear HP36;replace HB:=zk ((by rw[hw];exact below_set (HB.out) GB34.out:Below w0.heap.size w0 w37));replace HK:=zk (Kept.of_grown (S:=(fun k_=>P0_ k_)) hg (by repeat(first|(with_reducible first|exact HK.out|apply Kept.alloc|apply Kept.drewN|apply Kept.drew)|exact HK.out)) (fun k_ e_=>(Wn.own HO_0.out k_ e_)));replace HO_0:=zk (hp_);clear hg hw hp_));try go_wp2_with (first|((with_reducible refine gate_store (t:=97) (p:=132) rfl ?_);(try(rw[drewN_self wr];generalize hq_:World.drewN wr _=wr;have n0_:=zk (Wn.at_ hq_ HO_0.out);have n1_:=zk (kept_at hq_ HK.out);have n2_:=zk (below_at hq_ HB.out);clear hq_ HO_0 HK HB;have HO_0:=n0_;have HK:=n1_;have HB:=n2_;clear n0_ n1_ n2_;(try(obtain⟨hy36_,hz36_⟩:=Wn.celln HO_0.out ((l1.length:Int):Int) zd zd));(try(try simp only[Go.IntWalk.toNatUp] at hy36_ hz36_));(try(have HP36:=Wn.putg HO_0.out ((l1.length:Int):Int) zd zd ((IntKind.u64.wrap ((IntKind.u64.wrap ((IntKind.u64.wrap (rd x0_2 (l1.length:Int)))-x10_2))-x9_2)) % 4294967296)))));refine store_event (t:=97) (p:=132) (v:=?vo_w37) (w1:=(wr.setCell ⟨gW,preW.length+((l1.length:Int):Int).toNat,none⟩ (.int .u32 ((IntKind.u64.wrap ((IntKind.u64.wrap ((IntKind.u64.wrap (rd x0_2 (l1.length:Int)))-x10_2))-x9_2)) % 4294967296)))) ?hg ?ho ?hn ?hr ?_;(case ho=>rfl);(case hg=>rfl);(case hn=>rfl);(case hr=>first|(go_simp;done)|(go_simp;rfl));intro w37 hw;have hg:wr.grownBy w37 (some gW):=(by rw[hw];exact HP36.2);have hp_:Wn gW capW preW postW w37 w0.heap.size (fun k_=>(P0_ k_∨w.heap.size≤k_)) (.slice (some ⟨gW,preW.length,none⟩) x0_2.length co11) yb3:=(by rw[hw,Nyb3.out];exact HP36.1);clear HP36;have n0_:=zk (hp_);have n1_:=zk ((by rw[hw];exact below_set (HB.out) GB34.out:Below w0.heap.size w0 w37));have n2_:=zk (Kept.of_grown (S:=(fun k_=>P0_ k_)) hg (by repeat(first|(with_reducible first|exact HK.out|apply Kept.alloc|apply Kept.drewN|apply Kept.drew)|exact HK.out)) (fun k_ e_=>(Wn.own HO_0.out k_ e_)));clear HO_0;clear HB;clear HK;have HO_0:=n0_;have HB:=n1_;have HK:=n2_;clear n0_ n1_ n2_;clear hg hw hp_)))
  go_ret
  exact⟨by first|rfl|(simp [errW_none,errW_some]<;>rfl)|(simp only[←hji5];first|rfl|(simp [errW_none,errW_some]<;>rfl))|(simp [*,errW_none,errW_some]<;>rfl),(by first|exact(zW HO_0.out)|(simp only[hl0_2];exact(zW HO_0.out))),zB HB.out,by repeat(first|(with_reducible first|exact HK.out|apply Kept.alloc|apply Kept.drewN|apply Kept.drew)|exact HK.out)⟩
 have c35b0:=beq_eq_false_iff_ne.mpr c35
 (try(have c35h0:=c35b0;simp only[hl0_2] at c35h0))
 have c35b1:=bne_iff_ne.mpr c35
 (try(have c35h1:=c35b1;simp only[hl0_2] at c35h1))
 have H':=zk H
 clear H
 have pb2:0≤((l1.length:Int):Int):=zd
 have qb2:(l1.length:Int)<(x0_2.length:Int):=zd
 obtain⟨adb2,eb2,hxb2_0⟩:=Kd.at_int (Wn.reads' HO_0.out).2.2 (l1.length:Int) pb2 qb2
 obtain rfl:ada1=adb2:=(by injection eb2)
 (try simp only[Go.IntWalk.toNatUp] at hxb2_0)
 (try simp only[hl0_2] at pb2)
 (try simp only[hl0_2] at qb2)
 (try simp only[hl0_2] at hxb2_0)
 replace pb2:=eq_true pb2
 replace qb2:=eq_true qb2
 have p34:0≤((l1.length:Int):Int):=zd
 have q34:((l1.length:Int):Int)<((x0_2.length:Int):Int):=zd
 obtain⟨co34,eo34,gb34,gl34,cl34,HG34⟩:=Wn.form HO_0.out (by omega)
 (first|cases eo34|(injection eo34 with ea_ en_ ec_;(first|subst ea_|(injection ea_ with ea_;subst ea_));subst ec_;clear en_))
 have GB34:=zk gb34
 have GG34:=zk HG34
 clear gb34 gl34 HG34
 have HMgo34:=zk (show(P0_ gW∨w.heap.size≤gW) from(Wn.own HO_0.out _ rfl))
 (first|simp only[add_at] at hxb2_0|skip)
 obtain⟨hx34_0,hf34_0⟩:=Wn.celln HO_0.out ((l1.length:Int):Int) p34 q34
 replace p34:=eq_true p34
 replace q34:=eq_true q34
 obtain⟨hy38_,hz38_⟩:=Wn.celln HO_0.out ((l1.length:Int):Int) zd zd
 (try simp only[Go.IntWalk.toNatUp] at hy38_ hz38_)
 have HP38:=Wn.putg HO_0.out ((l1.length:Int):Int) zd zd ((IntKind.u64.wrap ((IntKind.u64.wrap ((IntKind.u64.wrap (rd x0_2 (l1.length:Int)))-x10_2))-x9_2)) % 4294967296)
 go_wp2_with (first|((with_reducible refine gate_store (t:=97) (p:=132) rfl ?_);(try(rw[drewN_self wr];generalize hq_:World.drewN wr _=wr;have n0_:=zk (Wn.at_ hq_ HO_0.out);have n1_:=zk (kept_at hq_ HK.out);have n2_:=zk (below_at hq_ HB.out);clear hq_ HO_0 HK HB;have HO_0:=n0_;have HK:=n1_;have HB:=n2_;clear n0_ n1_ n2_;(try(obtain⟨hy38_,hz38_⟩:=Wn.celln HO_0.out ((l1.length:Int):Int) zd zd));(try(try simp only[Go.IntWalk.toNatUp] at hy38_ hz38_));(try(have HP38:=Wn.putg HO_0.out ((l1.length:Int):Int) zd zd ((IntKind.u64.wrap ((IntKind.u64.wrap ((IntKind.u64.wrap (rd x0_2 (l1.length:Int)))-x10_2))-x9_2)) % 4294967296)))));refine store_event (t:=97) (p:=132) (v:=?vo_w39) (w1:=(wr.setCell ⟨gW,preW.length+((l1.length:Int):Int).toNat,none⟩ (.int .u32 ((IntKind.u64.wrap ((IntKind.u64.wrap ((IntKind.u64.wrap (rd x0_2 (l1.length:Int)))-x10_2))-x9_2)) % 4294967296)))) ?hg ?ho ?hn ?hr ?_;(case ho=>rfl);(case hg=>rfl);(case hn=>rfl);(case hr=>first|(go_simp;done)|(go_simp;rfl));intro w39 hw;have hg:wr.grownBy w39 (some gW):=(by rw[hw];exact HP38.2);have hp_:Wn gW capW preW postW w39 w0.heap.size (fun k_=>(P0_ k_∨w.heap.size≤k_)) (.slice (some ⟨gW,preW.length,none⟩) x0_2.length co11) yb3:=(by rw[hw,Nyb3.out];exact HP38.1);clear HP38;replace HB:=zk ((by rw[hw];exact below_set (HB.out) GB34.out:Below w0.heap.size w0 w39));replace HK:=zk (Kept.of_grown (S:=(fun k_=>P0_ k_)) hg (by repeat(first|(with_reducible first|exact HK.out|apply Kept.alloc|apply Kept.drewN|apply Kept.drew)|exact HK.out)) (fun k_ e_=>(Wn.own HO_0.out k_ e_)));replace HO_0:=zk (hp_);clear hg hw hp_))
 repeat(go_quiet (first|((with_reducible refine gate_store (t:=97) (p:=132) rfl ?_);(try(rw[drewN_self wr];generalize hq_:World.drewN wr _=wr;have n0_:=zk (Wn.at_ hq_ HO_0.out);have n1_:=zk (kept_at hq_ HK.out);have n2_:=zk (below_at hq_ HB.out);clear hq_ HO_0 HK HB;have HO_0:=n0_;have HK:=n1_;have HB:=n2_;clear n0_ n1_ n2_;(try(obtain⟨hy38_,hz38_⟩:=Wn.celln HO_0.out ((l1.length:Int):Int) zd zd));(try(try simp only[Go.IntWalk.toNatUp] at hy38_ hz38_));(try(have HP38:=Wn.putg HO_0.out ((l1.length:Int):Int) zd zd ((IntKind.u64.wrap ((IntKind.u64.wrap ((IntKind.u64.wrap (rd x0_2 (l1.length:Int)))-x10_2))-x9_2)) % 4294967296)))));refine store_event (t:=97) (p:=132) (v:=?vo_w39) (w1:=(wr.setCell ⟨gW,preW.length+((l1.length:Int):Int).toNat,none⟩ (.int .u32 ((IntKind.u64.wrap ((IntKind.u64.wrap ((IntKind.u64.wrap (rd x0_2 (l1.length:Int)))-x10_2))-x9_2)) % 4294967296)))) ?hg ?ho ?hn ?hr ?_;(case ho=>rfl);(case hg=>rfl);(case hn=>rfl);(case hr=>first|(go_simp;done)|(go_simp;rfl));intro w39 hw;have hg:wr.grownBy w39 (some gW):=(by rw[hw];exact HP38.2);have hp_:Wn gW capW preW postW w39 w0.heap.size (fun k_=>(P0_ k_∨w.heap.size≤k_)) (.slice (some ⟨gW,preW.length,none⟩) x0_2.length co11) yb3:=(by rw[hw,Nyb3.out];exact HP38.1);clear HP38;replace HB:=zk ((by rw[hw];exact below_set (HB.out) GB34.out:Below w0.heap.size w0 w39));replace HK:=zk (Kept.of_grown (S:=(fun k_=>P0_ k_)) hg (by repeat(first|(with_reducible first|exact HK.out|apply Kept.alloc|apply Kept.drewN|apply Kept.drew)|exact HK.out)) (fun k_ e_=>(Wn.own HO_0.out k_ e_)));replace HO_0:=zk (hp_);clear hg hw hp_));try go_wp2_with (first|((with_reducible refine gate_store (t:=97) (p:=132) rfl ?_);(try(rw[drewN_self wr];generalize hq_:World.drewN wr _=wr;have n0_:=zk (Wn.at_ hq_ HO_0.out);have n1_:=zk (kept_at hq_ HK.out);have n2_:=zk (below_at hq_ HB.out);clear hq_ HO_0 HK HB;have HO_0:=n0_;have HK:=n1_;have HB:=n2_;clear n0_ n1_ n2_;(try(obtain⟨hy38_,hz38_⟩:=Wn.celln HO_0.out ((l1.length:Int):Int) zd zd));(try(try simp only[Go.IntWalk.toNatUp] at hy38_ hz38_));(try(have HP38:=Wn.putg HO_0.out ((l1.length:Int):Int) zd zd ((IntKind.u64.wrap ((IntKind.u64.wrap ((IntKind.u64.wrap (rd x0_2 (l1.length:Int)))-x10_2))-x9_2)) % 4294967296)))));refine store_event (t:=97) (p:=132) (v:=?vo_w39) (w1:=(wr.setCell ⟨gW,preW.length+((l1.length:Int):Int).toNat,none⟩ (.int .u32 ((IntKind.u64.wrap ((IntKind.u64.wrap ((IntKind.u64.wrap (rd x0_2 (l1.length:Int)))-x10_2))-x9_2)) % 4294967296)))) ?hg ?ho ?hn ?hr ?_;(case ho=>rfl);(case hg=>rfl);(case hn=>rfl);(case hr=>first|(go_simp;done)|(go_simp;rfl));intro w39 hw;have hg:wr.grownBy w39 (some gW):=(by rw[hw];exact HP38.2);have hp_:Wn gW capW preW postW w39 w0.heap.size (fun k_=>(P0_ k_∨w.heap.size≤k_)) (.slice (some ⟨gW,preW.length,none⟩) x0_2.length co11) yb3:=(by rw[hw,Nyb3.out];exact HP38.1);clear HP38;have n0_:=zk (hp_);have n1_:=zk ((by rw[hw];exact below_set (HB.out) GB34.out:Below w0.heap.size w0 w39));have n2_:=zk (Kept.of_grown (S:=(fun k_=>P0_ k_)) hg (by repeat(first|(with_reducible first|exact HK.out|apply Kept.alloc|apply Kept.drewN|apply Kept.drew)|exact HK.out)) (fun k_ e_=>(Wn.own HO_0.out k_ e_)));clear HO_0;clear HB;clear HK;have HO_0:=n0_;have HB:=n1_;have HK:=n2_;clear n0_ n1_ n2_;clear hg hw hp_)))
 go_loopg [10,140] k2 (fun kq v10 ve0 w'=>∃(x0_3:List Int) (x10_3:Int) (xe0_3:Int),v10= .int .u64 x10_3∧ve0= .int .i64 xe0_3∧Aside0 (nat_step.l2 kq x0_3 l1 (l1.length:Int) x7_9 x10_3 (l1.length:Int) xe0_3=some (r1,r2))∧Aside0 (kq≤k2)∧Aside0 (Wn gW capW preW postW w' w0.heap.size (fun k_=>(P0_ k_∨w.heap.size≤k_)) (.slice (some ⟨gW,preW.length,none⟩) x0_2.length co11) x0_3)∧Aside0 (Kept w w' (fun k_=>P0_ k_))∧Aside0 (Below w0.heap.size w0 w'))
 case atStart=>exact⟨(yb3),(0),(0),zF,zF,H',⟨Nat.le_refl _⟩,⟨by(try simp only[hl0_2]);(with_reducible repeat(first|apply Wn.alloc|apply Wn.drewN|apply Wn.drew));exact HO_0.out⟩,⟨by repeat(first|(with_reducible first|exact HK.out|apply Kept.alloc|apply Kept.drewN|apply Kept.drew)|exact HK.out)⟩,⟨zB HB.out⟩⟩
 clear H'
 (try clear c3);(try clear c3b0);(try clear c3b1);(try clear c4);(try clear c4b0);(try clear c4b1);(try clear c6b0);(try clear c7b0);(try clear c8b0);(try clear c9);(try clear c9b0);(try clear c9b1);(try clear c12b0);(try clear c13);(try clear c13b0);(try clear c15b0);(try clear c16b0);(try clear c18b0);(try clear c19b0);(try clear c20b0);(try clear c21);(try clear c21b0);(try clear c23b0);(try clear c24b0);(try clear c25);(try clear c25b0);(try clear c26b0);(try clear c27);(try clear c27b0);(try clear c28);(try clear c28b0);(try clear p29);(try clear q29);(try clear c32);(try clear c32b0);(try clear c32b1);(try clear c33);(try clear c33b0);(try clear c33b1);(try clear p34);(try clear q34);(try clear c35);(try clear c35b0);(try clear c35b1);(try clear hxa1_0);(try clear hxa2_0);(try clear hxa3_0);(try clear hxa4_0);(try clear hxa5_0);(try clear hxa6_0);(try clear hxa7_0);(try clear hxa8_0);(try clear hxa9_0);(try clear hxb0_0);(try clear hxb2_0);(try clear hx29_0);(try clear hx34_0);(try clear pa1);(try clear pa2);(try clear pa3);(try clear pa4);(try clear pa5);(try clear pa6);(try clear pa7);(try clear pa8);(try clear pa9);(try clear pb0);(try clear pb2);(try clear qa1);(try clear qa2);(try clear qa3);(try clear qa4);(try clear qa5);(try clear qa6);(try clear qa7);(try clear qa8);(try clear qa9);(try clear qb0);(try clear qb2)
 obtain⟨x0_3,x10_3,xe0_3,rfl,rfl,HA,HK3,HO_0,HK,HB⟩:=hrel
 have hl0_3:=(Wn.reads' HO_0.out).1
 rw[hl0_3] at HO_0
 (try simp only[hl0_3])
 cases gk with|zero=>exact absurd HA.out (by simp [nat_step.l2])|succ k3=>?_
 have H:=HA.out
 clear HA
 simp only[nat_step.l2] at H
 replace H:=zi H
 rcases H with⟨c40,H⟩|⟨c40,H⟩
 ·have c40b0:=decide_eq_true c40
  (try(have c40h0:=c40b0;simp only[hl0_2,hl0_3] at c40h0))
  clear c40
  replace H:=zgd H
  obtain⟨c41b0,H⟩:=H
  replace H:=zg H
  obtain⟨c42,H⟩:=H
  have c42b0:=decide_eq_true c42
  (try(have c42h0:=c42b0;simp only[hl0_2,hl0_3] at c42h0))
  clear c42
  replace H:=zg H
  obtain⟨c43,H⟩:=H
  have c43b0:=decide_eq_true c43
  (try(have c43h0:=c43b0;simp only[hl0_2,hl0_3] at c43h0))
  clear c43
  obtain⟨yb6,hyb6⟩:∃y_:List Int,y_=(x0_3.set (xe0_3:Int).toNat ((IntKind.u64.wrap ((IntKind.u64.wrap ((IntKind.u64.wrap (rd x0_3 xe0_3))+(IntKind.u64.wrap (rd l1 xe0_3))))+x10_3)) % 4294967296)):=⟨_,rfl⟩
  replace H:(nat_step.l2 k3 yb6 l1 (l1.length:Int) x7_9 ((IntKind.u64.wrap ((IntKind.u64.wrap ((IntKind.u64.wrap (rd x0_3 xe0_3))+(IntKind.u64.wrap (rd l1 xe0_3))))+x10_3)) / 4294967296) (l1.length:Int) (wrap64 (xe0_3+1)))=some (r1,r2):=zY hyb6 H
  have Nyb6:=zk hyb6
  clear hyb6
  have H':=zk H
  clear H
  have pb4:0≤(xe0_3:Int):=zd
  have qb4:xe0_3<(x0_3.length:Int):=zd
  obtain⟨adb4,eb4,hxb4_0⟩:=Kd.at_int (Wn.reads' HO_0.out).2.2 xe0_3 pb4 qb4
  obtain rfl:(⟨gW,preW.length,none⟩:Addr)=adb4:=(by injection eb4)
  (first|simp only[add_at] at hxb4_0|simp only[add_at] at hxb4_0|simp only[Addr.add,Nat.zero_add] at hxb4_0|skip)
  replace pb4:=eq_true pb4
  replace qb4:=eq_true qb4
  have pb5:0≤(xe0_3:Int):=zd
  have qb5:xe0_3<(l1.length:Int):=zd
  obtain⟨adb5,eb5,hxb5_0⟩:=Kd.at_int (Kd.C_kept_now HR1.out HK.out) xe0_3 pb5 qb5
  obtain rfl:ada3=adb5:=(by injection eb5)
  replace pb5:=eq_true pb5
  replace qb5:=eq_true qb5
  have p44:0≤(xe0_3:Int):=zd
  have q44:(xe0_3:Int)<((x0_3.length:Int):Int):=zd
  obtain⟨hx44_0,hf44_0⟩:=Wn.celln HO_0.out (xe0_3:Int) p44 q44
  replace p44:=eq_true p44
  replace q44:=eq_true q44
  obtain⟨hy45_,hz45_⟩:=Wn.celln HO_0.out (xe0_3:Int) zd zd
  have HP45:=Wn.putg HO_0.out (xe0_3:Int) zd zd ((IntKind.u64.wrap ((IntKind.u64.wrap ((IntKind.u64.wrap (rd x0_3 xe0_3))+(IntKind.u64.wrap (rd l1 xe0_3))))+x10_3)) % 4294967296)
  go_wp2_with (first|((with_reducible refine gate_store (t:=97) (p:=160) rfl ?_);(try(rw[drewN_self wr];generalize hq_:World.drewN wr _=wr;have n0_:=zk (Wn.at_ hq_ HO_0.out);have n1_:=zk (kept_at hq_ HK.out);have n2_:=zk (below_at hq_ HB.out);clear hq_ HO_0 HK HB;have HO_0:=n0_;have HK:=n1_;have HB:=n2_;clear n0_ n1_ n2_;(try(obtain⟨hy45_,hz45_⟩:=Wn.celln HO_0.out (xe0_3:Int) zd zd));(try(have HP45:=Wn.putg HO_0.out (xe0_3:Int) zd zd ((IntKind.u64.wrap ((IntKind.u64.wrap ((IntKind.u64.wrap (rd x0_3 xe0_3))+(IntKind.u64.wrap (rd l1 xe0_3))))+x10_3)) % 4294967296)))));refine store_event (t:=97) (p:=160) (v:=?vo_w46) (w1:=(wr.setCell ⟨gW,preW.length+(xe0_3:Int).toNat,none⟩ (.int .u32 ((IntKind.u64.wrap ((IntKind.u64.wrap ((IntKind.u64.wrap (rd x0_3 xe0_3))+(IntKind.u64.wrap (rd l1 xe0_3))))+x10_3)) % 4294967296)))) ?hg ?ho ?hn ?hr ?_;(case ho=>rfl);(case hg=>rfl);(case hn=>rfl);(case hr=>first|(go_simp;done)|(go_simp;rfl));intro w46 hw;have hg:wr.grownBy w46 (some gW):=(by rw[hw];exact HP45.2);have hp_:Wn gW capW preW postW w46 w0.heap.size (fun k_=>(P0_ k_∨w.heap.size≤k_)) (.slice (some ⟨gW,preW.length,none⟩) x0_3.length co11) yb6:=(by rw[hw,Nyb6.out];exact HP45.1);clear HP45;replace HB:=zk ((by rw[hw];exact below_set (HB.out) GB34.out:Below w0.heap.size w0 w46));replace HK:=zk (Kept.of_grown (S:=(fun k_=>P0_ k_)) hg (by repeat(first|(with_reducible first|exact HK.out|apply Kept.alloc|apply Kept.drewN|apply Kept.drew)|exact HK.out)) (fun k_ e_=>(Wn.own HO_0.out k_ e_)));replace HO_0:=zk (hp_);clear hg hw hp_))
  repeat(go_quiet (first|((with_reducible refine gate_store (t:=97) (p:=160) rfl ?_);(try(rw[drewN_self wr];generalize hq_:World.drewN wr _=wr;have n0_:=zk (Wn.at_ hq_ HO_0.out);have n1_:=zk (kept_at hq_ HK.out);have n2_:=zk (below_at hq_ HB.out);clear hq_ HO_0 HK HB;have HO_0:=n0_;have HK:=n1_;have HB:=n2_;clear n0_ n1_ n2_;(try(obtain⟨hy45_,hz45_⟩:=Wn.celln HO_0.out (xe0_3:Int) zd zd));(try(have HP45:=Wn.putg HO_0.out (xe0_3:Int) zd zd ((IntKind.u64.wrap ((IntKind.u64.wrap ((IntKind.u64.wrap (rd x0_3 xe0_3))+(IntKind.u64.wrap (rd l1 xe0_3))))+x10_3)) % 4294967296)))));refine store_event (t:=97) (p:=160) (v:=?vo_w46) (w1:=(wr.setCell ⟨gW,preW.length+(xe0_3:Int).toNat,none⟩ (.int .u32 ((IntKind.u64.wrap ((IntKind.u64.wrap ((IntKind.u64.wrap (rd x0_3 xe0_3))+(IntKind.u64.wrap (rd l1 xe0_3))))+x10_3)) % 4294967296)))) ?hg ?ho ?hn ?hr ?_;(case ho=>rfl);(case hg=>rfl);(case hn=>rfl);(case hr=>first|(go_simp;done)|(go_simp;rfl));intro w46 hw;have hg:wr.grownBy w46 (some gW):=(by rw[hw];exact HP45.2);have hp_:Wn gW capW preW postW w46 w0.heap.size (fun k_=>(P0_ k_∨w.heap.size≤k_)) (.slice (some ⟨gW,preW.length,none⟩) x0_3.length co11) yb6:=(by rw[hw,Nyb6.out];exact HP45.1);clear HP45;replace HB:=zk ((by rw[hw];exact below_set (HB.out) GB34.out:Below w0.heap.size w0 w46));replace HK:=zk (Kept.of_grown (S:=(fun k_=>P0_ k_)) hg (by repeat(first|(with_reducible first|exact HK.out|apply Kept.alloc|apply Kept.drewN|apply Kept.drew)|exact HK.out)) (fun k_ e_=>(Wn.own HO_0.out k_ e_)));replace HO_0:=zk (hp_);clear hg hw hp_));try go_wp2_with (first|((with_reducible refine gate_store (t:=97) (p:=160) rfl ?_);(try(rw[drewN_self wr];generalize hq_:World.drewN wr _=wr;have n0_:=zk (Wn.at_ hq_ HO_0.out);have n1_:=zk (kept_at hq_ HK.out);have n2_:=zk (below_at hq_ HB.out);clear hq_ HO_0 HK HB;have HO_0:=n0_;have HK:=n1_;have HB:=n2_;clear n0_ n1_ n2_;(try(obtain⟨hy45_,hz45_⟩:=Wn.celln HO_0.out (xe0_3:Int) zd zd));(try(have HP45:=Wn.putg HO_0.out (xe0_3:Int) zd zd ((IntKind.u64.wrap ((IntKind.u64.wrap ((IntKind.u64.wrap (rd x0_3 xe0_3))+(IntKind.u64.wrap (rd l1 xe0_3))))+x10_3)) % 4294967296)))));refine store_event (t:=97) (p:=160) (v:=?vo_w46) (w1:=(wr.setCell ⟨gW,preW.length+(xe0_3:Int).toNat,none⟩ (.int .u32 ((IntKind.u64.wrap ((IntKind.u64.wrap ((IntKind.u64.wrap (rd x0_3 xe0_3))+(IntKind.u64.wrap (rd l1 xe0_3))))+x10_3)) % 4294967296)))) ?hg ?ho ?hn ?hr ?_;(case ho=>rfl);(case hg=>rfl);(case hn=>rfl);(case hr=>first|(go_simp;done)|(go_simp;rfl));intro w46 hw;have hg:wr.grownBy w46 (some gW):=(by rw[hw];exact HP45.2);have hp_:Wn gW capW preW postW w46 w0.heap.size (fun k_=>(P0_ k_∨w.heap.size≤k_)) (.slice (some ⟨gW,preW.length,none⟩) x0_3.length co11) yb6:=(by rw[hw,Nyb6.out];exact HP45.1);clear HP45;have n0_:=zk (hp_);have n1_:=zk ((by rw[hw];exact below_set (HB.out) GB34.out:Below w0.heap.size w0 w46));have n2_:=zk (Kept.of_grown (S:=(fun k_=>P0_ k_)) hg (by repeat(first|(with_reducible first|exact HK.out|apply Kept.alloc|apply Kept.drewN|apply Kept.drew)|exact HK.out)) (fun k_ e_=>(Wn.own HO_0.out k_ e_)));clear HO_0;clear HB;clear HK;have HO_0:=n0_;have HB:=n1_;have HK:=n2_;clear n0_ n1_ n2_;clear hg hw hp_)))
  (try simp only[←hl0_3])
  (try simp only[add_at] at*)
  (try simp only[add_plain] at*)
  go_roundg k3
  case measure=>have:=HJ9.out;have:=HK2.out;have:=HK3.out;omega
  case rel=>exact⟨(yb6),((IntKind.u64.wrap ((IntKind.u64.wrap ((IntKind.u64.wrap (rd x0_3 xe0_3))+(IntKind.u64.wrap (rd l1 xe0_3))))+x10_3)) / 4294967296),(wrap64 (xe0_3+1)),zF,zF,H',⟨by have:=HJ9.out;have:=HK2.out;have:=HK3.out;omega⟩,⟨by(try simp only[hl0_2]);(try simp only[hl0_3]);(with_reducible repeat(first|apply Wn.alloc|apply Wn.drewN|apply Wn.drew));exact HO_0.out⟩,⟨by repeat(first|(with_reducible first|exact HK.out|apply Kept.alloc|apply Kept.drewN|apply Kept.drew)|exact HK.out)⟩,⟨zB HB.out⟩⟩
 have c40b0:=decide_eq_false c40
 (try(have c40h0:=c40b0;simp only[hl0_2,hl0_3] at c40h0))
 clear c40
 replace H:=zg H
 obtain⟨c47,H⟩:=H
 have c47b0:=decide_eq_true c47
 (try(have c47h0:=c47b0;simp only[hl0_2,hl0_3] at c47h0))
 have c47b1:decide (0≤l1.length)=true:=decide_eq_true (by omega)
 (try(have c47h1:=c47b1;simp only[hl0_2,hl0_3] at c47h1))
 clear c47
 replace H:=zg H
 obtain⟨c48,H⟩:=H
 have c48b0:=decide_eq_true c48
 (try(have c48h0:=c48b0;simp only[hl0_2,hl0_3] at c48h0))
 have c48b1:decide (l1.length<x0_3.length)=true:=decide_eq_true (Int.ofNat_lt.mp c48)
 (try(have c48h1:=c48b1;simp only[hl0_2,hl0_3] at c48h1))
 clear c48
 obtain⟨yb8,hyb8⟩:∃y_:List Int,y_=(x0_3.set ((l1.length:Int):Int).toNat (((rd x0_3 (l1.length:Int))+((x10_3) % 4294967296)) % 4294967296)):=⟨_,rfl⟩
 replace H:(some ((IntKind.u64.wrap (x7_9-1)) % 4294967296,yb8))=some (r1,r2):=zY hyb8 H
 have Nyb8:=zk hyb8
 clear hyb8
 simp only[Option.some.injEq,Prod.mk.injEq] at H
 obtain⟨rfl,rfl⟩:=H
 have pb7:0≤((l1.length:Int):Int):=zd
 have qb7:(l1.length:Int)<(x0_3.length:Int):=zd
 obtain⟨adb7,eb7,hxb7_0⟩:=Kd.at_int (Wn.reads' HO_0.out).2.2 (l1.length:Int) pb7 qb7
 obtain rfl:(⟨gW,preW.length,none⟩:Addr)=adb7:=(by injection eb7)
 (first|simp only[add_at] at hxb7_0|simp only[add_at] at hxb7_0|simp only[Addr.add,Nat.zero_add] at hxb7_0|skip)
 (try simp only[Go.IntWalk.toNatUp] at hxb7_0)
 (try simp only[hl0_2,hl0_3] at pb7)
 (try simp only[hl0_2,hl0_3] at qb7)
 (try simp only[hl0_2,hl0_3] at hxb7_0)
 replace pb7:=eq_true pb7
 replace qb7:=eq_true qb7
 have p49:0≤((l1.length:Int):Int):=zd
 have q49:((l1.length:Int):Int)<((x0_3.length:Int):Int):=zd
 obtain⟨hx49_0,hf49_0⟩:=Wn.celln HO_0.out ((l1.length:Int):Int) p49 q49
 replace p49:=eq_true p49
 replace q49:=eq_true q49
 obtain⟨hy50_,hz50_⟩:=Wn.celln HO_0.out ((l1.length:Int):Int) zd zd
 (try simp only[Go.IntWalk.toNatUp] at hy50_ hz50_)
 have HP50:=Wn.putg HO_0.out ((l1.length:Int):Int) zd zd (((rd x0_3 (l1.length:Int))+((x10_3) % 4294967296)) % 4294967296)
 go_wp2_with (first|((with_reducible refine gate_store (t:=97) (p:=171) rfl ?_);(try(rw[drewN_self wr];generalize hq_:World.drewN wr _=wr;have n0_:=zk (Wn.at_ hq_ HO_0.out);have n1_:=zk (kept_at hq_ HK.out);have n2_:=zk (below_at hq_ HB.out);clear hq_ HO_0 HK HB;have HO_0:=n0_;have HK:=n1_;have HB:=n2_;clear n0_ n1_ n2_;(try(obtain⟨hy50_,hz50_⟩:=Wn.celln HO_0.out ((l1.length:Int):Int) zd zd));(try(try simp only[Go.IntWalk.toNatUp] at hy50_ hz50_));(try(have HP50:=Wn.putg HO_0.out ((l1.length:Int):Int) zd zd (((rd x0_3 (l1.length:Int))+((x10_3) % 4294967296)) % 4294967296)))));refine store_event (t:=97) (p:=171) (v:=?vo_w51) (w1:=(wr.setCell ⟨gW,preW.length+((l1.length:Int):Int).toNat,none⟩ (.int .u32 (((rd x0_3 (l1.length:Int))+((x10_3) % 4294967296)) % 4294967296)))) ?hg ?ho ?hn ?hr ?_;(case ho=>rfl);(case hg=>rfl);(case hn=>rfl);(case hr=>first|(go_simp;done)|(go_simp;rfl));intro w51 hw;have hg:wr.grownBy w51 (some gW):=(by rw[hw];exact HP50.2);have hp_:Wn gW capW preW postW w51 w0.heap.size (fun k_=>(P0_ k_∨w.heap.size≤k_)) (.slice (some ⟨gW,preW.length,none⟩) x0_3.length co11) yb8:=(by rw[hw,Nyb8.out];exact HP50.1);clear HP50;replace HB:=zk ((by rw[hw];exact below_set (HB.out) GB34.out:Below w0.heap.size w0 w51));replace HK:=zk (Kept.of_grown (S:=(fun k_=>P0_ k_)) hg (by repeat(first|(with_reducible first|exact HK.out|apply Kept.alloc|apply Kept.drewN|apply Kept.drew)|exact HK.out)) (fun k_ e_=>(Wn.own HO_0.out k_ e_)));replace HO_0:=zk (hp_);clear hg hw hp_))
 repeat(go_quiet (first|((with_reducible refine gate_store (t:=97) (p:=171) rfl ?_);(try(rw[drewN_self wr];generalize hq_:World.drewN wr _=wr;have n0_:=zk (Wn.at_ hq_ HO_0.out);have n1_:=zk (kept_at hq_ HK.out);have n2_:=zk (below_at hq_ HB.out);clear hq_ HO_0 HK HB;have HO_0:=n0_;have HK:=n1_;have HB:=n2_;clear n0_ n1_ n2_;(try(obtain⟨hy50_,hz50_⟩:=Wn.celln HO_0.out ((l1.length:Int):Int) zd zd));(try(try simp only[Go.IntWalk.toNatUp] at hy50_ hz50_));(try(have HP50:=Wn.putg HO_0.out ((l1.length:Int):Int) zd zd (((rd x0_3 (l1.length:Int))+((x10_3) % 4294967296)) % 4294967296)))));refine store_event (t:=97) (p:=171) (v:=?vo_w51) (w1:=(wr.setCell ⟨gW,preW.length+((l1.length:Int):Int).toNat,none⟩ (.int .u32 (((rd x0_3 (l1.length:Int))+((x10_3) % 4294967296)) % 4294967296)))) ?hg ?ho ?hn ?hr ?_;(case ho=>rfl);(case hg=>rfl);(case hn=>rfl);(case hr=>first|(go_simp;done)|(go_simp;rfl));intro w51 hw;have hg:wr.grownBy w51 (some gW):=(by rw[hw];exact HP50.2);have hp_:Wn gW capW preW postW w51 w0.heap.size (fun k_=>(P0_ k_∨w.heap.size≤k_)) (.slice (some ⟨gW,preW.length,none⟩) x0_3.length co11) yb8:=(by rw[hw,Nyb8.out];exact HP50.1);clear HP50;replace HB:=zk ((by rw[hw];exact below_set (HB.out) GB34.out:Below w0.heap.size w0 w51));replace HK:=zk (Kept.of_grown (S:=(fun k_=>P0_ k_)) hg (by repeat(first|(with_reducible first|exact HK.out|apply Kept.alloc|apply Kept.drewN|apply Kept.drew)|exact HK.out)) (fun k_ e_=>(Wn.own HO_0.out k_ e_)));replace HO_0:=zk (hp_);clear hg hw hp_));try go_wp2_with (first|((with_reducible refine gate_store (t:=97) (p:=171) rfl ?_);(try(rw[drewN_self wr];generalize hq_:World.drewN wr _=wr;have n0_:=zk (Wn.at_ hq_ HO_0.out);have n1_:=zk (kept_at hq_ HK.out);have n2_:=zk (below_at hq_ HB.out);clear hq_ HO_0 HK HB;have HO_0:=n0_;have HK:=n1_;have HB:=n2_;clear n0_ n1_ n2_;(try(obtain⟨hy50_,hz50_⟩:=Wn.celln HO_0.out ((l1.length:Int):Int) zd zd));(try(try simp only[Go.IntWalk.toNatUp] at hy50_ hz50_));(try(have HP50:=Wn.putg HO_0.out ((l1.length:Int):Int) zd zd (((rd x0_3 (l1.length:Int))+((x10_3) % 4294967296)) % 4294967296)))));refine store_event (t:=97) (p:=171) (v:=?vo_w51) (w1:=(wr.setCell ⟨gW,preW.length+((l1.length:Int):Int).toNat,none⟩ (.int .u32 (((rd x0_3 (l1.length:Int))+((x10_3) % 4294967296)) % 4294967296)))) ?hg ?ho ?hn ?hr ?_;(case ho=>rfl);(case hg=>rfl);(case hn=>rfl);(case hr=>first|(go_simp;done)|(go_simp;rfl));intro w51 hw;have hg:wr.grownBy w51 (some gW):=(by rw[hw];exact HP50.2);have hp_:Wn gW capW preW postW w51 w0.heap.size (fun k_=>(P0_ k_∨w.heap.size≤k_)) (.slice (some ⟨gW,preW.length,none⟩) x0_3.length co11) yb8:=(by rw[hw,Nyb8.out];exact HP50.1);clear HP50;have n0_:=zk (hp_);have n1_:=zk ((by rw[hw];exact below_set (HB.out) GB34.out:Below w0.heap.size w0 w51));have n2_:=zk (Kept.of_grown (S:=(fun k_=>P0_ k_)) hg (by repeat(first|(with_reducible first|exact HK.out|apply Kept.alloc|apply Kept.drewN|apply Kept.drew)|exact HK.out)) (fun k_ e_=>(Wn.own HO_0.out k_ e_)));clear HO_0;clear HB;clear HK;have HO_0:=n0_;have HB:=n1_;have HK:=n2_;clear n0_ n1_ n2_;clear hg hw hp_)))
 go_ret
 exact⟨by first|rfl|(simp [errW_none,errW_some]<;>rfl)|(simp only[←hji5];first|rfl|(simp [errW_none,errW_some]<;>rfl))|(simp [*,errW_none,errW_some]<;>rfl),(by first|exact(zW HO_0.out)|(simp only[hl0_2,hl0_3];exact(zW HO_0.out))),zB HB.out,by repeat(first|(with_reducible first|exact HK.out|apply Kept.alloc|apply Kept.drewN|apply Kept.drew)|exact HK.out)⟩
def nat_long.T14:Bool×List (List Nat×List Nat):=(true,[([],[]),([],[]),([],[]),([],[]),([2,3],[2,3]),([4],[4]),([5],[5]),([],[]),([],[]),([8],[8]),([7,9],[7,9]),([10],[10]),([11],[11]),([12],[12]),([6,13],[6,13]),([],[]),([14,15],[14,15]),([16],[16]),([0,1,0,1,2,3,4,5,6,7,8,9,10,11,12,13,14,15,16,17],[0,1]),([18,17,0,1,2,3,4,5,6,7,8,9,10,11,12,13,14,15,16,17],[17,18])])
def nat_long.B14:List Nat:=[0,0,0,0,12,28,60,0,0,256,896,1920,3968,8064,16380,0,65532,131068,262143,524287]
theorem nat_long.tab14:rtab .any (opsOf Try.f129 14)=nat_long.T14:=by kernel_rfl
theorem nat_long.bits14:waitsOk nat_long.T14.2 nat_long.B14=true:=by kernel_rfl
set_option maxHeartbeats 8000000 in
set_option maxRecDepth 100000 in
theorem nat_long.calls (k:Nat) (A0:Option Addr) (c0:Nat) (l0:List Int) (A1:Option Addr) (c1:Nat) (l1:List Int) (r1:List Int) (r2:List Int) (w:World) (hr0:Kd.C (Kd.int .u32) w A0 l0.length l0) (hc0:l0.length≤c0) (hr1:Kd.C (Kd.int .u32) w A1 l1.length l1) (hc1:l1.length≤c1) (h:nat_long.f k l0 l1=some (r1,r2)):
 Calls Try.prog 129 #[.slice A0 l0.length c0, .slice A1 l1.length c1] w fun e w'=>∃v0_ v1_:Value,e= .returned (.tuple #[v0_,v1_])∧Kd.R (Kd.int .u32) 97 w' w.heap.size (fun k_=>some k_≠(v1_:Value).ownBlock) v0_ r1∧Kd.R (Kd.int .u32) 97 w' w.heap.size (fun k_=>some k_≠(v0_:Value).ownBlock) v1_ r2∧Below w.heap.size w w':=by
 have HR0:=zk hr0
 have HC0:=zk hc0
 clear hr0 hc0
 have HR1:=zk hr1
 have HC1:=zk hc1
 clear hr1 hc1
 have HB:=zk (Below.refl w.heap.size w)
 have H:=h
 clear h
 unfold nat_long.f at H
 obtain⟨ji3,hji3⟩:∃j_:Int,(wrap64 ((l1.length:Int)-1))=j_:=⟨_,rfl⟩
 replace H:(if 0≤(ji3) then(if(ji3)<(l1.length:Int) then((bits_LeadingZeros32.f (rd l1 (ji3))).bind fun ta2=>((nat_shift.f k l1 ta2).bind fun ta3=>((nat_short.f k ta3).bind fun ta6=>((nat_shift.f k l0 ta2).bind fun ta9=>(if 0≤(wrap64 ((ta9.length:Int)-(ta6.length:Int))) then(if(wrap64 ((ta9.length:Int)-(ta6.length:Int)):Int).toNat≤70368744177664 then(nat_long.l0 k (List.replicate (wrap64 ((ta9.length:Int)-(ta6.length:Int)):Int).toNat 0) ta2 ta6 ta9 (ta6.length:Int) (wrap64 ((wrap64 ((ta9.length:Int)-(ta6.length:Int)))-1))) else(none)) else(none)))))) else(none)) else(none))=some (r1,r2):=by first|(rw[hji3] at H;exact H)|(simp only[hji3] at H ⊢;exact H)
 have hji3w:(IntKind.i64.wrap ((l1.length:Int)-1))=ji3:=(i64_w _).trans hji3
 replace H:=zgd H
 obtain⟨c4b0,H⟩:=H
 replace H:=zgd H
 obtain⟨c5b0,H⟩:=H
 replace H:=zb H
 obtain⟨ta2,A6,H⟩:=H
 replace H:=zb H
 obtain⟨ta3,A7,H⟩:=H
 replace H:=zb H
 obtain⟨ta6,A8,H⟩:=H
 replace H:=zb H
 obtain⟨ta9,A9,H⟩:=H
 obtain⟨ji10,hji10⟩:∃j_:Int,(wrap64 ((ta9.length:Int)-(ta6.length:Int)))=j_:=⟨_,rfl⟩
 replace H:(if 0≤(ji10) then(if(ji10:Int).toNat≤70368744177664 then(nat_long.l0 k (List.replicate (ji10:Int).toNat 0) ta2 ta6 ta9 (ta6.length:Int) (wrap64 ((ji10)-1))) else(none)) else(none))=some (r1,r2):=by first|(rw[hji10] at H;exact H)|(simp only[hji10] at H ⊢;exact H)
 (try rw[hji10] at A6)
 (try rw[hji10] at A7)
 (try rw[hji10] at A8)
 (try rw[hji10] at A9)
 have hji10w:(IntKind.i64.wrap ((ta9.length:Int)-(ta6.length:Int)))=ji10:=(i64_w _).trans hji10
 replace H:=zg H
 obtain⟨c11,H⟩:=H
 have c11b0:=eq_true c11
 have c11b1:=decide_eq_true c11
 clear c11
 replace H:=zg H
 obtain⟨c12,H⟩:=H
 have c12b0:=eq_true c12
 have c12b1:=decide_eq_true c12
 clear c12
 obtain⟨yb2,hyb2⟩:∃y_:List Int,y_=(List.replicate (ji10:Int).toNat 0):=⟨_,rfl⟩
 replace H:(nat_long.l0 k yb2 ta2 ta6 ta9 (ta6.length:Int) (wrap64 ((ji10)-1)))=some (r1,r2):=zY hyb2 H
 have Nyb2:=zk hyb2
 clear hyb2
 have H':=zk H
 clear H
 have pa1:0≤((ji3):Int):=zd
 have qa1:(ji3)<(l1.length:Int):=zd
 obtain⟨ada1,ea1,hxa1_0⟩:=Kd.at_int HR1.out (ji3) pa1 qa1
 cases ea1
 replace pa1:=eq_true pa1
 replace qa1:=eq_true qa1
 go_enter Try.func129,Try.ntmps129
 go_wp2_with (first|((with_reducible refine gC 138 ?_);refine goesL_ (some 18) rfl rfl Try.func138 (by kernel_rfl) rfl #[.int .u32 (rd l1 (ji3))] rfl (by(try simp only[List.map_toArray,List.map_cons,List.map_nil]);first|done|(simp only[hji3];rfl)|rfl|(simp only[List.length_drop,List.length_take];rfl)) ?_;(with_reducible refine(bits_LeadingZeros32.calls (rd l1 (ji3)) ta2 _ A6.out).mono ?_);rintro e w' ⟨rfl,⟨nd,rfl⟩⟩;refine⟨_,rfl,?_⟩)|((with_reducible refine gC 139 ?_);refine zG (some 21) Try.func139 #[.slice (some ada1) l1.length c1, .int .i64 ta2] ?_;(with_reducible refine(nat_shift.calls k _ _ l1 ta2 ta3 _ ?side1 ?side2 A7.out).mono ?_);(case side1=>exact zC HR1.out);(case side2=>exact HC1.out);rintro e w13 ⟨va4,rfl,ho0,hb⟩;refine⟨_,rfl,?_⟩;have HOa5:=yRl ho0 HB;replace HB:=yS HB hb;(try clear hb ho0);obtain⟨Ao14,co14,rfl⟩:=Kd.R_slice HOa5.out)|((with_reducible refine gC 118 ?_);refine zG (some 22) Try.func118 #[.slice Ao14 ta3.length co14] ?_;(with_reducible refine(nat_short.calls k (fun k_=>some k_=(.slice Ao14 ta3.length co14:Value).ownBlock) _ _ ta3 ta6 _ ?side1 A8.out).mono ?_);(case side1=>exact Kd.R_V (Kd.R_tight rfl (HOa5.out)));rintro e w15 ⟨va7,rfl,ho0,hb⟩;refine⟨_,rfl,?_⟩;replace HOa5:=yRb HOa5 hb;have HOa8:=yVm ho0 HB;replace HB:=yS HB hb;(try clear hb ho0))|((with_reducible refine gC 139 ?_);refine zG (some 25) Try.func139 #[.slice A0 l0.length c0, .int .i64 ta2] ?_;(with_reducible refine(nat_shift.calls k _ _ l0 ta2 ta9 _ ?side1 ?side2 A9.out).mono ?_);(case side1=>exact zC (Kd.C_below HR0.out HB.out));(case side2=>exact HC0.out);rintro e w16 ⟨vb0,rfl,ho0,hb⟩;refine⟨_,rfl,?_⟩;replace HOa8:=yVe HOa8 ho0 hb;replace ho0:=yn ho0 HOa5;have HOb1:=yRl ho0 HB;replace HOa5:=yRe HOa5 ho0 hb;replace HB:=yS HB hb;(try clear hb ho0);obtain⟨Ao17,co17,rfl⟩:=Kd.V_slice HOa8.out;obtain⟨Ao18,co18,rfl⟩:=Kd.R_slice HOb1.out)|((with_reducible refine gate_dst (N:=32) rfl ?_);refine Kd.R_make (Kd.int .u32) _ 97 rfl (N:=32) rfl 29 _ _ rfl ji10 rfl rfl Try.underlying29 (.int .u32 0) 4 info97 rfl (by decide) (by omega) 0 (ok:=fun _=>True) (okp:=fun _=>True) rfl (fun _ hk=>hk) trivial zd (Nat.le_trans (Nat.mul_le_mul_right _ (zd:ji10.toNat≤70368744177664)) (by omega)) (Below.refl _ _) (Nat.le_refl _) ?_;intro vb3 w19 ho20 hb hg_ hnew_;clear hg_ hnew_;(first|rw[←Nyb2.out] at ho20|(simp only[Int.reduceToNat] at ho20;rw[←Nyb2.out] at ho20));replace HOa8:=yVe HOa8 ho20 hb;replace ho20:=yn ho20 HOa5;replace ho20:=yn ho20 HOb1;have HOb4:=yRl ho20 HB;replace HOa5:=yRe HOa5 ho20 hb;replace HOb1:=yRe HOb1 ho20 hb;replace HB:=yS HB hb;clear hb ho20))
 go_loopg [10] k (fun kq v10 w'=>∃(x4_1:List Int) (x7_1:List Int) (x8_1:List Int) (x10_1:Int),v10= .int .i64 x10_1∧Aside0 (nat_long.l0 kq x4_1 ta2 x7_1 x8_1 (ta6.length:Int) x10_1=some (r1,r2))∧Aside0 (kq≤k)∧Aside0 (Kd.R (Kd.int .u32) 97 w' w.heap.size (fun k_=>some k_≠((.slice Ao18 ta9.length co18):Value).ownBlock) vb3 x4_1)∧Aside0 (Kd.V (Kd.int .u32) 97 w' w.heap.size (fun k_=>some k_≠(vb3:Value).ownBlock∧some k_≠((.slice Ao18 ta9.length co18):Value).ownBlock) (.slice Ao17 ta6.length co17) x7_1)∧Aside0 (Kd.R (Kd.int .u32) 97 w' w.heap.size (fun k_=>some k_≠(vb3:Value).ownBlock) (.slice Ao18 ta9.length co18) x8_1)∧Aside0 (Below w.heap.size w w'))
 case atStart=>exact⟨(yb2),(ta6),(ta9),(wrap64 ((ji10)-1)),(by first|rfl|(simp;done)|(simp only[←hji10]<;>(first|rfl|simp))|(simp [*];done)),H',⟨Nat.le_refl _⟩,⟨by(with_reducible repeat(first|apply Kd.R_alloc|apply Kd.R_drewN|apply Kd.R_drew));exact Kd.R_mono HOb4.out (fun _ hk=>hk.2)⟩,⟨by(with_reducible repeat(first|apply Kd.V_alloc|apply Kd.V_drewN|apply Kd.V_drew));exact Kd.V_mono HOa8.out (fun _ hk=>⟨hk.2,hk.1.2⟩)⟩,⟨by(with_reducible repeat(first|apply Kd.R_alloc|apply Kd.R_drewN|apply Kd.R_drew));exact Kd.R_mono HOb1.out (fun _ hk=>hk.2)⟩,⟨zB HB.out⟩⟩
 clear H'
 (try clear c4b0);(try clear c5b0);(try clear c11);(try clear c11b0);(try clear c11b1);(try clear c12);(try clear c12b0);(try clear c12b1);(try clear hxa1_0);(try clear pa1);(try clear qa1)
 obtain⟨x4_1,x7_1,x8_1,x10_1,rfl,HA,HK1,HO_4,HO_7,HO_8,HB⟩:=hrel
 have hl7_1:=(Kd.V_reads' HO_7.out).1
 rw[hl7_1] at HO_7
 (try simp only[hl7_1])
 (try simp only[hl7_1] at HO_4)
 (try simp only[hl7_1] at HO_8)
 have hl8_1:=(Kd.R_reads' HO_8.out).1
 rw[hl8_1] at HO_8
 (try simp only[hl8_1])
 (try simp only[hl8_1] at HO_4)
 (try simp only[hl8_1] at HO_7)
 cases gk with|zero=>exact absurd HA.out (by simp [nat_long.l0])|succ k1=>?_
 have H:=HA.out
 clear HA
 simp only[nat_long.l0] at H
 replace H:=zi H
 rcases H with⟨c21,H⟩|⟨c21,H⟩
 ·have c21b0:decide (0≤x10_1)=true:=decide_eq_true c21
  clear c21
  replace H:=zg H
  obtain⟨c22,H⟩:=H
  have c22b0:=eq_true c22
  have c22b1:=decide_eq_true c22
  clear c22
  replace H:=zg H
  obtain⟨c23,H⟩:=H
  have c23b0:=eq_true c23
  have c23b1:=decide_eq_true c23
  replace H:=zg H
  obtain⟨c24,H⟩:=H
  have c24b0:=eq_true c24
  have c24b1:=decide_eq_true c24
  obtain⟨yb5,hyb5⟩:∃y_:List Int,y_=((x8_1.take ((wrap64 ((wrap64 (x10_1+(ta6.length:Int)))+1)):Int).toNat).drop (x10_1:Int).toNat):=⟨_,rfl⟩
  replace H:((nat_step.f k1 yb5 x7_1).bind fun btb9=>(if x10_1<(x4_1.length:Int) then(nat_long.l0 k1 (x4_1.set (x10_1:Int).toNat btb9.1) ta2 x7_1 (x8_1.take (x10_1:Int).toNat++(btb9.2++x8_1.drop ((wrap64 ((wrap64 (x10_1+(ta6.length:Int)))+1)):Int).toNat)) (ta6.length:Int) (wrap64 (x10_1-1))) else(none)))=some (r1,r2):=zY hyb5 H
  have Nyb5:=zk hyb5
  clear hyb5
  replace H:=zb H
  obtain⟨⟨tb9,tc0⟩,A25,H⟩:=H
  dsimp only at H
  replace H:=zg H
  obtain⟨c26,H⟩:=H
  have c26b0:=decide_eq_true c26
  (try(have c26h0:=c26b0;simp only[hl7_1,hl8_1] at c26h0))
  clear c26
  obtain⟨yc1,hyc1⟩:∃y_:List Int,y_=(x4_1.set (x10_1:Int).toNat tb9):=⟨_,rfl⟩
  replace H:(nat_long.l0 k1 yc1 ta2 x7_1 (x8_1.take (x10_1:Int).toNat++(tc0++x8_1.drop ((wrap64 ((wrap64 (x10_1+(ta6.length:Int)))+1)):Int).toNat)) (ta6.length:Int) (wrap64 (x10_1-1)))=some (r1,r2):=zY hyc1 H
  obtain⟨y8,hy8⟩:∃y_:List Int,y_=(x8_1.take (x10_1:Int).toNat++(tc0++x8_1.drop ((wrap64 ((wrap64 (x10_1+(ta6.length:Int)))+1)):Int).toNat)):=⟨_,rfl⟩
  rw[←hy8] at H
  have Ny8:=zk hy8
  clear hy8
  have Nyc1:=zk hyc1
  clear hyc1
  have H':=zk H
  clear H
  have q28:((wrap64 ((wrap64 (x10_1+(ta6.length:Int)))+1)):Int)≤((x8_1.length:Int):Int):=zd
  obtain⟨i028,hi028,_,hsz28,_⟩:=info_parts info97
  have hroom28:x8_1.length≤co18:=(Kd.R_reads' HO_8.out).2.1
  have hC28:Kd.C (Kd.int .u32) _ Ao18 x8_1.length x8_1:=(Kd.R_reads' HO_8.out).2.2
  have ql28:(x10_1:Int)≤((wrap64 ((wrap64 (x10_1+(ta6.length:Int)))+1)):Int):=zd
  have q028:(0:Int)≤(x10_1:Int):=zd
  have hcut28:=cut_mid (P:=Try.prog) 29 97 .i64 .i64 Try.underlying29 hi028 1 hsz28 Ao18 x8_1.length co18 x10_1 (wrap64 ((wrap64 (x10_1+(ta6.length:Int)))+1)) q028 ql28 q28 hroom28
  have hr28:=Kd.C_mid (lo:=(x10_1:Int).toNat) (hi:=((wrap64 ((wrap64 (x10_1+(ta6.length:Int)))+1)):Int).toNat) (c:=co18) hC28 (by omega) (by omega) hroom28
  obtain⟨A28,hA28⟩:∃A1,A1=(if co18=(x10_1:Int).toNat then Ao18 else(Ao18:Option Addr).map (·.add ((x10_1:Int).toNat*1))):=⟨_,rfl⟩
  obtain⟨c28,hc28⟩:∃c1,c1=co18-(x10_1:Int).toNat:=⟨_,rfl⟩
  have hy28:yb5.length=((wrap64 ((wrap64 (x10_1+(ta6.length:Int)))+1)):Int).toNat-(x10_1:Int).toNat:=(by rw[Nyb5.out,List.length_drop,List.length_take]<;>omega)
  rw[show((x8_1).take ((wrap64 ((wrap64 (x10_1+(ta6.length:Int)))+1)):Int).toNat).drop (x10_1:Int).toNat=yb5 from Nyb5.out.symm] at hr28
  replace hr28:Kd.C (Kd.int .u32) _ A28 yb5.length yb5:=(by rw[hA28];exact hr28)
  rw[←hy28,←hA28,←hc28] at hcut28
  have HRb8:=zk hr28
  have HCb8:=zk (show yb5.length≤c28 from by rw[hy28,hc28];exact Nat.sub_le_sub_right (Nat.le_trans (by omega) hroom28) _)
  clear hr28 hC28 hroom28 hi028 hsz28 hc28
  have KY28:=zk hy28
  have KA28:=zk hA28
  clear hy28 hA28
  have KL28:=zk (show((wrap64 ((wrap64 (x10_1+(ta6.length:Int)))+1)):Int).toNat≤x8_1.length from by omega)
  have KM28:=zk (show(x10_1:Int).toNat≤((wrap64 ((wrap64 (x10_1+(ta6.length:Int)))+1)):Int).toNat from by omega)
  replace q28:=eq_true q28
  (try simp only[hl7_1] at hcut28)
  have HP8:=zk (nat_step.pos A25.out)
  obtain⟨g8,cap8,e8,_,_,_,_⟩:=Kd.R_form HO_8.out (by have h1_:=HP8.out;have h2_:=KY28.out;have h3_:=KL28.out;omega)
  have HA18:Aside0 (Ao18=some ⟨g8,0,none⟩):=⟨by injection e8⟩
  clear e8
  go_wp2_with (first|((with_reducible refine gC 140 ?_);refine zG (some 52) Try.func140 #[.slice A28 yb5.length c28, .slice Ao17 x7_1.length co17] ?_;(with_reducible refine(nat_step.calls k1 g8 co18 (x8_1.take (x10_1:Int).toNat) (x8_1.drop ((wrap64 ((wrap64 (x10_1+(ta6.length:Int)))+1)):Int).toNat) (fun k_=>some k_=(.slice Ao18 x8_1.length co18:Value).ownBlock) (.slice A28 yb5.length c28) yb5 _ _ x7_1 tb9 tc0 w _ ?side1 ?side2 ?side3 ?side4 A25.out).mono ?_);(case side1=>repeat(first|(with_reducible first|exact HB.out|apply below_alloc|apply pw_below_drewN|apply below_drew1)|exact HB.out));(case side2=>exact Wn.make (Kd.R_tight rfl HO_8.out) HA18.out KA28.out HCb8.out Nyb5.out KM28.out KL28.out HP8.out);(case side3=>exact Kd.C_kept_ownV (HO_7.out) (fun k_ hk_ hs_=>(hk_.2) hs_));(case side4=>exact(Kd.V_reads' HO_7.out).2.1);rintro e w29 ⟨rfl,hy0,hb,hkp⟩;refine⟨_,rfl,?_⟩;have n0_:=zk (Kd.R_mono (ok':=fun k_=>some k_≠(.slice Ao18 x8_1.length co18:Value).ownBlock) (Kd.R_keptB (HO_4.out) hkp (fun k_ hk_ hs_=>(hk_) hs_)) (fun k_ hk_=>hk_.1));have n1_:=zk (Kd.V_mono (ok':=fun k_=>some k_≠(vb3:Value).ownBlock∧some k_≠(.slice Ao18 x8_1.length co18:Value).ownBlock) (Kd.V_keptB (HO_7.out) hkp (fun k_ hk_ hs_=>(hk_.2) hs_)) (fun k_ hk_=>⟨hk_.1.1,hk_.1.2⟩));have n2_:Aside0 (Kd.R (Kd.int .u32) 97 w29 w.heap.size _ (.slice Ao18 x8_1.length co18) y8):=zk (by rw[Ny8.out];exact Kd.R_reok rfl (Wn.back hy0 HA18.out (by have h1_:=(Wn.reads' hy0).1;have h2_:=KY28.out;have h3_:=KL28.out;have h4_:=KM28.out;rw[List.length_append,List.length_append,List.length_take,List.length_drop];omega)) (fun k_ e_=>HO_8.out.1 k_ e_));have n3_:=zk (hb);clear HO_4;clear HO_7;clear HO_8;clear HB;have HO_4:=n0_;have HO_7:=n1_;have HO_8:=n2_;have HB:=n3_;clear n0_ n1_ n2_ n3_;(try clear hb);(try clear hkp);(try clear hy0);have p27:0≤(x10_1:Int):=zd;have q27:(x10_1:Int)<((x4_1.length:Int):Int):=zd;obtain⟨go27,co27,eo27,gb27,gl27,cl27,HG27⟩:=Kd.R_form HO_4.out (by omega);(first|cases eo27|(injection eo27 with ea_ en_ ec_;(first|subst ea_|(injection ea_ with ea_;subst ea_));subst ec_;clear en_));have GB27:=zk gb27;have GG27:=zk HG27;clear gb27 gl27 HG27;obtain⟨hx27_0,hf27_0⟩:=Kd.R_celln 0 HO_4.out (x10_1:Int) p27 q27;replace p27:=eq_true p27;replace q27:=eq_true q27;obtain⟨hy30_,hz30_⟩:=Kd.R_celln 0 HO_4.out (x10_1:Int) zd zd;have HP30:=Kd.R_putg HO_4.out (x10_1:Int) tb9)|((with_reducible refine gate_store (t:=97) (p:=53) rfl ?_);refine store_event (t:=97) (p:=53) (v:=?vo_w31) (w1:=(w29.setCell ⟨go27,(x10_1:Int).toNat,none⟩ (.int .u32 tb9))) ?hg ?ho ?hn ?hr ?_;(case ho=>rfl);(case hg=>rfl);(case hn=>rfl);(case hr=>first|(go_simp;done)|(go_simp;rfl));intro w31 hw;have hg:w29.grownBy w31 (some go27):=(by rw[hw];exact HP30.2);have hp_:Kd.R (Kd.int .u32) 97 w31 w.heap.size (fun k_=>some k_≠(.slice Ao18 x8_1.length co18:Value).ownBlock) (.slice (some ⟨go27,0,none⟩) x4_1.length co27) yc1:=(by rw[hw,Nyc1.out];exact HP30.1);clear HP30;replace HO_4:=zk (hp_);replace HO_7:=zk (Kd.V_afterv (v:=(.slice (some ⟨go27,0,none⟩) x4_1.length co27)) (v1:=(.slice (some ⟨go27,0,none⟩) x4_1.length co27)) (ok:=(fun k_=>some k_≠(.slice Ao18 x8_1.length co18:Value).ownBlock)) (by(with_reducible repeat(first|apply Kd.V_alloc|apply Kd.V_drewN|apply Kd.V_drew));exact Kd.V_mono HO_7.out (fun _ hk=>⟨hk.2,hk.1⟩)) hg (.inl rfl));replace HO_8:=zk (Kd.R_after (v:=(.slice (some ⟨go27,0,none⟩) x4_1.length co27)) (v1:=(.slice (some ⟨go27,0,none⟩) x4_1.length co27)) (ok:=(fun _=>True)) (by(with_reducible repeat(first|apply Kd.R_alloc|apply Kd.R_drewN|apply Kd.R_drew));exact Kd.R_mono HO_8.out (fun _ hk=>⟨trivial,hk⟩)) hg (.inl rfl));replace HB:=zk ((by rw[hw];exact below_set (HB.out) GB27.out:Below w.heap.size w w31));clear hg hw hp_))
  (try simp only[←hl7_1,←hl8_1])
  go_roundg k1
  case measure=>have:=HK1.out;omega
  case rel=>exact⟨(yc1),(x7_1),(y8),(wrap64 (x10_1-1)),zF,H',⟨zo1 HK1⟩,⟨by(try simp only[hl7_1]);(try simp only[hl8_1]);(with_reducible repeat(first|apply Kd.R_alloc|apply Kd.R_drewN|apply Kd.R_drew));exact HO_4.out⟩,⟨by(try simp only[hl7_1]);(try simp only[hl8_1]);(with_reducible repeat(first|apply Kd.V_alloc|apply Kd.V_drewN|apply Kd.V_drew));exact Kd.V_mono HO_7.out (fun _ hk=>⟨hk.2,hk.1⟩)⟩,⟨by(try simp only[hl7_1]);(try simp only[hl8_1]);(with_reducible repeat(first|apply Kd.R_alloc|apply Kd.R_drewN|apply Kd.R_drew));exact Kd.R_mono HO_8.out (fun _ hk=>hk.2)⟩,⟨zB HB.out⟩⟩
 have c21b0:decide (0≤x10_1)=false:=decide_eq_false c21
 clear c21
 replace H:=zg H
 obtain⟨c32,H⟩:=H
 have c32b0:=eq_true c32
 have c32b1:=decide_eq_true c32
 clear c32
 replace H:=zg H
 obtain⟨c33,H⟩:=H
 have c33b0:=eq_true c33
 have c33b1:=decide_eq_true c33
 clear c33
 obtain⟨yc2,hyc2⟩:∃y_:List Int,y_=(List.replicate ((ta6.length:Int):Int).toNat 0):=⟨_,rfl⟩
 replace H:(nat_long.l1 k1 x4_1 yc2 ta2 x8_1 (yc2.length:Int) 0)=some (r1,r2):=zY hyc2 H
 have Nyc2:=zk hyc2
 clear hyc2
 have H':=zk H
 clear H
 (try simp only[←hl7_1])
 go_wp2_with (first|((with_reducible refine gate_dst (N:=55) rfl ?_);refine Kd.R_make (Kd.int .u32) _ 97 rfl (N:=55) rfl 29 _ _ rfl (ta6.length:Int) rfl rfl Try.underlying29 (.int .u32 0) 4 info97 rfl (by decide) (by omega) 0 (ok:=fun _=>True) (okp:=fun _=>True) rfl (fun _ hk=>hk) trivial zd (Nat.le_trans (Nat.mul_le_mul_right _ (zd:(ta6.length:Int).toNat≤70368744177664)) (by omega)) (Below.refl _ _) (Nat.le_refl _) ?_;intro vc3 w34 ho35 hb hg_ hnew_;clear hg_ hnew_;(first|rw[←Nyc2.out] at ho35|(simp only[Int.reduceToNat] at ho35;rw[←Nyc2.out] at ho35));replace HO_7:=yVe HO_7 ho35 hb;replace ho35:=yn ho35 HO_4;replace ho35:=yn ho35 HO_8;have HOc4:=yRl ho35 HB;replace HO_4:=yRe HO_4 ho35 hb;replace HO_8:=yRe HO_8 ho35 hb;replace HB:=yS HB hb;clear hb ho35;obtain⟨Ao36,co36,rfl⟩:=Kd.R_slice HOc4.out))
 go_loopg [58] k1 (fun kq v58 w'=>∃(x5_2:List Int) (x58_2:Int),v58= .int .i64 x58_2∧Aside0 (nat_long.l1 kq x4_1 x5_2 ta2 x8_1 (yc2.length:Int) x58_2=some (r1,r2))∧Aside0 (kq≤k1)∧Aside0 (Kd.R (Kd.int .u32) 97 w' w.heap.size (fun k_=>some k_≠((.slice Ao36 yc2.length co36):Value).ownBlock∧some k_≠((.slice Ao18 x8_1.length co18):Value).ownBlock) vb3 x4_1)∧Aside0 (Kd.R (Kd.int .u32) 97 w' w.heap.size (fun k_=>some k_≠(vb3:Value).ownBlock∧some k_≠((.slice Ao18 x8_1.length co18):Value).ownBlock) (.slice Ao36 yc2.length co36) x5_2)∧Aside0 (Kd.R (Kd.int .u32) 97 w' w.heap.size (fun k_=>some k_≠(vb3:Value).ownBlock∧some k_≠((.slice Ao36 yc2.length co36):Value).ownBlock) (.slice Ao18 x8_1.length co18) x8_1)∧Aside0 (Below w.heap.size w w'))
 case atStart=>exact⟨(yc2),(0),zF,H',⟨Nat.le_refl _⟩,⟨by(try simp only[hl7_1]);(try simp only[hl8_1]);(with_reducible repeat(first|apply Kd.R_alloc|apply Kd.R_drewN|apply Kd.R_drew));exact Kd.R_mono HO_4.out (fun _ hk=>⟨hk.2,hk.1⟩)⟩,⟨by(try simp only[hl7_1]);(try simp only[hl8_1]);(with_reducible repeat(first|apply Kd.R_alloc|apply Kd.R_drewN|apply Kd.R_drew));exact Kd.R_mono HOc4.out (fun _ hk=>⟨hk.1.2,hk.2⟩)⟩,⟨by(try simp only[hl7_1]);(try simp only[hl8_1]);(with_reducible repeat(first|apply Kd.R_alloc|apply Kd.R_drewN|apply Kd.R_drew));exact HO_8.out⟩,⟨zB HB.out⟩⟩
 clear H'
 (try clear c4b0);(try clear c5b0);(try clear c11);(try clear c11b0);(try clear c11b1);(try clear c12);(try clear c12b0);(try clear c12b1);(try clear c21);(try clear c21b0);(try clear c22);(try clear c22b0);(try clear c22b1);(try clear c23);(try clear c23b0);(try clear c23b1);(try clear c24);(try clear c24b0);(try clear c24b1);(try clear c26);(try clear c26b0);(try clear p27);(try clear q27);(try clear q28);(try clear c32);(try clear c32b0);(try clear c32b1);(try clear c33);(try clear c33b0);(try clear c33b1);(try clear hxa1_0);(try clear hx27_0);(try clear pa1);(try clear q028);(try clear qa1)
 obtain⟨x5_2,x58_2,rfl,HA,HK2,HO_4,HO_5,HO_8,HB⟩:=hrel
 have hl5_2:=(Kd.R_reads' HO_5.out).1
 rw[hl5_2] at HO_5
 (try simp only[hl5_2])
 (try simp only[hl5_2] at HO_4)
 (try simp only[hl5_2] at HO_8)
 cases gk with|zero=>exact absurd HA.out (by simp [nat_long.l1])|succ k2=>?_
 have H:=HA.out
 clear HA
 simp only[nat_long.l1] at H
 replace H:=zi H
 rcases H with⟨c37,H⟩|⟨c37,H⟩
 ·have c37b0:=decide_eq_true c37
  (try(have c37h0:=c37b0;simp only[hl7_1,hl8_1,hl5_2] at c37h0))
  clear c37
  replace H:=zgd H
  obtain⟨c38b0,H⟩:=H
  replace H:=zg H
  obtain⟨c39,H⟩:=H
  have c39b0:=decide_eq_true c39
  (try(have c39h0:=c39b0;simp only[hl7_1,hl8_1,hl5_2] at c39h0))
  clear c39
  obtain⟨ji40,hji40⟩:∃j_:Int,(wrap64 (x58_2+1))=j_:=⟨_,rfl⟩
  replace H:(if 0≤(ji40) then(if(ji40)<(x8_1.length:Int) then(if 0≤ta2 then(if x58_2<(x5_2.length:Int) then(nat_long.l1 k2 x4_1 (x5_2.set (x58_2:Int).toNat ((shr .u64 (Go.bits .or .u64 (IntKind.u64.wrap (rd x8_1 x58_2)) (IntKind.u64.wrap ((IntKind.u64.wrap (rd x8_1 (ji40)))*4294967296))) ta2) % 4294967296)) ta2 x8_1 (yc2.length:Int) ji40) else(none)) else(none)) else(none)) else(none))=some (r1,r2):=by first|(rw[hji40] at H;exact H)|(simp only[hji40] at H ⊢;exact H)
  have hji40w:(IntKind.i64.wrap (x58_2+1))=ji40:=(i64_w _).trans hji40
  replace H:=zgd H
  obtain⟨c41b0,H⟩:=H
  replace H:=zg H
  obtain⟨c42,H⟩:=H
  have c42b0:=decide_eq_true c42
  (try(have c42h0:=c42b0;simp only[hl7_1,hl8_1,hl5_2] at c42h0))
  clear c42
  replace H:=zg H
  obtain⟨c43,H⟩:=H
  have c43b0:=eq_true c43
  have c43b1:=decide_eq_true c43
  clear c43
  obtain⟨ji44,hji44⟩:∃j_:Int,(shr .u64 (Go.bits .or .u64 (IntKind.u64.wrap (rd x8_1 x58_2)) (IntKind.u64.wrap ((IntKind.u64.wrap (rd x8_1 (ji40)))*4294967296))) ta2)=j_:=⟨_,rfl⟩
  replace H:(if x58_2<(x5_2.length:Int) then(nat_long.l1 k2 x4_1 (x5_2.set (x58_2:Int).toNat ((ji44) % 4294967296)) ta2 x8_1 (yc2.length:Int) ji40) else(none))=some (r1,r2):=by first|(rw[hji44] at H;exact H)|(simp only[hji44] at H ⊢;exact H)
  have hji44_:((Go.bits .or .u64 (IntKind.u64.wrap (rd x8_1 x58_2)) (IntKind.u64.wrap ((IntKind.u64.wrap (rd x8_1 (ji40)))*4294967296))) / 2^min ta2.toNat 64)=ji44:=hji44
  have hji44z:ta2≤64→((Go.bits .or .u64 (IntKind.u64.wrap (rd x8_1 x58_2)) (IntKind.u64.wrap ((IntKind.u64.wrap (rd x8_1 (ji40)))*4294967296))) / 2^ta2.toNat)=ji44:=shr_small hji44
  replace H:=zg H
  obtain⟨c45,H⟩:=H
  have c45b0:=decide_eq_true c45
  (try(have c45h0:=c45b0;simp only[hl7_1,hl8_1,hl5_2] at c45h0))
  clear c45
  obtain⟨yc7,hyc7⟩:∃y_:List Int,y_=(x5_2.set (x58_2:Int).toNat ((ji44) % 4294967296)):=⟨_,rfl⟩
  replace H:(nat_long.l1 k2 x4_1 yc7 ta2 x8_1 (yc2.length:Int) ji40)=some (r1,r2):=zY hyc7 H
  have Nyc7:=zk hyc7
  clear hyc7
  have H':=zk H
  clear H
  try go_wp2
  replace HO_4:=zk (Kd.R_drew HO_4.out)
  replace HO_5:=zk (Kd.R_drew HO_5.out)
  replace HO_8:=zk (Kd.R_drew HO_8.out)
  replace HB:=zk (below_drew1 HB.out)
  have pc5:0≤(x58_2:Int):=zd
  have qc5:x58_2<(x8_1.length:Int):=zd
  obtain⟨adc5,ec5,hxc5_0⟩:=Kd.at_int (Kd.R_reads' HO_8.out).2.2 x58_2 pc5 qc5
  cases ec5
  replace pc5:=eq_true pc5
  replace qc5:=eq_true qc5
  have pc6:0≤((ji40):Int):=zd
  have qc6:(ji40)<(x8_1.length:Int):=zd
  obtain⟨adc6,ec6,hxc6_0⟩:=Kd.at_int (Kd.R_reads' HO_8.out).2.2 (ji40) pc6 qc6
  obtain rfl:adc5=adc6:=(by injection ec6)
  replace pc6:=eq_true pc6
  replace qc6:=eq_true qc6
  have p46:0≤(x58_2:Int):=zd
  have q46:(x58_2:Int)<((x5_2.length:Int):Int):=zd
  obtain⟨go46,co46,eo46,gb46,gl46,cl46,HG46⟩:=Kd.R_form HO_5.out (by omega)
  (first|cases eo46|(injection eo46 with ea_ en_ ec_;(first|subst ea_|(injection ea_ with ea_;subst ea_));subst ec_;clear en_))
  have GB46:=zk gb46
  have GG46:=zk HG46
  clear gb46 gl46 HG46
  obtain⟨hx46_0,hf46_0⟩:=Kd.R_celln 0 HO_5.out (x58_2:Int) p46 q46
  replace p46:=eq_true p46
  replace q46:=eq_true q46
  have HP48:=Kd.R_putn HO_5.out (x58_2:Int) ((ji44) % 4294967296)
  rw[←Nyc7.out] at HP48
  have HQ48:=zk HP48
  clear HP48
  refine start_ (n:=20) (S:=fun w'=>w'.cell? (adc5.add (x58_2).toNat)=some (.int .u32 (rd x8_1 x58_2))∧w'.cell? (adc5.add ((ji40)).toNat)=some (.int .u32 (rd x8_1 (ji40)))) (ds:=[19]) #[false,false,false,false,false,false,false,false,false,false,false,false,false,false,false,false,false,false,false,false] (by kernel_rfl) rfl rfl ⟨hxc5_0,hxc6_0⟩ (fun hHeld=>?_);refine with_tabW nat_long.tab14 nat_long.bits14 (fun HT_ HW_=>?_)
  first|(generalize wr.drew=w47 at HO_4 HO_5 HO_8 HB GG46 HQ48 hf46_0 hxc5_0 hxc6_0 hx46_0 hHeld ⊢)|(generalize wr.drew=w47 at HO_4 HO_5 HO_8 HB GG46 HQ48 hf46_0 hxc6_0 hx46_0 hHeld ⊢)|(generalize wr.drew=w47 at HO_4 HO_5 HO_8 HB GG46 HQ48 hf46_0 hxc5_0 hx46_0 hHeld ⊢)|(generalize wr.drew=w47 at HO_4 HO_5 HO_8 HB GG46 HQ48 hf46_0 hxc5_0 hxc6_0 hHeld ⊢)|(generalize wr.drew=w47 at HO_4 HO_5 HO_8 HB GG46 HQ48 hf46_0 hx46_0 hHeld ⊢)|(generalize wr.drew=w47 at HO_4 HO_5 HO_8 HB GG46 HQ48 hf46_0 hxc6_0 hHeld ⊢)|(generalize wr.drew=w47 at HO_4 HO_5 HO_8 HB GG46 HQ48 hf46_0 hxc5_0 hHeld ⊢)|(generalize wr.drew=w47 at HO_4 HO_5 HO_8 HB GG46 HQ48 hf46_0 hHeld ⊢)
  refine zp (i:=0) (N:=some 61) HT_ ?_
  refine zp (i:=1) (N:=some 62) HT_ ?_
  refine zp (i:=2) (N:=some 63) HT_ ?_
  refine zp (i:=3) (N:=some 64) HT_ ?_
  refine zp (i:=4) (N:=some 65) HT_ ?_
  refine zp (i:=7) (N:=some 68) HT_ ?_
  refine zp (i:=8) (N:=some 69) HT_ ?_
  refine zp (i:=9) (N:=some 70) HT_ ?_
  refine zp (i:=10) (N:=some 71) HT_ ?_
  refine zp (i:=15) (N:=some 76) HT_ ?_
  refine take_ (i:=5) (N:=some 66) (v:=?_) (a':=?_) #[true,true,true,true,true,true,false,true,true,true,true,false,false,false,false,true,false,false,false,false] rfl rfl (take_ofW HT_.out HW_.out (by kernel_rfl)) (fun _ _ _ h=>h) (Or.inl ⟨by rfl,?_⟩) hHeld ?_ ?_
  rotate_left
  ·rintro w' ⟨s0,s1⟩
   go_simp
   with_reducible rfl
  rotate_left
  ·simp only[Act.put,List.setIfInBounds_toArray,List.set_cons_zero,List.set_cons_succ,i64_w,i32_w]
   rfl
  refine zp (i:=6) (N:=some 67) HT_ ?_
  refine take_ (i:=11) (N:=some 72) (v:=?_) (a':=?_) #[true,true,true,true,true,true,true,true,true,true,true,true,false,false,false,true,false,false,false,false] rfl rfl (take_ofW HT_.out HW_.out (by kernel_rfl)) (fun _ _ _ h=>h) (Or.inl ⟨by rfl,?_⟩) hHeld ?_ ?_
  rotate_left
  ·rintro w' ⟨s0,s1⟩
   go_simp
   with_reducible rfl
  rotate_left
  ·simp only[Act.put,List.setIfInBounds_toArray,List.set_cons_zero,List.set_cons_succ,i64_w,i32_w]
   rfl
  refine zp (i:=12) (N:=some 73) HT_ ?_
  refine zp (i:=13) (N:=some 74) HT_ ?_
  refine zp (i:=14) (N:=some 75) HT_ ?_
  refine zp (i:=16) (N:=some 77) HT_ ?_
  refine zp (i:=17) (N:=some 78) HT_ ?_
  refine zp (i:=18) (N:=some 79) HT_ ?_
  refine last_ (i:=19) (N:=none) #[true,true,true,true,true,true,true,true,true,true,true,true,true,true,true,true,true,true,true,true] rfl rfl (one_of HT_.out (by kernel_rfl)) (by decide) (fun K hK=>?_)
  refine skip_ (w1:=?_) (by rfl) rfl ?_ ?_
  rotate_left
  ·go_simp
   rfl
  refine hK.out _ _ ?_
  clear hK K
  refine done_ (done_of HT_.out (by kernel_rfl)) ?_
  try go_wp2
  (try simp only[←hl5_2])
  go_roundg k2
  case measure=>have:=HK1.out;have:=HK2.out;omega
  case rel=>exact⟨(yc7),(ji40),(by first|rfl|(simp;done)|(simp only[←hji40]<;>(first|rfl|simp))|(simp [*];done)),H',⟨zo2 HK1 HK2⟩,⟨by(try simp only[hl7_1]);(try simp only[hl8_1]);(try simp only[hl5_2]);(with_reducible repeat(first|apply Kd.R_alloc|apply Kd.R_drewN|apply Kd.R_drew));exact Kd.R_mono (Kd.R_far (p:=⟨go46,(x58_2:Int).toNat,none⟩) (Kd.R_mono HO_4.out (fun k_ hk=>(⟨hk,fun e_=>hk.1 (by rw[e_];rfl)⟩:_∧k_≠go46))) (fun _ hk=>hk.2) (.int .u32 ((ji44) % 4294967296))) (fun _ hk=>⟨hk.1.1,hk.1.2⟩)⟩,⟨by(try simp only[hl7_1]);(try simp only[hl8_1]);(try simp only[hl5_2]);(with_reducible repeat(first|apply Kd.R_alloc|apply Kd.R_drewN|apply Kd.R_drew));exact HQ48.out⟩,⟨by(try simp only[hl7_1]);(try simp only[hl8_1]);(try simp only[hl5_2]);(with_reducible repeat(first|apply Kd.R_alloc|apply Kd.R_drewN|apply Kd.R_drew));exact Kd.R_mono (Kd.R_far (p:=⟨go46,(x58_2:Int).toNat,none⟩) (Kd.R_mono HO_8.out (fun k_ hk=>(⟨hk,fun e_=>hk.2 (by rw[e_];rfl)⟩:_∧k_≠go46))) (fun _ hk=>hk.2) (.int .u32 ((ji44) % 4294967296))) (fun _ hk=>⟨hk.1.1,hk.1.2⟩)⟩,⟨zB1 HB.out GB46.out⟩⟩
 have c37b0:=decide_eq_false c37
 (try(have c37h0:=c37b0;simp only[hl7_1,hl8_1,hl5_2] at c37h0))
 clear c37
 simp only[Option.some.injEq,Prod.mk.injEq] at H
 obtain⟨rfl,rfl⟩:=H
 go_wp2
 go_ret2
 exact⟨_,_,by first|rfl|(simp [errW_none,errW_some]<;>rfl)|(simp only[←hji3,←hji10];first|rfl|(simp [errW_none,errW_some]<;>rfl))|(simp [*,errW_none,errW_some]<;>rfl),by(with_reducible repeat(first|apply Kd.R_alloc|apply Kd.R_drewN|apply Kd.R_drew));exact Kd.R_mono HO_4.out (fun _ hk=>hk.1),by(with_reducible repeat(first|apply Kd.R_alloc|apply Kd.R_drewN|apply Kd.R_drew));exact Kd.R_mono HO_5.out (fun _ hk=>hk.1),zB HB.out⟩
set_option maxHeartbeats 8000000 in
set_option maxRecDepth 100000 in
theorem nat_DivMod.calls (k:Nat) (P0_:Nat→Prop) (A0:Option Addr) (c0:Nat) (l0:List Int) (P1_:Nat→Prop) (A1:Option Addr) (c1:Nat) (l1:List Int) (r1:List Int) (r2:List Int) (r3:Int) (w:World) (hs0:Kd.V (Kd.int .u32) 97 w w.heap.size (fun k_=>P0_ k_) (.slice A0 l0.length c0) l0) (hs1:Kd.V (Kd.int .u32) 97 w w.heap.size (fun k_=>P1_ k_) (.slice A1 l1.length c1) l1) (h:nat_DivMod.f k l0 l1=some (r1,r2,r3)):
 Calls Try.prog 105 #[.slice A0 l0.length c0, .slice A1 l1.length c1] w fun e w'=>∃v0_ v1_:Value,e= .returned (.tuple #[v0_,v1_, .int .i64 r3])∧Kd.V (Kd.int .u32) 97 w' w.heap.size (fun k_=>((P0_ k_∨P1_ k_)∨w.heap.size≤k_)∧some k_≠(v1_:Value).ownBlock) v0_ r1∧Kd.R (Kd.int .u32) 97 w' w.heap.size (fun k_=>(w.heap.size≤k_)) v1_ r2∧Below w.heap.size w w':=by
 have HO0:=zk (show Kd.V (Kd.int .u32) 97 w w.heap.size (fun k_=>((P0_ k_∨P1_ k_)∨w.heap.size≤k_)) (.slice A0 l0.length c0) l0 from Kd.V_mono hs0 (fun k_ hk=> .inl (.inl hk)))
 have HO1:=zk (show Kd.V (Kd.int .u32) 97 w w.heap.size (fun k_=>((P0_ k_∨P1_ k_)∨w.heap.size≤k_)) (.slice A1 l1.length c1) l1 from Kd.V_mono hs1 (fun k_ hk=> .inl (.inr hk)))
 have HB:=zk (Below.refl w.heap.size w)
 have H:=h
 clear h
 unfold nat_DivMod.f at H
 replace H:=zb H
 obtain⟨ta1,A3,H⟩:=H
 replace H:=zb H
 obtain⟨ta4,A4,H⟩:=H
 replace H:=zi H
 rcases H with⟨c5,H⟩|⟨c5,H⟩
 ·have c5b0:=beq_iff_eq.mpr c5
  have c5b1:=bne_eq_false_iff_eq.mpr c5
  clear c5
  simp only[Option.some.injEq,Prod.mk.injEq] at H
  obtain⟨rfl,rfl,rfl⟩:=H
  go_enter Try.func105,Try.ntmps105
  go_wp2_with (first|((with_reducible refine gC 118 ?_);refine zG (some 12) Try.func118 #[.slice A0 l0.length c0] ?_;(with_reducible refine(nat_short.calls k (fun k_=>((P0_ k_∨P1_ k_)∨w.heap.size≤k_)) _ _ l0 ta1 _ ?side1 A3.out).mono ?_);(case side1=>exact HO0.out);rintro e w6 ⟨va2,rfl,ho0,hb⟩;refine⟨_,rfl,?_⟩;replace HO0:=yVb HO0 hb;replace HO1:=yVb HO1 hb;have HOa3:=zk (Kd.V_lower (Kd.V_mono (ok':=fun k_=>((P0_ k_∨P1_ k_)∨w.heap.size≤k_)) ho0 (fun k_ hk_=>Or.elim hk_ (fun hs_=>hs_) (fun hn_=>(.inr (Nat.le_trans (below_size (zB HB.out)) hn_))))) (below_size (zB HB.out)));replace HB:=yS HB hb;(try clear hb ho0))|((with_reducible refine gC 118 ?_);refine zG (some 14) Try.func118 #[.slice A1 l1.length c1] ?_;(with_reducible refine(nat_short.calls k (fun k_=>((P0_ k_∨P1_ k_)∨w.heap.size≤k_)) _ _ l1 ta4 _ ?side1 A4.out).mono ?_);(case side1=>exact HO1.out);rintro e w7 ⟨va5,rfl,ho0,hb⟩;refine⟨_,rfl,?_⟩;replace HO0:=yVb HO0 hb;replace HO1:=yVb HO1 hb;replace HOa3:=yVb HOa3 hb;have HOa6:=zk (Kd.V_lower (Kd.V_mono (ok':=fun k_=>((P0_ k_∨P1_ k_)∨w.heap.size≤k_)) ho0 (fun k_ hk_=>Or.elim hk_ (fun hs_=>hs_) (fun hn_=>(.inr (Nat.le_trans (below_size (zB HB.out)) hn_))))) (below_size (zB HB.out)));replace HB:=yS HB hb;(try clear hb ho0);obtain⟨Ao8,co8,rfl⟩:=Kd.V_slice HOa6.out))
  go_ret3
  exact⟨_,_,zE,by exact Kd.V_nil _ _ _ _ _,z0,zB HB.out⟩
 have c5b0:=beq_eq_false_iff_ne.mpr c5
 have c5b1:=bne_iff_ne.mpr c5
 have c5b2:¬(ta4=[]):=fun h_=>c5 (by rw[h_];rfl)
 replace H:=zb H
 obtain⟨ta7,A9,H⟩:=H
 replace H:=zid H
 rcases H with⟨c10b0,H⟩|⟨c10b0,H⟩
 ·replace H:=zb H
  obtain⟨ta8,A11,H⟩:=H
  simp only[Option.some.injEq,Prod.mk.injEq] at H
  obtain⟨rfl,rfl,rfl⟩:=H
  go_enter Try.func105,Try.ntmps105
  go_wp2_with (first|((with_reducible refine gC 118 ?_);refine zG (some 12) Try.func118 #[.slice A0 l0.length c0] ?_;(with_reducible refine(nat_short.calls k (fun k_=>((P0_ k_∨P1_ k_)∨w.heap.size≤k_)) _ _ l0 ta1 _ ?side1 A3.out).mono ?_);(case side1=>exact HO0.out);rintro e w12 ⟨va2,rfl,ho0,hb⟩;refine⟨_,rfl,?_⟩;replace HO0:=yVb HO0 hb;replace HO1:=yVb HO1 hb;have HOa3:=zk (Kd.V_lower (Kd.V_mono (ok':=fun k_=>((P0_ k_∨P1_ k_)∨w.heap.size≤k_)) ho0 (fun k_ hk_=>Or.elim hk_ (fun hs_=>hs_) (fun hn_=>(.inr (Nat.le_trans (below_size (zB HB.out)) hn_))))) (below_size (zB HB.out)));replace HB:=yS HB hb;(try clear hb ho0))|((with_reducible refine gC 118 ?_);refine zG (some 14) Try.func118 #[.slice A1 l1.length c1] ?_;(with_reducible refine(nat_short.calls k (fun k_=>((P0_ k_∨P1_ k_)∨w.heap.size≤k_)) _ _ l1 ta4 _ ?side1 A4.out).mono ?_);(case side1=>exact HO1.out);rintro e w13 ⟨va5,rfl,ho0,hb⟩;refine⟨_,rfl,?_⟩;replace HO0:=yVb HO0 hb;replace HO1:=yVb HO1 hb;replace HOa3:=yVb HOa3 hb;have HOa6:=zk (Kd.V_lower (Kd.V_mono (ok':=fun k_=>((P0_ k_∨P1_ k_)∨w.heap.size≤k_)) ho0 (fun k_ hk_=>Or.elim hk_ (fun hs_=>hs_) (fun hn_=>(.inr (Nat.le_trans (below_size (zB HB.out)) hn_))))) (below_size (zB HB.out)));replace HB:=yS HB hb;(try clear hb ho0);obtain⟨Ao14,co14,rfl⟩:=Kd.V_slice HOa6.out;obtain⟨Ao15,co15,rfl⟩:=Kd.V_slice HOa3.out)|((with_reducible refine gC 79 ?_);refine zG (some 22) Try.func79 #[.slice Ao15 ta1.length co15, .slice Ao14 ta4.length co14] ?_;(with_reducible refine(nat_Cmp.calls k _ _ ta1 _ _ ta4 ta7 _ ?side1 ?side2 ?side3 ?side4 A9.out).mono ?_);(case side1=>exact zC (Kd.V_reads' HOa3.out).2.2);(case side2=>exact(Kd.V_reads' HOa3.out).2.1);(case side3=>exact zC (Kd.V_reads' HOa6.out).2.2);(case side4=>exact(Kd.V_reads' HOa6.out).2.1);rintro e w16 ⟨rfl,hb⟩;refine⟨_,rfl,?_⟩;replace HO0:=yVb HO0 hb;replace HO1:=yVb HO1 hb;replace HOa3:=yVb HOa3 hb;replace HOa6:=yVb HOa6 hb;replace HB:=yS HB hb;(try clear hb);(try clear hb2);(try clear hk);(try clear hi))|((with_reducible refine gC 103 ?_);refine zG (some 25) Try.func103 #[.slice Ao15 ta1.length co15] ?_;(with_reducible refine(nat_Trim.calls k _ _ ta1 ta8 _ ?side1 ?side2 A11.out).mono ?_);(case side1=>exact zC (Kd.V_reads' HOa3.out).2.2);(case side2=>exact(Kd.V_reads' HOa3.out).2.1);rintro e w17 ⟨va9,rfl,ho0,hb⟩;refine⟨_,rfl,?_⟩;replace HO0:=yVe HO0 ho0 hb;replace HO1:=yVe HO1 ho0 hb;replace HOa3:=yVe HOa3 ho0 hb;replace HOa6:=yVe HOa6 ho0 hb;replace ho0:=Kd.R_newM (M:=fun k_=>(w.heap.size≤k_)) ho0 (below_size (zB HB.out)) (fun k_ h_=>h_);have HOb0:=yRl ho0 HB;replace HB:=yS HB hb;(try clear hb ho0)))
  go_ret3
  exact⟨_,_,zE,by exact Kd.V_nil _ _ _ _ _,by(with_reducible repeat(first|apply Kd.R_alloc|apply Kd.R_drewN|apply Kd.R_drew));exact Kd.R_mono HOb0.out (fun _ hk=>hk.1),zB HB.out⟩
 replace H:=zi H
 rcases H with⟨c18,H⟩|⟨c18,H⟩
 ·have c18b0:=beq_iff_eq.mpr c18
  have c18b1:=bne_eq_false_iff_eq.mpr c18
  clear c18
  replace H:=zg H
  obtain⟨c19,H⟩:=H
  have c19b0:=decide_eq_true c19
  have c19b1:decide (0<ta4.length)=true:=decide_eq_true (by omega)
  clear c19
  replace H:=zb H
  obtain⟨⟨tb2,tb5⟩,A20,H⟩:=H
  dsimp only at H
  replace H:=zb H
  obtain⟨tb6,A21,H⟩:=H
  simp only[Option.some.injEq,Prod.mk.injEq] at H
  obtain⟨rfl,rfl,rfl⟩:=H
  go_enter Try.func105,Try.ntmps105
  go_wp2_with (first|((with_reducible refine gC 118 ?_);refine zG (some 12) Try.func118 #[.slice A0 l0.length c0] ?_;(with_reducible refine(nat_short.calls k (fun k_=>((P0_ k_∨P1_ k_)∨w.heap.size≤k_)) _ _ l0 ta1 _ ?side1 A3.out).mono ?_);(case side1=>exact HO0.out);rintro e w22 ⟨va2,rfl,ho0,hb⟩;refine⟨_,rfl,?_⟩;replace HO0:=yVb HO0 hb;replace HO1:=yVb HO1 hb;have HOa3:=zk (Kd.V_lower (Kd.V_mono (ok':=fun k_=>((P0_ k_∨P1_ k_)∨w.heap.size≤k_)) ho0 (fun k_ hk_=>Or.elim hk_ (fun hs_=>hs_) (fun hn_=>(.inr (Nat.le_trans (below_size (zB HB.out)) hn_))))) (below_size (zB HB.out)));replace HB:=yS HB hb;(try clear hb ho0))|((with_reducible refine gC 118 ?_);refine zG (some 14) Try.func118 #[.slice A1 l1.length c1] ?_;(with_reducible refine(nat_short.calls k (fun k_=>((P0_ k_∨P1_ k_)∨w.heap.size≤k_)) _ _ l1 ta4 _ ?side1 A4.out).mono ?_);(case side1=>exact HO1.out);rintro e w23 ⟨va5,rfl,ho0,hb⟩;refine⟨_,rfl,?_⟩;replace HO0:=yVb HO0 hb;replace HO1:=yVb HO1 hb;replace HOa3:=yVb HOa3 hb;have HOa6:=zk (Kd.V_lower (Kd.V_mono (ok':=fun k_=>((P0_ k_∨P1_ k_)∨w.heap.size≤k_)) ho0 (fun k_ hk_=>Or.elim hk_ (fun hs_=>hs_) (fun hn_=>(.inr (Nat.le_trans (below_size (zB HB.out)) hn_))))) (below_size (zB HB.out)));replace HB:=yS HB hb;(try clear hb ho0);obtain⟨Ao24,co24,rfl⟩:=Kd.V_slice HOa6.out;obtain⟨Ao25,co25,rfl⟩:=Kd.V_slice HOa3.out)|((with_reducible refine gC 79 ?_);refine zG (some 22) Try.func79 #[.slice Ao25 ta1.length co25, .slice Ao24 ta4.length co24] ?_;(with_reducible refine(nat_Cmp.calls k _ _ ta1 _ _ ta4 ta7 _ ?side1 ?side2 ?side3 ?side4 A9.out).mono ?_);(case side1=>exact zC (Kd.V_reads' HOa3.out).2.2);(case side2=>exact(Kd.V_reads' HOa3.out).2.1);(case side3=>exact zC (Kd.V_reads' HOa6.out).2.2);(case side4=>exact(Kd.V_reads' HOa6.out).2.1);rintro e w26 ⟨rfl,hb⟩;refine⟨_,rfl,?_⟩;replace HO0:=yVb HO0 hb;replace HO1:=yVb HO1 hb;replace HOa3:=yVb HOa3 hb;replace HOa6:=yVb HOa6 hb;replace HB:=yS HB hb;(try clear hb);(try clear hb2);(try clear hk);(try clear hi);have pb1:0≤(0:Int):=(by omega);have qb1:0<(ta4.length:Int):=zd;obtain⟨adb1,eb1,hxb1_0⟩:=Kd.at_int (Kd.V_reads' HOa6.out).2.2 0 pb1 qb1;cases eb1;have qi111:(0<ta4.length)=True:=eq_true (by omega);(try rw[show((0:Int)).toNat=0 from rfl] at hxb1_0);(try rw[Addr.add_zero'] at hxb1_0);replace pb1:=eq_true pb1;replace qb1:=eq_true qb1)|((with_reducible refine gC 115 ?_);refine zG (some 35) Try.func115 #[.slice Ao25 ta1.length co25, .int .u32 (rd ta4 0)] ?_;(with_reducible refine(nat_digit.calls k _ _ ta1 (rd ta4 0) tb2 tb5 _ ?side1 ?side2 A20.out).mono ?_);(case side1=>exact zC (Kd.V_reads' HOa3.out).2.2);(case side2=>exact(Kd.V_reads' HOa3.out).2.1);rintro e w27 ⟨vb3,rfl,ho0,hb⟩;refine⟨_,rfl,?_⟩;replace HO0:=yVb HO0 hb;replace HO1:=yVb HO1 hb;replace HOa3:=yVb HOa3 hb;replace HOa6:=yVb HOa6 hb;have HOb4:=zk (Kd.V_lower (Kd.V_mono (ok':=fun k_=>((P0_ k_∨P1_ k_)∨w.heap.size≤k_)) ho0 (fun k_ hk_=>(.inr (Nat.le_trans (below_size (zB HB.out)) hk_)))) (below_size (zB HB.out)));replace HB:=yS HB hb;(try clear hb ho0))|((with_reducible refine gC 80 ?_);refine zG (some 41) Try.func80 #[.int .u64 (IntKind.u64.wrap (tb5))] ?_;(with_reducible refine(nat_Of.calls k (IntKind.u64.wrap (tb5)) tb6 _ A21.out).mono ?_);rintro e w28 ⟨vb7,rfl,ho0,hb⟩;refine⟨_,rfl,?_⟩;replace HO0:=yVe HO0 ho0 hb;replace HO1:=yVe HO1 ho0 hb;replace HOa3:=yVe HOa3 ho0 hb;replace HOa6:=yVe HOa6 ho0 hb;replace HOb4:=yVe HOb4 ho0 hb;replace ho0:=Kd.R_newM (M:=fun k_=>(w.heap.size≤k_)) ho0 (below_size (zB HB.out)) (fun k_ h_=>h_);have HOb8:=yRl ho0 HB;replace HB:=yS HB hb;(try clear hb ho0)))
  go_ret3
  exact⟨_,_,zE,zV HOb4.out,by(with_reducible repeat(first|apply Kd.R_alloc|apply Kd.R_drewN|apply Kd.R_drew));exact Kd.R_mono HOb8.out (fun _ hk=>hk.1),zB HB.out⟩
 have c18b0:=beq_eq_false_iff_ne.mpr c18
 have c18b1:=bne_iff_ne.mpr c18
 replace H:=zb H
 obtain⟨⟨tb9,tc0⟩,A29,H⟩:=H
 dsimp only at H
 replace H:=zb H
 obtain⟨tc5,A30,H⟩:=H
 replace H:=zb H
 obtain⟨tc8,A31,H⟩:=H
 simp only[Option.some.injEq,Prod.mk.injEq] at H
 obtain⟨rfl,rfl,rfl⟩:=H
 go_enter Try.func105,Try.ntmps105
 go_wp2_with (first|((with_reducible refine gC 118 ?_);refine zG (some 12) Try.func118 #[.slice A0 l0.length c0] ?_;(with_reducible refine(nat_short.calls k (fun k_=>((P0_ k_∨P1_ k_)∨w.heap.size≤k_)) _ _ l0 ta1 _ ?side1 A3.out).mono ?_);(case side1=>exact HO0.out);rintro e w32 ⟨va2,rfl,ho0,hb⟩;refine⟨_,rfl,?_⟩;replace HO0:=yVb HO0 hb;replace HO1:=yVb HO1 hb;have HOa3:=zk (Kd.V_lower (Kd.V_mono (ok':=fun k_=>((P0_ k_∨P1_ k_)∨w.heap.size≤k_)) ho0 (fun k_ hk_=>Or.elim hk_ (fun hs_=>hs_) (fun hn_=>(.inr (Nat.le_trans (below_size (zB HB.out)) hn_))))) (below_size (zB HB.out)));replace HB:=yS HB hb;(try clear hb ho0))|((with_reducible refine gC 118 ?_);refine zG (some 14) Try.func118 #[.slice A1 l1.length c1] ?_;(with_reducible refine(nat_short.calls k (fun k_=>((P0_ k_∨P1_ k_)∨w.heap.size≤k_)) _ _ l1 ta4 _ ?side1 A4.out).mono ?_);(case side1=>exact HO1.out);rintro e w33 ⟨va5,rfl,ho0,hb⟩;refine⟨_,rfl,?_⟩;replace HO0:=yVb HO0 hb;replace HO1:=yVb HO1 hb;replace HOa3:=yVb HOa3 hb;have HOa6:=zk (Kd.V_lower (Kd.V_mono (ok':=fun k_=>((P0_ k_∨P1_ k_)∨w.heap.size≤k_)) ho0 (fun k_ hk_=>Or.elim hk_ (fun hs_=>hs_) (fun hn_=>(.inr (Nat.le_trans (below_size (zB HB.out)) hn_))))) (below_size (zB HB.out)));replace HB:=yS HB hb;(try clear hb ho0);obtain⟨Ao34,co34,rfl⟩:=Kd.V_slice HOa6.out;obtain⟨Ao35,co35,rfl⟩:=Kd.V_slice HOa3.out)|((with_reducible refine gC 79 ?_);refine zG (some 22) Try.func79 #[.slice Ao35 ta1.length co35, .slice Ao34 ta4.length co34] ?_;(with_reducible refine(nat_Cmp.calls k _ _ ta1 _ _ ta4 ta7 _ ?side1 ?side2 ?side3 ?side4 A9.out).mono ?_);(case side1=>exact zC (Kd.V_reads' HOa3.out).2.2);(case side2=>exact(Kd.V_reads' HOa3.out).2.1);(case side3=>exact zC (Kd.V_reads' HOa6.out).2.2);(case side4=>exact(Kd.V_reads' HOa6.out).2.1);rintro e w36 ⟨rfl,hb⟩;refine⟨_,rfl,?_⟩;replace HO0:=yVb HO0 hb;replace HO1:=yVb HO1 hb;replace HOa3:=yVb HOa3 hb;replace HOa6:=yVb HOa6 hb;replace HB:=yS HB hb;(try clear hb);(try clear hb2);(try clear hk);(try clear hi))|((with_reducible refine gC 129 ?_);refine zG (some 45) Try.func129 #[.slice Ao35 ta1.length co35, .slice Ao34 ta4.length co34] ?_;(with_reducible refine(nat_long.calls k _ _ ta1 _ _ ta4 tb9 tc0 _ ?side1 ?side2 ?side3 ?side4 A29.out).mono ?_);(case side1=>exact zC (Kd.V_reads' HOa3.out).2.2);(case side2=>exact(Kd.V_reads' HOa3.out).2.1);(case side3=>exact zC (Kd.V_reads' HOa6.out).2.2);(case side4=>exact(Kd.V_reads' HOa6.out).2.1);rintro e w37 ⟨vc1,vc3,rfl,ho0,ho1,hb⟩;refine⟨_,rfl,?_⟩;replace HO0:=yVt HO0 hb ho0 ho1;replace HO1:=yVt HO1 hb ho0 ho1;replace HOa3:=yVt HOa3 hb ho0 ho1;replace HOa6:=yVt HOa6 hb ho0 ho1;replace ho0:=Kd.R_newM (M:=fun k_=>(w.heap.size≤k_)) ho0 (below_size (zB HB.out)) (fun k_ h_=>h_);have HOc2:=yRl ho0 HB;replace ho1:=Kd.R_newM (M:=fun k_=>(w.heap.size≤k_)) ho1 (below_size (zB HB.out)) (fun k_ h_=>h_);have HOc4:=yRl ho1 HB;replace HB:=yS HB hb;(try clear hb ho0);(try clear ho1);obtain⟨Ao38,co38,rfl⟩:=Kd.R_slice HOc2.out)|((with_reducible refine gC 103 ?_);refine zG (some 49) Try.func103 #[.slice Ao38 tb9.length co38] ?_;(with_reducible refine(nat_Trim.calls k _ _ tb9 tc5 _ ?side1 ?side2 A30.out).mono ?_);(case side1=>exact zC (Kd.R_reads' HOc2.out).2.2);(case side2=>exact(Kd.R_reads' HOc2.out).2.1);rintro e w39 ⟨vc6,rfl,ho0,hb⟩;refine⟨_,rfl,?_⟩;replace HO0:=yVe HO0 ho0 hb;replace HO1:=yVe HO1 ho0 hb;replace HOa3:=yVe HOa3 ho0 hb;replace HOa6:=yVe HOa6 ho0 hb;replace ho0:=Kd.R_newM (M:=fun k_=>(w.heap.size≤k_)) ho0 (below_size (zB HB.out)) (fun k_ h_=>h_);replace ho0:=yn ho0 HOc2;replace ho0:=yn ho0 HOc4;have HOc7:=yRl ho0 HB;replace HOc2:=yRe HOc2 ho0 hb;replace HOc4:=yRe HOc4 ho0 hb;replace HB:=yS HB hb;(try clear hb ho0);obtain⟨Ao40,co40,rfl⟩:=Kd.R_slice HOc4.out)|((with_reducible refine gC 103 ?_);refine zG (some 51) Try.func103 #[.slice Ao40 tc0.length co40] ?_;(with_reducible refine(nat_Trim.calls k _ _ tc0 tc8 _ ?side1 ?side2 A31.out).mono ?_);(case side1=>exact zC (Kd.R_reads' HOc4.out).2.2);(case side2=>exact(Kd.R_reads' HOc4.out).2.1);rintro e w41 ⟨vc9,rfl,ho0,hb⟩;refine⟨_,rfl,?_⟩;replace HO0:=yVe HO0 ho0 hb;replace HO1:=yVe HO1 ho0 hb;replace HOa3:=yVe HOa3 ho0 hb;replace HOa6:=yVe HOa6 ho0 hb;replace ho0:=Kd.R_newM (M:=fun k_=>(w.heap.size≤k_)) ho0 (below_size (zB HB.out)) (fun k_ h_=>h_);replace ho0:=yn ho0 HOc2;replace ho0:=yn ho0 HOc4;replace ho0:=yn ho0 HOc7;have HOd0:=yRl ho0 HB;replace HOc2:=yRe HOc2 ho0 hb;replace HOc4:=yRe HOc4 ho0 hb;replace HOc7:=yRe HOc7 ho0 hb;replace HB:=yS HB hb;(try clear hb ho0)))
 go_ret3
 exact⟨_,_,zE,Kd.V_mono (ok:=fun k_=>(w.heap.size≤k_)∧some k_≠(vc9:Value).ownBlock) (Kd.R_V (by(with_reducible repeat(first|apply Kd.R_alloc|apply Kd.R_drewN|apply Kd.R_drew));exact Kd.R_mono HOc7.out (fun _ hk=>⟨hk.1.1.1.1,hk.2⟩))) (fun k_ hk=>by first|exact⟨(.inr (hk.1)),hk.2⟩|exact(.inr (hk))),by(with_reducible repeat(first|apply Kd.R_alloc|apply Kd.R_drewN|apply Kd.R_drew));exact Kd.R_mono HOd0.out (fun _ hk=>hk.1.1.1.1),zB HB.out⟩
set_option maxHeartbeats 8000000 in
set_option maxRecDepth 100000 in
theorem mw_Dual.calls (k:Nat) (a0:Int) (A1:Option Addr) (c1:Nat) (l1:List (List Int)) (r1:List (List Int)) (r2:Int) (w:World) (hr1:Kd.C (Kd.slice 97 (Kd.int .u32)) w A1 l1.length l1) (hc1:l1.length≤c1) (h:mw_Dual.f k a0 l1=some (r1,r2)):
 Calls Try.prog 57 #[.int .i64 a0, .slice A1 l1.length c1] w fun e w'=>∃v0_:Value,e= .returned (.tuple #[v0_, .int .i64 r2])∧Kd.N (Kd.slice 97 (Kd.int .u32)) 29 w' w.heap.size (fun k_=>(w.heap.size≤k_)) v0_ r1∧Below w.heap.size w w':=by
 have hu113:=Try.underlying113
 have HR1:=zk hr1
 have HC1:=zk hc1
 clear hr1 hc1
 have HB:=zk (Below.refl w.heap.size w)
 have H:=h
 clear h
 unfold mw_Dual.f at H
 replace H:=zb H
 obtain⟨ta1,A3,H⟩:=H
 replace H:=zi H
 rcases H with⟨c4,H⟩|⟨c4,H⟩
 ·have c4b0:=beq_iff_eq.mpr c4
  have c4b1:=bne_eq_false_iff_eq.mpr c4
  clear c4
  replace H:=zb H
  obtain⟨ta2,A5,H⟩:=H
  replace H:=zi H
  rcases H with⟨c6,H⟩|⟨c6,H⟩
  ·have c6b0:=beq_iff_eq.mpr c6
   have c6b1:=bne_eq_false_iff_eq.mpr c6
   clear c6
   simp only[Option.some.injEq,Prod.mk.injEq] at H
   obtain⟨rfl,rfl⟩:=H
   go_enter Try.func57,Try.ntmps57
   go_wp2_with (first|((with_reducible refine gC 102 ?_);refine zG (some 20) Try.func102 #[.int .i64 a0, .int .i64 (l1.length:Int)] ?_;(with_reducible refine(mw_wrong.calls a0 (l1.length:Int) ta1 _ A3.out).mono ?_);rintro e w' ⟨rfl,⟨nd,rfl⟩⟩;refine⟨_,rfl,?_⟩)|((with_reducible refine gC 73 ?_);refine zG (some 25) Try.func73 #[.slice A1 l1.length c1] ?_;(with_reducible refine(nat_Add.calls k _ _ l1 ta2 _ ?side1 ?side2 A5.out).mono ?_);(case side1=>exact zC HR1.out);(case side2=>exact HC1.out);rintro e w7 ⟨va3,rfl,ho0,hb⟩;refine⟨_,rfl,?_⟩;replace ho0:=Kd.R_newM (M:=fun k_=>(w.heap.size≤k_)) ho0 (below_size (zB HB.out)) (fun k_ h_=>h_);have HOa4:=yRl ho0 HB;replace HB:=yS HB hb;(try clear hb ho0);obtain⟨Ao8,co8,rfl⟩:=Kd.R_slice HOa4.out))
   go_ret2
   exact⟨_,zE,by first|exact Kd.S_nil _ _ _ _ _|exact Kd.N_nil _ _ _ _ _|exact Kd.V_nil _ _ _ _ _|exact Kd.Q_nil _ _ _ _ _|exact Kd.R_nil _ _ _ _ _,zB HB.out⟩
  have c6b0:=beq_eq_false_iff_ne.mpr c6
  have c6b1:=bne_iff_ne.mpr c6
  have c6b2:¬(ta2=[]):=fun h_=>c6 (by rw[h_];rfl)
  have H':=zk H
  clear H
  go_enter Try.func57,Try.ntmps57
  go_wp2_with (first|((with_reducible refine gC 102 ?_);refine zG (some 20) Try.func102 #[.int .i64 a0, .int .i64 (l1.length:Int)] ?_;(with_reducible refine(mw_wrong.calls a0 (l1.length:Int) ta1 _ A3.out).mono ?_);rintro e w' ⟨rfl,⟨nd,rfl⟩⟩;refine⟨_,rfl,?_⟩)|((with_reducible refine gC 73 ?_);refine zG (some 25) Try.func73 #[.slice A1 l1.length c1] ?_;(with_reducible refine(nat_Add.calls k _ _ l1 ta2 _ ?side1 ?side2 A5.out).mono ?_);(case side1=>exact zC HR1.out);(case side2=>exact HC1.out);rintro e w9 ⟨va3,rfl,ho0,hb⟩;refine⟨_,rfl,?_⟩;replace ho0:=Kd.R_newM (M:=fun k_=>(w.heap.size≤k_)) ho0 (below_size (zB HB.out)) (fun k_ h_=>h_);have HOa4:=yRl ho0 HB;replace HB:=yS HB hb;(try clear hb ho0);obtain⟨Ao10,co10,rfl⟩:=Kd.R_slice HOa4.out))
  go_loopg [8,31] k (fun kq v8 v31 w'=>∃(x8_1:List (S113)) (x31_1:Int),v31= .int .i64 x31_1∧Aside0 (mw_Dual.l0 kq a0 ta2 x8_1 l1 (l1.length:Int) x31_1=some (r1,r2))∧Aside0 (kq≤k)∧Aside0 (Kd.R (Kd.int .u32) 97 w' w.heap.size (fun k_=>(w.heap.size≤k_)) (.slice Ao10 ta2.length co10) ta2)∧Aside0 (Kd.N k113 113 w' w.heap.size (fun k_=>(w.heap.size≤k_)∧some k_≠((.slice Ao10 ta2.length co10):Value).ownBlock) v8 x8_1)∧Aside0 (Below w.heap.size w w'))
  case atStart=>exact⟨(([]:List (S113))),(0),zF,H',⟨Nat.le_refl _⟩,⟨by(with_reducible repeat(first|apply Kd.R_alloc|apply Kd.R_drewN|apply Kd.R_drew));exact Kd.R_mono HOa4.out (fun _ hk=>hk.1)⟩,⟨by first|exact Kd.S_nil _ _ _ _ _|exact Kd.N_nil _ _ _ _ _|exact Kd.V_nil _ _ _ _ _|exact Kd.Q_nil _ _ _ _ _|exact Kd.R_nil _ _ _ _ _⟩,⟨zB HB.out⟩⟩
  clear H'
  (try clear c4);(try clear c4b0);(try clear c4b1);(try clear c6);(try clear c6b0);(try clear c6b1);(try clear c6b2)
  obtain⟨x8_1,x31_1,rfl,HA,HK1,HO_7,HO_8,HB⟩:=hrel
  cases gk with|zero=>exact absurd HA.out (by simp [mw_Dual.l0])|succ k1=>?_
  have H:=HA.out
  clear HA
  simp only[mw_Dual.l0] at H
  replace H:=zid H
  rcases H with⟨c11b0,H⟩|⟨c11b0,H⟩
  ·replace H:=zgd H
   obtain⟨c12b0,H⟩:=H
   replace H:=zgd H
   obtain⟨c13b0,H⟩:=H
   replace H:=zb H
   obtain⟨ta6,A14,H⟩:=H
   replace H:=zg H
   obtain⟨c15,H⟩:=H
   have LMc15:=zk c15
   clear c15
   obtain⟨ya9,hya9⟩:∃y_:List (S113),y_=(x8_1++[(⟨false,ta6⟩:S113)]):=⟨_,rfl⟩
   replace H:(mw_Dual.l0 k1 a0 ta2 ya9 l1 (l1.length:Int) (wrap64 (x31_1+1)))=some (r1,r2):=zY hya9 H
   have Nya9:=zk hya9
   clear hya9
   have H':=zk H
   clear H
   have pa5:0≤(x31_1:Int):=zd
   have qa5:x31_1<(l1.length:Int):=zd
   obtain⟨ada5,Aa5_0,ca5_0,ea5,hxa5_0,hla5_0,hia5_0⟩:=at_L3 HR1.out x31_1 pa5 qa5
   cases ea5
   replace hxa5_0:=(HB.out.cell (World.block_lt_of_cell? w _ hxa5_0)).trans hxa5_0
   have HRa5_0:=zk hia5_0
   have HCa5_0:=zk hla5_0
   clear hia5_0 hla5_0
   replace pa5:=eq_true pa5
   replace qa5:=eq_true qa5
   go_wp2_with (first|((with_reducible refine gC 103 ?_);refine zG (some 37) Try.func103 #[.slice Aa5_0 (rd_L3 l1 x31_1).length ca5_0] ?_;(with_reducible refine(nat_Trim.calls k1 _ _ (rd_L3 l1 x31_1) ta6 _ ?side1 ?side2 A14.out).mono ?_);(case side1=>exact zC (Kd.C_below HRa5_0.out HB.out));(case side2=>exact HCa5_0.out);rintro e w16 ⟨va7,rfl,ho0,hb⟩;refine⟨_,rfl,?_⟩;replace HO_8:=yNe HO_8 ho0 hb;replace ho0:=Kd.R_newM (M:=fun k_=>(w.heap.size≤k_)) ho0 (below_size (zB HB.out)) (fun k_ h_=>h_);replace ho0:=yn ho0 HO_7;have HOa8:=yRl ho0 HB;replace HO_7:=yRe HO_7 ho0 hb;replace HB:=yS HB hb;(try clear hb ho0);obtain⟨Ao17,co17,rfl⟩:=Kd.R_slice HOa8.out)|((with_reducible refine gate_builtin (b:= .append) (xs:= #[.tmp 35, .tmp 39]) rfl ?_);(try(refine gate_guard (by rfl) ?_;dsimp only));at_builtin;refine Kd.N_append k113 (w0:=w) w.heap.size rfl (.tmp 35) (.tmp 39) 114 113 (.agg #[(.bool false),(.slice none 0 0)]) 32 rfl Try.underlying114 info113 rfl (by decide) (by omega) u8 x8_1 (⟨false,ta6⟩:S113) [.bool false, .slice Ao17 ta6.length co17] (fun k_=>(w.heap.size≤k_)∧some k_≠(.slice Ao10 ta2.length co10:Value).ownBlock) (fun k_=>((fun k_=>(w.heap.size≤k_)∧some k_≠(.slice Ao10 ta2.length co10:Value).ownBlock)) k_∧some k_≠(u8:Value).ownBlock) rfl rfl ?aP (fun _ hk=>hk) ?aF ?aO ?aB ?aS ?aL ?_;(case aP=>exact(k113_mkF _ _ (⟨false,ta6⟩:S113) (Kd.R_reads' (Kd.R_mono (ok':=(fun k_=>((fun k_=>(w.heap.size≤k_)∧some k_≠(.slice Ao10 ta2.length co10:Value).ownBlock)) k_∧some k_≠(u8:Value).ownBlock)) (Kd.R_apart' (HOa8.out) (Kd.N_typed HO_8.out) (by decide)) (fun k_ hk=>by exact⟨⟨hk.1.1.1,hk.1.2⟩,hk.2⟩))).2.1 (Kd.R_F (Kd.R_mono (ok':=(fun k_=>((fun k_=>(w.heap.size≤k_)∧some k_≠(.slice Ao10 ta2.length co10:Value).ownBlock)) k_∧some k_≠(u8:Value).ownBlock)) (Kd.R_apart' (HOa8.out) (Kd.N_typed HO_8.out) (by decide)) (fun k_ hk=>by exact⟨⟨hk.1.1.1,hk.1.2⟩,hk.2⟩)))));(case aB=>exact(zB HB.out));(case aF=>exact(fun k_ hk=>⟨(Nat.le_trans (below_size (zB HB.out)) hk),Kd.fresh' (Kd.R_lt (zR HO_7.out)) k_ hk⟩));(case aO=>exact(by(with_reducible repeat(first|apply Kd.N_alloc|apply Kd.N_drewN|apply Kd.N_drew));exact Kd.N_mono HO_8.out (fun _ hk=>⟨hk.1.1,hk.1.2⟩)));(case aS=>exact(below_size (zB HB.out)));(case aL=>have:=LMc15.out;omega);intro vb0 w18 ho hb hg hat;rw[←Nya9.out] at ho;replace HO_7:=zk (Kd.R_over' (zR HO_7.out) (Kd.N_typed (zN HO_8.out)) (by decide) hg);replace HB:=zk (hb);have HOb1:=zk (ho);clear HO_8 HOa8;clear ho hb hg hat))
   go_roundg k1
   case measure=>have:=HK1.out;omega
   case rel=>exact⟨(ya9),(wrap64 (x31_1+1)),zF,H',⟨zo1 HK1⟩,⟨by(with_reducible repeat(first|apply Kd.R_alloc|apply Kd.R_drewN|apply Kd.R_drew));exact Kd.R_mono HO_7.out (fun _ hk=>hk.1)⟩,⟨zN HOb1.out⟩,⟨zB HB.out⟩⟩
  replace H:=zb H
  obtain⟨tb2,A19,H⟩:=H
  have H':=zk H
  clear H
  obtain⟨Ao20,co20,rfl⟩:=Kd.N_slice HO_8.out
  go_wp2_with (first|((with_reducible refine gC 104 ?_);refine zG (some 44) Try.func104 #[.int .i64 a0, .slice Ao20 x8_1.length co20] ?_;(with_reducible refine(mw_sums.calls k1 a0 _ _ x8_1 tb2 _ ?side1 ?side2 A19.out).mono ?_);(case side1=>exact zC (Kd.N_reads' HO_8.out).2.2);(case side2=>exact(Kd.N_reads' HO_8.out).2.1);rintro e w21 ⟨vb3,rfl,ho0,hb⟩;refine⟨_,rfl,?_⟩;have HOb4:=zk (Kd.N_lower (Kd.N_mono (ok':=fun k_=>(w.heap.size≤k_)∧some k_≠(.slice Ao10 ta2.length co10:Value).ownBlock∧some k_≠(.slice Ao20 x8_1.length co20:Value).ownBlock) ho0 (fun k_ hk_=>⟨(Nat.le_trans (below_size (zB HB.out)) hk_),(Kd.fresh' (Kd.R_lt (zR HO_7.out)) k_ hk_),(Kd.fresh' (Kd.N_lt (zN HO_8.out)) k_ hk_)⟩)) (below_size (zB HB.out)));replace HO_7:=yRb HO_7 hb;replace HO_8:=zk (Kd.N_elder' (zN HO_8.out) (Kd.N_base ho0) hb);replace HB:=yS HB hb;(try clear hb ho0);obtain⟨Ao22,co22,rfl⟩:=Kd.N_slice HOb4.out))
  go_loopg [11,46] k1 (fun kq v11 v46 w'=>∃(x11_2:List (List Int)) (x46_2:Int),v46= .int .i64 x46_2∧Aside0 (mw_Dual.l1 kq ta2 x11_2 tb2 (tb2.length:Int) x46_2=some (r1,r2))∧Aside0 (kq≤k1)∧Aside0 (Kd.R (Kd.int .u32) 97 w' w.heap.size (fun k_=>(w.heap.size≤k_)) (.slice Ao10 ta2.length co10) ta2)∧Aside0 (Kd.N (Kd.slice 97 (Kd.int .u32)) 29 w' w.heap.size (fun k_=>(w.heap.size≤k_)∧some k_≠((.slice Ao22 tb2.length co22):Value).ownBlock) v11 x11_2)∧Aside0 (Kd.N k113 113 w' w.heap.size (fun k_=>(w.heap.size≤k_)∧some k_≠((.slice Ao10 ta2.length co10):Value).ownBlock∧some k_≠(v11:Value).ownBlock) (.slice Ao22 tb2.length co22) tb2)∧Aside0 (Below w.heap.size w w'))
  case atStart=>exact⟨(([]:List (List Int))),(0),zF,H',⟨Nat.le_refl _⟩,⟨zR HO_7.out⟩,⟨by first|exact Kd.S_nil _ _ _ _ _|exact Kd.N_nil _ _ _ _ _|exact Kd.V_nil _ _ _ _ _|exact Kd.Q_nil _ _ _ _ _|exact Kd.R_nil _ _ _ _ _⟩,⟨by(with_reducible repeat(first|apply Kd.N_alloc|apply Kd.N_drewN|apply Kd.N_drew));exact Kd.N_mono HOb4.out (fun _ hk=>⟨hk.1,⟨hk.2.1,(by simp [Value.ownBlock])⟩⟩)⟩,⟨zB HB.out⟩⟩
  clear H'
  (try clear c4);(try clear c4b0);(try clear c4b1);(try clear c6);(try clear c6b0);(try clear c6b1);(try clear c6b2);(try clear c11b0);(try clear c12b0);(try clear c13b0);(try clear c15);(try clear hxa5_0);(try clear pa5);(try clear qa5)
  obtain⟨x11_2,x46_2,rfl,HA,HK2,HO_7,HO_11,HO_44,HB⟩:=hrel
  cases gk with|zero=>exact absurd HA.out (by simp [mw_Dual.l1])|succ k2=>?_
  have H:=HA.out
  clear HA
  simp only[mw_Dual.l1] at H
  replace H:=zid H
  rcases H with⟨c23b0,H⟩|⟨c23b0,H⟩
  ·replace H:=zgd H
   obtain⟨c24b0,H⟩:=H
   replace H:=zgd H
   obtain⟨c25b0,H⟩:=H
   replace H:=zb H
   obtain⟨⟨tb7,tc0,tc3⟩,A26,H⟩:=H
   dsimp only at H
   replace H:=zi H
   rcases H with⟨c27,H⟩|⟨c27,H⟩
   ·have c27b0:decide (0<(tc0.length:Int))=true:=decide_eq_true c27
    have c27b1:decide (0<tc0.length)=true:=decide_eq_true (by omega)
    clear c27
    simp only[Option.some.injEq,Prod.mk.injEq] at H
    obtain⟨rfl,rfl⟩:=H
    have pb5:0≤(x46_2:Int):=zd
    have qb5:x46_2<(tb2.length:Int):=zd
    obtain⟨adb5,Ab5_1,cb5_1,eb5,hxb5_0,hxb5_1,hlb5_1,hib5_1⟩:=at_T113 (Kd.N_reads' HO_44.out).2.2 x46_2 pb5 qb5
    cases eb5
    obtain⟨ceb5,hceb5,hMeb5,hccb5⟩:=Kd.N_get HO_44.out z113 x46_2 pb5 (by first|exact qb5|exact zd|(have e_:=(Kd.N_reads' HO_44.out).1;omega))
    obtain⟨uab5_1,ucb5_1,rfl,ulb5_1,geb5_1⟩:=k113_openF hMeb5
    have hvb5_1:=hccb5 1 _ rfl
    rw[add_field _ _ 1 (by omega)] at hvb5_1
    replace hvb5_1:=Option.some.inj (hvb5_1.symm.trans hxb5_1)
    injection hvb5_1 with hva_ hvn_ hvc_
    rw[hva_] at geb5_1
    rw[hvc_] at ulb5_1
    have HLb5_1:=zk (show Kd.V (Kd.int .u32) 97 _ w.heap.size _ _ ((rd_T113 tb2 x46_2).f1) from Kd.V_mk ulb5_1 geb5_1)
    clear hva_ hvn_ hvc_ geb5_1 ulb5_1
    clear hccb5 hceb5
    have HRb5_1:=zk hib5_1
    have HCb5_1:=zk hlb5_1
    clear hib5_1 hlb5_1
    replace pb5:=eq_true pb5
    replace qb5:=eq_true qb5
    go_wp2_with (first|((with_reducible refine gate_dst (N:=13) rfl ?_);(try(refine gate_guard (by rfl) ?_;dsimp only));refine box_event ?hg (N:=13) ?hd (cs:= #[.bool false, .slice none 0 0]) (t:=113) ?hr ?_;(case hd=>rfl);(case hg=>rfl);(case hr=>first|(go_simp;done)|(go_simp;rfl));intro gbb6 hg w28 hbox hb;replace HO_7:=yRb HO_7 hb;replace HO_11:=zk (Kd.N_below (Kd.N_elderB (zN HO_11.out) gbb6 (Nat.le_of_eq hg.symm)) hb);replace HO_44:=zk (Kd.N_below (Kd.N_elderB (zN HO_44.out) gbb6 (Nat.le_of_eq hg.symm)) hb);replace HLb5_1:=yVB HLb5_1 hg hb;(try replace HRb5_1:=yCb HRb5_1 hb);have BKb6:=zk (hbox);have GWb6:=yg hg HB;have GEb6:=yg hg HB;replace HB:=yS HB hb;clear hb hbox hg;obtain⟨hcz29_0,hcz29_1,hfz29_0,hfz29_1⟩:=zz2 BKb6)|((with_reducible refine gate_store (t:=113) (p:=13) rfl ?_);refine store_event (t:=113) (p:=13) (v:=?vo_w30) (w1:=((w28.setCell ⟨gbb6,0,none⟩ (.bool ((rd_T113 tb2 x46_2).f0))).setCell ⟨gbb6,1,none⟩ (.slice Ab5_1 ((rd_T113 tb2 x46_2).f1).length cb5_1))) ?hg ?ho ?hn ?hr ?_;(case ho=>rfl);(case hg=>rfl);(case hn=>rfl);(case hr=>first|(go_simp;done)|(go_simp;rfl));intro w30 hw;have n0_:Aside0 (Kd.R (Kd.int .u32) 97 w30 w.heap.size (fun k_=>(w.heap.size≤k_)) (.slice Ao10 ta2.length co10) ta2):=⟨(by rw[hw];exact(by(with_reducible repeat(first|apply Kd.R_alloc|apply Kd.R_drewN|apply Kd.R_drew));exact Kd.R_mono (Kd.R_far (p:=⟨gbb6,1,none⟩) (Kd.R_far (p:=⟨gbb6,0,none⟩) (Kd.R_types HO_7.out BKb6.out (by decide)) (fun _ hk=>hk.2) (.bool ((rd_T113 tb2 x46_2).f0))) (fun _ hk=>hk.2) (.slice Ab5_1 ((rd_T113 tb2 x46_2).f1).length cb5_1)) (fun _ hk=>hk.1)))⟩;have n1_:Aside0 (Kd.N (Kd.slice 97 (Kd.int .u32)) 29 w30 w.heap.size (fun k_=>(w.heap.size≤k_)∧some k_≠(.slice (some adb5) tb2.length co22:Value).ownBlock∧k_≠gbb6) u11 x11_2):=⟨(by rw[hw];exact(by(with_reducible repeat(first|apply Kd.N_alloc|apply Kd.N_drewN|apply Kd.N_drew));exact Kd.N_mono (Kd.N_far (p:=⟨gbb6,1,none⟩) (Kd.N_far (p:=⟨gbb6,0,none⟩) (Kd.N_mono HO_11.out (fun k_ hk=>(⟨hk,hk.2⟩:_∧k_≠gbb6))) (fun _ hk=>hk.2) (.bool ((rd_T113 tb2 x46_2).f0))) (fun _ hk=>hk.2) (.slice Ab5_1 ((rd_T113 tb2 x46_2).f1).length cb5_1)) (fun _ hk=>⟨hk.1.1.1,⟨hk.1.1.2,hk.1.2⟩⟩)))⟩;have n2_:Aside0 (Kd.N k113 113 w30 w.heap.size (fun k_=>(w.heap.size≤k_)∧some k_≠(.slice Ao10 ta2.length co10:Value).ownBlock∧some k_≠(u11:Value).ownBlock∧k_≠gbb6) (.slice (some adb5) tb2.length co22) tb2):=⟨(by rw[hw];exact(by(with_reducible repeat(first|apply Kd.N_alloc|apply Kd.N_drewN|apply Kd.N_drew));exact Kd.N_mono (Kd.N_far (p:=⟨gbb6,1,none⟩) (Kd.N_far (p:=⟨gbb6,0,none⟩) (Kd.N_mono HO_44.out (fun k_ hk=>(⟨hk,hk.2⟩:_∧k_≠gbb6))) (fun _ hk=>hk.2) (.bool ((rd_T113 tb2 x46_2).f0))) (fun _ hk=>hk.2) (.slice Ab5_1 ((rd_T113 tb2 x46_2).f1).length cb5_1)) (fun _ hk=>⟨hk.1.1.1,⟨hk.1.1.2.1,⟨hk.1.1.2.2,hk.1.2⟩⟩⟩)))⟩;have n3_:Aside0 (Kd.V (Kd.int .u32) 97 w30 w.heap.size (fun k_=>(w.heap.size≤k_)∧some k_≠(.slice Ao10 ta2.length co10:Value).ownBlock∧some k_≠(u11:Value).ownBlock∧some k_≠(.slice (some adb5) tb2.length co22:Value).ownBlock∧k_≠gbb6) (.slice Ab5_1 ((rd_T113 tb2 x46_2).f1).length cb5_1) ((rd_T113 tb2 x46_2).f1)):=⟨(by rw[hw];exact(by(with_reducible repeat(first|apply Kd.V_alloc|apply Kd.V_drewN|apply Kd.V_drew));exact Kd.V_mono (Kd.V_far (p:=⟨gbb6,1,none⟩) (Kd.V_far (p:=⟨gbb6,0,none⟩) (Kd.V_mono HLb5_1.out (fun k_ hk=>(⟨hk,hk.2⟩:_∧k_≠gbb6))) (fun _ hk=>hk.2) (.bool ((rd_T113 tb2 x46_2).f0))) (fun _ hk=>hk.2) (.slice Ab5_1 ((rd_T113 tb2 x46_2).f1).length cb5_1)) (fun _ hk=>⟨hk.1.1.1.1,⟨hk.1.1.1.2.1,⟨hk.1.1.1.2.2,⟨hk.1.1.2,hk.1.2⟩⟩⟩⟩)))⟩;have n4_:Aside0 (w30.heap[gbb6]?=some (.cells #[.bool ((rd_T113 tb2 x46_2).f0), .slice Ab5_1 ((rd_T113 tb2 x46_2).f1).length cb5_1] 113 (0,0))):=⟨(by rw[hw];exact(zP2 BKb6.out))⟩;have n5_:Aside0 (Below w.heap.size w w30):=⟨(by rw[hw];exact(zB1 HB.out GEb6.out))⟩;clear hw;clear HO_7;clear HO_11;clear HO_44;clear HLb5_1;clear BKb6;clear HB;have HO_7:=n0_;have HO_11:=n1_;have HO_44:=n2_;have HLb5_1:=n3_;have BKb6:=n4_;have HB:=n5_;clear n0_ n1_ n2_ n3_ n4_ n5_;obtain⟨hcz31_0,hcz31_1,hfz31_0,hfz31_1⟩:=zz2 BKb6)|((with_reducible refine gC 105 ?_);refine zG (some 54) Try.func105 #[.slice Ab5_1 ((rd_T113 tb2 x46_2).f1).length cb5_1, .slice Ao10 ta2.length co10] ?_;(with_reducible refine(nat_DivMod.calls k2 (fun k_=>((w.heap.size≤k_)∧(some k_≠(.slice Ao10 ta2.length co10:Value).ownBlock∧(some k_≠(u11:Value).ownBlock∧(some k_≠(.slice (some adb5) tb2.length co22:Value).ownBlock∧k_≠gbb6))))) _ _ ((rd_T113 tb2 x46_2).f1) (fun k_=>some k_=(.slice Ao10 ta2.length co10:Value).ownBlock) _ _ ta2 tb7 tc0 tc3 _ ?side1 ?side2 A26.out).mono ?_);(case side1=>exact HLb5_1.out);(case side2=>exact Kd.R_V (Kd.R_tight rfl (Kd.R_types (Kd.R_apart' (Kd.R_apart' (HO_7.out) (Kd.N_typed HO_11.out) (by decide)) (Kd.N_typed HO_44.out) (by decide)) BKb6.out (by decide))));rintro e w32 ⟨vb8,vc1,rfl,ho0,ho1,hb⟩;refine⟨_,rfl,?_⟩;replace HLb5_1:=yVe HLb5_1 ho1 hb;have HOb9:=zk (Kd.V_lower (Kd.V_mono (ok':=fun k_=>(w.heap.size≤k_)∧some k_≠(vc1:Value).ownBlock∧some k_≠(u11:Value).ownBlock∧some k_≠(.slice (some adb5) tb2.length co22:Value).ownBlock∧k_≠gbb6) ho0 (fun k_ hk_=>⟨Or.elim hk_.1 (fun hs_=>Or.elim hs_ (fun hs_=>hs_.1) (fun hs_=>((Kd.R_types (Kd.R_apart' (Kd.R_apart' (HO_7.out) (Kd.N_typed HO_11.out) (by decide)) (Kd.N_typed HO_44.out) (by decide)) BKb6.out (by decide)).1 k_ hs_.symm).1.1.1)) (fun hn_=>(Nat.le_trans (below_size (zB1 HB.out GEb6.out)) hn_)),hk_.2,Or.elim hk_.1 (fun hs_=>Or.elim hs_ (fun hs_=>hs_.2.2.1) (fun hs_=>((Kd.R_types (Kd.R_apart' (Kd.R_apart' (HO_7.out) (Kd.N_typed HO_11.out) (by decide)) (Kd.N_typed HO_44.out) (by decide)) BKb6.out (by decide)).1 k_ hs_.symm).1.1.2)) (fun hn_=>(Kd.fresh' (Kd.N_lt (zN HO_11.out)) k_ hn_)),Or.elim hk_.1 (fun hs_=>Or.elim hs_ (fun hs_=>hs_.2.2.2.1) (fun hs_=>((Kd.R_types (Kd.R_apart' (Kd.R_apart' (HO_7.out) (Kd.N_typed HO_11.out) (by decide)) (Kd.N_typed HO_44.out) (by decide)) BKb6.out (by decide)).1 k_ hs_.symm).1.2)) (fun hn_=>(Kd.fresh' (Kd.N_lt (zN HO_44.out)) k_ hn_)),Or.elim hk_.1 (fun hs_=>Or.elim hs_ (fun hs_=>hs_.2.2.2.2) (fun hs_=>((Kd.R_types (Kd.R_apart' (Kd.R_apart' (HO_7.out) (Kd.N_typed HO_11.out) (by decide)) (Kd.N_typed HO_44.out) (by decide)) BKb6.out (by decide)).1 k_ hs_.symm).2)) (fun hn_=>(Kd.freshB (g:=gbb6) (o:= .cells #[.bool ((rd_T113 tb2 x46_2).f0), .slice Ab5_1 ((rd_T113 tb2 x46_2).f1).length cb5_1] 113 (0,0)) (zK BKb6.out) k_ hn_))⟩)) (below_size (zB1 HB.out GEb6.out)));replace HO_11:=yNe HO_11 ho1 hb;replace HO_44:=yNe HO_44 ho1 hb;replace ho1:=Kd.R_newM (M:=fun k_=>(w.heap.size≤k_)) (yt ho1) (below_size (zB1 HB.out GEb6.out)) (fun k_ h_=>h_);replace ho1:=yn ho1 HO_7;have HOc2:=yRl1 ho1 HB GEb6;replace HO_7:=yRe HO_7 ho1 hb;(try replace HRb5_1:=yCb HRb5_1 hb);replace BKb6:=yK BKb6 hb;replace HB:=yS1 HB GEb6 hb;(try clear hb ho0);(try clear ho1);obtain⟨Ao33,co33,rfl⟩:=Kd.R_slice HOc2.out))
    go_ret2
    exact⟨_,zE,by first|exact Kd.S_nil _ _ _ _ _|exact Kd.N_nil _ _ _ _ _|exact Kd.V_nil _ _ _ _ _|exact Kd.Q_nil _ _ _ _ _|exact Kd.R_nil _ _ _ _ _,zB1 HB.out GEb6.out⟩
   have c27b0:decide (0<(tc0.length:Int))=false:=decide_eq_false c27
   have c27b1:decide (0<tc0.length)=false:=decide_eq_false (by omega)
   clear c27
   obtain⟨bq34,hbq34⟩:∃b_:Bool,b_=((rd_T113 tb2 x46_2).f0):=⟨_,rfl⟩
   replace H:(if bq34=true then(if(((rd_T113 tb2 x46_2).f1).length:Int)>0 then(some (([]:List (List Int)),5)) else(if x11_2.length<5864062014805 then(mw_Dual.l1 k2 ta2 (x11_2++[tb7]) tb2 (tb2.length:Int) (wrap64 (x46_2+1))) else(none))) else(if x11_2.length<5864062014805 then(mw_Dual.l1 k2 ta2 (x11_2++[tb7]) tb2 (tb2.length:Int) (wrap64 (x46_2+1))) else(none)))=some (r1,r2):=by rw[←hbq34] at H;exact H
   have Nbq34:=zk hbq34
   clear hbq34
   by_cases c35:bq34=true
   ·subst c35
    rw[if_pos rfl] at H
    replace H:=zi H
    rcases H with⟨c36,H⟩|⟨c36,H⟩
    ·have c36b0:decide (0<(((rd_T113 tb2 x46_2).f1).length:Int))=true:=decide_eq_true c36
     have c36b1:decide (0<((rd_T113 tb2 x46_2).f1).length)=true:=decide_eq_true (by omega)
     clear c36
     simp only[Option.some.injEq,Prod.mk.injEq] at H
     obtain⟨rfl,rfl⟩:=H
     have pb5:0≤(x46_2:Int):=zd
     have qb5:x46_2<(tb2.length:Int):=zd
     obtain⟨adb5,Ab5_1,cb5_1,eb5,hxb5_0,hxb5_1,hlb5_1,hib5_1⟩:=at_T113 (Kd.N_reads' HO_44.out).2.2 x46_2 pb5 qb5
     (try rw[←Nbq34.out] at hxb5_0)
     cases eb5
     obtain⟨ceb5,hceb5,hMeb5,hccb5⟩:=Kd.N_get HO_44.out z113 x46_2 pb5 (by first|exact qb5|exact zd|(have e_:=(Kd.N_reads' HO_44.out).1;omega))
     obtain⟨uab5_1,ucb5_1,rfl,ulb5_1,geb5_1⟩:=k113_openF hMeb5
     have hvb5_1:=hccb5 1 _ rfl
     rw[add_field _ _ 1 (by omega)] at hvb5_1
     replace hvb5_1:=Option.some.inj (hvb5_1.symm.trans hxb5_1)
     injection hvb5_1 with hva_ hvn_ hvc_
     rw[hva_] at geb5_1
     rw[hvc_] at ulb5_1
     have HLb5_1:=zk (show Kd.V (Kd.int .u32) 97 _ w.heap.size _ _ ((rd_T113 tb2 x46_2).f1) from Kd.V_mk ulb5_1 geb5_1)
     clear hva_ hvn_ hvc_ geb5_1 ulb5_1
     clear hccb5 hceb5
     have HRb5_1:=zk hib5_1
     have HCb5_1:=zk hlb5_1
     clear hib5_1 hlb5_1
     replace pb5:=eq_true pb5
     replace qb5:=eq_true qb5
     go_wp2_with (first|((with_reducible refine gate_dst (N:=13) rfl ?_);(try(refine gate_guard (by rfl) ?_;dsimp only));refine box_event ?hg (N:=13) ?hd (cs:= #[.bool false, .slice none 0 0]) (t:=113) ?hr ?_;(case hd=>rfl);(case hg=>rfl);(case hr=>first|(go_simp;done)|(go_simp;rfl));intro gbb6 hg w37 hbox hb;replace HO_7:=yRb HO_7 hb;replace HO_11:=zk (Kd.N_below (Kd.N_elderB (zN HO_11.out) gbb6 (Nat.le_of_eq hg.symm)) hb);replace HO_44:=zk (Kd.N_below (Kd.N_elderB (zN HO_44.out) gbb6 (Nat.le_of_eq hg.symm)) hb);replace HLb5_1:=yVB HLb5_1 hg hb;(try replace HRb5_1:=yCb HRb5_1 hb);have BKb6:=zk (hbox);have GWb6:=yg hg HB;have GEb6:=yg hg HB;replace HB:=yS HB hb;clear hb hbox hg;obtain⟨hcz38_0,hcz38_1,hfz38_0,hfz38_1⟩:=zz2 BKb6)|((with_reducible refine gate_store (t:=113) (p:=13) rfl ?_);refine store_event (t:=113) (p:=13) (v:=?vo_w39) (w1:=((w37.setCell ⟨gbb6,0,none⟩ (.bool true)).setCell ⟨gbb6,1,none⟩ (.slice Ab5_1 ((rd_T113 tb2 x46_2).f1).length cb5_1))) ?hg ?ho ?hn ?hr ?_;(case ho=>rfl);(case hg=>rfl);(case hn=>rfl);(case hr=>first|(go_simp;done)|(go_simp;rfl));intro w39 hw;have n0_:Aside0 (Kd.R (Kd.int .u32) 97 w39 w.heap.size (fun k_=>(w.heap.size≤k_)) (.slice Ao10 ta2.length co10) ta2):=⟨(by rw[hw];exact(by(with_reducible repeat(first|apply Kd.R_alloc|apply Kd.R_drewN|apply Kd.R_drew));exact Kd.R_mono (Kd.R_far (p:=⟨gbb6,1,none⟩) (Kd.R_far (p:=⟨gbb6,0,none⟩) (Kd.R_types HO_7.out BKb6.out (by decide)) (fun _ hk=>hk.2) (.bool true)) (fun _ hk=>hk.2) (.slice Ab5_1 ((rd_T113 tb2 x46_2).f1).length cb5_1)) (fun _ hk=>hk.1)))⟩;have n1_:Aside0 (Kd.N (Kd.slice 97 (Kd.int .u32)) 29 w39 w.heap.size (fun k_=>(w.heap.size≤k_)∧some k_≠(.slice (some adb5) tb2.length co22:Value).ownBlock∧k_≠gbb6) u11 x11_2):=⟨(by rw[hw];exact(by(with_reducible repeat(first|apply Kd.N_alloc|apply Kd.N_drewN|apply Kd.N_drew));exact Kd.N_mono (Kd.N_far (p:=⟨gbb6,1,none⟩) (Kd.N_far (p:=⟨gbb6,0,none⟩) (Kd.N_mono HO_11.out (fun k_ hk=>(⟨hk,hk.2⟩:_∧k_≠gbb6))) (fun _ hk=>hk.2) (.bool true)) (fun _ hk=>hk.2) (.slice Ab5_1 ((rd_T113 tb2 x46_2).f1).length cb5_1)) (fun _ hk=>⟨hk.1.1.1,⟨hk.1.1.2,hk.1.2⟩⟩)))⟩;have n2_:Aside0 (Kd.N k113 113 w39 w.heap.size (fun k_=>(w.heap.size≤k_)∧some k_≠(.slice Ao10 ta2.length co10:Value).ownBlock∧some k_≠(u11:Value).ownBlock∧k_≠gbb6) (.slice (some adb5) tb2.length co22) tb2):=⟨(by rw[hw];exact(by(with_reducible repeat(first|apply Kd.N_alloc|apply Kd.N_drewN|apply Kd.N_drew));exact Kd.N_mono (Kd.N_far (p:=⟨gbb6,1,none⟩) (Kd.N_far (p:=⟨gbb6,0,none⟩) (Kd.N_mono HO_44.out (fun k_ hk=>(⟨hk,hk.2⟩:_∧k_≠gbb6))) (fun _ hk=>hk.2) (.bool true)) (fun _ hk=>hk.2) (.slice Ab5_1 ((rd_T113 tb2 x46_2).f1).length cb5_1)) (fun _ hk=>⟨hk.1.1.1,⟨hk.1.1.2.1,⟨hk.1.1.2.2,hk.1.2⟩⟩⟩)))⟩;have n3_:Aside0 (Kd.V (Kd.int .u32) 97 w39 w.heap.size (fun k_=>(w.heap.size≤k_)∧some k_≠(.slice Ao10 ta2.length co10:Value).ownBlock∧some k_≠(u11:Value).ownBlock∧some k_≠(.slice (some adb5) tb2.length co22:Value).ownBlock∧k_≠gbb6) (.slice Ab5_1 ((rd_T113 tb2 x46_2).f1).length cb5_1) ((rd_T113 tb2 x46_2).f1)):=⟨(by rw[hw];exact(by(with_reducible repeat(first|apply Kd.V_alloc|apply Kd.V_drewN|apply Kd.V_drew));exact Kd.V_mono (Kd.V_far (p:=⟨gbb6,1,none⟩) (Kd.V_far (p:=⟨gbb6,0,none⟩) (Kd.V_mono HLb5_1.out (fun k_ hk=>(⟨hk,hk.2⟩:_∧k_≠gbb6))) (fun _ hk=>hk.2) (.bool true)) (fun _ hk=>hk.2) (.slice Ab5_1 ((rd_T113 tb2 x46_2).f1).length cb5_1)) (fun _ hk=>⟨hk.1.1.1.1,⟨hk.1.1.1.2.1,⟨hk.1.1.1.2.2,⟨hk.1.1.2,hk.1.2⟩⟩⟩⟩)))⟩;have n4_:Aside0 (w39.heap[gbb6]?=some (.cells #[.bool true, .slice Ab5_1 ((rd_T113 tb2 x46_2).f1).length cb5_1] 113 (0,0))):=⟨(by rw[hw];exact(zP2 BKb6.out))⟩;have n5_:Aside0 (Below w.heap.size w w39):=⟨(by rw[hw];exact(zB1 HB.out GEb6.out))⟩;clear hw;clear HO_7;clear HO_11;clear HO_44;clear HLb5_1;clear BKb6;clear HB;have HO_7:=n0_;have HO_11:=n1_;have HO_44:=n2_;have HLb5_1:=n3_;have BKb6:=n4_;have HB:=n5_;clear n0_ n1_ n2_ n3_ n4_ n5_;obtain⟨hcz40_0,hcz40_1,hfz40_0,hfz40_1⟩:=zz2 BKb6)|((with_reducible refine gC 105 ?_);refine zG (some 54) Try.func105 #[.slice Ab5_1 ((rd_T113 tb2 x46_2).f1).length cb5_1, .slice Ao10 ta2.length co10] ?_;(with_reducible refine(nat_DivMod.calls k2 (fun k_=>((w.heap.size≤k_)∧(some k_≠(.slice Ao10 ta2.length co10:Value).ownBlock∧(some k_≠(u11:Value).ownBlock∧(some k_≠(.slice (some adb5) tb2.length co22:Value).ownBlock∧k_≠gbb6))))) _ _ ((rd_T113 tb2 x46_2).f1) (fun k_=>some k_=(.slice Ao10 ta2.length co10:Value).ownBlock) _ _ ta2 tb7 tc0 tc3 _ ?side1 ?side2 A26.out).mono ?_);(case side1=>exact HLb5_1.out);(case side2=>exact Kd.R_V (Kd.R_tight rfl (Kd.R_types (Kd.R_apart' (Kd.R_apart' (HO_7.out) (Kd.N_typed HO_11.out) (by decide)) (Kd.N_typed HO_44.out) (by decide)) BKb6.out (by decide))));rintro e w41 ⟨vb8,vc1,rfl,ho0,ho1,hb⟩;refine⟨_,rfl,?_⟩;replace HLb5_1:=yVe HLb5_1 ho1 hb;have HOb9:=zk (Kd.V_lower (Kd.V_mono (ok':=fun k_=>(w.heap.size≤k_)∧some k_≠(vc1:Value).ownBlock∧some k_≠(u11:Value).ownBlock∧some k_≠(.slice (some adb5) tb2.length co22:Value).ownBlock∧k_≠gbb6) ho0 (fun k_ hk_=>⟨Or.elim hk_.1 (fun hs_=>Or.elim hs_ (fun hs_=>hs_.1) (fun hs_=>((Kd.R_types (Kd.R_apart' (Kd.R_apart' (HO_7.out) (Kd.N_typed HO_11.out) (by decide)) (Kd.N_typed HO_44.out) (by decide)) BKb6.out (by decide)).1 k_ hs_.symm).1.1.1)) (fun hn_=>(Nat.le_trans (below_size (zB1 HB.out GEb6.out)) hn_)),hk_.2,Or.elim hk_.1 (fun hs_=>Or.elim hs_ (fun hs_=>hs_.2.2.1) (fun hs_=>((Kd.R_types (Kd.R_apart' (Kd.R_apart' (HO_7.out) (Kd.N_typed HO_11.out) (by decide)) (Kd.N_typed HO_44.out) (by decide)) BKb6.out (by decide)).1 k_ hs_.symm).1.1.2)) (fun hn_=>(Kd.fresh' (Kd.N_lt (zN HO_11.out)) k_ hn_)),Or.elim hk_.1 (fun hs_=>Or.elim hs_ (fun hs_=>hs_.2.2.2.1) (fun hs_=>((Kd.R_types (Kd.R_apart' (Kd.R_apart' (HO_7.out) (Kd.N_typed HO_11.out) (by decide)) (Kd.N_typed HO_44.out) (by decide)) BKb6.out (by decide)).1 k_ hs_.symm).1.2)) (fun hn_=>(Kd.fresh' (Kd.N_lt (zN HO_44.out)) k_ hn_)),Or.elim hk_.1 (fun hs_=>Or.elim hs_ (fun hs_=>hs_.2.2.2.2) (fun hs_=>((Kd.R_types (Kd.R_apart' (Kd.R_apart' (HO_7.out) (Kd.N_typed HO_11.out) (by decide)) (Kd.N_typed HO_44.out) (by decide)) BKb6.out (by decide)).1 k_ hs_.symm).2)) (fun hn_=>(Kd.freshB (g:=gbb6) (o:= .cells #[.bool true, .slice Ab5_1 ((rd_T113 tb2 x46_2).f1).length cb5_1] 113 (0,0)) (zK BKb6.out) k_ hn_))⟩)) (below_size (zB1 HB.out GEb6.out)));replace HO_11:=yNe HO_11 ho1 hb;replace HO_44:=yNe HO_44 ho1 hb;replace ho1:=Kd.R_newM (M:=fun k_=>(w.heap.size≤k_)) (yt ho1) (below_size (zB1 HB.out GEb6.out)) (fun k_ h_=>h_);replace ho1:=yn ho1 HO_7;have HOc2:=yRl1 ho1 HB GEb6;replace HO_7:=yRe HO_7 ho1 hb;(try replace HRb5_1:=yCb HRb5_1 hb);replace BKb6:=yK BKb6 hb;replace HB:=yS1 HB GEb6 hb;(try clear hb ho0);(try clear ho1);obtain⟨Ao42,co42,rfl⟩:=Kd.R_slice HOc2.out;obtain⟨hcz43_0,hcz43_1,hfz43_0,hfz43_1⟩:=zz2 BKb6))
     go_ret2
     exact⟨_,zE,by first|exact Kd.S_nil _ _ _ _ _|exact Kd.N_nil _ _ _ _ _|exact Kd.V_nil _ _ _ _ _|exact Kd.Q_nil _ _ _ _ _|exact Kd.R_nil _ _ _ _ _,zB1 HB.out GEb6.out⟩
    have c36b0:decide (0<(((rd_T113 tb2 x46_2).f1).length:Int))=false:=decide_eq_false c36
    have c36b1:decide (0<((rd_T113 tb2 x46_2).f1).length)=false:=decide_eq_false (by omega)
    clear c36
    replace H:=zg H
    obtain⟨c44,H⟩:=H
    have LMc44:=zk c44
    clear c44
    obtain⟨yc4,hyc4⟩:∃y_:List (List Int),y_=(x11_2++[tb7]):=⟨_,rfl⟩
    replace H:(mw_Dual.l1 k2 ta2 yc4 tb2 (tb2.length:Int) (wrap64 (x46_2+1)))=some (r1,r2):=zY hyc4 H
    have Nyc4:=zk hyc4
    clear hyc4
    have H':=zk H
    clear H
    have pb5:0≤(x46_2:Int):=zd
    have qb5:x46_2<(tb2.length:Int):=zd
    obtain⟨adb5,Ab5_1,cb5_1,eb5,hxb5_0,hxb5_1,hlb5_1,hib5_1⟩:=at_T113 (Kd.N_reads' HO_44.out).2.2 x46_2 pb5 qb5
    (try rw[←Nbq34.out] at hxb5_0)
    cases eb5
    obtain⟨ceb5,hceb5,hMeb5,hccb5⟩:=Kd.N_get HO_44.out z113 x46_2 pb5 (by first|exact qb5|exact zd|(have e_:=(Kd.N_reads' HO_44.out).1;omega))
    obtain⟨uab5_1,ucb5_1,rfl,ulb5_1,geb5_1⟩:=k113_openF hMeb5
    have hvb5_1:=hccb5 1 _ rfl
    rw[add_field _ _ 1 (by omega)] at hvb5_1
    replace hvb5_1:=Option.some.inj (hvb5_1.symm.trans hxb5_1)
    injection hvb5_1 with hva_ hvn_ hvc_
    rw[hva_] at geb5_1
    rw[hvc_] at ulb5_1
    have HLb5_1:=zk (show Kd.V (Kd.int .u32) 97 _ w.heap.size _ _ ((rd_T113 tb2 x46_2).f1) from Kd.V_mk ulb5_1 geb5_1)
    clear hva_ hvn_ hvc_ geb5_1 ulb5_1
    clear hccb5 hceb5
    have HRb5_1:=zk hib5_1
    have HCb5_1:=zk hlb5_1
    clear hib5_1 hlb5_1
    replace pb5:=eq_true pb5
    replace qb5:=eq_true qb5
    go_wp2_with (first|((with_reducible refine gate_dst (N:=13) rfl ?_);(try(refine gate_guard (by rfl) ?_;dsimp only));refine box_event ?hg (N:=13) ?hd (cs:= #[.bool false, .slice none 0 0]) (t:=113) ?hr ?_;(case hd=>rfl);(case hg=>rfl);(case hr=>first|(go_simp;done)|(go_simp;rfl));intro gbb6 hg w45 hbox hb;replace HO_7:=yRb HO_7 hb;replace HO_11:=zk (Kd.N_below (Kd.N_elderB (zN HO_11.out) gbb6 (Nat.le_of_eq hg.symm)) hb);replace HO_44:=zk (Kd.N_below (Kd.N_elderB (zN HO_44.out) gbb6 (Nat.le_of_eq hg.symm)) hb);replace HLb5_1:=yVB HLb5_1 hg hb;(try replace HRb5_1:=yCb HRb5_1 hb);have BKb6:=zk (hbox);have GWb6:=yg hg HB;have GEb6:=yg hg HB;replace HB:=yS HB hb;clear hb hbox hg;obtain⟨hcz46_0,hcz46_1,hfz46_0,hfz46_1⟩:=zz2 BKb6)|((with_reducible refine gate_store (t:=113) (p:=13) rfl ?_);refine store_event (t:=113) (p:=13) (v:=?vo_w47) (w1:=((w45.setCell ⟨gbb6,0,none⟩ (.bool true)).setCell ⟨gbb6,1,none⟩ (.slice Ab5_1 ((rd_T113 tb2 x46_2).f1).length cb5_1))) ?hg ?ho ?hn ?hr ?_;(case ho=>rfl);(case hg=>rfl);(case hn=>rfl);(case hr=>first|(go_simp;done)|(go_simp;rfl));intro w47 hw;have n0_:Aside0 (Kd.R (Kd.int .u32) 97 w47 w.heap.size (fun k_=>(w.heap.size≤k_)) (.slice Ao10 ta2.length co10) ta2):=⟨(by rw[hw];exact(by(with_reducible repeat(first|apply Kd.R_alloc|apply Kd.R_drewN|apply Kd.R_drew));exact Kd.R_mono (Kd.R_far (p:=⟨gbb6,1,none⟩) (Kd.R_far (p:=⟨gbb6,0,none⟩) (Kd.R_types HO_7.out BKb6.out (by decide)) (fun _ hk=>hk.2) (.bool true)) (fun _ hk=>hk.2) (.slice Ab5_1 ((rd_T113 tb2 x46_2).f1).length cb5_1)) (fun _ hk=>hk.1)))⟩;have n1_:Aside0 (Kd.N (Kd.slice 97 (Kd.int .u32)) 29 w47 w.heap.size (fun k_=>(w.heap.size≤k_)∧some k_≠(.slice (some adb5) tb2.length co22:Value).ownBlock∧k_≠gbb6) u11 x11_2):=⟨(by rw[hw];exact(by(with_reducible repeat(first|apply Kd.N_alloc|apply Kd.N_drewN|apply Kd.N_drew));exact Kd.N_mono (Kd.N_far (p:=⟨gbb6,1,none⟩) (Kd.N_far (p:=⟨gbb6,0,none⟩) (Kd.N_mono HO_11.out (fun k_ hk=>(⟨hk,hk.2⟩:_∧k_≠gbb6))) (fun _ hk=>hk.2) (.bool true)) (fun _ hk=>hk.2) (.slice Ab5_1 ((rd_T113 tb2 x46_2).f1).length cb5_1)) (fun _ hk=>⟨hk.1.1.1,⟨hk.1.1.2,hk.1.2⟩⟩)))⟩;have n2_:Aside0 (Kd.N k113 113 w47 w.heap.size (fun k_=>(w.heap.size≤k_)∧some k_≠(.slice Ao10 ta2.length co10:Value).ownBlock∧some k_≠(u11:Value).ownBlock∧k_≠gbb6) (.slice (some adb5) tb2.length co22) tb2):=⟨(by rw[hw];exact(by(with_reducible repeat(first|apply Kd.N_alloc|apply Kd.N_drewN|apply Kd.N_drew));exact Kd.N_mono (Kd.N_far (p:=⟨gbb6,1,none⟩) (Kd.N_far (p:=⟨gbb6,0,none⟩) (Kd.N_mono HO_44.out (fun k_ hk=>(⟨hk,hk.2⟩:_∧k_≠gbb6))) (fun _ hk=>hk.2) (.bool true)) (fun _ hk=>hk.2) (.slice Ab5_1 ((rd_T113 tb2 x46_2).f1).length cb5_1)) (fun _ hk=>⟨hk.1.1.1,⟨hk.1.1.2.1,⟨hk.1.1.2.2,hk.1.2⟩⟩⟩)))⟩;have n3_:Aside0 (Kd.V (Kd.int .u32) 97 w47 w.heap.size (fun k_=>(w.heap.size≤k_)∧some k_≠(.slice Ao10 ta2.length co10:Value).ownBlock∧some k_≠(u11:Value).ownBlock∧some k_≠(.slice (some adb5) tb2.length co22:Value).ownBlock∧k_≠gbb6) (.slice Ab5_1 ((rd_T113 tb2 x46_2).f1).length cb5_1) ((rd_T113 tb2 x46_2).f1)):=⟨(by rw[hw];exact(by(with_reducible repeat(first|apply Kd.V_alloc|apply Kd.V_drewN|apply Kd.V_drew));exact Kd.V_mono (Kd.V_far (p:=⟨gbb6,1,none⟩) (Kd.V_far (p:=⟨gbb6,0,none⟩) (Kd.V_mono HLb5_1.out (fun k_ hk=>(⟨hk,hk.2⟩:_∧k_≠gbb6))) (fun _ hk=>hk.2) (.bool true)) (fun _ hk=>hk.2) (.slice Ab5_1 ((rd_T113 tb2 x46_2).f1).length cb5_1)) (fun _ hk=>⟨hk.1.1.1.1,⟨hk.1.1.1.2.1,⟨hk.1.1.1.2.2,⟨hk.1.1.2,hk.1.2⟩⟩⟩⟩)))⟩;have n4_:Aside0 (w47.heap[gbb6]?=some (.cells #[.bool true, .slice Ab5_1 ((rd_T113 tb2 x46_2).f1).length cb5_1] 113 (0,0))):=⟨(by rw[hw];exact(zP2 BKb6.out))⟩;have n5_:Aside0 (Below w.heap.size w w47):=⟨(by rw[hw];exact(zB1 HB.out GEb6.out))⟩;clear hw;clear HO_7;clear HO_11;clear HO_44;clear HLb5_1;clear BKb6;clear HB;have HO_7:=n0_;have HO_11:=n1_;have HO_44:=n2_;have HLb5_1:=n3_;have BKb6:=n4_;have HB:=n5_;clear n0_ n1_ n2_ n3_ n4_ n5_;obtain⟨hcz48_0,hcz48_1,hfz48_0,hfz48_1⟩:=zz2 BKb6)|((with_reducible refine gC 105 ?_);refine zG (some 54) Try.func105 #[.slice Ab5_1 ((rd_T113 tb2 x46_2).f1).length cb5_1, .slice Ao10 ta2.length co10] ?_;(with_reducible refine(nat_DivMod.calls k2 (fun k_=>((w.heap.size≤k_)∧(some k_≠(.slice Ao10 ta2.length co10:Value).ownBlock∧(some k_≠(u11:Value).ownBlock∧(some k_≠(.slice (some adb5) tb2.length co22:Value).ownBlock∧k_≠gbb6))))) _ _ ((rd_T113 tb2 x46_2).f1) (fun k_=>some k_=(.slice Ao10 ta2.length co10:Value).ownBlock) _ _ ta2 tb7 tc0 tc3 _ ?side1 ?side2 A26.out).mono ?_);(case side1=>exact HLb5_1.out);(case side2=>exact Kd.R_V (Kd.R_tight rfl (Kd.R_types (Kd.R_apart' (Kd.R_apart' (HO_7.out) (Kd.N_typed HO_11.out) (by decide)) (Kd.N_typed HO_44.out) (by decide)) BKb6.out (by decide))));rintro e w49 ⟨vb8,vc1,rfl,ho0,ho1,hb⟩;refine⟨_,rfl,?_⟩;replace HLb5_1:=yVe HLb5_1 ho1 hb;have HOb9:=zk (Kd.V_lower (Kd.V_mono (ok':=fun k_=>(w.heap.size≤k_)∧some k_≠(vc1:Value).ownBlock∧some k_≠(u11:Value).ownBlock∧some k_≠(.slice (some adb5) tb2.length co22:Value).ownBlock∧k_≠gbb6) ho0 (fun k_ hk_=>⟨Or.elim hk_.1 (fun hs_=>Or.elim hs_ (fun hs_=>hs_.1) (fun hs_=>((Kd.R_types (Kd.R_apart' (Kd.R_apart' (HO_7.out) (Kd.N_typed HO_11.out) (by decide)) (Kd.N_typed HO_44.out) (by decide)) BKb6.out (by decide)).1 k_ hs_.symm).1.1.1)) (fun hn_=>(Nat.le_trans (below_size (zB1 HB.out GEb6.out)) hn_)),hk_.2,Or.elim hk_.1 (fun hs_=>Or.elim hs_ (fun hs_=>hs_.2.2.1) (fun hs_=>((Kd.R_types (Kd.R_apart' (Kd.R_apart' (HO_7.out) (Kd.N_typed HO_11.out) (by decide)) (Kd.N_typed HO_44.out) (by decide)) BKb6.out (by decide)).1 k_ hs_.symm).1.1.2)) (fun hn_=>(Kd.fresh' (Kd.N_lt (zN HO_11.out)) k_ hn_)),Or.elim hk_.1 (fun hs_=>Or.elim hs_ (fun hs_=>hs_.2.2.2.1) (fun hs_=>((Kd.R_types (Kd.R_apart' (Kd.R_apart' (HO_7.out) (Kd.N_typed HO_11.out) (by decide)) (Kd.N_typed HO_44.out) (by decide)) BKb6.out (by decide)).1 k_ hs_.symm).1.2)) (fun hn_=>(Kd.fresh' (Kd.N_lt (zN HO_44.out)) k_ hn_)),Or.elim hk_.1 (fun hs_=>Or.elim hs_ (fun hs_=>hs_.2.2.2.2) (fun hs_=>((Kd.R_types (Kd.R_apart' (Kd.R_apart' (HO_7.out) (Kd.N_typed HO_11.out) (by decide)) (Kd.N_typed HO_44.out) (by decide)) BKb6.out (by decide)).1 k_ hs_.symm).2)) (fun hn_=>(Kd.freshB (g:=gbb6) (o:= .cells #[.bool true, .slice Ab5_1 ((rd_T113 tb2 x46_2).f1).length cb5_1] 113 (0,0)) (zK BKb6.out) k_ hn_))⟩)) (below_size (zB1 HB.out GEb6.out)));replace HO_11:=yNe HO_11 ho1 hb;replace HO_44:=yNe HO_44 ho1 hb;replace ho1:=Kd.R_newM (M:=fun k_=>(w.heap.size≤k_)) (yt ho1) (below_size (zB1 HB.out GEb6.out)) (fun k_ h_=>h_);replace ho1:=yn ho1 HO_7;have HOc2:=yRl1 ho1 HB GEb6;replace HO_7:=yRe HO_7 ho1 hb;(try replace HRb5_1:=yCb HRb5_1 hb);replace BKb6:=yK BKb6 hb;replace HB:=yS1 HB GEb6 hb;(try clear hb ho0);(try clear ho1);obtain⟨Ao50,co50,rfl⟩:=Kd.R_slice HOc2.out;obtain⟨hcz51_0,hcz51_1,hfz51_0,hfz51_1⟩:=zz2 BKb6;obtain⟨Ao53,co53,rfl⟩:=Kd.V_slice HOb9.out)|((with_reducible refine gate_builtin (b:= .append) (xs:= #[.tmp 71, .tmp 73]) rfl ?_);(try(refine gate_guard (by rfl) ?_;dsimp only));at_builtin;refine Kd.N_append (Kd.slice 97 (Kd.int .u32)) (w0:=w) w.heap.size rfl (.tmp 71) (.tmp 73) 33 29 (.slice none 0 0) 24 rfl Try.underlying33 info29 rfl (by decide) (by omega) u11 x11_2 tb7 [.slice Ao53 tb7.length co53] (fun k_=>(w.heap.size≤k_)∧some k_≠(.slice (some adb5) tb2.length co22:Value).ownBlock∧some k_≠(.slice Ao50 tc0.length co50:Value).ownBlock∧k_≠gbb6) (fun k_=>((fun k_=>(w.heap.size≤k_)∧some k_≠(.slice (some adb5) tb2.length co22:Value).ownBlock∧some k_≠(.slice Ao50 tc0.length co50:Value).ownBlock∧k_≠gbb6)) k_∧some k_≠(u11:Value).ownBlock) rfl rfl ?aP (fun _ hk=>hk) ?aF ?aO ?aB ?aS ?aL ?_;(case aP=>exact(Kd.FK_slice_mk (Kd.V_reads' (Kd.V_mono (ok':=(fun k_=>((fun k_=>(w.heap.size≤k_)∧some k_≠(.slice (some adb5) tb2.length co22:Value).ownBlock∧some k_≠(.slice Ao50 tc0.length co50:Value).ownBlock∧k_≠gbb6)) k_∧some k_≠(u11:Value).ownBlock)) (HOb9.out) (fun k_ hk=>by exact⟨⟨hk.1,⟨hk.2.2.2.1,⟨hk.2.1,hk.2.2.2.2⟩⟩⟩,hk.2.2.1⟩))).2.1 (Kd.V_F (Kd.V_mono (ok':=(fun k_=>((fun k_=>(w.heap.size≤k_)∧some k_≠(.slice (some adb5) tb2.length co22:Value).ownBlock∧some k_≠(.slice Ao50 tc0.length co50:Value).ownBlock∧k_≠gbb6)) k_∧some k_≠(u11:Value).ownBlock)) (HOb9.out) (fun k_ hk=>by exact⟨⟨hk.1,⟨hk.2.2.2.1,⟨hk.2.1,hk.2.2.2.2⟩⟩⟩,hk.2.2.1⟩)))));(case aB=>exact(zB1 HB.out GEb6.out));(case aF=>exact(fun k_ hk=>⟨(Nat.le_trans (below_size (zB1 HB.out GEb6.out)) hk),Kd.fresh' (Kd.N_lt (zN HO_44.out)) k_ hk,Kd.fresh' (Kd.R_lt (zR HOc2.out)) k_ hk,Kd.freshB (g:=gbb6) (o:= .cells #[.bool true, .slice Ab5_1 ((rd_T113 tb2 x46_2).f1).length cb5_1] 113 (0,0)) (zK BKb6.out) k_ hk⟩));(case aO=>exact(by(with_reducible repeat(first|apply Kd.N_alloc|apply Kd.N_drewN|apply Kd.N_drew));exact Kd.N_mono HO_11.out (fun _ hk=>⟨hk.1.1,⟨hk.1.2.1,⟨hk.2,hk.1.2.2⟩⟩⟩)));(case aS=>exact(below_size (zB1 HB.out GEb6.out)));(case aL=>have:=LMc44.out;omega);intro vc5 w52 ho hb hg hat;rw[←Nyc4.out] at ho;replace HO_7:=zk (Kd.R_over' (zR HO_7.out) (Kd.N_typed (zN HO_11.out)) (by decide) hg);replace HO_44:=zk (Kd.N_afterv (ok:=(fun k_=>(w.heap.size≤k_)∧some k_≠(.slice Ao10 ta2.length co10:Value).ownBlock∧some k_≠(.slice Ao50 tc0.length co50:Value).ownBlock∧k_≠gbb6)) (by(with_reducible repeat(first|apply Kd.N_alloc|apply Kd.N_drewN|apply Kd.N_drew));exact Kd.N_mono HO_44.out (fun _ hk=>⟨⟨hk.1.1,⟨hk.1.2.1,⟨hk.2,hk.1.2.2.2⟩⟩⟩,hk.1.2.2.1⟩)) hg hat);replace HLb5_1:=zk (Kd.V_afterv (ok:=(fun k_=>(w.heap.size≤k_)∧some k_≠(.slice Ao10 ta2.length co10:Value).ownBlock∧some k_≠(.slice (some adb5) tb2.length co22:Value).ownBlock∧some k_≠(.slice Ao50 tc0.length co50:Value).ownBlock∧k_≠gbb6)) (by(with_reducible repeat(first|apply Kd.V_alloc|apply Kd.V_drewN|apply Kd.V_drew));exact Kd.V_mono HLb5_1.out (fun _ hk=>⟨⟨hk.1.1,⟨hk.1.2.1,⟨hk.1.2.2.2.1,⟨hk.2,hk.1.2.2.2.2⟩⟩⟩⟩,hk.1.2.2.1⟩)) hg hat);replace BKb6:=zk (blk_grown (g:=gbb6) (o:= .cells #[.bool true, .slice Ab5_1 ((rd_T113 tb2 x46_2).f1).length cb5_1] 113 (0,0)) (zK BKb6.out) hg (Kd.N_ne HO_11.out BKb6.out (by decide)));replace HOb9:=zk (Kd.V_afterv (ok:=(fun k_=>(w.heap.size≤k_)∧some k_≠(.slice (some adb5) tb2.length co22:Value).ownBlock∧some k_≠(.slice Ao50 tc0.length co50:Value).ownBlock∧k_≠gbb6)) (by(with_reducible repeat(first|apply Kd.V_alloc|apply Kd.V_drewN|apply Kd.V_drew));exact Kd.V_mono HOb9.out (fun _ hk=>⟨⟨hk.1,⟨hk.2.2.2.1,⟨hk.2.1,hk.2.2.2.2⟩⟩⟩,hk.2.2.1⟩)) hg hat);replace HOc2:=zk (Kd.R_over' (zR HOc2.out) (Kd.N_typed (zN HO_11.out)) (by decide) hg);replace HB:=zk (hb);have HOc6:=zk (ho);clear HO_11;clear ho hb hg hat))
    go_roundg k2
    case measure=>have:=HK1.out;have:=HK2.out;omega
    case rel=>exact⟨(yc4),(wrap64 (x46_2+1)),zF,H',⟨zo2 HK1 HK2⟩,⟨by(with_reducible repeat(first|apply Kd.R_alloc|apply Kd.R_drewN|apply Kd.R_drew));exact Kd.R_mono HO_7.out (fun _ hk=>hk.1)⟩,⟨by(with_reducible repeat(first|apply Kd.N_alloc|apply Kd.N_drewN|apply Kd.N_drew));exact Kd.N_mono HOc6.out (fun _ hk=>⟨hk.1,hk.2.1⟩)⟩,⟨by(with_reducible repeat(first|apply Kd.N_alloc|apply Kd.N_drewN|apply Kd.N_drew));exact Kd.N_mono HO_44.out (fun _ hk=>⟨hk.1.1,⟨hk.1.2.1,hk.2⟩⟩)⟩,⟨zB1 HB.out GEb6.out⟩⟩
   replace c35:=Bool.eq_false_iff.mpr c35
   subst c35
   rw[if_neg Bool.false_ne_true] at H
   replace H:=zg H
   obtain⟨c54,H⟩:=H
   have LMc54:=zk c54
   clear c54
   obtain⟨yc7,hyc7⟩:∃y_:List (List Int),y_=(x11_2++[tb7]):=⟨_,rfl⟩
   replace H:(mw_Dual.l1 k2 ta2 yc7 tb2 (tb2.length:Int) (wrap64 (x46_2+1)))=some (r1,r2):=zY hyc7 H
   have Nyc7:=zk hyc7
   clear hyc7
   have H':=zk H
   clear H
   have pb5:0≤(x46_2:Int):=zd
   have qb5:x46_2<(tb2.length:Int):=zd
   obtain⟨adb5,Ab5_1,cb5_1,eb5,hxb5_0,hxb5_1,hlb5_1,hib5_1⟩:=at_T113 (Kd.N_reads' HO_44.out).2.2 x46_2 pb5 qb5
   (try rw[←Nbq34.out] at hxb5_0)
   cases eb5
   obtain⟨ceb5,hceb5,hMeb5,hccb5⟩:=Kd.N_get HO_44.out z113 x46_2 pb5 (by first|exact qb5|exact zd|(have e_:=(Kd.N_reads' HO_44.out).1;omega))
   obtain⟨uab5_1,ucb5_1,rfl,ulb5_1,geb5_1⟩:=k113_openF hMeb5
   have hvb5_1:=hccb5 1 _ rfl
   rw[add_field _ _ 1 (by omega)] at hvb5_1
   replace hvb5_1:=Option.some.inj (hvb5_1.symm.trans hxb5_1)
   injection hvb5_1 with hva_ hvn_ hvc_
   rw[hva_] at geb5_1
   rw[hvc_] at ulb5_1
   have HLb5_1:=zk (show Kd.V (Kd.int .u32) 97 _ w.heap.size _ _ ((rd_T113 tb2 x46_2).f1) from Kd.V_mk ulb5_1 geb5_1)
   clear hva_ hvn_ hvc_ geb5_1 ulb5_1
   clear hccb5 hceb5
   have HRb5_1:=zk hib5_1
   have HCb5_1:=zk hlb5_1
   clear hib5_1 hlb5_1
   replace pb5:=eq_true pb5
   replace qb5:=eq_true qb5
   go_wp2_with (first|((with_reducible refine gate_dst (N:=13) rfl ?_);(try(refine gate_guard (by rfl) ?_;dsimp only));refine box_event ?hg (N:=13) ?hd (cs:= #[.bool false, .slice none 0 0]) (t:=113) ?hr ?_;(case hd=>rfl);(case hg=>rfl);(case hr=>first|(go_simp;done)|(go_simp;rfl));intro gbb6 hg w55 hbox hb;replace HO_7:=yRb HO_7 hb;replace HO_11:=zk (Kd.N_below (Kd.N_elderB (zN HO_11.out) gbb6 (Nat.le_of_eq hg.symm)) hb);replace HO_44:=zk (Kd.N_below (Kd.N_elderB (zN HO_44.out) gbb6 (Nat.le_of_eq hg.symm)) hb);replace HLb5_1:=yVB HLb5_1 hg hb;(try replace HRb5_1:=yCb HRb5_1 hb);have BKb6:=zk (hbox);have GWb6:=yg hg HB;have GEb6:=yg hg HB;replace HB:=yS HB hb;clear hb hbox hg;obtain⟨hcz56_0,hcz56_1,hfz56_0,hfz56_1⟩:=zz2 BKb6)|((with_reducible refine gate_store (t:=113) (p:=13) rfl ?_);refine store_event (t:=113) (p:=13) (v:=?vo_w57) (w1:=((w55.setCell ⟨gbb6,0,none⟩ (.bool false)).setCell ⟨gbb6,1,none⟩ (.slice Ab5_1 ((rd_T113 tb2 x46_2).f1).length cb5_1))) ?hg ?ho ?hn ?hr ?_;(case ho=>rfl);(case hg=>rfl);(case hn=>rfl);(case hr=>first|(go_simp;done)|(go_simp;rfl));intro w57 hw;have n0_:Aside0 (Kd.R (Kd.int .u32) 97 w57 w.heap.size (fun k_=>(w.heap.size≤k_)) (.slice Ao10 ta2.length co10) ta2):=⟨(by rw[hw];exact(by(with_reducible repeat(first|apply Kd.R_alloc|apply Kd.R_drewN|apply Kd.R_drew));exact Kd.R_mono (Kd.R_far (p:=⟨gbb6,1,none⟩) (Kd.R_far (p:=⟨gbb6,0,none⟩) (Kd.R_types HO_7.out BKb6.out (by decide)) (fun _ hk=>hk.2) (.bool false)) (fun _ hk=>hk.2) (.slice Ab5_1 ((rd_T113 tb2 x46_2).f1).length cb5_1)) (fun _ hk=>hk.1)))⟩;have n1_:Aside0 (Kd.N (Kd.slice 97 (Kd.int .u32)) 29 w57 w.heap.size (fun k_=>(w.heap.size≤k_)∧some k_≠(.slice (some adb5) tb2.length co22:Value).ownBlock∧k_≠gbb6) u11 x11_2):=⟨(by rw[hw];exact(by(with_reducible repeat(first|apply Kd.N_alloc|apply Kd.N_drewN|apply Kd.N_drew));exact Kd.N_mono (Kd.N_far (p:=⟨gbb6,1,none⟩) (Kd.N_far (p:=⟨gbb6,0,none⟩) (Kd.N_mono HO_11.out (fun k_ hk=>(⟨hk,hk.2⟩:_∧k_≠gbb6))) (fun _ hk=>hk.2) (.bool false)) (fun _ hk=>hk.2) (.slice Ab5_1 ((rd_T113 tb2 x46_2).f1).length cb5_1)) (fun _ hk=>⟨hk.1.1.1,⟨hk.1.1.2,hk.1.2⟩⟩)))⟩;have n2_:Aside0 (Kd.N k113 113 w57 w.heap.size (fun k_=>(w.heap.size≤k_)∧some k_≠(.slice Ao10 ta2.length co10:Value).ownBlock∧some k_≠(u11:Value).ownBlock∧k_≠gbb6) (.slice (some adb5) tb2.length co22) tb2):=⟨(by rw[hw];exact(by(with_reducible repeat(first|apply Kd.N_alloc|apply Kd.N_drewN|apply Kd.N_drew));exact Kd.N_mono (Kd.N_far (p:=⟨gbb6,1,none⟩) (Kd.N_far (p:=⟨gbb6,0,none⟩) (Kd.N_mono HO_44.out (fun k_ hk=>(⟨hk,hk.2⟩:_∧k_≠gbb6))) (fun _ hk=>hk.2) (.bool false)) (fun _ hk=>hk.2) (.slice Ab5_1 ((rd_T113 tb2 x46_2).f1).length cb5_1)) (fun _ hk=>⟨hk.1.1.1,⟨hk.1.1.2.1,⟨hk.1.1.2.2,hk.1.2⟩⟩⟩)))⟩;have n3_:Aside0 (Kd.V (Kd.int .u32) 97 w57 w.heap.size (fun k_=>(w.heap.size≤k_)∧some k_≠(.slice Ao10 ta2.length co10:Value).ownBlock∧some k_≠(u11:Value).ownBlock∧some k_≠(.slice (some adb5) tb2.length co22:Value).ownBlock∧k_≠gbb6) (.slice Ab5_1 ((rd_T113 tb2 x46_2).f1).length cb5_1) ((rd_T113 tb2 x46_2).f1)):=⟨(by rw[hw];exact(by(with_reducible repeat(first|apply Kd.V_alloc|apply Kd.V_drewN|apply Kd.V_drew));exact Kd.V_mono (Kd.V_far (p:=⟨gbb6,1,none⟩) (Kd.V_far (p:=⟨gbb6,0,none⟩) (Kd.V_mono HLb5_1.out (fun k_ hk=>(⟨hk,hk.2⟩:_∧k_≠gbb6))) (fun _ hk=>hk.2) (.bool false)) (fun _ hk=>hk.2) (.slice Ab5_1 ((rd_T113 tb2 x46_2).f1).length cb5_1)) (fun _ hk=>⟨hk.1.1.1.1,⟨hk.1.1.1.2.1,⟨hk.1.1.1.2.2,⟨hk.1.1.2,hk.1.2⟩⟩⟩⟩)))⟩;have n4_:Aside0 (w57.heap[gbb6]?=some (.cells #[.bool false, .slice Ab5_1 ((rd_T113 tb2 x46_2).f1).length cb5_1] 113 (0,0))):=⟨(by rw[hw];exact(zP2 BKb6.out))⟩;have n5_:Aside0 (Below w.heap.size w w57):=⟨(by rw[hw];exact(zB1 HB.out GEb6.out))⟩;clear hw;clear HO_7;clear HO_11;clear HO_44;clear HLb5_1;clear BKb6;clear HB;have HO_7:=n0_;have HO_11:=n1_;have HO_44:=n2_;have HLb5_1:=n3_;have BKb6:=n4_;have HB:=n5_;clear n0_ n1_ n2_ n3_ n4_ n5_;obtain⟨hcz58_0,hcz58_1,hfz58_0,hfz58_1⟩:=zz2 BKb6)|((with_reducible refine gC 105 ?_);refine zG (some 54) Try.func105 #[.slice Ab5_1 ((rd_T113 tb2 x46_2).f1).length cb5_1, .slice Ao10 ta2.length co10] ?_;(with_reducible refine(nat_DivMod.calls k2 (fun k_=>((w.heap.size≤k_)∧(some k_≠(.slice Ao10 ta2.length co10:Value).ownBlock∧(some k_≠(u11:Value).ownBlock∧(some k_≠(.slice (some adb5) tb2.length co22:Value).ownBlock∧k_≠gbb6))))) _ _ ((rd_T113 tb2 x46_2).f1) (fun k_=>some k_=(.slice Ao10 ta2.length co10:Value).ownBlock) _ _ ta2 tb7 tc0 tc3 _ ?side1 ?side2 A26.out).mono ?_);(case side1=>exact HLb5_1.out);(case side2=>exact Kd.R_V (Kd.R_tight rfl (Kd.R_types (Kd.R_apart' (Kd.R_apart' (HO_7.out) (Kd.N_typed HO_11.out) (by decide)) (Kd.N_typed HO_44.out) (by decide)) BKb6.out (by decide))));rintro e w59 ⟨vb8,vc1,rfl,ho0,ho1,hb⟩;refine⟨_,rfl,?_⟩;replace HLb5_1:=yVe HLb5_1 ho1 hb;have HOb9:=zk (Kd.V_lower (Kd.V_mono (ok':=fun k_=>(w.heap.size≤k_)∧some k_≠(vc1:Value).ownBlock∧some k_≠(u11:Value).ownBlock∧some k_≠(.slice (some adb5) tb2.length co22:Value).ownBlock∧k_≠gbb6) ho0 (fun k_ hk_=>⟨Or.elim hk_.1 (fun hs_=>Or.elim hs_ (fun hs_=>hs_.1) (fun hs_=>((Kd.R_types (Kd.R_apart' (Kd.R_apart' (HO_7.out) (Kd.N_typed HO_11.out) (by decide)) (Kd.N_typed HO_44.out) (by decide)) BKb6.out (by decide)).1 k_ hs_.symm).1.1.1)) (fun hn_=>(Nat.le_trans (below_size (zB1 HB.out GEb6.out)) hn_)),hk_.2,Or.elim hk_.1 (fun hs_=>Or.elim hs_ (fun hs_=>hs_.2.2.1) (fun hs_=>((Kd.R_types (Kd.R_apart' (Kd.R_apart' (HO_7.out) (Kd.N_typed HO_11.out) (by decide)) (Kd.N_typed HO_44.out) (by decide)) BKb6.out (by decide)).1 k_ hs_.symm).1.1.2)) (fun hn_=>(Kd.fresh' (Kd.N_lt (zN HO_11.out)) k_ hn_)),Or.elim hk_.1 (fun hs_=>Or.elim hs_ (fun hs_=>hs_.2.2.2.1) (fun hs_=>((Kd.R_types (Kd.R_apart' (Kd.R_apart' (HO_7.out) (Kd.N_typed HO_11.out) (by decide)) (Kd.N_typed HO_44.out) (by decide)) BKb6.out (by decide)).1 k_ hs_.symm).1.2)) (fun hn_=>(Kd.fresh' (Kd.N_lt (zN HO_44.out)) k_ hn_)),Or.elim hk_.1 (fun hs_=>Or.elim hs_ (fun hs_=>hs_.2.2.2.2) (fun hs_=>((Kd.R_types (Kd.R_apart' (Kd.R_apart' (HO_7.out) (Kd.N_typed HO_11.out) (by decide)) (Kd.N_typed HO_44.out) (by decide)) BKb6.out (by decide)).1 k_ hs_.symm).2)) (fun hn_=>(Kd.freshB (g:=gbb6) (o:= .cells #[.bool false, .slice Ab5_1 ((rd_T113 tb2 x46_2).f1).length cb5_1] 113 (0,0)) (zK BKb6.out) k_ hn_))⟩)) (below_size (zB1 HB.out GEb6.out)));replace HO_11:=yNe HO_11 ho1 hb;replace HO_44:=yNe HO_44 ho1 hb;replace ho1:=Kd.R_newM (M:=fun k_=>(w.heap.size≤k_)) (yt ho1) (below_size (zB1 HB.out GEb6.out)) (fun k_ h_=>h_);replace ho1:=yn ho1 HO_7;have HOc2:=yRl1 ho1 HB GEb6;replace HO_7:=yRe HO_7 ho1 hb;(try replace HRb5_1:=yCb HRb5_1 hb);replace BKb6:=yK BKb6 hb;replace HB:=yS1 HB GEb6 hb;(try clear hb ho0);(try clear ho1);obtain⟨Ao60,co60,rfl⟩:=Kd.R_slice HOc2.out;obtain⟨hcz61_0,hcz61_1,hfz61_0,hfz61_1⟩:=zz2 BKb6;obtain⟨Ao63,co63,rfl⟩:=Kd.V_slice HOb9.out)|((with_reducible refine gate_builtin (b:= .append) (xs:= #[.tmp 71, .tmp 73]) rfl ?_);(try(refine gate_guard (by rfl) ?_;dsimp only));at_builtin;refine Kd.N_append (Kd.slice 97 (Kd.int .u32)) (w0:=w) w.heap.size rfl (.tmp 71) (.tmp 73) 33 29 (.slice none 0 0) 24 rfl Try.underlying33 info29 rfl (by decide) (by omega) u11 x11_2 tb7 [.slice Ao63 tb7.length co63] (fun k_=>(w.heap.size≤k_)∧some k_≠(.slice (some adb5) tb2.length co22:Value).ownBlock∧some k_≠(.slice Ao60 tc0.length co60:Value).ownBlock∧k_≠gbb6) (fun k_=>((fun k_=>(w.heap.size≤k_)∧some k_≠(.slice (some adb5) tb2.length co22:Value).ownBlock∧some k_≠(.slice Ao60 tc0.length co60:Value).ownBlock∧k_≠gbb6)) k_∧some k_≠(u11:Value).ownBlock) rfl rfl ?aP (fun _ hk=>hk) ?aF ?aO ?aB ?aS ?aL ?_;(case aP=>exact(Kd.FK_slice_mk (Kd.V_reads' (Kd.V_mono (ok':=(fun k_=>((fun k_=>(w.heap.size≤k_)∧some k_≠(.slice (some adb5) tb2.length co22:Value).ownBlock∧some k_≠(.slice Ao60 tc0.length co60:Value).ownBlock∧k_≠gbb6)) k_∧some k_≠(u11:Value).ownBlock)) (HOb9.out) (fun k_ hk=>by exact⟨⟨hk.1,⟨hk.2.2.2.1,⟨hk.2.1,hk.2.2.2.2⟩⟩⟩,hk.2.2.1⟩))).2.1 (Kd.V_F (Kd.V_mono (ok':=(fun k_=>((fun k_=>(w.heap.size≤k_)∧some k_≠(.slice (some adb5) tb2.length co22:Value).ownBlock∧some k_≠(.slice Ao60 tc0.length co60:Value).ownBlock∧k_≠gbb6)) k_∧some k_≠(u11:Value).ownBlock)) (HOb9.out) (fun k_ hk=>by exact⟨⟨hk.1,⟨hk.2.2.2.1,⟨hk.2.1,hk.2.2.2.2⟩⟩⟩,hk.2.2.1⟩)))));(case aB=>exact(zB1 HB.out GEb6.out));(case aF=>exact(fun k_ hk=>⟨(Nat.le_trans (below_size (zB1 HB.out GEb6.out)) hk),Kd.fresh' (Kd.N_lt (zN HO_44.out)) k_ hk,Kd.fresh' (Kd.R_lt (zR HOc2.out)) k_ hk,Kd.freshB (g:=gbb6) (o:= .cells #[.bool false, .slice Ab5_1 ((rd_T113 tb2 x46_2).f1).length cb5_1] 113 (0,0)) (zK BKb6.out) k_ hk⟩));(case aO=>exact(by(with_reducible repeat(first|apply Kd.N_alloc|apply Kd.N_drewN|apply Kd.N_drew));exact Kd.N_mono HO_11.out (fun _ hk=>⟨hk.1.1,⟨hk.1.2.1,⟨hk.2,hk.1.2.2⟩⟩⟩)));(case aS=>exact(below_size (zB1 HB.out GEb6.out)));(case aL=>have:=LMc54.out;omega);intro vc8 w62 ho hb hg hat;rw[←Nyc7.out] at ho;replace HO_7:=zk (Kd.R_over' (zR HO_7.out) (Kd.N_typed (zN HO_11.out)) (by decide) hg);replace HO_44:=zk (Kd.N_afterv (ok:=(fun k_=>(w.heap.size≤k_)∧some k_≠(.slice Ao10 ta2.length co10:Value).ownBlock∧some k_≠(.slice Ao60 tc0.length co60:Value).ownBlock∧k_≠gbb6)) (by(with_reducible repeat(first|apply Kd.N_alloc|apply Kd.N_drewN|apply Kd.N_drew));exact Kd.N_mono HO_44.out (fun _ hk=>⟨⟨hk.1.1,⟨hk.1.2.1,⟨hk.2,hk.1.2.2.2⟩⟩⟩,hk.1.2.2.1⟩)) hg hat);replace HLb5_1:=zk (Kd.V_afterv (ok:=(fun k_=>(w.heap.size≤k_)∧some k_≠(.slice Ao10 ta2.length co10:Value).ownBlock∧some k_≠(.slice (some adb5) tb2.length co22:Value).ownBlock∧some k_≠(.slice Ao60 tc0.length co60:Value).ownBlock∧k_≠gbb6)) (by(with_reducible repeat(first|apply Kd.V_alloc|apply Kd.V_drewN|apply Kd.V_drew));exact Kd.V_mono HLb5_1.out (fun _ hk=>⟨⟨hk.1.1,⟨hk.1.2.1,⟨hk.1.2.2.2.1,⟨hk.2,hk.1.2.2.2.2⟩⟩⟩⟩,hk.1.2.2.1⟩)) hg hat);replace BKb6:=zk (blk_grown (g:=gbb6) (o:= .cells #[.bool false, .slice Ab5_1 ((rd_T113 tb2 x46_2).f1).length cb5_1] 113 (0,0)) (zK BKb6.out) hg (Kd.N_ne HO_11.out BKb6.out (by decide)));replace HOb9:=zk (Kd.V_afterv (ok:=(fun k_=>(w.heap.size≤k_)∧some k_≠(.slice (some adb5) tb2.length co22:Value).ownBlock∧some k_≠(.slice Ao60 tc0.length co60:Value).ownBlock∧k_≠gbb6)) (by(with_reducible repeat(first|apply Kd.V_alloc|apply Kd.V_drewN|apply Kd.V_drew));exact Kd.V_mono HOb9.out (fun _ hk=>⟨⟨hk.1,⟨hk.2.2.2.1,⟨hk.2.1,hk.2.2.2.2⟩⟩⟩,hk.2.2.1⟩)) hg hat);replace HOc2:=zk (Kd.R_over' (zR HOc2.out) (Kd.N_typed (zN HO_11.out)) (by decide) hg);replace HB:=zk (hb);have HOc9:=zk (ho);clear HO_11;clear ho hb hg hat))
   go_roundg k2
   case measure=>have:=HK1.out;have:=HK2.out;omega
   case rel=>exact⟨(yc7),(wrap64 (x46_2+1)),zF,H',⟨zo2 HK1 HK2⟩,⟨by(with_reducible repeat(first|apply Kd.R_alloc|apply Kd.R_drewN|apply Kd.R_drew));exact Kd.R_mono HO_7.out (fun _ hk=>hk.1)⟩,⟨by(with_reducible repeat(first|apply Kd.N_alloc|apply Kd.N_drewN|apply Kd.N_drew));exact Kd.N_mono HOc9.out (fun _ hk=>⟨hk.1,hk.2.1⟩)⟩,⟨by(with_reducible repeat(first|apply Kd.N_alloc|apply Kd.N_drewN|apply Kd.N_drew));exact Kd.N_mono HO_44.out (fun _ hk=>⟨hk.1.1,⟨hk.1.2.1,hk.2⟩⟩)⟩,⟨zB1 HB.out GEb6.out⟩⟩
  simp only[Option.some.injEq,Prod.mk.injEq] at H
  obtain⟨rfl,rfl⟩:=H
  go_wp2
  go_ret2
  exact⟨_,zE,by(with_reducible repeat(first|apply Kd.N_alloc|apply Kd.N_drewN|apply Kd.N_drew));exact Kd.N_mono HO_11.out (fun _ hk=>hk.1),zB HB.out⟩
 have c4b0:=beq_eq_false_iff_ne.mpr c4
 have c4b1:=bne_iff_ne.mpr c4
 simp only[Option.some.injEq,Prod.mk.injEq] at H
 obtain⟨rfl,rfl⟩:=H
 go_enter Try.func57,Try.ntmps57
 go_wp2_with (first|((with_reducible refine gC 102 ?_);refine zG (some 20) Try.func102 #[.int .i64 a0, .int .i64 (l1.length:Int)] ?_;(with_reducible refine(mw_wrong.calls a0 (l1.length:Int) ta1 _ A3.out).mono ?_);rintro e w' ⟨rfl,⟨nd,rfl⟩⟩;refine⟨_,rfl,?_⟩))
 go_ret2
 exact⟨_,zE,by first|exact Kd.S_nil _ _ _ _ _|exact Kd.N_nil _ _ _ _ _|exact Kd.V_nil _ _ _ _ _|exact Kd.Q_nil _ _ _ _ _|exact Kd.R_nil _ _ _ _ _,zB HB.out⟩
set_option maxHeartbeats 8000000 in
set_option maxRecDepth 100000 in
theorem mw_some.calls (k:Nat) (A0:Option Addr) (c0:Nat) (l0:List (List Int)) (a1:Int) (r:Int) (w:World) (hr0:Kd.C (Kd.slice 97 (Kd.int .u32)) w A0 l0.length l0) (hc0:l0.length≤c0) (h:mw_some.f k l0 a1=some r):
 Calls Try.prog 88 #[.slice A0 l0.length c0, .int .i64 a1] w fun e w'=>e= .returned (.int .i64 r)∧Below w.heap.size w w':=by
 have HR0:=zk hr0
 have HC0:=zk hc0
 clear hr0 hc0
 have HB:=zk (Below.refl w.heap.size w)
 have H:=h
 clear h
 unfold mw_some.f at H
 have H':=zk H
 clear H
 go_enter Try.func88,Try.ntmps88
 go_wp2
 go_loopg [5,6] k (fun kq v5 v6 w'=>∃(x5_1:Int) (x6_1:Int),v5= .int .i64 x5_1∧v6= .int .i64 x6_1∧Aside0 (mw_some.l0 kq l0 a1 x5_1 x6_1=some r)∧Aside0 (kq≤k)∧Aside0 (Below w.heap.size w w'))
 case atStart=>exact⟨(0),(1),zF,zF,H',⟨Nat.le_refl _⟩,⟨zB HB.out⟩⟩
 clear H'
 obtain⟨x5_1,x6_1,rfl,rfl,HA,HK1,HB⟩:=hrel
 cases gk with|zero=>exact absurd HA.out (by simp [mw_some.l0])|succ k1=>?_
 have H:=HA.out
 clear HA
 simp only[mw_some.l0] at H
 replace H:=zid H
 rcases H with⟨c3b0,H⟩|⟨c3b0,H⟩
 ·replace H:=zgd H
  obtain⟨c4b0,H⟩:=H
  replace H:=zgd H
  obtain⟨c5b0,H⟩:=H
  replace H:=zb H
  obtain⟨ta2,A6,H⟩:=H
  replace H:=zi H
  rcases H with⟨c7,H⟩|⟨c7,H⟩
  ·have c7b0:decide (0<ta2)=true:=decide_eq_true c7
   clear c7
   have H':=zk H
   clear H
   have pa1:0≤(x6_1:Int):=zd
   have qa1:x6_1<(l0.length:Int):=zd
   obtain⟨ada1,Aa1_0,ca1_0,ea1,hxa1_0,hla1_0,hia1_0⟩:=at_L3 HR0.out x6_1 pa1 qa1
   cases ea1
   replace hxa1_0:=(HB.out.cell (World.block_lt_of_cell? w _ hxa1_0)).trans hxa1_0
   have HRa1_0:=zk hia1_0
   have HCa1_0:=zk hla1_0
   clear hia1_0 hla1_0
   replace pa1:=eq_true pa1
   replace qa1:=eq_true qa1
   go_wp2_with (first|((with_reducible refine gC 87 ?_);refine zG (some 16) Try.func87 #[.slice Aa1_0 (rd_L3 l0 x6_1).length ca1_0] ?_;(with_reducible refine(nat_Bits.calls k1 _ _ (rd_L3 l0 x6_1) ta2 _ ?side1 ?side2 A6.out).mono ?_);(case side1=>exact zC (Kd.C_below HRa1_0.out HB.out));(case side2=>exact HCa1_0.out);rintro e w8 ⟨rfl,hb⟩;refine⟨_,rfl,?_⟩;replace HB:=yS HB hb;(try clear hb);(try clear hb2);(try clear hk);(try clear hi)))
   go_roundg k1
   case measure=>have:=HK1.out;omega
   case rel=>exact⟨(wrap64 (x5_1+1)),(wrap64 (x6_1+1)),zF,zF,H',⟨zo1 HK1⟩,⟨zB HB.out⟩⟩
  have c7b0:decide (0<ta2)=false:=decide_eq_false c7
  clear c7
  have H':=zk H
  clear H
  have pa1:0≤(x6_1:Int):=zd
  have qa1:x6_1<(l0.length:Int):=zd
  obtain⟨ada1,Aa1_0,ca1_0,ea1,hxa1_0,hla1_0,hia1_0⟩:=at_L3 HR0.out x6_1 pa1 qa1
  cases ea1
  replace hxa1_0:=(HB.out.cell (World.block_lt_of_cell? w _ hxa1_0)).trans hxa1_0
  have HRa1_0:=zk hia1_0
  have HCa1_0:=zk hla1_0
  clear hia1_0 hla1_0
  replace pa1:=eq_true pa1
  replace qa1:=eq_true qa1
  go_wp2_with (first|((with_reducible refine gC 87 ?_);refine zG (some 16) Try.func87 #[.slice Aa1_0 (rd_L3 l0 x6_1).length ca1_0] ?_;(with_reducible refine(nat_Bits.calls k1 _ _ (rd_L3 l0 x6_1) ta2 _ ?side1 ?side2 A6.out).mono ?_);(case side1=>exact zC (Kd.C_below HRa1_0.out HB.out));(case side2=>exact HCa1_0.out);rintro e w9 ⟨rfl,hb⟩;refine⟨_,rfl,?_⟩;replace HB:=yS HB hb;(try clear hb);(try clear hb2);(try clear hk);(try clear hi)))
  go_roundg k1
  case measure=>have:=HK1.out;omega
  case rel=>exact⟨(x5_1),(wrap64 (x6_1+1)),zF,zF,H',⟨zo1 HK1⟩,⟨zB HB.out⟩⟩
 obtain rfl:=Option.some.inj H
 go_wp2
 go_ret
 exact⟨zE,zB HB.out⟩
set_option maxHeartbeats 8000000 in
set_option maxRecDepth 100000 in
theorem mw_External.calls (k:Nat) (a0:Int) (A1:Option Addr) (c1:Nat) (l1:List (List Int)) (r1:Int) (r2:Int) (w:World) (hr1:Kd.C (Kd.slice 97 (Kd.int .u32)) w A1 l1.length l1) (hc1:l1.length≤c1) (h:mw_External.f k a0 l1=some (r1,r2)):
 Calls Try.prog 59 #[.int .i64 a0, .slice A1 l1.length c1] w fun e w'=>e= .returned (.tuple #[.int .i64 r1, .int .i64 r2])∧Below w.heap.size w w':=by
 have HR1:=zk hr1
 have HC1:=zk hc1
 clear hr1 hc1
 have HB:=zk (Below.refl w.heap.size w)
 have H:=h
 clear h
 unfold mw_External.f at H
 replace H:=zb H
 obtain⟨⟨ta1,ta4⟩,A3,H⟩:=H
 dsimp only at H
 replace H:=zi H
 rcases H with⟨c4,H⟩|⟨c4,H⟩
 ·have c4b0:=beq_iff_eq.mpr c4
  have c4b1:=bne_eq_false_iff_eq.mpr c4
  clear c4
  replace H:=zb H
  obtain⟨ta5,A5,H⟩:=H
  simp only[Option.some.injEq,Prod.mk.injEq] at H
  obtain⟨rfl,rfl⟩:=H
  go_enter Try.func59,Try.ntmps59
  go_wp2_with (first|((with_reducible refine gC 57 ?_);refine zG (some 11) Try.func57 #[.int .i64 a0, .slice A1 l1.length c1] ?_;(with_reducible refine(mw_Dual.calls k a0 _ _ l1 ta1 ta4 _ ?side1 ?side2 A3.out).mono ?_);(case side1=>exact zC HR1.out);(case side2=>exact HC1.out);rintro e w6 ⟨va2,rfl,ho0,hb⟩;refine⟨_,rfl,?_⟩;have HOa3:=zk (Kd.N_lower (Kd.N_mono (ok':=fun k_=>True) ho0 (fun k_ hk_=>trivial)) (below_size (zB HB.out)));replace HB:=yS HB hb;(try clear hb ho0);obtain⟨Ao7,co7,rfl⟩:=Kd.N_slice HOa3.out)|((with_reducible refine gC 88 ?_);refine zG (some 21) Try.func88 #[.slice Ao7 ta1.length co7, .int .i64 (wrap64 ((ta1.length:Int)-1))] ?_;(with_reducible refine(mw_some.calls k _ _ ta1 (wrap64 ((ta1.length:Int)-1)) ta5 _ ?side1 ?side2 A5.out).mono ?_);(case side1=>exact zC (Kd.N_reads' HOa3.out).2.2);(case side2=>exact(Kd.N_reads' HOa3.out).2.1);rintro e w8 ⟨rfl,hb⟩;refine⟨_,rfl,?_⟩;replace HOa3:=yNb HOa3 hb;replace HB:=yS HB hb;(try clear hb);(try clear hb2);(try clear hk);(try clear hi)))
  go_ret2
  exact⟨zE,zB HB.out⟩
 have c4b0:=beq_eq_false_iff_ne.mpr c4
 have c4b1:=bne_iff_ne.mpr c4
 simp only[Option.some.injEq,Prod.mk.injEq] at H
 obtain⟨rfl,rfl⟩:=H
 go_enter Try.func59,Try.ntmps59
 go_wp2_with (first|((with_reducible refine gC 57 ?_);refine zG (some 11) Try.func57 #[.int .i64 a0, .slice A1 l1.length c1] ?_;(with_reducible refine(mw_Dual.calls k a0 _ _ l1 ta1 ta4 _ ?side1 ?side2 A3.out).mono ?_);(case side1=>exact zC HR1.out);(case side2=>exact HC1.out);rintro e w9 ⟨va2,rfl,ho0,hb⟩;refine⟨_,rfl,?_⟩;have HOa3:=zk (Kd.N_lower (Kd.N_mono (ok':=fun k_=>True) ho0 (fun k_ hk_=>trivial)) (below_size (zB HB.out)));replace HB:=yS HB hb;(try clear hb ho0)))
 go_ret2
 exact⟨zE,zB HB.out⟩
set_option maxHeartbeats 8000000 in
set_option maxRecDepth 100000 in
theorem r1_Zero.calls (k:Nat) (A0:Option Addr) (c0:Nat) (l0:List Int) (r:Bool) (w:World) (hr0:Kd.C (Kd.int .u32) w A0 l0.length l0) (hc0:l0.length≤c0) (h:r1_Zero.f k l0=some r):
 Calls Try.prog 27 #[.slice A0 l0.length c0] w fun e w'=>e= .returned (.bool r)∧Below w.heap.size w w':=by
 have HR0:=zk hr0
 have HC0:=zk hc0
 clear hr0 hc0
 have HB:=zk (Below.refl w.heap.size w)
 have H:=h
 clear h
 unfold r1_Zero.f at H
 replace H:=zb H
 obtain⟨ta1,A2,H⟩:=H
 obtain rfl:=Option.some.inj H
 go_enter Try.func27,Try.ntmps27
 go_wp2_with (first|((with_reducible refine gC 75 ?_);refine zG (some 4) Try.func75 #[.slice A0 l0.length c0] ?_;(with_reducible refine(r1_Trim.calls k _ _ l0 ta1 _ ?side1 ?side2 A2.out).mono ?_);(case side1=>exact zC HR0.out);(case side2=>exact HC0.out);rintro e w3 ⟨va2,rfl,ho0,hb⟩;refine⟨_,rfl,?_⟩;have HOa3:=yRl ho0 HB;replace HB:=yS HB hb;(try clear hb ho0);obtain⟨Ao4,co4,rfl⟩:=Kd.R_slice HOa3.out))
 go_ret
 exact⟨zE,zB HB.out⟩
set_option maxHeartbeats 8000000 in
set_option maxRecDepth 100000 in
theorem r24_nonzero.calls (k:Nat) (A0:Option Addr) (c0:Nat) (l0:List (List Int)) (a1:Int) (r:Int) (w:World) (hr0:Kd.C (Kd.slice 97 (Kd.int .u32)) w A0 l0.length l0) (hc0:l0.length≤c0) (h:r24_nonzero.f k l0 a1=some r):
 Calls Try.prog 92 #[.slice A0 l0.length c0, .int .i64 a1] w fun e w'=>e= .returned (.int .i64 r)∧Below w.heap.size w w':=by
 have HR0:=zk hr0
 have HC0:=zk hc0
 clear hr0 hc0
 have HB:=zk (Below.refl w.heap.size w)
 have H:=h
 clear h
 unfold r24_nonzero.f at H
 have H':=zk H
 clear H
 go_enter Try.func92,Try.ntmps92
 go_wp2
 go_loopg [5,6] k (fun kq v5 v6 w'=>∃(x5_1:Int) (x6_1:Int),v5= .int .i64 x5_1∧v6= .int .i64 x6_1∧Aside0 (r24_nonzero.l0 kq l0 a1 x5_1 x6_1=some r)∧Aside0 (kq≤k)∧Aside0 (Below w.heap.size w w'))
 case atStart=>exact⟨(0),(1),zF,zF,H',⟨Nat.le_refl _⟩,⟨zB HB.out⟩⟩
 clear H'
 obtain⟨x5_1,x6_1,rfl,rfl,HA,HK1,HB⟩:=hrel
 cases gk with|zero=>exact absurd HA.out (by simp [r24_nonzero.l0])|succ k1=>?_
 have H:=HA.out
 clear HA
 simp only[r24_nonzero.l0] at H
 replace H:=zid H
 rcases H with⟨c3b0,H⟩|⟨c3b0,H⟩
 ·replace H:=zgd H
  obtain⟨c4b0,H⟩:=H
  replace H:=zgd H
  obtain⟨c5b0,H⟩:=H
  replace H:=zb H
  obtain⟨ta2,A6,H⟩:=H
  by_cases c7:ta2=true
  ·subst c7
   rw[if_pos rfl] at H
   have H':=zk H
   clear H
   have pa1:0≤(x6_1:Int):=zd
   have qa1:x6_1<(l0.length:Int):=zd
   obtain⟨ada1,Aa1_0,ca1_0,ea1,hxa1_0,hla1_0,hia1_0⟩:=at_L3 HR0.out x6_1 pa1 qa1
   cases ea1
   replace hxa1_0:=(HB.out.cell (World.block_lt_of_cell? w _ hxa1_0)).trans hxa1_0
   have HRa1_0:=zk hia1_0
   have HCa1_0:=zk hla1_0
   clear hia1_0 hla1_0
   replace pa1:=eq_true pa1
   replace qa1:=eq_true qa1
   go_wp2_with (first|((with_reducible refine gC 27 ?_);refine zG (some 16) Try.func27 #[.slice Aa1_0 (rd_L3 l0 x6_1).length ca1_0] ?_;(with_reducible refine(r1_Zero.calls k1 _ _ (rd_L3 l0 x6_1) true _ ?side1 ?side2 A6.out).mono ?_);(case side1=>exact zC (Kd.C_below HRa1_0.out HB.out));(case side2=>exact HCa1_0.out);rintro e w8 ⟨rfl,hb⟩;refine⟨_,rfl,?_⟩;replace HB:=yS HB hb;(try clear hb);(try clear hb2);(try clear hk);(try clear hi)))
   go_roundg k1
   case measure=>have:=HK1.out;omega
   case rel=>exact⟨(x5_1),(wrap64 (x6_1+1)),zF,zF,H',⟨zo1 HK1⟩,⟨zB HB.out⟩⟩
  replace c7:=Bool.eq_false_iff.mpr c7
  subst c7
  rw[if_neg Bool.false_ne_true] at H
  have H':=zk H
  clear H
  have pa1:0≤(x6_1:Int):=zd
  have qa1:x6_1<(l0.length:Int):=zd
  obtain⟨ada1,Aa1_0,ca1_0,ea1,hxa1_0,hla1_0,hia1_0⟩:=at_L3 HR0.out x6_1 pa1 qa1
  cases ea1
  replace hxa1_0:=(HB.out.cell (World.block_lt_of_cell? w _ hxa1_0)).trans hxa1_0
  have HRa1_0:=zk hia1_0
  have HCa1_0:=zk hla1_0
  clear hia1_0 hla1_0
  replace pa1:=eq_true pa1
  replace qa1:=eq_true qa1
  go_wp2_with (first|((with_reducible refine gC 27 ?_);refine zG (some 16) Try.func27 #[.slice Aa1_0 (rd_L3 l0 x6_1).length ca1_0] ?_;(with_reducible refine(r1_Zero.calls k1 _ _ (rd_L3 l0 x6_1) false _ ?side1 ?side2 A6.out).mono ?_);(case side1=>exact zC (Kd.C_below HRa1_0.out HB.out));(case side2=>exact HCa1_0.out);rintro e w9 ⟨rfl,hb⟩;refine⟨_,rfl,?_⟩;replace HB:=yS HB hb;(try clear hb);(try clear hb2);(try clear hk);(try clear hi)))
  go_roundg k1
  case measure=>have:=HK1.out;omega
  case rel=>exact⟨(wrap64 (x5_1+1)),(wrap64 (x6_1+1)),zF,zF,H',⟨zo1 HK1⟩,⟨zB HB.out⟩⟩
 obtain rfl:=Option.some.inj H
 go_wp2
 go_ret
 exact⟨zE,zB HB.out⟩
set_option maxHeartbeats 8000000 in
set_option maxRecDepth 100000 in
theorem r24_External.calls (k:Nat) (A0:Option Addr) (c0:Nat) (l0:List (List Int)) (r:Int) (w:World) (hr0:Kd.C (Kd.slice 97 (Kd.int .u32)) w A0 l0.length l0) (hc0:l0.length≤c0) (h:r24_External.f k l0=some r):
 Calls Try.prog 62 #[.slice A0 l0.length c0] w fun e w'=>e= .returned (.int .i64 r)∧Below w.heap.size w w':=by
 have HR0:=zk hr0
 have HC0:=zk hc0
 clear hr0 hc0
 have HB:=zk (Below.refl w.heap.size w)
 have H:=h
 clear h
 unfold r24_External.f at H
 replace H:=zb H
 obtain⟨ta1,A2,H⟩:=H
 obtain rfl:=Option.some.inj H
 go_enter Try.func62,Try.ntmps62
 go_wp2_with (first|((with_reducible refine gC 92 ?_);refine zG (some 7) Try.func92 #[.slice A0 l0.length c0, .int .i64 (wrap64 ((l0.length:Int)-1))] ?_;(with_reducible refine(r24_nonzero.calls k _ _ l0 (wrap64 ((l0.length:Int)-1)) ta1 _ ?side1 ?side2 A2.out).mono ?_);(case side1=>exact zC HR0.out);(case side2=>exact HC0.out);rintro e w3 ⟨rfl,hb⟩;refine⟨_,rfl,?_⟩;replace HB:=yS HB hb;(try clear hb);(try clear hb2);(try clear hk);(try clear hi)))
 go_ret
 exact⟨zE,zB HB.out⟩
set_option maxHeartbeats 8000000 in
set_option maxRecDepth 100000 in
theorem w24_MacwilliamsDelsarte.calls (k:Nat) (a0_0:Int) (a0_1:Int) (A0_2:Option Addr) (c0_2:Nat) (l0_2:List Int) (a1:Int) (A2:Option Addr) (c2:Nat) (l2:List (List Int)) (A3:Option Addr) (c3:Nat) (l3:List Int) (r:Bool) (w:World) (hr0_2:Kd.C (Kd.int .i64) w A0_2 l0_2.length l0_2) (hc0_2:l0_2.length≤c0_2) (hr2:Kd.C (Kd.slice 3 (Kd.int .i64)) w A2 l2.length l2) (hc2:l2.length≤c2) (hr3:Kd.C (Kd.int .i64) w A3 l3.length l3) (hc3:l3.length≤c3) (h:w24_MacwilliamsDelsarte.f k a0_0 a0_1 l0_2 a1 l2 l3=some r):
 Calls Try.prog 15 #[.agg #[.int .i64 a0_0, .int .i64 a0_1, .slice A0_2 l0_2.length c0_2], .int .u8 a1, .slice A2 l2.length c2, .slice A3 l3.length c3] w fun e w'=>e= .returned (.bool r)∧Below w.heap.size w w':=by
 have hu24:=Try.underlying24
 have HR0_2:=zk hr0_2
 have HC0_2:=zk hc0_2
 clear hr0_2 hc0_2
 have HR2:=zk hr2
 have HC2:=zk hc2
 clear hr2 hc2
 have HR3:=zk hr3
 have HC3:=zk hc3
 clear hr3 hc3
 have HB:=zk (Below.refl w.heap.size w)
 have H:=h
 clear h
 unfold w24_MacwilliamsDelsarte.f at H
 replace H:=zb H
 obtain⟨⟨ta2,ta3,ta6,ta9,tb2⟩,A5,H⟩:=H
 dsimp only at H
 by_cases c6:tb2=true
 ·subst c6
  rw[if_pos rfl] at H
  replace H:=zb H
  obtain⟨tb3,A7,H⟩:=H
  replace H:=zb H
  obtain⟨tb4,A8,H⟩:=H
  replace H:=zb H
  obtain⟨⟨tb7,tb8⟩,A9,H⟩:=H
  dsimp only at H
  replace H:=zb H
  obtain⟨tb9,A10,H⟩:=H
  have H':=zk H
  clear H
  go_enter Try.func15,Try.ntmps15
  go_wp2_with (first|((with_reducible refine gate_dst (N:=4) rfl ?_);refine box_event ?hg (N:=4) ?hd (cs:= #[.int .i64 a0_0, .int .i64 a0_1, .slice A0_2 l0_2.length c0_2]) (t:=24) ?hr ?_;(case hd=>rfl);(case hg=>rfl);(case hr=>first|(go_simp;done)|(go_simp;rfl));intro gba1 hg w11 hbox hb;have BKa1:=zk (hbox);have GWa1:=yg hg HB;have GEa1:=yg hg HB;replace HB:=yS HB hb;clear hb hbox hg;obtain⟨hcz12_0,hcz12_1,hcz12_2,hfz12_0,hfz12_1,hfz12_2⟩:=zz3 BKa1)|((with_reducible refine gC 19 ?_);refine zG (some 23) Try.func19 #[.agg #[.int .i64 a0_0, .int .i64 a0_1, .slice A0_2 l0_2.length c0_2], .int .u8 a1, .slice A2 l2.length c2] ?_;(with_reducible refine(w24_codes.calls k a0_0 a0_1 _ _ l0_2 a1 _ _ l2 ta2 ta3 ta6 ta9 true _ ?side1 ?side2 ?side3 ?side4 A5.out).mono ?_);(case side1=>exact zC (Kd.C_below HR0_2.out HB.out));(case side2=>exact HC0_2.out);(case side3=>exact zC (Kd.C_below HR2.out HB.out));(case side4=>exact HC2.out);rintro e w13 ⟨va4,va7,vb0,rfl,ho0,ho1,ho2,hb⟩;refine⟨_,rfl,?_⟩;have HOa5:=zk (Kd.N_lower (Kd.N_mono (ok':=fun k_=>some k_≠(va7:Value).ownBlock∧k_≠gba1) ho0 (fun k_ hk_=>⟨hk_.2,(Kd.freshB (g:=gba1) (o:= .cells #[.int .i64 a0_0, .int .i64 a0_1, .slice A0_2 l0_2.length c0_2] 24 (0,0)) (zK BKa1.out) k_ hk_.1)⟩)) (below_size (zB1 HB.out GEa1.out)));have HOa8:=zk (Kd.N_lower (Kd.N_mono (ok':=fun k_=>some k_≠(va4:Value).ownBlock∧k_≠gba1) ho1 (fun k_ hk_=>⟨hk_.2,(Kd.freshB (g:=gba1) (o:= .cells #[.int .i64 a0_0, .int .i64 a0_1, .slice A0_2 l0_2.length c0_2] 24 (0,0)) (zK BKa1.out) k_ hk_.1)⟩)) (below_size (zB1 HB.out GEa1.out)));have HOb1:=zk (Kd.V_lower (Kd.V_mono (ok':=fun k_=>some k_≠(va4:Value).ownBlock∧some k_≠(va7:Value).ownBlock∧k_≠gba1) ho2 (fun k_ hk_=>⟨hk_.2.1,hk_.2.2,(Kd.freshB (g:=gba1) (o:= .cells #[.int .i64 a0_0, .int .i64 a0_1, .slice A0_2 l0_2.length c0_2] 24 (0,0)) (zK BKa1.out) k_ hk_.1)⟩)) (below_size (zB1 HB.out GEa1.out)));replace BKa1:=yK BKa1 hb;replace HB:=yS1 HB GEa1 hb;(try clear hb ho0);(try clear ho1);(try clear ho2);obtain⟨hcz14_0,hcz14_1,hcz14_2,hfz14_0,hfz14_1,hfz14_2⟩:=zz3 BKa1)|((with_reducible refine gC 24 ?_);refine zG (some 33) Try.func24 #[.agg #[.int .i64 a0_0, .int .i64 a0_1, .slice A0_2 l0_2.length c0_2]] ?_;(with_reducible refine(r4_Order.calls k a0_0 a0_1 _ _ l0_2 tb3 _ ?side1 ?side2 A7.out).mono ?_);(case side1=>exact zC (Kd.C_below HR0_2.out HB.out));(case side2=>exact HC0_2.out);rintro e w15 ⟨rfl,hb⟩;refine⟨_,rfl,?_⟩;replace HOa5:=yNb HOa5 hb;replace HOa8:=yNb HOa8 hb;replace HOb1:=yVb HOb1 hb;replace BKa1:=yK BKa1 hb;replace HB:=yS1 HB GEa1 hb;(try clear hb);(try clear hb2);(try clear hk);(try clear hi);obtain⟨Ao16,co16,rfl⟩:=Kd.N_slice HOa5.out)|((with_reducible refine gC 21 ?_);refine zG (some 36) Try.func21 #[.int .i64 ta2, .slice Ao16 ta3.length co16] ?_;(with_reducible refine(r24_Weights.calls k ta2 _ _ ta3 tb4 _ ?side1 ?side2 A8.out).mono ?_);(case side1=>exact zC (Kd.N_reads' HOa5.out).2.2);(case side2=>exact(Kd.N_reads' HOa5.out).2.1);rintro e w17 ⟨vb5,rfl,ho0,hb⟩;refine⟨_,rfl,?_⟩;replace HOb1:=zk (Kd.V_elder' (zV HOb1.out) (Kd.S_base ho0) hb);have HOb6:=zk (Kd.N_lower (Kd.N_mono (ok':=fun k_=>some k_≠(.slice Ao16 ta3.length co16:Value).ownBlock∧some k_≠(va7:Value).ownBlock∧k_≠gba1) (Kd.S_N (Kd.S_bound ho0)) (fun k_ hk_=>⟨(Kd.fresh' (Kd.N_lt (zN HOa5.out)) k_ hk_.2.1),(Kd.fresh' (Kd.N_lt (zN HOa8.out)) k_ hk_.2.1),(Kd.freshB (g:=gba1) (o:= .cells #[.int .i64 a0_0, .int .i64 a0_1, .slice A0_2 l0_2.length c0_2] 24 (0,0)) (zK BKa1.out) k_ hk_.2.1)⟩)) (below_size (zB1 HB.out GEa1.out)));replace HOa5:=zk (Kd.N_elder' (zN HOa5.out) (Kd.S_base ho0) hb);replace HOa8:=zk (Kd.N_elder' (zN HOa8.out) (Kd.S_base ho0) hb);replace BKa1:=yK BKa1 hb;replace HB:=yS1 HB GEa1 hb;(try clear hb ho0);obtain⟨Ao18,co18,rfl⟩:=Kd.N_slice HOb6.out)|((with_reducible refine gC 59 ?_);refine zG (some 37) Try.func59 #[.int .i64 tb3, .slice Ao18 tb4.length co18] ?_;(with_reducible refine(mw_External.calls k tb3 _ _ tb4 tb7 tb8 _ ?side1 ?side2 A9.out).mono ?_);(case side1=>exact zC (Kd.N_reads' HOb6.out).2.2);(case side2=>exact(Kd.N_reads' HOb6.out).2.1);rintro e w19 ⟨rfl,hb⟩;refine⟨_,rfl,?_⟩;replace HOa5:=yNb HOa5 hb;replace HOa8:=yNb HOa8 hb;replace HOb1:=yVb HOb1 hb;replace HOb6:=yNb HOb6 hb;replace BKa1:=yK BKa1 hb;replace HB:=yS1 HB GEa1 hb;(try clear hb);(try clear hb2);(try clear hk);(try clear hi);obtain⟨hcz20_0,hcz20_1,hcz20_2,hfz20_0,hfz20_1,hfz20_2⟩:=zz3 BKa1)|((with_reducible refine gC 60 ?_);refine zG (some 43) Try.func60 #[.agg #[.int .i64 a0_0, .int .i64 a0_1, .slice A0_2 l0_2.length c0_2], .int .i64 ta2, .slice A3 l3.length c3] ?_;(with_reducible refine(r24_Row.calls k a0_0 a0_1 _ _ l0_2 ta2 _ _ l3 tb9 _ ?side1 ?side2 ?side3 ?side4 A10.out).mono ?_);(case side1=>exact zC (Kd.C_below HR0_2.out HB.out));(case side2=>exact HC0_2.out);(case side3=>exact zC (Kd.C_below HR3.out HB.out));(case side4=>exact HC3.out);rintro e w21 ⟨vc0,rfl,ho0,hb⟩;refine⟨_,rfl,?_⟩;replace HOa5:=yNe HOa5 ho0 hb;replace HOa8:=yNe HOa8 ho0 hb;replace HOb1:=yVe HOb1 ho0 hb;replace HOb6:=yNe HOb6 ho0 hb;have HOc1:=yRl1 ho0 HB GEa1;replace BKa1:=yK BKa1 hb;replace HB:=yS1 HB GEa1 hb;(try clear hb ho0)))
  go_loopg [17,18] k (fun kq v17 v18 w'=>∃(x17_1:Int) (x18_1:Int),v17= .int .i64 x17_1∧v18= .int .i64 x18_1∧Aside0 (w24_MacwilliamsDelsarte.l0 kq ta2 ta3 ta6 tb7 tb8 tb9 x17_1 x18_1=some r)∧Aside0 (kq≤k)∧Aside0 (Kd.N (Kd.slice 3 (Kd.int .i64)) 22 w' w.heap.size (fun k_=>some k_≠(va7:Value).ownBlock∧some k_≠(vc0:Value).ownBlock∧k_≠gba1) (.slice Ao16 ta3.length co16) ta3)∧Aside0 (Kd.N (Kd.slice 3 (Kd.int .i64)) 22 w' w.heap.size (fun k_=>some k_≠((.slice Ao16 ta3.length co16):Value).ownBlock∧some k_≠(vc0:Value).ownBlock∧k_≠gba1) va7 ta6)∧Aside0 (Kd.R (Kd.int .i64) 3 w' w.heap.size (fun _=>True) vc0 tb9)∧Aside0 (w'.heap[gba1]?=some (.cells #[.int .i64 a0_0, .int .i64 a0_1,(.slice A0_2 l0_2.length c0_2)] 24 (0,0)))∧Aside0 (Below w.heap.size w w'))
  case atStart=>exact⟨(ta2),(0),zF,zF,H',⟨Nat.le_refl _⟩,⟨by(with_reducible repeat(first|apply Kd.N_alloc|apply Kd.N_drewN|apply Kd.N_drew));exact Kd.N_mono HOa5.out (fun _ hk=>⟨hk.1.1.1,⟨hk.2,hk.1.1.2⟩⟩)⟩,⟨by(with_reducible repeat(first|apply Kd.N_alloc|apply Kd.N_drewN|apply Kd.N_drew));exact Kd.N_mono HOa8.out (fun _ hk=>⟨hk.1.1.1,⟨hk.2,hk.1.1.2⟩⟩)⟩,⟨zR HOc1.out⟩,⟨zK BKa1.out⟩,⟨zB1 HB.out GEa1.out⟩⟩
  clear H'
  (try clear c6);(try clear hcz12_0);(try clear hcz12_1);(try clear hcz12_2);(try clear hcz14_0);(try clear hcz14_1);(try clear hcz14_2);(try clear hcz20_0);(try clear hcz20_1);(try clear hcz20_2);(try clear hfz12_0);(try clear hfz12_1);(try clear hfz12_2);(try clear hfz14_0);(try clear hfz14_1);(try clear hfz14_2);(try clear hfz20_0);(try clear hfz20_1);(try clear hfz20_2)
  obtain⟨x17_1,x18_1,rfl,rfl,HA,HK1,HO_10,HO_11,HO_16,BKa1,HB⟩:=hrel
  cases gk with|zero=>exact absurd HA.out (by simp [w24_MacwilliamsDelsarte.l0])|succ k1=>?_
  have H:=HA.out
  clear HA
  simp only[w24_MacwilliamsDelsarte.l0] at H
  replace H:=zid H
  rcases H with⟨c22b0,H⟩|⟨c22b0,H⟩
  ·replace H:=zgd H
   obtain⟨c23b0,H⟩:=H
   replace H:=zb H
   obtain⟨tc3,A24,H⟩:=H
   obtain⟨ji25,hji25⟩:∃j_:Int,(mn x17_1 tc3)=j_:=⟨_,rfl⟩
   replace H:(w24_MacwilliamsDelsarte.l0 k1 ta2 ta3 ta6 tb7 tb8 tb9 ji25 (wrap64 (x18_1+1)))=some r:=by first|(rw[hji25] at H;exact H)|(simp only[hji25] at H ⊢;exact H)
   (try rw[hji25] at A24)
   have hji25_:(if tc3<x17_1 then tc3 else x17_1)=ji25:=hji25
   have H':=zk H
   clear H
   have pc2:0≤(x18_1:Int):=zd
   have qc2:x18_1<(ta3.length:Int):=zd
   obtain⟨adc2,Ac2_0,cc2_0,ec2,hxc2_0,hlc2_0,hic2_0⟩:=at_L1 (Kd.N_reads' HO_10.out).2.2 x18_1 pc2 qc2
   cases ec2
   obtain⟨cec2,hcec2,hMec2,hccc2⟩:=Kd.N_get HO_10.out [] x18_1 pc2 (by first|exact qc2|exact zd|(have e_:=(Kd.N_reads' HO_10.out).1;omega))
   obtain⟨uac2_0,ucc2_0,rfl,ulc2_0,gec2_0⟩:=Kd.FK_slice_open hMec2
   have hvc2_0:=hccc2 0 _ rfl
   rw[Nat.add_zero,show((Kd.slice 3 (Kd.int .i64))).sz=1 from rfl,Nat.mul_one] at hvc2_0
   replace hvc2_0:=Option.some.inj (hvc2_0.symm.trans hxc2_0)
   injection hvc2_0 with hva_ hvn_ hvc_
   rw[hva_] at gec2_0
   rw[hvc_] at ulc2_0
   have HLc2_0:=zk (show Kd.V (Kd.int .i64) 3 _ w.heap.size _ _ (rd_L1 ta3 x18_1) from Kd.V_mk ulc2_0 gec2_0)
   clear hva_ hvn_ hvc_ gec2_0 ulc2_0
   clear hccc2 hcec2
   have HRc2_0:=zk hic2_0
   have HCc2_0:=zk hlc2_0
   clear hic2_0 hlc2_0
   replace pc2:=eq_true pc2
   replace qc2:=eq_true qc2
   obtain⟨Ao26,co26,rfl⟩:=Kd.R_slice HO_16.out
   go_wp2_with (first|((with_reducible refine gC 61 ?_);refine zG (some 57) Try.func61 #[.slice Ac2_0 (rd_L1 ta3 x18_1).length cc2_0, .slice Ao26 tb9.length co26] ?_;(with_reducible refine(r24_Distance.calls k1 _ _ (rd_L1 ta3 x18_1) _ _ tb9 tc3 _ ?side1 ?side2 ?side3 ?side4 A24.out).mono ?_);(case side1=>repeat(first|exact(zCr HRc2_0.out)|(with_reducible refine Kd.C_alloc ?_ _)|(with_reducible refine Kd.C_drewN ?_ _)|(with_reducible refine Kd.C_drew ?_)));(case side2=>exact HCc2_0.out);(case side3=>exact zC (Kd.R_reads' HO_16.out).2.2);(case side4=>exact(Kd.R_reads' HO_16.out).2.1);rintro e w' ⟨rfl,⟨nd,rfl⟩⟩;refine⟨_,rfl,?_⟩))
   go_roundg k1
   case measure=>have:=HK1.out;omega
   case rel=>exact⟨(ji25),(wrap64 (x18_1+1)),(by first|rfl|(simp;done)|(simp only[←hji25]<;>(first|rfl|simp))|(simp [*];done)),zF,H',⟨zo1 HK1⟩,⟨zN HO_10.out⟩,⟨zN HO_11.out⟩,⟨zR HO_16.out⟩,⟨zK BKa1.out⟩,⟨zB1 HB.out GEa1.out⟩⟩
  replace H:=zi H
  rcases H with⟨c27,H⟩|⟨c27,H⟩
  ·have c27b0:=beq_iff_eq.mpr c27
   have c27b1:=bne_eq_false_iff_eq.mpr c27
   clear c27
   replace H:=zb H
   obtain⟨tc4,A28,H⟩:=H
   replace H:=zb H
   obtain⟨tc7,A29,H⟩:=H
   replace H:=zi H
   rcases H with⟨c30,H⟩|⟨c30,H⟩
   ·have c30b0:=beq_iff_eq.mpr c30
    have c30b1:=bne_eq_false_iff_eq.mpr c30
    clear c30
    obtain rfl:=Option.some.inj H
    obtain⟨Ao31,co31,rfl⟩:=Kd.N_slice HO_11.out
    go_wp2_with (first|(go_at_call 21;(with_reducible refine(r24_Weights.calls k1 ta2 _ _ ta6 tc4 _ ?side1 ?side2 A28.out).mono ?_);(case side1=>exact zC (Kd.N_reads' HO_11.out).2.2);(case side2=>exact(Kd.N_reads' HO_11.out).2.1);rintro e w32 ⟨vc5,rfl,ho0,hb⟩;have HOc6:=zk (Kd.N_lower (Kd.N_mono (ok':=fun k_=>some k_≠(.slice Ao16 ta3.length co16:Value).ownBlock∧some k_≠(.slice Ao31 ta6.length co31:Value).ownBlock∧some k_≠(vc0:Value).ownBlock∧k_≠gba1) (Kd.S_N (Kd.S_bound ho0)) (fun k_ hk_=>⟨(Kd.fresh' (Kd.N_lt (zN HO_10.out)) k_ hk_.2.1),(Kd.fresh' (Kd.N_lt (zN HO_11.out)) k_ hk_.2.1),(Kd.fresh' (Kd.R_lt (zR HO_16.out)) k_ hk_.2.1),(Kd.freshB (g:=gba1) (o:= .cells #[.int .i64 a0_0, .int .i64 a0_1, .slice A0_2 l0_2.length c0_2] 24 (0,0)) (zK BKa1.out) k_ hk_.2.1)⟩)) (below_size (zB1 HB.out GEa1.out)));replace HO_10:=zk (Kd.N_elder' (zN HO_10.out) (Kd.S_base ho0) hb);replace HO_11:=zk (Kd.N_elder' (zN HO_11.out) (Kd.S_base ho0) hb);replace HO_16:=yRb HO_16 hb;replace BKa1:=yK BKa1 hb;replace HB:=yS1 HB GEa1 hb;(try clear hb ho0);obtain⟨Ao33,co33,rfl⟩:=Kd.N_slice HOc6.out)|(go_at_call 62;(with_reducible refine(r24_External.calls k1 _ _ tc4 tc7 _ ?side1 ?side2 A29.out).mono ?_);(case side1=>exact zC (Kd.N_reads' HOc6.out).2.2);(case side2=>exact(Kd.N_reads' HOc6.out).2.1);rintro e w34 ⟨rfl,hb⟩;replace HO_10:=yNb HO_10 hb;replace HO_11:=yNb HO_11 hb;replace HO_16:=yRb HO_16 hb;replace HOc6:=yNb HOc6 hb;replace BKa1:=yK BKa1 hb;replace HB:=yS1 HB GEa1 hb;(try clear hb);(try clear hb2);(try clear hk);(try clear hi)))
    go_ret
    exact⟨zE,zB1 HB.out GEa1.out⟩
   have c30b0:=beq_eq_false_iff_ne.mpr c30
   have c30b1:=bne_iff_ne.mpr c30
   obtain rfl:=Option.some.inj H
   obtain⟨Ao35,co35,rfl⟩:=Kd.N_slice HO_11.out
   go_wp2_with (first|(go_at_call 21;(with_reducible refine(r24_Weights.calls k1 ta2 _ _ ta6 tc4 _ ?side1 ?side2 A28.out).mono ?_);(case side1=>exact zC (Kd.N_reads' HO_11.out).2.2);(case side2=>exact(Kd.N_reads' HO_11.out).2.1);rintro e w36 ⟨vc5,rfl,ho0,hb⟩;have HOc6:=zk (Kd.N_lower (Kd.N_mono (ok':=fun k_=>some k_≠(.slice Ao16 ta3.length co16:Value).ownBlock∧some k_≠(.slice Ao35 ta6.length co35:Value).ownBlock∧some k_≠(vc0:Value).ownBlock∧k_≠gba1) (Kd.S_N (Kd.S_bound ho0)) (fun k_ hk_=>⟨(Kd.fresh' (Kd.N_lt (zN HO_10.out)) k_ hk_.2.1),(Kd.fresh' (Kd.N_lt (zN HO_11.out)) k_ hk_.2.1),(Kd.fresh' (Kd.R_lt (zR HO_16.out)) k_ hk_.2.1),(Kd.freshB (g:=gba1) (o:= .cells #[.int .i64 a0_0, .int .i64 a0_1, .slice A0_2 l0_2.length c0_2] 24 (0,0)) (zK BKa1.out) k_ hk_.2.1)⟩)) (below_size (zB1 HB.out GEa1.out)));replace HO_10:=zk (Kd.N_elder' (zN HO_10.out) (Kd.S_base ho0) hb);replace HO_11:=zk (Kd.N_elder' (zN HO_11.out) (Kd.S_base ho0) hb);replace HO_16:=yRb HO_16 hb;replace BKa1:=yK BKa1 hb;replace HB:=yS1 HB GEa1 hb;(try clear hb ho0);obtain⟨Ao37,co37,rfl⟩:=Kd.N_slice HOc6.out)|(go_at_call 62;(with_reducible refine(r24_External.calls k1 _ _ tc4 tc7 _ ?side1 ?side2 A29.out).mono ?_);(case side1=>exact zC (Kd.N_reads' HOc6.out).2.2);(case side2=>exact(Kd.N_reads' HOc6.out).2.1);rintro e w38 ⟨rfl,hb⟩;replace HO_10:=yNb HO_10 hb;replace HO_11:=yNb HO_11 hb;replace HO_16:=yRb HO_16 hb;replace HOc6:=yNb HOc6 hb;replace BKa1:=yK BKa1 hb;replace HB:=yS1 HB GEa1 hb;(try clear hb);(try clear hb2);(try clear hk);(try clear hi)))
   go_ret
   exact⟨zE,zB1 HB.out GEa1.out⟩
  have c27b0:=beq_eq_false_iff_ne.mpr c27
  have c27b1:=bne_iff_ne.mpr c27
  obtain rfl:=Option.some.inj H
  go_wp2
  go_ret
  exact⟨zE,zB1 HB.out GEa1.out⟩
 replace c6:=Bool.eq_false_iff.mpr c6
 subst c6
 rw[if_neg Bool.false_ne_true] at H
 obtain rfl:=Option.some.inj H
 go_enter Try.func15,Try.ntmps15
 go_wp2_with (first|((with_reducible refine gate_dst (N:=4) rfl ?_);refine box_event ?hg (N:=4) ?hd (cs:= #[.int .i64 a0_0, .int .i64 a0_1, .slice A0_2 l0_2.length c0_2]) (t:=24) ?hr ?_;(case hd=>rfl);(case hg=>rfl);(case hr=>first|(go_simp;done)|(go_simp;rfl));intro gba1 hg w39 hbox hb;have BKa1:=zk (hbox);have GWa1:=yg hg HB;have GEa1:=yg hg HB;replace HB:=yS HB hb;clear hb hbox hg;obtain⟨hcz40_0,hcz40_1,hcz40_2,hfz40_0,hfz40_1,hfz40_2⟩:=zz3 BKa1)|((with_reducible refine gC 19 ?_);refine zG (some 23) Try.func19 #[.agg #[.int .i64 a0_0, .int .i64 a0_1, .slice A0_2 l0_2.length c0_2], .int .u8 a1, .slice A2 l2.length c2] ?_;(with_reducible refine(w24_codes.calls k a0_0 a0_1 _ _ l0_2 a1 _ _ l2 ta2 ta3 ta6 ta9 false _ ?side1 ?side2 ?side3 ?side4 A5.out).mono ?_);(case side1=>exact zC (Kd.C_below HR0_2.out HB.out));(case side2=>exact HC0_2.out);(case side3=>exact zC (Kd.C_below HR2.out HB.out));(case side4=>exact HC2.out);rintro e w41 ⟨va4,va7,vb0,rfl,ho0,ho1,ho2,hb⟩;refine⟨_,rfl,?_⟩;have HOa5:=zk (Kd.N_lower (Kd.N_mono (ok':=fun k_=>some k_≠(va7:Value).ownBlock∧k_≠gba1) ho0 (fun k_ hk_=>⟨hk_.2,(Kd.freshB (g:=gba1) (o:= .cells #[.int .i64 a0_0, .int .i64 a0_1, .slice A0_2 l0_2.length c0_2] 24 (0,0)) (zK BKa1.out) k_ hk_.1)⟩)) (below_size (zB1 HB.out GEa1.out)));have HOa8:=zk (Kd.N_lower (Kd.N_mono (ok':=fun k_=>some k_≠(va4:Value).ownBlock∧k_≠gba1) ho1 (fun k_ hk_=>⟨hk_.2,(Kd.freshB (g:=gba1) (o:= .cells #[.int .i64 a0_0, .int .i64 a0_1, .slice A0_2 l0_2.length c0_2] 24 (0,0)) (zK BKa1.out) k_ hk_.1)⟩)) (below_size (zB1 HB.out GEa1.out)));have HOb1:=zk (Kd.V_lower (Kd.V_mono (ok':=fun k_=>some k_≠(va4:Value).ownBlock∧some k_≠(va7:Value).ownBlock∧k_≠gba1) ho2 (fun k_ hk_=>⟨hk_.2.1,hk_.2.2,(Kd.freshB (g:=gba1) (o:= .cells #[.int .i64 a0_0, .int .i64 a0_1, .slice A0_2 l0_2.length c0_2] 24 (0,0)) (zK BKa1.out) k_ hk_.1)⟩)) (below_size (zB1 HB.out GEa1.out)));replace BKa1:=yK BKa1 hb;replace HB:=yS1 HB GEa1 hb;(try clear hb ho0);(try clear ho1);(try clear ho2)))
 go_ret
 exact⟨zE,zB1 HB.out GEa1.out⟩
end Go.Proofs.Ytifkbghnmhineaa.PAll
section
namespace Mw
def sm:Nat→(Nat→Int)→Int
 |0,_=>0
 |n+1,f=>sm n f+f n
theorem sm_congr {n:Nat} {f g:Nat→Int} (h:∀i,i<n→f i=g i):sm n f=sm n g:=by
 induction n with
 |zero=>rfl
 |succ n ih=>simp only[sm];rw[ih (fun i hi=>h i (by omega)),h n (by omega)]
theorem sm_zero {n:Nat} {f:Nat→Int} (h:∀i,i<n→f i=0):sm n f=0:=by
 induction n with
 |zero=>rfl
 |succ n ih=>simp only[sm];rw[ih (fun i hi=>h i (by omega)),h n (by omega)];rfl
theorem sm_add (n:Nat) (f g:Nat→Int):sm n (fun i=>f i+g i)=sm n f+sm n g:=by
 induction n with
 |zero=>rfl
 |succ n ih=>simp only[sm];rw[ih];omega
theorem sm_sub (n:Nat) (f g:Nat→Int):sm n (fun i=>f i-g i)=sm n f-sm n g:=by
 induction n with
 |zero=>rfl
 |succ n ih=>simp only[sm];rw[ih];omega
theorem sm_mul (n:Nat) (c:Int) (f:Nat→Int):sm n (fun i=>c*f i)=c*sm n f:=by
 induction n with
 |zero=>simp [sm]
 |succ n ih=>simp only[sm];rw[ih,Int.mul_add]
theorem sm_mul_right (n:Nat) (c:Int) (f:Nat→Int):sm n (fun i=>f i*c)=sm n f*c:=by
 induction n with
 |zero=>simp [sm]
 |succ n ih=>simp only[sm];rw[ih,Int.add_mul]
theorem sm_head (n:Nat) (f:Nat→Int):sm (n+1) f=f 0+sm n (fun i=>f (i+1)):=by
 induction n with
 |zero=>simp [sm]
 |succ n ih=>rw[sm,ih];simp only[sm];omega
theorem sm_swap (m n:Nat) (f:Nat→Nat→Int):sm m (fun i=>sm n (fun j=>f i j))=sm n (fun j=>sm m (fun i=>f i j)):=by
 induction m with
 |zero=>simp only[sm];exact(sm_zero (fun _ _=>rfl)).symm
 |succ m ih=>simp only[sm];rw[ih,sm_add]
theorem sm_single {n a:Nat} {f:Nat→Int} (ha:a<n) (h:∀i,i<n→i≠a→f i=0):sm n f=f a:=by
 induction n with
 |zero=>omega
 |succ n ih=>
  simp only[sm]
  by_cases e:a=n
  ·subst e;rw[sm_zero (fun i hi=>h i (by omega) (by omega))];omega
  ·rw[ih (by omega) (fun i hi hne=>h i (by omega) hne),h n (by omega) (by omega)];omega
theorem sm_more {m n:Nat} (h:m≤n) {f:Nat→Int} (hf:∀i,m≤i→f i=0):sm n f=sm m f:=by
 induction n with
 |zero=>
  have:m=0:=by omega
  subst this;rfl
 |succ n ih=>
  by_cases e:m=n+1
  ·subst e;rfl
  ·simp only[sm];rw[ih (by omega),hf n (by omega)];omega
theorem sm_more' {m n:Nat} (h:m≤n) {f:Nat→Int} (hf:∀i,m≤i→i<n→f i=0):sm n f=sm m f:=by
 induction n with
 |zero=>
  have:m=0:=by omega
  subst this;rfl
 |succ n ih=>
  by_cases e:m=n+1
  ·subst e;rfl
  ·simp only[sm];rw[ih (by omega) (fun i h1 h2=>hf i h1 (by omega)),hf n (by omega) (by omega)];omega
theorem sm_rev (n:Nat) (f:Nat→Int):sm (n+1) f=sm (n+1) (fun i=>f (n-i)):=by
 induction n generalizing f with
 |zero=>rfl
 |succ n ih=>
  rw[sm_head (n+1) (fun i=>f (n+1-i))]
  rw[sm]
  rw[ih f]
  have:sm (n+1) (fun i=>f (n+1-(i+1)))=sm (n+1) (fun i=>f (n-i)):=sm_congr (fun i _=>by rw[Nat.add_sub_add_right])
  rw[this]
  simp only[Nat.sub_zero]
  omega
theorem sm_nonneg {n:Nat} {f:Nat→Int} (h:∀i,i<n→0≤f i):0≤sm n f:=by
 induction n with
 |zero=>exact Int.le_refl 0
 |succ n ih=>simp only[sm];have:=ih (fun i hi=>h i (by omega));have:=h n (by omega);omega
theorem sm_le {n:Nat} {f g:Nat→Int} (h:∀i,i<n→f i≤g i):sm n f≤sm n g:=by
 induction n with
 |zero=>exact Int.le_refl 0
 |succ n ih=>simp only[sm];have:=ih (fun i hi=>h i (by omega));have:=h n (by omega);omega
theorem poly_zero:∀(n:Nat) (c:Nat→Int),(∀z:Int,z≠0→sm n (fun i=>c i*z^i)=0)→∀i,i<n→c i=0:=by
 intro n
 induction n with
 |zero=>intro c _ i hi;omega
 |succ n ih=>
  intro c h
  have step:∀z:Int,c 0+z*sm n (fun i=>c (i+1)*z^i)=sm (n+1) (fun i=>c i*z^i):=by
   intro z
   rw[sm_head,←sm_mul]
   have:sm n (fun i=>z*(c (i+1)*z^i))=sm n (fun i=>c (i+1)*z^(i+1)):=sm_congr (fun i _=>by rw[Int.pow_succ];grind)
   rw[this];simp
  have h0:c 0=0:=by
   have hsq:0≤c 0*c 0:=by
    rcases Int.le_total 0 (c 0) with g|g
    ·exact Int.mul_nonneg g g
    ·exact Int.mul_nonneg_of_nonpos_of_nonpos g g
   have hz:=h (c 0*c 0+1) (by omega)
   rw[←step] at hz
   have hd:(c 0*c 0+1)∣c 0:=⟨-(sm n (fun i=>c (i+1)*(c 0*c 0+1)^i)),by grind⟩
   refine Decidable.byContradiction fun hne=>?_
   have hle:=Int.natAbs_dvd_natAbs.mpr hd
   have hpos:0<(c 0).natAbs:=by omega
   have hle2:=Nat.le_of_dvd hpos hle
   have h1:(c 0*c 0+1).natAbs=(c 0).natAbs*(c 0).natAbs+1:=by
    have e:c 0*c 0=(((c 0).natAbs*(c 0).natAbs:Nat):Int):=by
     rw[Int.natCast_mul,←Int.natAbs_mul_self' (c 0)]
    rw[e];omega
   rw[h1] at hle2
   have:(c 0).natAbs*1≤(c 0).natAbs*(c 0).natAbs:=Nat.mul_le_mul_left _ hpos
   omega
  have hrest:=ih (fun i=>c (i+1)) (by
   intro z hz
   have:=h z hz
   rw[←step,h0,Int.zero_add] at this
   rcases Int.mul_eq_zero.mp this with e|e
   ·exact absurd e hz
   ·exact e)
  intro i hi
  cases i with
  |zero=>exact h0
  |succ i=>exact hrest i (by omega)
theorem poly_eq {n:Nat} {c d:Nat→Int} (h:∀z:Int,sm n (fun i=>c i*z^i)=sm n (fun i=>d i*z^i)):∀i,i<n→c i=d i:=by
 intro i hi
 have:=poly_zero n (fun i=>c i-d i) (by
  intro z _
  have e:sm n (fun i=>(c i-d i)*z^i)=sm n (fun i=>c i*z^i-d i*z^i):=sm_congr (fun i _=>by rw[Int.sub_mul])
  rw[e,sm_sub,h z];omega) i hi
 have this:c i-d i=0:=this
 omega
def bin:Nat→Nat→Nat
 |_,0=>1
 |0,_+1=>0
 |n+1,k+1=>bin n k+bin n (k+1)
theorem bin_zero (n:Nat):bin n 0=1:=by cases n<;>rfl
theorem bin_succ (n k:Nat):bin (n+1) (k+1)=bin n k+bin n (k+1):=rfl
theorem bin_above:∀{n k:Nat},n<k→bin n k=0
 |0,0,h=>by omega
 |0,_+1,_=>rfl
 |n+1,0,h=>by omega
 |n+1,k+1,h=>by rw[bin_succ,bin_above (n:=n) (k:=k) (by omega),bin_above (n:=n) (k:=k+1) (by omega)]
theorem bin_self (n:Nat):bin n n=1:=by
 induction n with
 |zero=>rfl
 |succ n ih=>rw[bin_succ,ih,bin_above (by omega)]
theorem bin_one (n:Nat):bin n 1=n:=by
 induction n with
 |zero=>rfl
 |succ n ih=>rw[bin_succ,ih,bin_zero];omega
theorem bin_step:∀(n k:Nat),(k+1)*bin n (k+1)=(n-k)*bin n k
 |0,k=>by rw[bin_above (by omega)];simp
 |n+1,0=>by rw[bin_one,bin_zero];omega
 |n+1,k+1=>by
  rw[bin_succ,bin_succ]
  have h1:=bin_step n k
  have h2:=bin_step n (k+1)
  by_cases hk:k+1≤n
  ·obtain⟨m,rfl⟩:∃m,n=m+(k+1):=⟨n-(k+1),by omega⟩
   rw[show m+(k+1)-k=m+1 by omega] at h1
   rw[show m+(k+1)-(k+1)=m by omega] at h2
   rw[show m+(k+1)+1-(k+1)=m+1 by omega]
   grind
  ·by_cases hk2:k=n
   ·subst hk2
    rw[bin_above (n:=k) (k:=k+1+1) (by omega),bin_above (n:=k) (k:=k+1) (by omega)];simp
   ·rw[bin_above (n:=n) (k:=k+1+1) (by omega),bin_above (n:=n) (k:=k+1) (by omega),bin_above (n:=n) (k:=k) (by omega)];simp
theorem bin_symm:∀{n k:Nat},k≤n→bin n (n-k)=bin n k
 |0,k,h=>by
  have:k=0:=by omega
  subst this;rfl
 |n+1,0,_=>by rw[Nat.sub_zero,bin_self,bin_zero]
 |n+1,k+1,h=>by
  rw[Nat.add_sub_add_right]
  by_cases e:k=n
  ·subst e;rw[Nat.sub_self,bin_zero,bin_self]
  ·obtain⟨m,hm⟩:∃m,n-k=m+1:=⟨n-k-1,by omega⟩
   rw[hm,bin_succ,bin_succ]
   have h1:=bin_symm (n:=n) (k:=k) (by omega)
   have h2:=bin_symm (n:=n) (k:=k+1) (by omega)
   rw[hm] at h1
   rw[show n-(k+1)=m by omega] at h2
   omega
theorem binomial (n:Nat) (u w:Int):(u+w)^n=sm (n+1) (fun i=>(bin n i:Int)*u^(n-i)*w^i):=by
 induction n with
 |zero=>simp [sm,bin]
 |succ n ih=>
  have e1:u*sm (n+1) (fun i=>(bin n i:Int)*u^(n-i)*w^i)=sm (n+2) (fun i=>(bin n i:Int)*u^(n+1-i)*w^i):=by
   rw[←sm_mul,sm.eq_def (n+2)]
   simp only[]
   rw[bin_above (n:=n) (k:=n+1) (by omega)]
   simp only[Int.natCast_zero,Int.zero_mul,Int.add_zero]
   refine sm_congr fun i hi=>?_
   rw[show n+1-i=(n-i)+1 by omega,Int.pow_succ];grind
  have e2:w*sm (n+1) (fun i=>(bin n i:Int)*u^(n-i)*w^i)=sm (n+1) (fun i=>(bin n i:Int)*u^(n+1-(i+1))*w^(i+1)):=by
   rw[←sm_mul]
   refine sm_congr fun i hi=>?_
   rw[Nat.add_sub_add_right,Int.pow_succ];grind
  rw[Int.pow_succ,Int.mul_comm,Int.add_mul,ih,e1,e2,sm_head (n+1),sm_head (n+1)]
  have e3:sm (n+1) (fun i=>(bin (n+1) (i+1):Int)*u^(n+1-(i+1))*w^(i+1))=
   sm (n+1) (fun i=>(bin n (i+1):Int)*u^(n+1-(i+1))*w^(i+1))+sm (n+1) (fun i=>(bin n i:Int)*u^(n+1-(i+1))*w^(i+1)):=by
   rw[←sm_add]
   refine sm_congr fun i _=>?_
   rw[bin_succ,Int.natCast_add];grind
  rw[e3]
  simp only[bin_zero]
  omega
def kr (g:Int):Nat→Nat→Nat→Int
 |0,0,0=>1
 |0,0,_+1=>0
 |a+1,0,0=>kr g a 0 0
 |a+1,0,k+1=>kr g a 0 (k+1)+g*kr g a 0 k
 |a,b+1,0=>kr g a b 0
 |a,b+1,k+1=>kr g a b (k+1)-kr g a b k
theorem kr_b0 (g:Int) (a b:Nat):kr g a (b+1) 0=kr g a b 0:=by cases a<;>simp [kr]
theorem kr_b (g:Int) (a b k:Nat):kr g a (b+1) (k+1)=kr g a b (k+1)-kr g a b k:=by cases a<;>simp [kr]
theorem kr_zero (g:Int) (a b:Nat):kr g a b 0=1:=by
 induction b with
 |zero=>induction a with
  |zero=>simp [kr]
  |succ a ih=>simp [kr,ih]
 |succ b ih=>rw[kr_b0,ih]
theorem kr_a (g:Int) (a b k:Nat):kr g (a+1) b (k+1)=kr g a b (k+1)+g*kr g a b k:=by
 induction b generalizing k with
 |zero=>simp [kr]
 |succ b ih=>
  rw[kr_b,kr_b,ih]
  cases k with
  |zero=>rw[kr_zero,kr_zero,kr_zero];omega
  |succ k=>rw[ih,kr_b];grind
theorem kr_above (g:Int):∀(a b k:Nat),a+b<k→kr g a b k=0:=by
 intro a
 induction a with
 |zero=>
  intro b
  induction b with
  |zero=>intro k h;cases k with
   |zero=>omega
   |succ k=>simp [kr]
  |succ b ih=>intro k h;cases k with
   |zero=>omega
   |succ k=>rw[kr_b,ih _ (by omega),ih _ (by omega)];rfl
 |succ a ih=>intro b k h;cases k with
  |zero=>omega
  |succ k=>rw[kr_a,ih _ _ (by omega),ih _ _ (by omega)];simp
theorem kr_first (g:Int) (a k:Nat):kr g a 0 k=(bin a k:Int)*g^k:=by
 induction a generalizing k with
 |zero=>cases k with
  |zero=>simp [kr,bin]
  |succ k=>simp [kr,bin]
 |succ a ih=>cases k with
  |zero=>simp [kr_zero,bin_zero]
  |succ k=>rw[kr_a,ih,ih,bin_succ,Int.pow_succ,Int.natCast_add];grind
theorem kr_row (g:Int) (a b k:Nat):kr g a (b+1) (k+1)=kr g (a+1) b (k+1)-kr g (a+1) b k-g*kr g a (b+1) k:=by
 have h:=kr_a g a (b+1) k
 rw[kr_b] at h
 omega
def krF (g:Int) (a b k:Nat):Int:=sm (k+1) (fun j=>(-1)^j*(g^(k-j)*((bin b j:Int)*(bin a (k-j):Int))))
theorem kr_formula (g:Int) (a b k:Nat):kr g a b k=krF g a b k:=by
 induction b generalizing k with
 |zero=>
  rw[kr_first,krF]
  rw[sm_single (a:=0) (by omega)]
  ·simp [bin_zero];grind
  ·intro i _ hne
   obtain⟨m,rfl⟩:∃m,i=m+1:=⟨i-1,by omega⟩
   simp [bin]
 |succ b ih=>
  cases k with
  |zero=>rw[kr_zero];simp [krF,sm,bin_zero]
  |succ k=>
   rw[kr_b,ih,ih,krF,krF,krF]
   rw[sm_head (k+1) (fun j=>(-1)^j*(g^(k+1-j)*((bin (b+1) j:Int)*(bin a (k+1-j):Int))))]
   rw[sm_head (k+1) (fun j=>(-1)^j*(g^(k+1-j)*((bin b j:Int)*(bin a (k+1-j):Int))))]
   simp only[bin_zero,Nat.add_sub_add_right]
   rw[Int.add_sub_assoc]
   congr 1
   rw[←sm_sub]
   refine sm_congr fun i hi=>?_
   rw[bin_succ,Int.natCast_add,Int.pow_succ]
   grind
theorem kr_gen (g:Int) (a b:Nat) (u w:Int):sm (a+b+1) (fun i=>kr g a b i*u^(a+b-i)*w^i)=(u+g*w)^a*(u-w)^b:=by
 have shift:∀(m:Nat) (c:Nat→Int) (s:Int) (d:Nat→Int),d 0=c 0→(∀k,d (k+1)=c (k+1)+s*c k)→(∀k,m<k→c k=0)→
  sm (m+2) (fun i=>d i*u^(m+1-i)*w^i)=(u+s*w)*sm (m+1) (fun i=>c i*u^(m-i)*w^i):=by
  intro m c s d h0 h1 h2
  have e1:u*sm (m+1) (fun i=>c i*u^(m-i)*w^i)=sm (m+2) (fun i=>c i*u^(m+1-i)*w^i):=by
   rw[←sm_mul,sm.eq_def (m+2)]
   simp only[]
   rw[h2 (m+1) (by omega)]
   simp only[Int.zero_mul,Int.add_zero]
   refine sm_congr fun i hi=>?_
   rw[show m+1-i=(m-i)+1 by omega,Int.pow_succ];grind
  have e2:s*w*sm (m+1) (fun i=>c i*u^(m-i)*w^i)=sm (m+1) (fun i=>s*c i*u^(m+1-(i+1))*w^(i+1)):=by
   rw[←sm_mul]
   refine sm_congr fun i hi=>?_
   rw[Nat.add_sub_add_right,Int.pow_succ];grind
  rw[Int.add_mul,e1,e2,sm_head (m+1),sm_head (m+1),Int.add_assoc,←sm_add,h0]
  congr 1
  refine sm_congr fun i _=>?_
  rw[h1];grind
 induction b with
 |zero=>
  induction a with
  |zero=>simp [sm,kr]
  |succ a ih=>
   have:=shift (a+0) (kr g a 0) g (kr g (a+1) 0) (by rw[kr_zero,kr_zero]) (fun k=>kr_a g a 0 k) (fun k hk=>kr_above g a 0 k hk)
   rw[show a+1+0+1=a+0+2 by omega,show a+1+0=a+0+1 by omega,this,ih]
   grind
 |succ b ih=>
  have:=shift (a+b) (kr g a b) (-1) (kr g a (b+1)) (by rw[kr_zero,kr_zero]) (fun k=>by rw[kr_b];omega) (fun k hk=>kr_above g a b k hk)
  rw[show a+(b+1)+1=a+b+2 by omega,show a+(b+1)=a+b+1 by omega,this,ih]
  grind
end Mw
end
section
set_option linter.unusedVariables false
set_option linter.unusedSimpArgs false
namespace Mw
def El (q:Nat) (x:Int):Prop:=0≤x∧x<(q:Int)
structure Fld (q:Nat) (add mul:Int→Int→Int):Prop where
 two:2≤q
 add_el:∀x y,El q x→El q y→El q (add x y)
 mul_el:∀x y,El q x→El q y→El q (mul x y)
 add_zero:∀x,El q x→add x 0=x
 add_comm:∀x y,El q x→El q y→add x y=add y x
 add_assoc:∀x y z,El q x→El q y→El q z→add (add x y) z=add x (add y z)
 neg:∀x,El q x→∃y,El q y∧add x y=0
 mul_one:∀x,El q x→mul x 1=x
 mul_comm:∀x y,El q x→El q y→mul x y=mul y x
 mul_assoc:∀x y z,El q x→El q y→El q z→mul (mul x y) z=mul x (mul y z)
 distrib:∀x y z,El q x→El q y→El q z→mul x (add y z)=add (mul x y) (mul x z)
 nzd:∀x y,El q x→El q y→mul x y=0→x=0∨y=0
noncomputable def ind (p:Prop):Int:=open Classical in if p then 1 else 0
theorem ind_true {p:Prop} (h:p):ind p=1:=by unfold ind;exact if_pos h
theorem ind_false {p:Prop} (h:¬p):ind p=0:=by unfold ind;exact if_neg h
theorem ind_congr {p r:Prop} (h:p↔r):ind p=ind r:=by rw[propext h]
theorem ind_and (p r:Prop):ind (p∧r)=ind p*ind r:=by
 by_cases h:p
 ·by_cases g:r
  ·rw[ind_true h,ind_true g,ind_true ⟨h,g⟩];rfl
  ·rw[ind_true h,ind_false g,ind_false (fun e=>g e.2)];rfl
 ·rw[ind_false h,ind_false (fun e:p∧r=>h e.1)];simp
theorem ind_nonneg (p:Prop):0≤ind p:=by
 by_cases h:p
 ·rw[ind_true h];omega
 ·rw[ind_false h];omega
theorem ind_le_one (p:Prop):ind p≤1:=by
 by_cases h:p
 ·rw[ind_true h];omega
 ·rw[ind_false h];omega
theorem onto_of_inj {q:Nat} {σ:Nat→Nat} (hm:∀a,a<q→σ a<q) (hi:∀a b,a<q→b<q→σ a=σ b→a=b):
 ∀b,b<q→sm q (fun a=>ind (σ a=b))=1:=by
 have le1:∀b,b<q→sm q (fun a=>ind (σ a=b))≤1:=by
  intro b _
  by_cases h:∃a,a<q∧σ a=b
  ·obtain⟨a,ha,e⟩:=h
   rw[sm_single ha (fun i hi2 hne=>ind_false (fun e2=>hne (hi i a hi2 ha (by rw[e2,e]))))]
   exact ind_le_one _
  ·rw[sm_zero (fun i hi2=>ind_false (fun e=>h ⟨i,hi2,e⟩))];omega
 have tot:sm q (fun b=>sm q (fun a=>ind (σ a=b)))=q:=by
  rw[sm_swap]
  have:∀a,a<q→sm q (fun b=>ind (σ a=b))=1:=by
   intro a ha
   rw[sm_single (hm a ha) (fun i _ hne=>ind_false (fun e=>hne e.symm))]
   exact ind_true rfl
  rw[sm_congr this]
  have:∀n:Nat,sm n (fun _=>1)=n:=by
   intro n
   induction n with
   |zero=>rfl
   |succ n ih=>simp only[sm];rw[ih];omega
  exact this q
 intro b hb
 refine Decidable.byContradiction fun hne=>?_
 have hlt:sm q (fun a=>ind (σ a=b))≤0:=by have:=le1 b hb;omega
 have:∀n:Nat,n≤q→sm n (fun b=>sm q (fun a=>ind (σ a=b)))≤(n:Int)-(if b<n then 1 else 0):=by
  intro n
  induction n with
  |zero=>intro _;simp [sm]
  |succ n ih=>
   intro hn
   simp only[sm]
   have h1:=ih (by omega)
   have h2:=le1 n (by omega)
   by_cases e:b=n
   ·subst e
    rw[if_neg (by omega)] at h1
    rw[if_pos (by omega)];omega
   ·by_cases g:b<n
    ·rw[if_pos g] at h1;rw[if_pos (by omega)];omega
    ·rw[if_neg g] at h1;rw[if_neg (by omega)];omega
 have:=this q (Nat.le_refl q)
 rw[tot,if_pos hb] at this
 omega
theorem sm_perm {q:Nat} {σ:Nat→Nat} (hm:∀a,a<q→σ a<q) (hi:∀a b,a<q→b<q→σ a=σ b→a=b) (f:Nat→Int):
 sm q (fun a=>f (σ a))=sm q f:=by
 have e1:∀a,a<q→f (σ a)=sm q (fun b=>ind (σ a=b)*f b):=by
  intro a ha
  rw[sm_single (hm a ha) (fun i _ hne=>by rw[ind_false (fun e=>hne e.symm)];simp)]
  rw[ind_true rfl];simp
 rw[sm_congr e1,sm_swap]
 refine sm_congr fun b hb=>?_
 rw[sm_mul_right,onto_of_inj hm hi b hb];simp
def se (q:Nat) (f:Int→Int):Int:=sm q (fun a=>f (a:Int))
theorem se_congr {q:Nat} {f g:Int→Int} (h:∀a,El q a→f a=g a):se q f=se q g:=
 sm_congr fun i hi=>h _ ⟨by omega,by omega⟩
theorem se_zero {q:Nat} {f:Int→Int} (h:∀a,El q a→f a=0):se q f=0:=
 sm_zero fun i hi=>h _ ⟨by omega,by omega⟩
theorem se_single {q:Nat} {a:Int} {f:Int→Int} (ha:El q a) (h:∀i,El q i→i≠a→f i=0):se q f=f a:=by
 obtain⟨h0,h1⟩:=ha
 unfold se
 rw[sm_single (a:=a.toNat) (by omega) (fun i hi hne=>h _ ⟨by omega,by omega⟩ (by omega))]
 rw[Int.toNat_of_nonneg h0]
theorem se_const (q:Nat) (c:Int):se q (fun _=>c)=q*c:=by
 unfold se
 induction q with
 |zero=>simp [sm]
 |succ n ih=>simp only[sm];rw[ih,Int.natCast_add];grind
theorem se_add (q:Nat) (f g:Int→Int):se q (fun i=>f i+g i)=se q f+se q g:=sm_add _ _ _
theorem se_mul (q:Nat) (c:Int) (f:Int→Int):se q (fun i=>c*f i)=c*se q f:=sm_mul _ _ _
theorem se_mul_right (q:Nat) (c:Int) (f:Int→Int):se q (fun i=>f i*c)=se q f*c:=sm_mul_right _ _ _
theorem se_perm {q:Nat} {σ:Int→Int} (hm:∀a,El q a→El q (σ a)) (hi:∀a b,El q a→El q b→σ a=σ b→a=b) (f:Int→Int):
 se q (fun a=>f (σ a))=se q f:=by
 unfold se
 have:=sm_perm (q:=q) (σ:=fun a=>(σ (a:Int)).toNat)
  (fun a ha=>by have:=hm (a:Int) ⟨by omega,by omega⟩;unfold El at this;omega)
  (fun a b ha hb e=>by
   have h1:=hm (a:Int) ⟨by omega,by omega⟩
   have h2:=hm (b:Int) ⟨by omega,by omega⟩
   unfold El at h1 h2
   have e:(σ (a:Int)).toNat=(σ (b:Int)).toNat:=e
   have:=hi a b ⟨by omega,by omega⟩ ⟨by omega,by omega⟩ (by omega)
   omega)
  (fun a=>f (a:Int))
 rw[←this]
 refine sm_congr fun a ha=>?_
 have h1:=hm (a:Int) ⟨by omega,by omega⟩
 unfold El at h1
 rw[Int.toNat_of_nonneg h1.1]
theorem se_swap (q:Nat) (f:Int→Int→Int):se q (fun i=>se q (fun j=>f i j))=se q (fun j=>se q (fun i=>f i j)):=sm_swap _ _ _
def ws (q:Nat):Nat→(List Int→Int)→Int
 |0,f=>f []
 |n+1,f=>se q (fun a=>ws q n (fun w=>f (a::w)))
def Wd (q n:Nat) (w:List Int):Prop:=w.length=n∧∀x∈w,El q x
theorem wd_nil (q:Nat):Wd q 0 []:=⟨rfl,by simp⟩
theorem wd_cons {q n:Nat} {a:Int} {w:List Int} (ha:El q a) (hw:Wd q n w):Wd q (n+1) (a::w):=
 ⟨by simp [hw.1],by intro x hx;exact(List.mem_cons.mp hx).elim (fun e=>e ▸ ha) (fun e=>hw.2 x e)⟩
theorem wd_head {q n:Nat} {a:Int} {w:List Int} (h:Wd q (n+1) (a::w)):El q a∧Wd q n w:=
 ⟨h.2 a (by simp),by have:=h.1;simp at this;exact this,fun x hx=>h.2 x (by simp [hx])⟩
theorem wd_zero {q:Nat} {w:List Int} (h:Wd q 0 w):w=[]:=List.length_eq_zero_iff.mp h.1
theorem ws_congr {q:Nat}:∀{n:Nat} {f g:List Int→Int},(∀w,Wd q n w→f w=g w)→ws q n f=ws q n g
 |0,f,g,h=>h [] (wd_nil q)
 |n+1,f,g,h=>se_congr fun a ha=>ws_congr fun w hw=>h (a::w) (wd_cons ha hw)
theorem ws_zero {q:Nat}:∀{n:Nat} {f:List Int→Int},(∀w,Wd q n w→f w=0)→ws q n f=0
 |0,f,h=>h [] (wd_nil q)
 |n+1,f,h=>se_zero fun a ha=>ws_zero fun w hw=>h (a::w) (wd_cons ha hw)
theorem ws_add {q:Nat}:∀(n:Nat) (f g:List Int→Int),ws q n (fun w=>f w+g w)=ws q n f+ws q n g
 |0,f,g=>rfl
 |n+1,f,g=>by simp only[ws];rw[se_congr (fun a _=>ws_add n _ _),se_add]
theorem ws_mul {q:Nat}:∀(n:Nat) (c:Int) (f:List Int→Int),ws q n (fun w=>c*f w)=c*ws q n f
 |0,c,f=>rfl
 |n+1,c,f=>by simp only[ws];rw[se_congr (fun a _=>ws_mul n c _),se_mul]
theorem ws_mul_right {q:Nat} (n:Nat) (c:Int) (f:List Int→Int):ws q n (fun w=>f w*c)=ws q n f*c:=by
 rw[Int.mul_comm,←ws_mul];exact ws_congr fun w _=>Int.mul_comm _ _
theorem ws_se {q:Nat}:∀(n:Nat) (f:Int→List Int→Int),ws q n (fun w=>se q (fun a=>f a w))=se q (fun a=>ws q n (fun w=>f a w))
 |0,f=>rfl
 |n+1,f=>by
  simp only[ws]
  rw[se_congr (fun a _=>ws_se n (fun b w=>f b (a::w))),se_swap]
theorem ws_sm {q:Nat} (m:Nat):∀(n:Nat) (f:Nat→List Int→Int),ws q n (fun w=>sm m (fun i=>f i w))=sm m (fun i=>ws q n (fun w=>f i w))
 |0,f=>rfl
 |n+1,f=>by
  simp only[ws]
  rw[se_congr (fun a _=>ws_sm m n (fun i w=>f i (a::w)))]
  unfold se
  rw[sm_swap]
theorem ws_nonneg {q:Nat}:∀{n:Nat} {f:List Int→Int},(∀w,Wd q n w→0≤f w)→0≤ws q n f
 |0,f,h=>h [] (wd_nil q)
 |n+1,f,h=>sm_nonneg fun a ha=>ws_nonneg fun w hw=>h _ (wd_cons ⟨by omega,by omega⟩ hw)
theorem ws_le {q:Nat}:∀{n:Nat} {f g:List Int→Int},(∀w,Wd q n w→f w≤g w)→ws q n f≤ws q n g
 |0,f,g,h=>h [] (wd_nil q)
 |n+1,f,g,h=>sm_le fun a ha=>ws_le fun w hw=>h _ (wd_cons ⟨by omega,by omega⟩ hw)
theorem ws_single {q:Nat}:∀{n:Nat} {v:List Int} {f:List Int→Int},Wd q n v→(∀w,Wd q n w→w≠v→f w=0)→ws q n f=f v
 |0,v,f,hv,_=>by rw[wd_zero hv];rfl
 |n+1,[],f,hv,_=>by have:=hv.1;simp at this
 |n+1,b::v,f,hv,h=>by
  simp only[ws]
  have hb:=wd_head hv
  rw[se_single hb.1 (fun a ha hne=>ws_zero fun w hw=>h _ (wd_cons ha hw) (fun e=>hne (by injection e))),
   ws_single hb.2 (fun w hw hne=>h _ (wd_cons hb.1 hw) (fun e=>hne (by injection e)))]
section field
variable {q:Nat} {add mul:Int→Int→Int}
theorem Fld.el0 (F:Fld q add mul):El q 0:=⟨by omega,by have:=F.two;omega⟩
theorem Fld.el1 (F:Fld q add mul):El q 1:=⟨by omega,by have:=F.two;omega⟩
theorem Fld.zero_add (F:Fld q add mul) (x:Int) (hx:El q x):add 0 x=x:=by
 rw[F.add_comm 0 x F.el0 hx,F.add_zero x hx]
theorem Fld.cancel (F:Fld q add mul) (x y z:Int) (hx:El q x) (hy:El q y) (hz:El q z) (h:add x y=add x z):y=z:=by
 obtain⟨n,hn,e⟩:=F.neg x hx
 have:add n (add x y)=add n (add x z):=by rw[h]
 rw[←F.add_assoc n x y hn hx hy,←F.add_assoc n x z hn hx hz,F.add_comm n x hn hx,e,F.zero_add y hy,F.zero_add z hz] at this
 exact this
theorem Fld.mul_zero (F:Fld q add mul) (x:Int) (hx:El q x):mul x 0=0:=by
 have h:=F.distrib x 0 0 hx F.el0 F.el0
 rw[F.add_zero 0 F.el0] at h
 have hm:=F.mul_el x 0 hx F.el0
 exact F.cancel (mul x 0) (mul x 0) 0 hm hm F.el0 (by rw[←h,F.add_zero _ hm])
theorem Fld.zero_mul (F:Fld q add mul) (x:Int) (hx:El q x):mul 0 x=0:=by
 rw[F.mul_comm 0 x F.el0 hx,F.mul_zero x hx]
theorem Fld.one_mul (F:Fld q add mul) (x:Int) (hx:El q x):mul 1 x=x:=by
 rw[F.mul_comm 1 x F.el1 hx,F.mul_one x hx]
theorem Fld.rdistrib (F:Fld q add mul) (x y z:Int) (hx:El q x) (hy:El q y) (hz:El q z):mul (add y z) x=add (mul y x) (mul z x):=by
 rw[F.mul_comm _ x (F.add_el _ _ hy hz) hx,F.distrib x y z hx hy hz,F.mul_comm x y hx hy,F.mul_comm x z hx hz]
theorem Fld.inv (F:Fld q add mul) (x:Int) (hx:El q x) (h:x≠0):∃y,El q y∧mul x y=1:=by
 have inj:∀a b,El q a→El q b→mul x a=mul x b→a=b:=by
  intro a b ha hb e
  obtain⟨n,hn,en⟩:=F.neg b hb
  have h0:mul x (add a n)=0:=by
   rw[F.distrib x a n hx ha hn,e,←F.distrib x b n hx hb hn,en,F.mul_zero x hx]
  rcases F.nzd x (add a n) hx (F.add_el a n ha hn) h0 with g|g
  ·exact absurd g h
  ·have:add n a=add n b:=by rw[F.add_comm n a hn ha,g,F.add_comm n b hn hb,en]
   exact F.cancel n a b hn ha hb this
 have:=se_perm (q:=q) (σ:=mul x) (fun a ha=>F.mul_el x a hx ha) inj (fun y=>ind (y=1))
 rw[se_single (f:=fun y=>ind (y=1)) F.el1 (fun i _ hne=>ind_false hne),ind_true rfl] at this
 refine Classical.byContradiction fun hno=>?_
 rw[se_zero (fun a ha=>ind_false (fun e=>hno ⟨a,ha,e⟩))] at this
 omega
def wadd (add:Int→Int→Int) (u v:List Int):List Int:=List.zipWith add u v
def wscl (mul:Int→Int→Int) (a:Int) (u:List Int):List Int:=u.map (mul a)
def dot (add mul:Int→Int→Int):List Int→List Int→Int
 |a::u,b::v=>add (mul a b) (dot add mul u v)
 |_,_=>0
theorem wd_wadd (F:Fld q add mul):∀{n:Nat} {u v:List Int},Wd q n u→Wd q n v→Wd q n (wadd add u v)
 |0,u,v,hu,hv=>by rw[wd_zero hu];exact wd_nil q
 |n+1,[],_,hu,_=>by have:=hu.1;simp at this
 |n+1,_::_,[],_,hv=>by have:=hv.1;simp at this
 |n+1,a::u,b::v,hu,hv=>by
  have h1:=wd_head hu
  have h2:=wd_head hv
  exact wd_cons (F.add_el a b h1.1 h2.1) (wd_wadd F h1.2 h2.2)
theorem wd_wscl (F:Fld q add mul) {n:Nat} {a:Int} {u:List Int} (ha:El q a) (hu:Wd q n u):Wd q n (wscl mul a u):=
 ⟨by unfold wscl;rw[List.length_map];exact hu.1,by
  intro x hx
  unfold wscl at hx
  obtain⟨y,hy,rfl⟩:=List.mem_map.mp hx
  exact F.mul_el a y ha (hu.2 y hy)⟩
theorem wd_rep {n:Nat} (h:El q 0):Wd q n (List.replicate n 0):=
 ⟨by simp,fun x hx=>by rw[(List.mem_replicate.mp hx).2];exact h⟩
theorem dot_el (F:Fld q add mul):∀{n:Nat} {u v:List Int},Wd q n u→Wd q n v→El q (dot add mul u v)
 |0,u,v,hu,hv=>by rw[wd_zero hu];exact F.el0
 |n+1,[],_,hu,_=>by have:=hu.1;simp at this
 |n+1,_::_,[],_,hv=>by have:=hv.1;simp at this
 |n+1,a::u,b::v,hu,hv=>by
  have h1:=wd_head hu
  have h2:=wd_head hv
  exact F.add_el _ _ (F.mul_el a b h1.1 h2.1) (dot_el F h1.2 h2.2)
theorem dot_add (F:Fld q add mul):∀{n:Nat} {u v y:List Int},Wd q n u→Wd q n v→Wd q n y→dot add mul (wadd add u v) y=add (dot add mul u y) (dot add mul v y)
 |0,u,v,y,hu,hv,hy=>by rw[wd_zero hu,wd_zero hv,wd_zero hy];exact(F.add_zero 0 F.el0).symm
 |n+1,[],_,_,hu,_,_=>by have:=hu.1;simp at this
 |n+1,_::_,[],_,_,hv,_=>by have:=hv.1;simp at this
 |n+1,_::_,_::_,[],_,_,hy=>by have:=hy.1;simp at this
 |n+1,a::u,b::v,c::y,hu,hv,hy=>by
  have h1:=wd_head hu
  have h2:=wd_head hv
  have h3:=wd_head hy
  have ih:=dot_add F h1.2 h2.2 h3.2
  show add (mul (add a b) c) (dot add mul (wadd add u v) y)=add (add (mul a c) (dot add mul u y)) (add (mul b c) (dot add mul v y))
  rw[ih,F.rdistrib c a b h3.1 h1.1 h2.1]
  have e1:=F.mul_el a c h1.1 h3.1
  have e2:=F.mul_el b c h2.1 h3.1
  have e3:=dot_el F h1.2 h3.2
  have e4:=dot_el F h2.2 h3.2
  rw[F.add_assoc _ _ _ e1 e2 (F.add_el _ _ e3 e4),F.add_assoc _ _ _ e1 e3 (F.add_el _ _ e2 e4),←F.add_assoc _ _ _ e2 e3 e4,F.add_comm _ _ e2 e3,F.add_assoc _ _ _ e3 e2 e4]
theorem dot_scl (F:Fld q add mul):∀{n:Nat} {a:Int} {u y:List Int},El q a→Wd q n u→Wd q n y→dot add mul (wscl mul a u) y=mul a (dot add mul u y)
 |0,a,u,y,ha,hu,hy=>by rw[wd_zero hu,wd_zero hy];exact(F.mul_zero a ha).symm
 |n+1,_,[],_,_,hu,_=>by have:=hu.1;simp at this
 |n+1,_,_::_,[],_,_,hy=>by have:=hy.1;simp at this
 |n+1,a,b::u,c::y,ha,hu,hy=>by
  have h1:=wd_head hu
  have h3:=wd_head hy
  have ih:=dot_scl F ha h1.2 h3.2
  show add (mul (mul a b) c) (dot add mul (wscl mul a u) y)=mul a (add (mul b c) (dot add mul u y))
  rw[ih,F.distrib _ _ _ ha (F.mul_el _ _ h1.1 h3.1) (dot_el F h1.2 h3.2),F.mul_assoc a b c ha h1.1 h3.1]
theorem dot_comm (F:Fld q add mul):∀{n:Nat} {u v:List Int},Wd q n u→Wd q n v→dot add mul u v=dot add mul v u
 |0,u,v,hu,hv=>by rw[wd_zero hu,wd_zero hv]
 |n+1,[],_,hu,_=>by have:=hu.1;simp at this
 |n+1,_::_,[],_,hv=>by have:=hv.1;simp at this
 |n+1,a::u,b::v,hu,hv=>by
  have h1:=wd_head hu
  have h2:=wd_head hv
  show add (mul a b) (dot add mul u v)=add (mul b a) (dot add mul v u)
  rw[F.mul_comm a b h1.1 h2.1,dot_comm F h1.2 h2.2]
theorem dot_rep (F:Fld q add mul):∀{n:Nat} {y:List Int},Wd q n y→dot add mul (List.replicate n 0) y=0
 |0,y,hy=>by rw[wd_zero hy];rfl
 |n+1,[],hy=>by have:=hy.1;simp at this
 |n+1,c::y,hy=>by
  have h:=wd_head hy
  show add (mul 0 c) (dot add mul (List.replicate n 0) y)=0
  rw[dot_rep F h.2,F.zero_mul c h.1,F.add_zero 0 F.el0]
theorem wadd_rep (F:Fld q add mul):∀{n:Nat} {u:List Int},Wd q n u→wadd add u (List.replicate n 0)=u
 |0,u,hu=>by rw[wd_zero hu];rfl
 |n+1,[],hu=>by have:=hu.1;simp at this
 |n+1,a::u,hu=>by
  have h:=wd_head hu
  show add a 0::wadd add u (List.replicate n 0)=a::u
  rw[F.add_zero a h.1,wadd_rep F h.2]
theorem wadd_comm (F:Fld q add mul):∀{n:Nat} {u v:List Int},Wd q n u→Wd q n v→wadd add u v=wadd add v u
 |0,u,v,hu,hv=>by rw[wd_zero hu,wd_zero hv]
 |n+1,[],_,hu,_=>by have:=hu.1;simp at this
 |n+1,_::_,[],_,hv=>by have:=hv.1;simp at this
 |n+1,a::u,b::v,hu,hv=>by
  have h1:=wd_head hu
  have h2:=wd_head hv
  show add a b::wadd add u v=add b a::wadd add v u
  rw[F.add_comm a b h1.1 h2.1,wadd_comm F h1.2 h2.2]
theorem wadd_assoc (F:Fld q add mul):∀{n:Nat} {u v y:List Int},Wd q n u→Wd q n v→Wd q n y→wadd add (wadd add u v) y=wadd add u (wadd add v y)
 |0,u,v,y,hu,hv,hy=>by rw[wd_zero hu,wd_zero hv,wd_zero hy];rfl
 |n+1,[],_,_,hu,_,_=>by have:=hu.1;simp at this
 |n+1,_::_,[],_,_,hv,_=>by have:=hv.1;simp at this
 |n+1,_::_,_::_,[],_,_,hy=>by have:=hy.1;simp at this
 |n+1,a::u,b::v,c::y,hu,hv,hy=>by
  have h1:=wd_head hu
  have h2:=wd_head hv
  have h3:=wd_head hy
  show add (add a b) c::wadd add (wadd add u v) y=add a (add b c)::wadd add u (wadd add v y)
  rw[F.add_assoc a b c h1.1 h2.1 h3.1,wadd_assoc F h1.2 h2.2 h3.2]
theorem wscl_zero (F:Fld q add mul):∀{n:Nat} {u:List Int},Wd q n u→wscl mul 0 u=List.replicate n 0
 |0,u,hu=>by rw[wd_zero hu];rfl
 |n+1,[],hu=>by have:=hu.1;simp at this
 |n+1,a::u,hu=>by
  have h:=wd_head hu
  show mul 0 a::wscl mul 0 u=0::List.replicate n 0
  rw[F.zero_mul a h.1,wscl_zero F h.2]
theorem wscl_one (F:Fld q add mul):∀{n:Nat} {u:List Int},Wd q n u→wscl mul 1 u=u
 |0,u,hu=>by rw[wd_zero hu];rfl
 |n+1,[],hu=>by have:=hu.1;simp at this
 |n+1,a::u,hu=>by
  have h:=wd_head hu
  show mul 1 a::wscl mul 1 u=a::u
  rw[F.one_mul a h.1,wscl_one F h.2]
theorem wscl_rep (F:Fld q add mul) {a:Int} (ha:El q a) (n:Nat):wscl mul a (List.replicate n 0)=List.replicate n 0:=by
 unfold wscl;rw[List.map_replicate,F.mul_zero a ha]
theorem wscl_wscl (F:Fld q add mul) {a b:Int} (ha:El q a) (hb:El q b):∀{n:Nat} {u:List Int},Wd q n u→wscl mul a (wscl mul b u)=wscl mul (mul a b) u
 |0,u,hu=>by rw[wd_zero hu];rfl
 |n+1,[],hu=>by have:=hu.1;simp at this
 |n+1,c::u,hu=>by
  have h:=wd_head hu
  show mul a (mul b c)::wscl mul a (wscl mul b u)=mul (mul a b) c::wscl mul (mul a b) u
  rw[F.mul_assoc a b c ha hb h.1,wscl_wscl F ha hb h.2]
theorem wscl_wadd (F:Fld q add mul) {a:Int} (ha:El q a):∀{n:Nat} {u v:List Int},Wd q n u→Wd q n v→wscl mul a (wadd add u v)=wadd add (wscl mul a u) (wscl mul a v)
 |0,u,v,hu,hv=>by rw[wd_zero hu,wd_zero hv];rfl
 |n+1,[],_,hu,_=>by have:=hu.1;simp at this
 |n+1,_::_,[],_,hv=>by have:=hv.1;simp at this
 |n+1,b::u,c::v,hu,hv=>by
  have h1:=wd_head hu
  have h2:=wd_head hv
  show mul a (add b c)::wscl mul a (wadd add u v)=add (mul a b) (mul a c)::wadd add (wscl mul a u) (wscl mul a v)
  rw[F.distrib a b c ha h1.1 h2.1,wscl_wadd F ha h1.2 h2.2]
theorem wscl_add (F:Fld q add mul) {a b:Int} (ha:El q a) (hb:El q b):∀{n:Nat} {u:List Int},Wd q n u→wscl mul (add a b) u=wadd add (wscl mul a u) (wscl mul b u)
 |0,u,hu=>by rw[wd_zero hu];rfl
 |n+1,[],hu=>by have:=hu.1;simp at this
 |n+1,c::u,hu=>by
  have h1:=wd_head hu
  show mul (add a b) c::wscl mul (add a b) u=add (mul a c) (mul b c)::wadd add (wscl mul a u) (wscl mul b u)
  rw[F.rdistrib c a b h1.1 ha hb,wscl_add F ha hb h1.2]
theorem wneg (F:Fld q add mul):∃m,El q m∧add 1 m=0∧∀{n:Nat} {u:List Int},Wd q n u→wadd add u (wscl mul m u)=List.replicate n 0:=by
 obtain⟨m,hm,e⟩:=F.neg 1 F.el1
 refine⟨m,hm,e,fun {n u} hu=>?_⟩
 have:=wscl_add F F.el1 hm hu
 rw[e,wscl_one F hu,wscl_zero F hu] at this
 exact this.symm
theorem ws_shift (F:Fld q add mul):∀{n:Nat} {t:List Int},Wd q n t→∀f,ws q n (fun w=>f (wadd add t w))=ws q n f
 |0,t,ht,f=>by rw[wd_zero ht];rfl
 |n+1,[],ht,_=>by have:=ht.1;simp at this
 |n+1,b::t,ht,f=>by
  have h:=wd_head ht
  show se q (fun a=>ws q n (fun w=>f (add b a::wadd add t w)))=se q (fun a=>ws q n (fun w=>f (a::w)))
  rw[se_congr (fun a _=>ws_shift F h.2 (fun w=>f (add b a::w)))]
  exact se_perm (σ:=add b) (fun a ha=>F.add_el b a h.1 ha) (fun a c ha hc e=>F.cancel b a c h.1 ha hc e) (fun a=>ws q n (fun w=>f (a::w)))
structure Lin (q:Nat) (add mul:Int→Int→Int) (n:Nat) (C:List Int→Prop):Prop where
 zero:C (List.replicate n 0)
 add:∀u v,Wd q n u→Wd q n v→C u→C v→C (wadd add u v)
 scl:∀a u,El q a→Wd q n u→C u→C (wscl mul a u)
def Dl (q:Nat) (add mul:Int→Int→Int) (n:Nat) (C:List Int→Prop) (d:List Int):Prop:=∀c,Wd q n c→C c→dot add mul c d=0
def Van:List Bool→List Int→Prop
 |s::S,a::w=>(s=true→a=0)∧Van S w
 |_,_=>True
def cnt:List Bool→Nat
 | []=>0
 |true::S=>cnt S+1
 |false::S=>cnt S
theorem cnt_not:∀S:List Bool,cnt (S.map not)+cnt S=S.length
 | []=>rfl
 |true::S=>by have:=cnt_not S;simp only[List.map_cons,Bool.not_true,cnt,List.length_cons];omega
 |false::S=>by have:=cnt_not S;simp only[List.map_cons,Bool.not_false,cnt,List.length_cons];omega
theorem not_not_list:∀S:List Bool,(S.map not).map not=S
 | []=>rfl
 |s::S=>by have:=not_not_list S;simp only[List.map_cons,Bool.not_not,this]
theorem ind_cons_true (C:List Int→Prop) (S:List Bool) (a:Int) (w:List Int):ind (C (a::w)∧Van (true::S) (a::w))=ind (a=0)*ind (C (a::w)∧Van S w):=by
 rw[←ind_and];refine ind_congr ⟨fun h=>⟨h.2.1 rfl,h.1,h.2.2⟩,fun h=>⟨h.2.1,fun _=>h.1,h.2.2⟩⟩
theorem ind_cons_false (C:List Int→Prop) (S:List Bool) (a:Int) (w:List Int):ind (C (a::w)∧Van (false::S) (a::w))=ind (C (a::w)∧Van S w):=
 ind_congr ⟨fun h=>⟨h.1,h.2.2⟩,fun h=>⟨h.1,fun e=>by simp at e,h.2⟩⟩
theorem ws_at0 (h0:El q 0) (n:Nat) (C:List Int→Prop) (S:List Bool):
 ws q (n+1) (fun c=>ind (C c∧Van (true::S) c))=ws q n (fun w=>ind (C (0::w)∧Van S w)):=by
 simp only[ws]
 rw[se_congr (fun a _=>ws_congr (fun w _=>ind_cons_true C S a w))]
 rw[se_congr (fun a _=>ws_mul n (ind (a=0)) _)]
 rw[se_single h0 (fun i _ hne=>by rw[ind_false hne];simp)]
 rw[ind_true rfl];simp
theorem ws_any (n:Nat) (C:List Int→Prop) (S:List Bool):
 ws q (n+1) (fun c=>ind (C c∧Van (false::S) c))=ws q n (fun w=>ind (Van S w)*se q (fun a=>ind (C (a::w)))):=by
 simp only[ws]
 rw[se_congr (fun a _=>ws_congr (fun w _=>ind_cons_false C S a w))]
 rw[←ws_se]
 refine ws_congr fun w _=>?_
 rw[←se_mul]
 refine se_congr fun a _=>?_
 rw[←ind_and]
 exact ind_congr ⟨fun h=>⟨h.2,h.1⟩,fun h=>⟨h.2,h.1⟩⟩
theorem ws_all (n:Nat) (C:List Int→Prop):ws q (n+1) (fun c=>ind (C c))=ws q n (fun w=>se q (fun a=>ind (C (a::w)))):=by
 simp only[ws];rw[ws_se]
theorem ind_van_mul (C:List Int→Prop) (S:List Bool) (w:List Int):ind (Van S w)*ind (C w)=ind (C w∧Van S w):=by
 rw[←ind_and];exact ind_congr ⟨fun h=>⟨h.2,h.1⟩,fun h=>⟨h.2,h.1⟩⟩
theorem key (F:Fld q add mul):∀(n:Nat) (C:List Int→Prop),Lin q add mul n C→∀S:List Bool,S.length=n→
 ws q n (fun c=>ind (C c∧Van S c))*(q:Int)^cnt S=ws q n (fun c=>ind (C c))*ws q n (fun d=>ind (Dl q add mul n C d∧Van (S.map not) d)):=by
 intro n
 induction n with
 |zero=>
  intro C hC S hS
  have hS:S=[]:=List.length_eq_zero_iff.mp hS
  subst hS
  have h0:C []:=hC.zero
  show ind (C []∧True)*(q:Int)^0=ind (C [])*ind (Dl q add mul 0 C []∧True)
  rw[ind_true ⟨h0,trivial⟩,ind_true h0,ind_true ⟨fun c hc _=>by rw[wd_zero hc];rfl,trivial⟩]
  rfl
 |succ n ih=>
  intro C hC S hS
  obtain⟨s,S,rfl⟩:∃s S',S=s::S':=by
   cases S with
   |nil=>simp at hS
   |cons s S=>exact⟨s,S,rfl⟩
  have hS':S.length=n:=by simp at hS;exact hS
  have two:=F.two
  cases s with
  |true=>
   have hC0:Lin q add mul n (fun w=>C (0::w)):=⟨hC.zero,
    fun u v hu hv h1 h2=>by
     have:=hC.add (0::u) (0::v) (wd_cons F.el0 hu) (wd_cons F.el0 hv) h1 h2
     rw[show wadd add (0::u) (0::v)=add 0 0::wadd add u v from rfl,F.add_zero 0 F.el0] at this
     exact this,
    fun a u ha hu h1=>by
     have:=hC.scl a (0::u) ha (wd_cons F.el0 hu) h1
     rw[show wscl mul a (0::u)=mul a 0::wscl mul a u from rfl,F.mul_zero a ha] at this
     exact this⟩
   have IH:=ih _ hC0 S hS'
   rw[ws_at0 F.el0]
   show _*(q:Int)^(cnt S+1)=_*ws q (n+1) (fun d=>ind (Dl q add mul (n+1) C d∧Van (false::S.map not) d))
   rw[ws_any,ws_all]
   by_cases hA:∀a w,El q a→Wd q n w→C (a::w)→a=0
   ·
    have e1:ws q n (fun w=>se q (fun a=>ind (C (a::w))))=ws q n (fun w=>ind (C (0::w))):=by
     refine ws_congr fun w hw=>?_
     exact se_single (f:=fun a=>ind (C (a::w))) F.el0 (fun a ha hne=>ind_false (fun h=>hne (hA a w ha hw h)))
    have e2:ws q n (fun w=>ind (Van (S.map not) w)*se q (fun a=>ind (Dl q add mul (n+1) C (a::w))))=
     (q:Int)*ws q n (fun w=>ind (Dl q add mul n (fun w=>C (0::w)) w∧Van (S.map not) w)):=by
     rw[←ws_mul]
     refine ws_congr fun y hy=>?_
     have:∀b,El q b→ind (Dl q add mul (n+1) C (b::y))=ind (Dl q add mul n (fun w=>C (0::w)) y):=by
      intro b hb
      refine ind_congr ⟨fun h c hc h1=>?_,fun h c hc h1=>?_⟩
      ·have:=h (0::c) (wd_cons F.el0 hc) h1
       rw[show dot add mul (0::c) (b::y)=add (mul 0 b) (dot add mul c y) from rfl,F.zero_mul b hb,F.zero_add _ (dot_el F hc hy)] at this
       exact this
      ·cases c with
       |nil=>have:=hc.1;simp at this
       |cons a c=>
        have hh:=wd_head hc
        have:=hA a c hh.1 hh.2 h1
        subst this
        rw[show dot add mul (0::c) (b::y)=add (mul 0 b) (dot add mul c y) from rfl,F.zero_mul b hb,F.zero_add _ (dot_el F hh.2 hy)]
        exact h c hh.2 h1
     rw[se_congr this,se_const,←ind_van_mul]
     grind
    rw[e1,e2,Int.pow_succ,←Int.mul_assoc,IH]
    grind
   ·
    have hB:∃w1,Wd q n w1∧C (1::w1):=by
     refine Classical.byContradiction fun hno=>hA fun a w ha hw h=>Classical.byContradiction fun hne=>hno ?_
     obtain⟨i,hi,e⟩:=F.inv a ha hne
     refine⟨wscl mul i w,wd_wscl F hi hw,?_⟩
     have:=hC.scl i (a::w) hi (wd_cons ha hw) h
     rw[show wscl mul i (a::w)=mul i a::wscl mul i w from rfl,F.mul_comm i a hi ha,e] at this
     exact this
    obtain⟨w1,hw1,h1⟩:=hB
    obtain⟨m,hm,em,hneg⟩:=wneg F
    have move:∀a w,El q a→Wd q n w→(C (a::wadd add (wscl mul a w1) w)↔C (0::w)):=by
     intro a w ha hw
     have hs:C (a::wscl mul a w1):=by
      have:=hC.scl a (1::w1) ha (wd_cons F.el1 hw1) h1
      rw[show wscl mul a (1::w1)=mul a 1::wscl mul a w1 from rfl,F.mul_one a ha] at this
      exact this
     have hsw:=wd_wscl F ha hw1
     constructor
     ·intro h
      have hn:=hC.scl m _ hm (wd_cons ha hsw) hs
      have hadd:=hC.add _ _ (wd_wscl F hm (wd_cons ha hsw)) (wd_cons ha (wd_wadd F hsw hw)) hn h
      have e:wadd add (wscl mul m (a::wscl mul a w1)) (a::wadd add (wscl mul a w1) w)=0::w:=by
       rw[show(a::wadd add (wscl mul a w1) w)=wadd add (a::wscl mul a w1) (0::w) from by
        show _=add a 0::_;rw[F.add_zero a ha];rfl]
       rw[←wadd_assoc F (wd_wscl F hm (wd_cons ha hsw)) (wd_cons ha hsw) (wd_cons F.el0 hw),wadd_comm F (wd_wscl F hm (wd_cons ha hsw)) (wd_cons ha hsw),hneg (wd_cons ha hsw),
        wadd_comm F (wd_rep F.el0) (wd_cons F.el0 hw),wadd_rep F (wd_cons F.el0 hw)]
      rw[e] at hadd
      exact hadd
     ·intro h
      have hadd:=hC.add _ _ (wd_cons ha hsw) (wd_cons F.el0 hw) hs h
      rw[show wadd add (a::wscl mul a w1) (0::w)=add a 0::wadd add (wscl mul a w1) w from rfl,F.add_zero a ha] at hadd
      exact hadd
    have e1:ws q n (fun w=>se q (fun a=>ind (C (a::w))))=(q:Int)*ws q n (fun w=>ind (C (0::w))):=by
     rw[ws_se,←se_const]
     refine se_congr fun a ha=>?_
     rw[←ws_shift F (wd_wscl F ha hw1) (fun w=>ind (C (a::w)))]
     exact ws_congr fun w hw=>ind_congr (move a w ha hw)
    have e2:ws q n (fun w=>ind (Van (S.map not) w)*se q (fun a=>ind (Dl q add mul (n+1) C (a::w))))=
     ws q n (fun w=>ind (Dl q add mul n (fun w=>C (0::w)) w∧Van (S.map not) w)):=by
     refine ws_congr fun y hy=>?_
     have hd:=dot_el F hw1 hy
     obtain⟨b0,hb0,eb0⟩:=F.neg _ hd
     have:∀b,El q b→ind (Dl q add mul (n+1) C (b::y))=ind (b=b0)*ind (Dl q add mul n (fun w=>C (0::w)) y):=by
      intro b hb
      rw[←ind_and]
      refine ind_congr ⟨fun h=>⟨?_,fun c hc hcc=>?_⟩,fun h c hc hcc=>?_⟩
      ·have:=h (1::w1) (wd_cons F.el1 hw1) h1
       rw[show dot add mul (1::w1) (b::y)=add (mul 1 b) (dot add mul w1 y) from rfl,F.one_mul b hb,F.add_comm _ _ hb hd] at this
       exact F.cancel _ _ _ hd hb hb0 (by rw[this,eb0])
      ·have:=h (0::c) (wd_cons F.el0 hc) hcc
       rw[show dot add mul (0::c) (b::y)=add (mul 0 b) (dot add mul c y) from rfl,F.zero_mul b hb,F.zero_add _ (dot_el F hc hy)] at this
       exact this
      ·cases c with
       |nil=>have:=hc.1;simp at this
       |cons a c=>
        have hh:=wd_head hc
        obtain⟨rfl,hdual⟩:=h
        have hmw:=wd_wscl F hm (wd_wscl F hh.1 hw1)
        have hc':c=wadd add (wscl mul a w1) (wadd add (wscl mul m (wscl mul a w1)) c):=by
         rw[←wadd_assoc F (wd_wscl F hh.1 hw1) hmw hh.2,hneg (wd_wscl F hh.1 hw1),wadd_comm F (wd_rep F.el0) hh.2,wadd_rep F hh.2]
        have hin:C (0::wadd add (wscl mul m (wscl mul a w1)) c):=by
         rw[←move a _ hh.1 (wd_wadd F hmw hh.2),←hc'];exact hcc
        have hz:=hdual _ (wd_wadd F hmw hh.2) hin
        have hdc:dot add mul c y=mul a (dot add mul w1 y):=by
         rw[hc',dot_add F (wd_wscl F hh.1 hw1) (wd_wadd F hmw hh.2) hy,hz,F.add_zero _ (dot_el F (wd_wscl F hh.1 hw1) hy),dot_scl F hh.1 hw1 hy]
        show add (mul a b) (dot add mul c y)=0
        rw[hdc,←F.distrib a b _ hh.1 hb hd,F.add_comm b _ hb hd,eb0,F.mul_zero a hh.1]
     rw[se_congr this,se_mul_right,se_single (f:=fun b=>ind (b=b0)) hb0 (fun i _ hne=>ind_false hne),ind_true rfl,←ind_van_mul]
     simp
    rw[e1,e2,Int.pow_succ,←Int.mul_assoc,IH]
    grind
  |false=>
   have hC1:Lin q add mul n (fun w=>∃a,El q a∧C (a::w)):=⟨⟨0,F.el0,hC.zero⟩,
    fun u v hu hv ⟨a,ha,h1⟩ ⟨b,hb,h2⟩=>⟨add a b,F.add_el a b ha hb,hC.add _ _ (wd_cons ha hu) (wd_cons hb hv) h1 h2⟩,
    fun a u ha hu ⟨b,hb,h1⟩=>⟨mul a b,F.mul_el a b ha hb,hC.scl a _ ha (wd_cons hb hu) h1⟩⟩
   have IH:=ih _ hC1 S hS'
   rw[ws_any]
   show _*(q:Int)^(cnt S)=_*ws q (n+1) (fun d=>ind (Dl q add mul (n+1) C d∧Van (true::S.map not) d))
   rw[ws_at0 F.el0,ws_all]
   have e3:ws q n (fun y=>ind (Dl q add mul (n+1) C (0::y)∧Van (S.map not) y))=ws q n (fun y=>ind (Dl q add mul n (fun w=>∃a,El q a∧C (a::w)) y∧Van (S.map not) y)):=by
    refine ws_congr fun y hy=>?_
    have:Dl q add mul (n+1) C (0::y)↔Dl q add mul n (fun w=>∃a,El q a∧C (a::w)) y:=by
     constructor
     ·intro h c hc ⟨a,ha,hcc⟩
      have:=h (a::c) (wd_cons ha hc) hcc
      rw[show dot add mul (a::c) (0::y)=add (mul a 0) (dot add mul c y) from rfl,F.mul_zero a ha,F.zero_add _ (dot_el F hc hy)] at this
      exact this
     ·intro h c hc hcc
      cases c with
      |nil=>have:=hc.1;simp at this
      |cons a c=>
       have hh:=wd_head hc
       show add (mul a 0) (dot add mul c y)=0
       rw[F.mul_zero a hh.1,F.zero_add _ (dot_el F hh.2 hy)]
       exact h c hh.2 ⟨a,hh.1,hcc⟩
    exact ind_congr ⟨fun h=>⟨this.mp h.1,h.2⟩,fun h=>⟨this.mpr h.1,h.2⟩⟩
   rw[e3]
   obtain⟨m,hm,em,hneg⟩:=wneg F
   by_cases hA:C (1::List.replicate n 0)
   ·
    have free:∀a b w,El q a→El q b→Wd q n w→C (a::w)→C (b::w):=by
     intro a b w ha hb hw h
     obtain⟨na,hna,ena⟩:=F.neg a ha
     have hs:=hC.scl (add na b) _ (F.add_el na b hna hb) (wd_cons F.el1 (wd_rep F.el0)) hA
     rw[show wscl mul (add na b) (1::List.replicate n 0)=mul (add na b) 1::wscl mul (add na b) (List.replicate n 0) from rfl,F.mul_one _ (F.add_el na b hna hb),wscl_rep F (F.add_el na b hna hb)] at hs
     have:=hC.add _ _ (wd_cons ha hw) (wd_cons (F.add_el na b hna hb) (wd_rep F.el0)) h hs
     rw[show wadd add (a::w) (add na b::List.replicate n 0)=add a (add na b)::wadd add w (List.replicate n 0) from rfl,←F.add_assoc a na b ha hna hb,ena,F.zero_add b hb,wadd_rep F hw] at this
     exact this
    have e1:∀w,Wd q n w→se q (fun a=>ind (C (a::w)))=(q:Int)*ind (∃a,El q a∧C (a::w)):=by
     intro w hw
     rw[←se_const]
     exact se_congr fun a ha=>ind_congr ⟨fun h=>⟨a,ha,h⟩,fun⟨b,hb,h⟩=>free b a w hb ha hw h⟩
    rw[ws_congr (fun w hw=>by rw[e1 w hw]),ws_congr (f:=fun w=>se q (fun a=>ind (C (a::w)))) (fun w hw=>e1 w hw),ws_mul]
    have e2:ws q n (fun w=>ind (Van S w)*((q:Int)*ind (∃a,El q a∧C (a::w))))=(q:Int)*ws q n (fun c=>ind ((∃a,El q a∧C (a::c))∧Van S c)):=by
     rw[←ws_mul]
     refine ws_congr fun w _=>?_
     rw[←ind_van_mul (fun w=>∃a,El q a∧C (a::w))];grind
    rw[e2,Int.mul_assoc,IH]
    grind
   ·
    have e1:∀w,Wd q n w→se q (fun a=>ind (C (a::w)))=ind (∃a,El q a∧C (a::w)):=by
     intro w hw
     by_cases h:∃a,El q a∧C (a::w)
     ·obtain⟨a,ha,hc⟩:=h
      rw[ind_true ⟨a,ha,hc⟩]
      rw[se_single (f:=fun a=>ind (C (a::w))) ha,ind_true hc]
      intro b hb hne
      refine ind_false fun hcb=>hA ?_
      have hn:=hC.scl m _ hm (wd_cons ha hw) hc
      have hd:=hC.add _ _ (wd_cons hb hw) (wd_wscl F hm (wd_cons ha hw)) hcb hn
      rw[show wadd add (b::w) (wscl mul m (a::w))=add b (mul m a)::wadd add w (wscl mul m w) from rfl,hneg hw] at hd
      have hma:=F.mul_el m a hm ha
      have hne2:add b (mul m a)≠0:=by
       intro e
       have ea:add (mul m a) a=0:=by
        have:=F.rdistrib a m 1 ha hm F.el1
        rw[F.one_mul a ha,F.add_comm m 1 hm F.el1,em,F.zero_mul a ha] at this
        exact this.symm
       exact hne (F.cancel (mul m a) b a hma hb ha (by rw[F.add_comm _ b hma hb,e,ea]))
      have hel:=F.add_el b _ hb hma
      obtain⟨i,hi,ei⟩:=F.inv _ hel hne2
      have:=hC.scl i _ hi (wd_cons hel (wd_rep F.el0)) hd
      rw[show wscl mul i (add b (mul m a)::List.replicate n 0)=mul i (add b (mul m a))::wscl mul i (List.replicate n 0) from rfl,F.mul_comm i _ hi hel,ei,wscl_rep F hi] at this
      exact this
     ·rw[ind_false h]
      exact se_zero fun a ha=>ind_false fun hc=>h ⟨a,ha,hc⟩
    rw[ws_congr (fun w hw=>by rw[e1 w hw,ind_van_mul (fun w=>∃a,El q a∧C (a::w))]),ws_congr (f:=fun w=>se q (fun a=>ind (C (a::w)))) (fun w hw=>e1 w hw)]
    exact IH
end field
end Mw
end
section
set_option linter.unusedVariables false
namespace Mw
def Dg (n:Nat) (f:Int→Int):Prop:=∃c:Nat→Int,∀z,f z=sm n (fun i=>c i*z^i)
def Pol (f:Int→Int):Prop:=∃n,Dg n f
theorem dg_zero' (n:Nat):Dg n (fun _=>0):=⟨fun _=>0,fun z=>(sm_zero (fun i _=>by simp)).symm⟩
theorem dg_mono {n k:Nat} {f:Int→Int} (h:Dg n f) (hk:n≤k):Dg k f:=by
 obtain⟨c,hc⟩:=h
 refine⟨fun i=>if i<n then c i else 0,fun z=>?_⟩
 try dsimp only
 rw[hc z,sm_more (m:=n) (n:=k) hk (fun i hi=>by rw[if_neg (by omega)];simp)]
 exact sm_congr (fun i hi=>by rw[if_pos hi])
theorem dg_add {n:Nat} {f g:Int→Int} (h:Dg n f) (k:Dg n g):Dg n (fun z=>f z+g z):=by
 obtain⟨c,hc⟩:=h
 obtain⟨d,hd⟩:=k
 refine⟨fun i=>c i+d i,fun z=>?_⟩
 try dsimp only
 rw[hc z,hd z,←sm_add]
 exact sm_congr (fun i _=>by rw[Int.add_mul])
theorem dg_smul {n:Nat} {f:Int→Int} (a:Int) (h:Dg n f):Dg n (fun z=>a*f z):=by
 obtain⟨c,hc⟩:=h
 refine⟨fun i=>a*c i,fun z=>?_⟩
 try dsimp only
 rw[hc z,←sm_mul]
 exact sm_congr (fun i _=>by rw[Int.mul_assoc])
theorem dg_congr {n:Nat} {f g:Int→Int} (h:Dg n f) (e:∀z,g z=f z):Dg n g:=by
 obtain⟨c,hc⟩:=h
 exact⟨c,fun z=>by rw[e z,hc z]⟩
theorem dg_sub {n:Nat} {f g:Int→Int} (h:Dg n f) (k:Dg n g):Dg n (fun z=>f z-g z):=
 dg_congr (dg_add h (dg_smul (-1) k)) (fun z=>by grind)
theorem dg_pow (k:Nat):Dg (k+1) (fun z=>z^k):=by
 refine⟨fun i=>if i=k then 1 else 0,fun z=>?_⟩
 try dsimp only
 rw[sm_single (a:=k) (by omega) (fun i _ hne=>by rw[if_neg hne];simp),if_pos rfl,Int.one_mul]
theorem dg_shift {n:Nat} {f:Int→Int} (k:Nat) (h:Dg n f):Dg (n+k) (fun z=>z^k*f z):=by
 induction k with
 |zero=>exact dg_congr h (fun z=>by simp)
 |succ k ih=>
  obtain⟨c,hc⟩:=ih
  refine⟨fun i=>if i=0 then 0 else c (i-1),fun z=>?_⟩
  try dsimp only
  rw[show n+(k+1)=(n+k)+1 by omega,sm_head]
  have:z^(k+1)*f z=z*(z^k*f z):=by rw[Int.pow_succ];grind
  have hz:z^k*f z=sm (n+k) (fun i=>c i*z^i):=hc z
  rw[this,hz,←sm_mul]
  rw[if_pos rfl]
  have:sm (n+k) (fun i=>z*(c i*z^i))=sm (n+k) (fun i=>(if i+1=0 then 0 else c (i+1-1))*z^(i+1)):=by
   refine sm_congr fun i _=>?_
   rw[if_neg (by omega),Nat.add_sub_cancel,Int.pow_succ]
   grind
  rw[this]
  simp
theorem dg_sm {N:Nat}:∀(n:Nat) (h:Nat→Int→Int),(∀i,i<n→Dg N (h i))→Dg N (fun z=>sm n (fun i=>h i z)):=by
 intro n h
 induction n with
 |zero=>intro _;exact dg_zero' N
 |succ n ih=>intro hh;exact dg_add (ih (fun i hi=>hh i (by omega))) (hh n (by omega))
theorem dg_mul {n k:Nat} {f g:Int→Int} (h:Dg n f) (hg:Dg k g):Dg (n+k) (fun z=>f z*g z):=by
 obtain⟨c,hc⟩:=h
 refine dg_congr (dg_sm (N:=n+k) n (fun i z=>c i*(z^i*g z)) (fun i hi=>dg_smul (c i) (dg_mono (dg_shift i hg) (by omega)))) (fun z=>?_)
 try dsimp only
 rw[hc z,←sm_mul_right]
 exact sm_congr (fun i _=>by rw[Int.mul_assoc])
theorem dg_const (a:Int):Dg 1 (fun _=>a):=⟨fun _=>a,fun z=>by simp [sm]⟩
theorem dg_sum {n:Nat} (c:Nat→Int):Dg n (fun z=>sm n (fun i=>c i*z^i)):=⟨c,fun _=>rfl⟩
theorem pol_zero:Pol (fun _=>0):=⟨0,dg_zero' 0⟩
theorem pol_const (a:Int):Pol (fun _=>a):=⟨1,dg_const a⟩
theorem pol_add {f g:Int→Int} (h:Pol f) (k:Pol g):Pol (fun z=>f z+g z):=by
 obtain⟨n,hn⟩:=h
 obtain⟨m,hm⟩:=k
 exact⟨n+m,dg_add (dg_mono hn (by omega)) (dg_mono hm (by omega))⟩
theorem pol_mul {f g:Int→Int} (h:Pol f) (k:Pol g):Pol (fun z=>f z*g z):=by
 obtain⟨n,hn⟩:=h
 obtain⟨m,hm⟩:=k
 exact⟨n+m,dg_mul hn hm⟩
theorem pol_smul {f:Int→Int} (a:Int) (h:Pol f):Pol (fun z=>a*f z):=by
 obtain⟨n,hn⟩:=h
 exact⟨n,dg_smul a hn⟩
theorem pol_pow (k:Nat):Pol (fun z=>z^k):=⟨_,dg_pow k⟩
theorem pol_congr {f g:Int→Int} (h:Pol f) (e:∀z,g z=f z):Pol g:=by
 obtain⟨n,hn⟩:=h
 exact⟨n,dg_congr hn e⟩
def Cg (p:Int) (F f g:Int→Int):Prop:=∃A B,Pol A∧Pol B∧∀z,f z=g z+p*A z+F z*B z
section
variable {p:Int} {F f g h f' g':Int→Int}
theorem cg_of (e:∀z,f z=g z):Cg p F f g:=⟨_,_,pol_zero,pol_zero,fun z=>by rw[e z];simp⟩
theorem cg_symm (k:Cg p F f g):Cg p F g f:=by
 obtain⟨A,B,hA,hB,e⟩:=k
 exact⟨_,_,pol_smul (-1) hA,pol_smul (-1) hB,fun z=>by rw[e z];grind⟩
theorem cg_trans (k:Cg p F f g) (l:Cg p F g h):Cg p F f h:=by
 obtain⟨A,B,hA,hB,e⟩:=k
 obtain⟨A',B',hA',hB',e'⟩:=l
 exact⟨_,_,pol_add hA hA',pol_add hB hB',fun z=>by rw[e z,e' z];grind⟩
theorem cg_add (k:Cg p F f g) (l:Cg p F f' g'):Cg p F (fun z=>f z+f' z) (fun z=>g z+g' z):=by
 obtain⟨A,B,hA,hB,e⟩:=k
 obtain⟨A',B',hA',hB',e'⟩:=l
 exact⟨_,_,pol_add hA hA',pol_add hB hB',fun z=>by show f z+f' z=(g z+g' z)+p*(A z+A' z)+F z*(B z+B' z);rw[e z,e' z];grind⟩
theorem cg_mul (pf:Pol f') (pg:Pol g) (k:Cg p F f g) (l:Cg p F f' g'):Cg p F (fun z=>f z*f' z) (fun z=>g z*g' z):=by
 obtain⟨A,B,hA,hB,e⟩:=k
 obtain⟨A',B',hA',hB',e'⟩:=l
 refine⟨_,_,pol_add (pol_mul hA pf) (pol_mul pg hA'),pol_add (pol_mul hB pf) (pol_mul pg hB'),fun z=>?_⟩
 show f z*f' z=g z*g' z+p*(A z*f' z+g z*A' z)+F z*(B z*f' z+g z*B' z)
 have e1:=e z
 have e2:=e' z
 have:f z*f' z=g z*g' z+(f z-g z)*f' z+g z*(f' z-g' z):=by grind
 rw[this,show f z-g z=p*A z+F z*B z by omega,show f' z-g' z=p*A' z+F z*B' z by omega]
 grind
theorem cg_p {A:Int→Int} (hA:Pol A) (e:∀z,f z=g z+p*A z):Cg p F f g:=⟨_,_,hA,pol_zero,fun z=>by rw[e z];simp⟩
theorem cg_F {B:Int→Int} (hB:Pol B) (e:∀z,f z=g z+F z*B z):Cg p F f g:=⟨_,_,pol_zero,hB,fun z=>by rw[e z];simp⟩
end
def Mon (m:Nat) (F:Int→Int):Prop:=∃G,Dg m G∧∀z,F z=z^m+G z
theorem coef_top {j:Nat} {b p:Int} {A E:Int→Int} (hA:Pol A) (hE:Dg j E) (h:∀z,b*z^j+p*A z=E z):∃a,b=p*a:=by
 obtain⟨n,hn⟩:=hA
 obtain⟨a,ha⟩:=dg_mono hn (show n≤n+j+1 by omega)
 obtain⟨c,hc⟩:=hE
 refine⟨-a j,?_⟩
 have key:=poly_eq (n:=n+j+1) (c:=fun i=>(if i=j then b else 0)+p*a i) (d:=fun i=>if i<j then c i else 0) (fun z=>?_) j (by omega)
 ·simp only[if_true,Nat.lt_irrefl,if_false] at key
  rw[Int.mul_neg];omega
 ·have e1:sm (n+j+1) (fun i=>((if i=j then b else 0)+p*a i)*z^i)=sm (n+j+1) (fun i=>(if i=j then b else 0)*z^i)+sm (n+j+1) (fun i=>p*(a i*z^i)):=by
   rw[←sm_add]
   exact sm_congr (fun i _=>by grind)
  rw[e1,sm_mul,←ha z,sm_single (a:=j) (by omega) (fun i _ hne=>by rw[if_neg hne];simp),if_pos rfl,h z,hc z]
  rw[sm_more (m:=j) (n:=n+j+1) (by omega) (fun i hi=>by rw[if_neg (by omega)];simp)]
  exact sm_congr (fun i hi=>by rw[if_pos hi])
theorem uniq {m:Nat} {p:Int} {F D:Int→Int} (hF:Mon m F) (hD:Dg m D) (h:Cg p F D (fun _=>0)):∃a:Nat→Int,∀z,D z=p*sm m (fun i=>a i*z^i):=by
 obtain⟨A,B,hA,⟨k,hB⟩,e⟩:=h
 obtain⟨G,hG,eF⟩:=hF
 have go:∀(k:Nat) (A B:Int→Int),Pol A→Dg k B→(∀z,D z=p*A z+F z*B z)→∃a:Nat→Int,∀z,D z=p*sm m (fun i=>a i*z^i):=by
  intro k
  induction k with
  |zero=>
   intro A B hA hB e
   obtain⟨b,hb⟩:=hB
   obtain⟨n,hn⟩:=hA
   obtain⟨a,ha⟩:=dg_mono hn (show n≤n+m by omega)
   obtain⟨d,hd⟩:=hD
   have key:=poly_eq (n:=n+m) (c:=fun i=>if i<m then d i else 0) (d:=fun i=>p*a i) (fun z=>?_)
   ·refine⟨a,fun z=>?_⟩
    rw[hd z,←sm_mul]
    refine sm_congr fun i hi=>?_
    have:=key i (by omega)
    simp only[if_pos hi] at this
    rw[this,Int.mul_assoc]
   ·rw[sm_more (m:=m) (n:=n+m) (by omega) (fun i hi=>by rw[if_neg (by omega)];simp)]
    have e1:sm m (fun i=>(if i<m then d i else 0)*z^i)=D z:=by
     rw[hd z];exact sm_congr (fun i hi=>by rw[if_pos hi])
    rw[e1,e z,hb z,ha z,←sm_mul]
    simp only[sm,Int.mul_zero,Int.add_zero]
    exact sm_congr (fun i _=>by rw[Int.mul_assoc])
  |succ k ih=>
   intro A B hA hB e
   obtain⟨b,hb⟩:=hB
   have hB':Dg k (fun z=>sm k (fun i=>b i*z^i)):=dg_sum b
   have hE:Dg (m+k) (fun z=>D z-(z^m*sm k (fun i=>b i*z^i))-G z*sm k (fun i=>b i*z^i)-b k*(z^k*G z)):=
    dg_sub (dg_sub (dg_sub (dg_mono hD (by omega)) (dg_mono (dg_shift m hB') (by omega))) (dg_mul hG hB')) (dg_smul (b k) (dg_shift k hG))
   obtain⟨a,ha⟩:=coef_top (j:=m+k) (b:=b k) (p:=p) hA hE (fun z=>by
    rw[e z,eF z,hb z]
    simp only[sm,Int.pow_add]
    grind)
   refine ih (fun z=>A z+a*(z^k*F z)) (fun z=>sm k (fun i=>b i*z^i)) (pol_add hA (pol_smul a (pol_mul (pol_pow k) (pol_congr (pol_add (pol_pow m) ⟨_,hG⟩) eF)))) hB' (fun z=>?_)
   try dsimp only
   rw[e z,hb z]
   simp only[sm]
   rw[ha]
   grind
 exact go k A B hA hB (fun z=>by rw[e z];simp)
theorem divide {d:Nat} {G:Int→Int} (hG:Dg d G):∀(k:Nat) (f:Int→Int),Dg (d+k) f→∃h r,Dg k h∧Dg d r∧∀z,f z=(z^d+G z)*h z+r z:=by
 intro k
 induction k with
 |zero=>intro f hf;exact⟨_,_,dg_zero' 0,hf,fun z=>by simp⟩
 |succ k ih=>
  intro f hf
  obtain⟨c,hc⟩:=hf
  have hf':Dg (d+k) (fun z=>sm (d+k) (fun i=>c i*z^i)-c (d+k)*(z^k*G z)):=dg_sub (dg_sum c) (dg_smul _ (dg_shift k hG))
  obtain⟨h,r,hh,hr,e⟩:=ih _ hf'
  refine⟨fun z=>h z+c (d+k)*z^k,r,dg_add (dg_mono hh (by omega)) (dg_smul _ (dg_pow k)),hr,fun z=>?_⟩
  try dsimp only
  have e1:=e z
  rw[hc z,show d+(k+1)=(d+k)+1 by omega]
  simp only[sm,Int.pow_add]
  grind
section
variable {p:Int} {m:Nat} {F:Int→Int}
theorem monic_of (unit:∀c:Int,¬p∣c→∃u t,c*u=1+p*t) {b:Int→Int} (hb:Pol b):∀(n:Nat) (f:Int→Int),Dg n f→Cg p F (fun z=>f z*b z) (fun _=>0)→(¬ ∃A,Pol A∧∀z,f z=p*A z)→
 ∃d G,d<n∧Dg d G∧Cg p F (fun z=>(z^d+G z)*b z) (fun _=>0):=by
 intro n
 induction n with
 |zero=>
  intro f hf _ hn
  obtain⟨c,hc⟩:=hf
  exact absurd ⟨_,pol_zero,fun z=>by rw[hc z];simp [sm]⟩ hn
 |succ n ih=>
  intro f hf hz hn
  obtain⟨c,hc⟩:=hf
  have hf':Dg n (fun z=>sm n (fun i=>c i*z^i)):=dg_sum c
  by_cases hp:p∣c n
  ·obtain⟨t,ht⟩:=hp
   obtain⟨d,G,hd,hG,h⟩:=ih _ hf' (by
    refine cg_trans (cg_symm ?_) hz
    refine cg_p (pol_smul t (pol_mul (pol_pow n) hb)) (fun z=>?_)
    try dsimp only
    rw[hc z]
    simp only[sm]
    rw[ht]
    grind) (fun⟨A,hA,e⟩=>hn ⟨_,pol_add hA (pol_smul t (pol_pow n)),fun z=>by
     rw[hc z]
     simp only[sm]
     rw[e z,ht]
     grind⟩)
   exact⟨d,G,by omega,hG,h⟩
  ·obtain⟨u,t,hu⟩:=unit _ hp
   refine⟨n,fun z=>u*sm n (fun i=>c i*z^i),by omega,dg_smul u hf',?_⟩
   have h1:Cg p F (fun z=>u*(f z*b z)) (fun _=>0):=by
    have:=cg_mul (f:=fun _=>u) (g:=fun _=>u) (f':=fun z=>f z*b z) (g':=fun _=>0) (pol_mul ⟨_,dg_sum (n:=n+1) c⟩ hb |> fun h=>pol_congr h (fun z=>by rw[hc z])) (pol_const u) (cg_of (fun _=>rfl)) hz
    exact cg_trans this (cg_of (fun z=>by simp))
   refine cg_trans (cg_symm ?_) h1
   refine cg_p (pol_smul t (pol_mul (pol_pow n) hb)) (fun z=>?_)
   try dsimp only
   rw[hc z]
   simp only[sm]
   have:u*((sm n (fun i=>c i*z^i)+c n*z^n)*b z)=(c n*u)*(z^n*b z)+u*(sm n (fun i=>c i*z^i))*b z:=by grind
   rw[this,hu]
   grind
theorem nzd_poly (hF:Mon m F) (unit:∀c:Int,¬p∣c→∃u t,c*u=1+p*t)
 (irr:∀e l,1≤e→2*e≤m→Mon e l→∀h A,Pol h→Pol A→¬ ∀z,F z=l z*h z+p*A z)
 {a b:Int→Int} (ha:Dg m a) (hb:Dg m b) (h:Cg p F (fun z=>a z*b z) (fun _=>0)):
 (∃A,Pol A∧∀z,a z=p*A z)∨(∃A,Pol A∧∀z,b z=p*A z):=by
 refine Classical.byContradiction fun hn=>?_
 have hna:¬ ∃A,Pol A∧∀z,a z=p*A z:=fun e=>hn (.inl e)
 have hnb:¬ ∃A,Pol A∧∀z,b z=p*A z:=fun e=>hn (.inr e)
 have none:∀d,d<m→¬ ∃G,Dg d G∧Cg p F (fun z=>(z^d+G z)*b z) (fun _=>0):=by
  intro d
  induction d using Nat.strongRecOn with
  |_ d ih=>
   intro hd ⟨G,hG,hz⟩
   by_cases h0:d=0
   ·subst h0
    obtain⟨c,hc⟩:=hG
    have h1:Cg p F b (fun _=>0):=cg_trans (cg_of (fun z=>by rw[hc z];simp [sm])) hz
    obtain⟨x,hx⟩:=uniq hF hb h1
    exact hnb ⟨_,⟨m,dg_sum x⟩,hx⟩
   ·obtain⟨GF,hGF,eF⟩:=hF
    have hrest:Dg (d+(m-d)) (fun z=>GF z-z^(m-d)*G z):=by
     rw[show d+(m-d)=m by omega]
     exact dg_sub hGF (dg_mono (dg_shift (m-d) hG) (by omega))
    obtain⟨hh,r,hhd,hr,e⟩:=divide hG (m-d) _ hrest
    have hdiv:∀z,F z=(z^d+G z)*(z^(m-d)+hh z)+r z:=by
     intro z
     have e1:=e z
     have e2:z^m=z^(m-d)*z^d:=by rw[←Int.pow_add];congr 1;omega
     rw[eF z,e2]
     grind
    have hFp:Pol F:=pol_congr (pol_add (pol_pow m) ⟨_,hGF⟩) eF
    have hbp:Pol b:=⟨_,hb⟩
    have hhp:Pol (fun z=>z^(m-d)+hh z):=pol_add (pol_pow _) ⟨_,hhd⟩
    have hrz:Cg p F (fun z=>r z*b z) (fun _=>0):=by
     have h1:=cg_mul (f:=fun z=>z^(m-d)+hh z) (g:=fun z=>z^(m-d)+hh z) (f':=fun z=>(z^d+G z)*b z) (g':=fun _=>0) (pol_mul (pol_add (pol_pow d) ⟨_,hG⟩) hbp) hhp (cg_of (fun _=>rfl)) hz
     have h2:Cg p F (fun z=>r z*b z) (fun z=> -1*((z^(m-d)+hh z)*((z^d+G z)*b z))):=cg_F hbp (fun z=>by rw[hdiv z];grind)
     have h3:=cg_mul (f:=fun _=> -1) (g:=fun _=> -1) (f':=fun z=>(z^(m-d)+hh z)*((z^d+G z)*b z)) (g':=fun z=>(z^(m-d)+hh z)*0) (pol_mul hhp (pol_mul (pol_add (pol_pow d) ⟨_,hG⟩) hbp)) (pol_const (-1)) (cg_of (fun _=>rfl)) h1
     exact cg_trans h2 (cg_trans h3 (cg_of (fun z=>by simp)))
    by_cases hr0:∃A,Pol A∧∀z,r z=p*A z
    ·obtain⟨A,hA,eA⟩:=hr0
     by_cases h2:2*d≤m
     ·refine irr d (fun z=>z^d+G z) (by omega) h2 ⟨G,hG,fun _=>rfl⟩ _ A hhp hA (fun z=>?_)
      rw[hdiv z,eA z]
     ·refine irr (m-d) (fun z=>z^(m-d)+hh z) (by omega) (by omega) ⟨hh,hhd,fun _=>rfl⟩ (fun z=>z^d+G z) A (pol_add (pol_pow d) ⟨_,hG⟩) hA (fun z=>?_)
      rw[hdiv z,eA z]
      grind
    ·obtain⟨d',G',hd',hG',hz'⟩:=monic_of (F:=F) unit hbp d r hr hrz hr0
     exact ih d' hd' (by omega) ⟨G',hG',hz'⟩
 obtain⟨d,G,hd,hG,hz⟩:=monic_of (F:=F) unit ⟨_,hb⟩ m a ha h hna
 exact none d hd ⟨G,hG,hz⟩
end
def dgt (p:Nat) (x:Int) (i:Nat):Int:=((x.toNat / p^i % p:Nat):Int)
def nv (p:Nat) (c:Nat→Nat):Nat→Nat
 |0=>0
 |m+1=>nv p c m+c m*p^m
def Px (p m:Nat) (x:Int) (z:Int):Int:=sm m (fun i=>dgt p x i*z^i)
theorem px_dg (p m:Nat) (x:Int):Dg m (Px p m x):=⟨_,fun _=>rfl⟩
theorem px_pol (p m:Nat) (x:Int):Pol (Px p m x):=⟨_,px_dg p m x⟩
theorem dgt_lt {p:Nat} (hp:2≤p) (x:Int) (i:Nat):0≤dgt p x i∧dgt p x i<(p:Int):=by
 unfold dgt
 have:=Nat.mod_lt (x.toNat / p^i) (show p>0 by omega)
 omega
theorem nv_lt {p:Nat} {c:Nat→Nat}:∀(m:Nat),(∀i,i<m→c i<p)→nv p c m<p^m:=by
 intro m
 induction m with
 |zero=>intro _;exact Nat.one_pos
 |succ m ih=>
  intro h
  have h1:=ih (fun i hi=>h i (by omega))
  have h2:(c m+1)*p^m≤p*p^m:=Nat.mul_le_mul_right _ (h m (by omega))
  rw[nv,Nat.pow_succ,Nat.mul_comm (p^m) p]
  rw[Nat.add_mul,Nat.one_mul] at h2
  omega
theorem nv_digit {p:Nat} {c:Nat→Nat} (hp:2≤p):∀(m:Nat),(∀i,i<m→c i<p)→∀i,i<m→nv p c m / p^i % p=c i:=by
 intro m
 induction m with
 |zero=>intro _ i hi;omega
 |succ m ih=>
  intro h i hi
  have h1:=nv_lt m (fun i hi=>h i (by omega))
  have hpp:0<p^i:=Nat.pow_pos (by omega)
  rw[nv]
  by_cases e:i=m
  ·subst e
   rw[Nat.add_mul_div_right _ _ hpp,Nat.div_eq_of_lt h1,Nat.zero_add,Nat.mod_eq_of_lt (h i (by omega))]
  ·have e2:c m*p^m=(c m*p^(m-i-1)*p)*p^i:=by
    rw[Nat.mul_assoc,Nat.mul_assoc,←Nat.pow_succ',←Nat.pow_add]
    congr 2
    omega
   rw[e2,Nat.add_mul_div_right _ _ hpp,Nat.add_mul_mod_self_right]
   exact ih (fun i hi=>h i (by omega)) i (by omega)
theorem nv_congr {p:Nat} {c d:Nat→Nat}:∀(m:Nat),(∀i,i<m→c i=d i)→nv p c m=nv p d m:=by
 intro m
 induction m with
 |zero=>intro _;rfl
 |succ m ih=>intro h;rw[nv,nv,ih (fun i hi=>h i (by omega)),h m (by omega)]
theorem nv_self {p:Nat} (x:Nat):∀m,nv p (fun i=>x / p^i % p) m=x % p^m:=by
 intro m
 induction m with
 |zero=>rw[nv,Nat.pow_zero,Nat.mod_one]
 |succ m ih=>rw[nv,ih,Nat.pow_succ,Nat.mod_mul,Nat.mul_comm]
theorem el_digits {p m:Nat} {x y:Int} (hx:El (p^m) x) (hy:El (p^m) y) (h:∀i,i<m→dgt p x i=dgt p y i):x=y:=by
 have h1:=nv_self (p:=p) x.toNat m
 have h2:=nv_self (p:=p) y.toNat m
 rw[Nat.mod_eq_of_lt (by have:=hx.2;have:=hx.1;omega)] at h1
 rw[Nat.mod_eq_of_lt (by have:=hy.2;have:=hy.1;omega)] at h2
 have h3:=nv_congr (p:=p) (c:=fun i=>x.toNat / p^i % p) (d:=fun i=>y.toNat / p^i % p) m (fun i hi=>by
  have:=h i hi
  unfold dgt at this
  omega)
 have:=hx.1
 have:=hy.1
 omega
theorem el_of {p m:Nat} (hp:2≤p) (c:Nat→Int) (h:∀i,i<m→0≤c i∧c i<(p:Int)):∃x,El (p^m) x∧∀i,i<m→dgt p x i=c i:=by
 have hc:∀i,i<m→(c i).toNat<p:=fun i hi=>by have:=h i hi;omega
 refine⟨((nv p (fun i=>(c i).toNat) m:Nat):Int),⟨Int.natCast_nonneg _,by have:=nv_lt m hc;omega⟩,fun i hi=>?_⟩
 unfold dgt
 rw[Int.toNat_natCast,nv_digit hp m hc i hi]
 have:=h i hi
 omega
theorem el_eq {p m:Nat} {F:Int→Int} (hp:2≤p) (hF:Mon m F) {x y:Int} (hx:El (p^m) x) (hy:El (p^m) y) (h:Cg (p:Int) F (Px p m x) (Px p m y)):x=y:=by
 refine el_digits hx hy (fun i hi=>?_)
 have hD:Dg m (fun z=>Px p m x z-Px p m y z):=dg_sub (px_dg _ _ _) (px_dg _ _ _)
 obtain⟨a,ha⟩:=uniq (p:=(p:Int)) hF hD (by
  obtain⟨A,B,hA,hB,e⟩:=h
  exact⟨A,B,hA,hB,fun z=>by show Px p m x z-Px p m y z=0+(p:Int)*A z+F z*B z;rw[e z];grind⟩)
 have key:=poly_eq (n:=m) (c:=fun i=>dgt p x i-dgt p y i) (d:=fun i=>(p:Int)*a i) (fun z=>by
  have e:=ha z
  unfold Px at e
  rw[←sm_sub,←sm_mul] at e
  have e1:sm m (fun i=>(dgt p x i-dgt p y i)*z^i)=sm m (fun i=>dgt p x i*z^i-dgt p y i*z^i):=sm_congr (fun i _=>by rw[Int.sub_mul])
  have e2:sm m (fun i=>(p:Int)*a i*z^i)=sm m (fun i=>(p:Int)*(a i*z^i)):=sm_congr (fun i _=>by rw[Int.mul_assoc])
  rw[e1,e2]
  exact e) i hi
 have key:dgt p x i-dgt p y i=(p:Int)*a i:=key
 have h1:=dgt_lt hp x i
 have h2:=dgt_lt hp y i
 have h0:a i=0:=by
  refine Decidable.byContradiction fun hne=>?_
  rcases Int.lt_or_gt_of_ne hne with g|g
  ·have:=Int.mul_le_mul_of_nonneg_left (show a i≤ -1 by omega) (show(0:Int)≤(p:Int) by omega)
   omega
  ·have:=Int.mul_le_mul_of_nonneg_left (show 1≤a i by omega) (show(0:Int)≤(p:Int) by omega)
   omega
 rw[h0,Int.mul_zero] at key
 omega
theorem px_zero (p m:Nat) (z:Int):Px p m 0 z=0:=by
 unfold Px dgt
 exact sm_zero (fun i _=>by simp)
theorem px_one {p m:Nat} (hp:2≤p) (hm:1≤m) (z:Int):Px p m 1 z=1:=by
 unfold Px
 rw[sm_single (a:=0) (by omega)]
 ·unfold dgt
  have:(1:Int).toNat / p^0 % p=1:=by
   rw[Nat.pow_zero,Nat.div_one]
   exact Nat.mod_eq_of_lt (by show 1<p;omega)
  rw[this];simp
 ·intro i _ hne
  have:(1:Int).toNat / p^i % p=0:=by
   rw[Nat.div_eq_of_lt]
   ·exact Nat.zero_mod _
   ·show 1<p^i
    exact Nat.one_lt_pow hne (by omega)
  unfold dgt
  rw[this];simp
theorem one_el {p m:Nat} (hp:2≤p) (hm:1≤m):2≤p^m:=by
 have:p^1≤p^m:=Nat.pow_le_pow_right (by omega) hm
 rw[Nat.pow_one] at this
 omega
def Prm (p:Nat):Prop:=2≤p∧∀d,2≤d→d<p→p % d≠0
theorem prm_unit {p:Nat} (h:Prm p) (c:Int) (hc:¬(p:Int)∣c):∃u t,c*u=1+(p:Int)*t:=by
 obtain⟨hp,hd⟩:=h
 obtain⟨a,ha⟩:∃a:Nat,c % (p:Int)=(a:Int):=⟨(c % (p:Int)).toNat,by have:=Int.emod_nonneg c (show(p:Int)≠0 by omega);omega⟩
 have hap:a<p:=by have:=Int.emod_lt_of_pos c (show(0:Int)<(p:Int) by omega);omega
 have ha0:a≠0:=fun e=>hc (Int.dvd_of_emod_eq_zero (by rw[ha,e];rfl))
 have hg:Nat.gcd p a=1:=by
  have h1:Nat.gcd p a∣p:=Nat.gcd_dvd_left _ _
  have h2:Nat.gcd p a≤a:=Nat.gcd_le_right _ (by omega)
  have h3:Nat.gcd p a≠0:=fun e=>ha0 (Nat.gcd_eq_zero_iff.mp e).2
  refine Decidable.byContradiction fun hne=>?_
  exact hd (Nat.gcd p a) (by omega) (by omega) (Nat.mod_eq_zero_of_dvd h1)
 have inj:∀x y,x<p→y<p→a*x % p=a*y % p→x=y:=by
  have one:∀x y,x<p→y<p→x≤y→a*x % p=a*y % p→x=y:=by
   intro x y hx hy hxy e
   have hdv:p∣a*(y-x):=by
    rw[Nat.mul_sub]
    exact Nat.dvd_of_mod_eq_zero (Nat.sub_mod_eq_zero_of_mod_eq e.symm)
   have hdv2:p∣y-x:=Nat.Coprime.dvd_of_dvd_mul_left (k:=p) (m:=a) hg hdv
   have:=Nat.eq_zero_of_dvd_of_lt hdv2 (by omega)
   omega
  intro x y hx hy e
  rcases Nat.le_total x y with g|g
  ·exact one x y hx hy g e
  ·exact(one y x hy hx g e.symm).symm
 have hs:=onto_of_inj (q:=p) (σ:=fun x=>a*x % p) (fun x _=>Nat.mod_lt _ (by omega)) inj 1 (by omega)
 have hex:∃u,a*u % p=1:=by
  refine Classical.byContradiction fun hn=>?_
  rw[sm_zero (fun i _=>ind_false (fun e=>hn ⟨i,e⟩))] at hs
  omega
 obtain⟨u,hu⟩:=hex
 refine⟨(u:Int),(c / (p:Int))*(u:Int)+((a*u / p:Nat):Int),?_⟩
 have e1:=Int.emod_add_mul_ediv c (p:Int)
 rw[ha] at e1
 have e2:=Nat.mod_add_div (a*u) p
 rw[hu] at e2
 have e3:((1+p*(a*u / p):Nat):Int)=((a*u:Nat):Int):=by rw[e2]
 rw[Int.natCast_add,Int.natCast_mul,Int.natCast_mul] at e3
 conv=>lhs;rw[←e1]
 rw[Int.add_mul,←e3]
 rw[show((1:Nat):Int)=1 from rfl]
 grind
theorem gf {p m:Nat} {F:Int→Int} (hp:Prm p) (hm:1≤m) (hF:Mon m F)
 (irr:∀(e:Nat) (c:Nat→Int),1≤e→2*e≤m→(∀i,i<e→0≤c i∧c i<(p:Int))→∀h A,Pol h→Pol A→¬ ∀z,F z=(z^e+sm e (fun i=>c i*z^i))*h z+(p:Int)*A z)
 {add mul:Int→Int→Int}
 (ha:∀x y,El (p^m) x→El (p^m) y→El (p^m) (add x y)∧Cg (p:Int) F (Px p m (add x y)) (fun z=>Px p m x z+Px p m y z))
 (hmu:∀x y,El (p^m) x→El (p^m) y→El (p^m) (mul x y)∧Cg (p:Int) F (Px p m (mul x y)) (fun z=>Px p m x z*Px p m y z)):Fld (p^m) add mul:=by
 have hp2:=hp.1
 have q2:=one_el hp2 hm
 have e0:El (p^m) 0:=⟨by omega,by omega⟩
 have e1:El (p^m) 1:=⟨by omega,by omega⟩
 have eq:∀{x y:Int},El (p^m) x→El (p^m) y→Cg (p:Int) F (Px p m x) (Px p m y)→x=y:=fun hx hy h=>el_eq hp2 hF hx hy h
 refine⟨q2,fun x y hx hy=>(ha x y hx hy).1,fun x y hx hy=>(hmu x y hx hy).1,?_,?_,?_,?_,?_,?_,?_,?_,?_⟩
 ·intro x hx
  have h:=ha x 0 hx e0
  exact eq h.1 hx (cg_trans h.2 (cg_of (fun z=>by rw[px_zero];simp)))
 ·intro x y hx hy
  have h:=ha x y hx hy
  have k:=ha y x hy hx
  exact eq h.1 k.1 (cg_trans h.2 (cg_trans (cg_of (fun z=>Int.add_comm _ _)) (cg_symm k.2)))
 ·intro x y w hx hy hw
  have h:=ha x y hx hy
  have k:=ha y w hy hw
  have h2:=ha _ w h.1 hw
  have k2:=ha x _ hx k.1
  refine eq h2.1 k2.1 (cg_trans h2.2 (cg_trans (cg_add h.2 (cg_of (fun _=>rfl))) (cg_trans (cg_of (fun z=>Int.add_assoc _ _ _)) (cg_symm (cg_trans k2.2 (cg_add (cg_of (fun _=>rfl)) k.2))))))
 ·intro x hx
  obtain⟨y,hy,hd⟩:=el_of (m:=m) hp2 (fun i=>(-dgt p x i) % (p:Int)) (fun i _=>⟨Int.emod_nonneg _ (by omega),Int.emod_lt_of_pos _ (by omega)⟩)
  refine⟨y,hy,?_⟩
  have h:=ha x y hx hy
  refine eq h.1 e0 (cg_trans h.2 ?_)
  refine cg_p (A:=fun z=>sm m (fun i=>(-((-dgt p x i) / (p:Int)))*z^i)) ⟨m,dg_sum _⟩ (fun z=>?_)
  rw[px_zero]
  unfold Px
  rw[←sm_add,Int.zero_add,←sm_mul]
  refine sm_congr fun i hi=>?_
  rw[hd i hi]
  have:=Int.emod_add_mul_ediv (-dgt p x i) (p:Int)
  have e:(-dgt p x i) % (p:Int)= -dgt p x i-(p:Int)*((-dgt p x i) / (p:Int)):=by omega
  rw[e]
  grind
 ·intro x hx
  have h:=hmu x 1 hx e1
  exact eq h.1 hx (cg_trans h.2 (cg_of (fun z=>by rw[px_one hp2 hm];simp)))
 ·intro x y hx hy
  have h:=hmu x y hx hy
  have k:=hmu y x hy hx
  exact eq h.1 k.1 (cg_trans h.2 (cg_trans (cg_of (fun z=>Int.mul_comm _ _)) (cg_symm k.2)))
 ·intro x y w hx hy hw
  have h:=hmu x y hx hy
  have k:=hmu y w hy hw
  have h2:=hmu _ w h.1 hw
  have k2:=hmu x _ hx k.1
  refine eq h2.1 k2.1 (cg_trans h2.2 (cg_trans (cg_mul (px_pol _ _ _) (pol_mul (px_pol _ _ _) (px_pol _ _ _)) h.2 (cg_of (fun _=>rfl))) (cg_trans (cg_of (fun z=>Int.mul_assoc _ _ _)) (cg_symm (cg_trans k2.2 (cg_mul (px_pol _ _ _) (px_pol _ _ _) (cg_of (fun _=>rfl)) k.2))))))
 ·intro x y w hx hy hw
  have h:=ha y w hy hw
  have k:=hmu x _ hx h.1
  have h1:=hmu x y hx hy
  have h2:=hmu x w hx hw
  have h3:=ha _ _ h1.1 h2.1
  refine eq k.1 h3.1 (cg_trans k.2 (cg_trans (cg_mul (px_pol _ _ _) (px_pol _ _ _) (cg_of (fun _=>rfl)) h.2) (cg_trans (cg_of (fun z=>Int.mul_add _ _ _)) (cg_symm (cg_trans h3.2 (cg_add h1.2 h2.2))))))
 ·intro x y hx hy h0
  have h:=hmu x y hx hy
  rw[h0] at h
  have hz:Cg (p:Int) F (fun z=>Px p m x z*Px p m y z) (fun _=>0):=cg_trans (cg_symm h.2) (cg_of (fun z=>px_zero _ _ _))
  have irr':∀e l,1≤e→2*e≤m→Mon e l→∀h A,Pol h→Pol A→¬ ∀z,F z=l z*h z+(p:Int)*A z:=by
   intro e l he1 he2 ⟨G,⟨g,hg⟩,el⟩ h A hh hA hc
   refine irr e (fun i=>g i % (p:Int)) he1 he2 (fun i _=>⟨Int.emod_nonneg _ (by omega),Int.emod_lt_of_pos _ (by omega)⟩) h _ hh (pol_add (pol_mul (⟨e,dg_sum (fun i=>g i / (p:Int))⟩:Pol _) hh) hA) (fun z=>?_)
   rw[hc z,el z,hg z]
   have:sm e (fun i=>g i*z^i)=sm e (fun i=>g i % (p:Int)*z^i)+(p:Int)*sm e (fun i=>g i / (p:Int)*z^i):=by
    rw[←sm_mul,←sm_add]
    refine sm_congr fun i _=>?_
    have:=Int.emod_add_mul_ediv (g i) (p:Int)
    conv=>lhs;rw[←this]
    grind
   rw[this]
   grind
  have van:∀w,El (p^m) w→(∃A,Pol A∧∀z,Px p m w z=(p:Int)*A z)→w=0:=by
   intro w hw ⟨A,hA,e⟩
   exact eq hw e0 (cg_p hA (fun z=>by rw[px_zero,e z];simp))
  rcases nzd_poly hF (prm_unit hp) irr' (px_dg p m x) (px_dg p m y) hz with g|g
  ·exact .inl (van x hx g)
  ·exact .inr (van y hy g)
end Mw
end
section
set_option linter.unusedVariables false
set_option linter.unusedSimpArgs false
namespace Mw
open Go Go.RowKit Go.Proofs.YtifkbghnmhineaaW.PrintWords
def Ev {α:Type} (g:Nat→Option α) (r:α):Prop:=∃K,∀k,K≤k→g k=some r
theorem Ev.of {α:Type} {g:Nat→Option α} {r:α} (h:∀k,g k=some r):Ev g r:=⟨0,fun k _=>h k⟩
theorem Ev.some {α:Type} (r:α):Ev (fun _=>some r) r:=⟨0,fun _ _=>rfl⟩
theorem Ev.succ {α:Type} {g:Nat→Option α} {r:α} (h:Ev (fun k=>g (k+1)) r):Ev g r:=by
 obtain⟨K,h⟩:=h
 refine⟨K+1,fun k hk=>?_⟩
 obtain⟨m,rfl⟩:∃m,k=m+1:=⟨k-1,by omega⟩
 exact h m (by omega)
theorem Ev.bind {α β:Type} {g:Nat→Option α} {f:Nat→α→Option β} {a:α} {r:β} (hg:Ev g a) (hf:Ev (fun k=>f k a) r):Ev (fun k=>(g k).bind (f k)) r:=by
 obtain⟨K,hg⟩:=hg
 obtain⟨L,hf⟩:=hf
 refine⟨K+L,fun k hk=>?_⟩
 show(g k).bind (f k)=_
 rw[hg k (by omega)]
 exact hf k (by omega)
theorem Ev.cast {α:Type} {g:Nat→Option α} {r s:α} (h:Ev g r) (e:r=s):Ev g s:=e ▸ h
theorem Ev.get {α:Type} {g:Nat→Option α} {r:α} (h:Ev g r):∃k,g k=Option.some r:=by
 obtain⟨K,h⟩:=h
 exact⟨K,h K (Nat.le_refl K)⟩
theorem w64 {x:Int} (h0: -9223372036854775808≤x) (h1:x≤9223372036854775807):wrap64 x=x:=by unfold wrap64;omega
theorem wn {x:Int} {n:Nat} (h:x=(n:Int)) (hn:n<9223372036854775808):wrap64 x=(n:Int):=by subst h;exact w64 (by omega) (by omega)
theorem u64w {x:Int} (h0:0≤x) (h1:x<18446744073709551616):IntKind.u64.wrap x=x:=by
 simp [IntKind.wrap,IntKind.bits,IntKind.signed];omega
theorem u64m (x:Int):IntKind.u64.wrap x=x % 18446744073709551616:=by
 simp [IntKind.wrap,IntKind.bits,IntKind.signed]
def bp:Nat→Nat
 |0=>1
 |n+1=>4294967296*bp n
theorem bp_pos:∀n,0<bp n
 |0=>by decide
 |n+1=>by have:=bp_pos n;simp only[bp];omega
theorem bp_mono:∀{m n:Nat},m≤n→bp m≤bp n:=by
 intro m n h
 induction n with
 |zero=>
  have:m=0:=by omega
  subst this;exact Nat.le_refl _
 |succ n ih=>
  by_cases e:m=n+1
  ·subst e;exact Nat.le_refl _
  ·have:=ih (by omega);simp only[bp];omega
theorem bp_add:∀(m n:Nat),bp (m+n)=bp m*bp n
 |m,0=>by simp [bp]
 |m,n+1=>by rw[←Nat.add_assoc,bp,bp,bp_add m n,Nat.mul_left_comm]
def lv:List Int→Int
 | []=>0
 |a::l=>a+4294967296*lv l
def Lm (l:List Int):Prop:=∀x∈l,0≤x∧x<4294967296
def dg (n:Nat):List Int:=if n=0 then [] else((n % 4294967296:Nat):Int)::dg (n / 4294967296)
termination_by n
decreasing_by omega
theorem dg_zero:dg 0=[]:=by rw[dg];rfl
theorem dg_pos {n:Nat} (h:n≠0):dg n=((n % 4294967296:Nat):Int)::dg (n / 4294967296):=by rw[dg,if_neg h]
theorem lv_dg:∀n:Nat,lv (dg n)=n:=by
 intro n
 induction n using Nat.strongRecOn with
 |_ n ih=>
  by_cases h:n=0
  ·subst h;rw[dg_zero];rfl
  ·rw[dg_pos h,lv,ih _ (by omega)];omega
theorem lm_nil:Lm []:=by intro x hx;simp at hx
theorem lm_cons {a:Int} {l:List Int}:Lm (a::l)↔(0≤a∧a<4294967296)∧Lm l:=by
 constructor
 ·intro h;exact⟨h a (by simp),fun x hx=>h x (by simp [hx])⟩
 ·intro h x hx
  exact(List.mem_cons.mp hx).elim (fun e=>e ▸ h.1) (fun e=>h.2 x e)
theorem lm_dg:∀n:Nat,Lm (dg n):=by
 intro n
 induction n using Nat.strongRecOn with
 |_ n ih=>
  by_cases h:n=0
  ·subst h;rw[dg_zero];exact lm_nil
  ·rw[dg_pos h,lm_cons];exact⟨by omega,ih _ (by omega)⟩
theorem lv_nonneg:∀{l:List Int},Lm l→0≤lv l
 | [],_=>Int.le_refl 0
 |a::l,h=>by have:=lv_nonneg (lm_cons.mp h).2;have:=(lm_cons.mp h).1;simp only[lv];omega
theorem lv_lt:∀{l:List Int},Lm l→lv l<bp l.length
 | [],_=>by simp [lv,bp]
 |a::l,h=>by
  have h1:=lv_lt (lm_cons.mp h).2
  have h2:=(lm_cons.mp h).1
  simp only[lv,List.length_cons,bp]
  omega
theorem lv_append:∀(l m:List Int),lv (l++m)=lv l+(bp l.length:Int)*lv m
 | [],m=>by simp [lv,bp]
 |a::l,m=>by
  simp only[List.cons_append,lv,List.length_cons,bp,Int.natCast_mul]
  rw[lv_append l m,Int.mul_add,Int.mul_assoc]
  omega
theorem lv_rep:∀n:Nat,lv (List.replicate n 0)=0
 |0=>rfl
 |n+1=>by rw[List.replicate_succ,lv,lv_rep n];rfl
theorem lm_rep (n:Nat):Lm (List.replicate n 0):=by
 intro x hx;rw[(List.mem_replicate.mp hx).2];omega
theorem dg_lv:∀{l:List Int},Lm l→(∀h:l≠[],l.getLast h≠0)→dg (lv l).toNat=l
 | [],_,_=>by simp only[lv];exact dg_zero
 |a::l,h,hl=>by
  have h1:=lm_cons.mp h
  have h0:=lv_nonneg h1.2
  have ih:l≠[]→dg (lv l).toNat=l:=fun hne=>dg_lv h1.2 (fun hh=>by
   have:=hl (by simp)
   rwa [List.getLast_cons hh] at this)
  by_cases hne:l=[]
  ·subst hne
   have ha:=hl (by simp)
   simp only[List.getLast_singleton] at ha
   simp only[lv]
   rw[dg_pos (by omega),show(a+4294967296*0).toNat / 4294967296=0 by omega,dg_zero]
   congr 1
   omega
  ·have ih:=ih hne
   have hpos:lv l≠0:=by
    intro e
    rw[e] at ih
    rw[show(0:Int).toNat=0 from rfl,dg_zero] at ih
    exact hne ih.symm
   simp only[lv]
   rw[dg_pos (by omega),show(a+4294967296*lv l).toNat / 4294967296=(lv l).toNat by omega,ih]
   congr 1
   omega
theorem dg_last:∀(n:Nat) (h:dg n≠[]),(dg n).getLast h≠0:=by
 intro n
 induction n using Nat.strongRecOn with
 |_ n ih=>
  intro h
  by_cases h0:n=0
  ·subst h0;exact absurd dg_zero h
  ·have e:=dg_pos h0
   by_cases hd:n / 4294967296=0
   ·rw[hd,dg_zero] at e
    simp only[e,List.getLast_singleton]
    omega
   ·have hne:dg (n / 4294967296)≠[]:=by rw[dg_pos hd];simp
    have:=ih (n / 4294967296) (by omega) hne
    simp only[e]
    rw[List.getLast_cons hne]
    exact this
theorem dg_len_le {n m:Nat} (h:n<bp m):(dg n).length≤m:=by
 induction m generalizing n with
 |zero=>
  have:n=0:=by simp only[bp] at h;omega
  subst this;rw[dg_zero];simp
 |succ m ih=>
  by_cases h0:n=0
  ·subst h0;rw[dg_zero];simp
  ·rw[dg_pos h0,List.length_cons]
   have:=ih (n:=n / 4294967296) (by simp only[bp] at h;omega)
   omega
theorem dg_lt_len (n:Nat):n<bp (dg n).length:=by
 have h:=lv_lt (lm_dg n)
 rw[lv_dg] at h
 omega
theorem dg_len_zero {n:Nat}:(dg n).length=0↔n=0:=by
 constructor
 ·intro h
  by_cases h0:n=0
  ·exact h0
  ·rw[dg_pos h0] at h;simp at h
 ·intro h;subst h;rw[dg_zero];rfl
theorem dg_len_mono {m n:Nat} (h:m≤n):(dg m).length≤(dg n).length:=dg_len_le (Nat.lt_of_le_of_lt h (dg_lt_len n))
theorem dg_small {n:Nat} (h0:n≠0) (h:n<4294967296):dg n=[(n:Int)]:=by
 rw[dg_pos h0,show n / 4294967296=0 by omega,dg_zero,show n % 4294967296=n by omega]
theorem dg_one:dg 1=[1]:=dg_small (by decide) (by decide)
theorem lv_le_of_len {l:List Int} (h:Lm l) {m:Nat} (hm:l.length≤m):(lv l).toNat<bp m:=by
 have h1:=lv_lt h
 have h2:=bp_mono hm
 have h3:=lv_nonneg h
 omega
theorem rd_lt {l:List Int} {i:Nat} (h:i<l.length):rd l (i:Int)=l[i]:=by
 unfold rd
 simp [List.getD_eq_getElem?_getD,h]
theorem rd_ge {l:List Int} {i:Nat} (h:l.length≤i):rd l (i:Int)=0:=by
 unfold rd
 simp [List.getD_eq_getElem?_getD,h]
theorem rd_lm {l:List Int} (hl:Lm l) (i:Int):0≤rd l i∧rd l i<4294967296:=by
 unfold rd
 rw[List.getD_eq_getElem?_getD]
 by_cases h:i.toNat<l.length
 ·rw[List.getElem?_eq_getElem h]
  exact hl _ (List.getElem_mem h)
 ·rw[List.getElem?_eq_none (by omega)];simp
theorem take_succ_rd {l:List Int} {i:Nat} (h:i<l.length):l.take (i+1)=l.take i++[rd l (i:Int)]:=by
 rw[List.take_succ_eq_append_getElem h,rd_lt h]
theorem lv_take_succ {l:List Int} {i:Nat} (h:i<l.length):lv (l.take (i+1))=lv (l.take i)+(bp i:Int)*rd l (i:Int):=by
 rw[take_succ_rd h,lv_append,List.length_take,Nat.min_eq_left (by omega)]
 simp [lv]
theorem lv_set:∀{l:List Int} {i:Nat} (v:Int),i<l.length→lv (l.set i v)=lv l+(bp i:Int)*(v-rd l (i:Int))
 | [],i,v,h=>by simp at h
 |a::l,0,v,_=>by
  rw[show((0:Nat):Int)=((0:Nat):Int) from rfl,rd_lt (by simp)]
  simp only[List.set_cons_zero,lv,List.getElem_cons_zero,bp];omega
 |a::l,i+1,v,h=>by
  have h':i<l.length:=by simpa using h
  have ih:=lv_set v h'
  rw[rd_lt h'] at ih
  rw[rd_lt h]
  simp only[List.set_cons_succ,lv,List.getElem_cons_succ,bp,Int.natCast_mul]
  rw[ih,Int.mul_add,Int.mul_assoc]
  omega
theorem lm_set {l:List Int} {i:Nat} {v:Int} (h:Lm l) (h0:0≤v) (h1:v<4294967296):Lm (l.set i v):=by
 intro x hx
 rcases List.mem_or_eq_of_mem_set hx with e|e
 ·exact h x e
 ·subst e;exact⟨h0,h1⟩
theorem rd_set_eq {l:List Int} {i:Nat} (v:Int) (h:i<l.length):rd (l.set i v) (i:Int)=v:=by
 rw[rd_lt (by simpa using h)];simp
theorem rd_set_ne {l:List Int} {i j:Nat} (v:Int) (h:i≠j):rd (l.set i v) (j:Int)=rd l (j:Int):=by
 unfold rd
 simp [List.getD_eq_getElem?_getD,h]
theorem lm_take {l:List Int} (h:Lm l) (n:Nat):Lm (l.take n):=fun x hx=>h x (List.mem_of_mem_take hx)
theorem lm_append {l m:List Int} (h1:Lm l) (h2:Lm m):Lm (l++m):=by
 intro x hx
 rcases List.mem_append.mp hx with e|e
 ·exact h1 x e
 ·exact h2 x e
theorem dg_take {l:List Int} (h:Lm l) {n:Nat} (hn:n≤l.length) (hz:∀i:Nat,n≤i→i<l.length→rd l (i:Int)=0) (hl:n=0∨rd l ((n-1:Nat):Int)≠0):
 l.take n=dg (lv l).toNat:=by
 have hv:lv l=lv (l.take n):=by
  have:∀m:Nat,n+m≤l.length→lv (l.take (n+m))=lv (l.take n):=by
   intro m
   induction m with
   |zero=>intro _;rfl
   |succ m ih=>
    intro hm
    rw[←Nat.add_assoc,lv_take_succ (by omega),hz (n+m) (by omega) (by omega),ih (by omega)];simp
  have:=this (l.length-n) (by omega)
  rw[show n+(l.length-n)=l.length by omega,List.take_of_length_le (Nat.le_refl _)] at this
  exact this
 rw[hv]
 symm
 refine dg_lv (lm_take h n) (fun hne=>?_)
 rcases hl with e|e
 ·subst e;simp at hne
 ·rw[List.getLast_eq_getElem]
  simp only[List.length_take,Nat.min_eq_left hn]
  have hp:n≠0:=by intro e0;subst e0;simp at hne
  rw[List.getElem_take]
  rw[rd_lt (by omega)] at e
  exact e
theorem lv_nil:lv []=0:=rfl
theorem lv_cons (a:Int) (l:List Int):lv (a::l)=a+4294967296*lv l:=rfl
theorem bp_zero:bp 0=1:=rfl
theorem bp_succ (n:Nat):bp (n+1)=4294967296*bp n:=rfl
attribute [irreducible] lv bp
end Mw
end
section
set_option linter.unusedVariables false
set_option linter.unusedSimpArgs false
namespace Mw
open Go Go.RowKit Go.Proofs.YtifkbghnmhineaaW.PrintWords Go.Proofs.YtifkbghnmhineaaW.PrintLast Go.Proofs.YtifkbghnmhineaaW.PrintMore Go.Proofs.Ytifkbghnmhineaa.PAll
theorem short_loop {l:List Int} (hl:Lm l) (hlen:l.length<1099511627776):∀n:Nat,n≤l.length→(∀i:Nat,n≤i→i<l.length→rd l (i:Int)=0)→
 Ev (fun k=>nat_short.l0 k l (n:Int)) (dg (lv l).toNat):=by
 intro n
 induction n with
 |zero=>
  intro hn hz
  refine Ev.succ ?_
  simp only[nat_short.l0,if_neg (show ¬((0:Nat):Int)>0 by omega),if_pos (show(0:Int)≤((0:Nat):Int) by omega),if_pos (show((0:Nat):Int)≤(l.length:Int) by omega)]
  refine Ev.cast (Ev.some _) ?_
  rw[show(((0:Nat):Int)).toNat=0 from rfl]
  exact dg_take hl hn hz (.inl rfl)
 |succ n ih=>
  intro hn hz
  refine Ev.succ ?_
  have e:wrap64 (((n+1:Nat):Int)-1)=(n:Int):=by rw[w64 (by omega) (by omega)];omega
  by_cases h:rd l (n:Int)=0
  ·simp only[nat_short.l0,e,if_pos (show((n+1:Nat):Int)>0 by omega),if_pos (show(0:Int)≤(n:Int) by omega),if_pos (show(n:Int)<(l.length:Int) by omega),if_pos h]
   exact ih (by omega) (fun i h1 h2=>by
    by_cases e2:i=n
    ·subst e2;exact h
    ·exact hz i (by omega) h2)
  ·simp only[nat_short.l0,e,if_pos (show((n+1:Nat):Int)>0 by omega),if_pos (show(0:Int)≤(n:Int) by omega),if_pos (show(n:Int)<(l.length:Int) by omega),if_neg h,if_pos (show(0:Int)≤((n+1:Nat):Int) by omega),if_pos (show((n+1:Nat):Int)≤(l.length:Int) by omega)]
   refine Ev.cast (Ev.some _) ?_
   rw[show(((n+1:Nat):Int)).toNat=n+1 by omega]
   exact dg_take hl hn hz (.inr h)
theorem short_ev {l:List Int} (hl:Lm l) (hlen:l.length<1099511627776):Ev (fun k=>nat_short.f k l) (dg (lv l).toNat):=by
 simp only[nat_short.f]
 exact short_loop hl hlen l.length (Nat.le_refl _) (fun i h1 h2=>by omega)
theorem dg_len_of {l:List Int} (hl:Lm l):(dg (lv l).toNat).length≤l.length:=dg_len_le (lv_le_of_len hl (Nat.le_refl _))
theorem trim_ev {l:List Int} (hl:Lm l) (hlen:l.length<1099511627776):Ev (fun k=>nat_Trim.f k l) (dg (lv l).toNat):=by
 simp only[nat_Trim.f]
 refine Ev.bind (short_ev hl hlen) ?_
 have:=dg_len_of hl
 simp only[List.length_nil,List.nil_append,if_pos (show 0+(dg (lv l).toNat).length<35184372088832 by omega)]
 exact Ev.some _
theorem of_ev {n:Nat} (hn:n<18446744073709551616):Ev (fun k=>nat_Of.f k (n:Int)) (dg n):=by
 simp only[nat_Of.f]
 have hl:Lm [(n:Int) % 4294967296,((n:Int) / 4294967296) % 4294967296]:=by
  rw[lm_cons,lm_cons]
  exact⟨by omega,by omega,lm_nil⟩
 refine Ev.bind (trim_ev hl (by simp)) ?_
 refine Ev.cast (Ev.some _) ?_
 congr 1
 simp only[lv_cons,lv_nil]
 omega
theorem plus_loop {a b:List Int} (ha:Lm a) (hb:Lm b) (hab:b.length≤a.length) (hlen:a.length<549755813888):∀(d:Nat) (i:Nat) (o:List Int) (c:Int),i+d=a.length→o.length=a.length+1→Lm o→
 0≤c→c≤1→(∀j:Nat,i≤j→rd o (j:Int)=0)→Aside0 (lv o+(bp i:Int)*c=lv (a.take i)+lv (b.take i))→
 Ev (fun k=>nat_plus.l0 k a b o c (a.length:Int) (i:Int)) (dg (lv a+lv b).toNat):=by
 intro d
 induction d with
 |zero=>
  intro i o c hi ho hol hc0 hc1 hz hv
  have hi:i=a.length:=by omega
  subst hi
  refine Ev.succ ?_
  simp only[nat_plus.l0,if_neg (show ¬((a.length:Nat):Int)<(a.length:Int) by omega),if_pos (show(0:Int)≤(a.length:Int) by omega),if_pos (show(a.length:Int)<(o.length:Int) by omega)]
  have hs:Lm (o.set ((a.length:Int):Int).toNat (c % 4294967296)):=lm_set hol (by omega) (by omega)
  refine Ev.bind (short_ev hs (by rw[List.length_set];omega)) ?_
  refine Ev.cast (Ev.some _) ?_
  congr 2
  rw[Int.toNat_natCast,lv_set _ (by omega),hz _ (Nat.le_refl _),show c % 4294967296=c by omega,Int.sub_zero,hv.out,List.take_of_length_le (Nat.le_refl _),List.take_of_length_le hab]
 |succ d ih=>
  intro i o c hi ho hol hc0 hc1 hz hv
  have hia:i<a.length:=by omega
  refine Ev.succ ?_
  have ra:=rd_lm ha (i:Int)
  have rb:=rd_lm hb (i:Int)
  have e1:wrap64 ((i:Int)+1)=((i+1:Nat):Int):=by rw[w64 (by omega) (by omega)];omega
  have step:∀s:Int,0≤s→s≤8589934591→s=rd a (i:Int)+c+rd b (i:Int)→
   Ev (fun k=>nat_plus.l0 k a b (o.set ((i:Int)).toNat (s % 4294967296)) (s / 4294967296) (a.length:Int) ((i+1:Nat):Int)) (dg (lv a+lv b).toNat):=by
   intro s hs0 hs1 hs
   refine ih (i+1) _ _ (by omega) (by rw[List.length_set];exact ho) (lm_set hol (by omega) (by omega)) (by omega) (by omega) (fun j hj=>?_) ?_
   ·rw[Int.toNat_natCast,rd_set_ne _ (by omega)];exact hz j (by omega)
   ·refine⟨?_⟩
    rw[Int.toNat_natCast,lv_set _ (by omega),hz i (Nat.le_refl _),lv_take_succ hia]
    have hbt:lv (b.take (i+1))=lv (b.take i)+(bp i:Int)*rd b (i:Int):=by
     by_cases hib:i<b.length
     ·exact lv_take_succ hib
     ·rw[rd_ge (by omega),List.take_of_length_le (by omega),List.take_of_length_le (by omega)];simp
    rw[hbt]
    have hdiv:s % 4294967296+4294967296*(s / 4294967296)=rd a (i:Int)+c+rd b (i:Int):=by omega
    have hm:=congrArg (fun z=>(bp i:Int)*z) hdiv
    simp only[Int.mul_add] at hm
    rw[Int.mul_left_comm] at hm
    rw[Int.sub_zero,bp_succ,Int.natCast_mul,Int.mul_assoc]
    have hv:=hv.out
    clear ih hz hdiv hs hs0 hs1 ra rb e1 hc0 hc1
    omega
  by_cases hib:i<b.length
  ·have e2:IntKind.u64.wrap (IntKind.u64.wrap (IntKind.u64.wrap (rd a (i:Int))+c)+IntKind.u64.wrap (rd b (i:Int)))=rd a (i:Int)+c+rd b (i:Int):=by
    rw[u64w ra.1 (by omega),u64w rb.1 (by omega),u64w (x:=rd a (i:Int)+c) (by omega) (by omega),u64w (x:=rd a (i:Int)+c+rd b (i:Int)) (by omega) (by omega)]
   simp only[nat_plus.l0,e1,e2,if_pos (show(i:Int)<(a.length:Int) by omega),if_pos (show(0:Int)≤(i:Int) by omega),if_pos (show(i:Int)<(b.length:Int) by omega),if_pos (show(i:Int)<(o.length:Int) by omega)]
   exact step (rd a (i:Int)+c+rd b (i:Int)) (by omega) (by omega) rfl
  ·have e2:IntKind.u64.wrap (IntKind.u64.wrap (rd a (i:Int))+c)=rd a (i:Int)+c:=by
    rw[u64w ra.1 (by omega),u64w (x:=rd a (i:Int)+c) (by omega) (by omega)]
   simp only[nat_plus.l0,e1,e2,if_pos (show(i:Int)<(a.length:Int) by omega),if_pos (show(0:Int)≤(i:Int) by omega),if_neg (show ¬(i:Int)<(b.length:Int) by omega),if_pos (show(i:Int)<(o.length:Int) by omega)]
   exact step (rd a (i:Int)+c) (by omega) (by omega) (by rw[rd_ge (l:=b) (by omega)];omega)
theorem plus_long {a b:List Int} (ha:Lm a) (hb:Lm b) (hab:b.length≤a.length) (hlen:a.length<549755813888):Ev (fun k=>nat_plus.j0 k a b) (dg (lv a+lv b).toNat):=by
 refine Ev.succ ?_
 have e1:wrap64 ((a.length:Int)+1)=((a.length+1:Nat):Int):=by rw[w64 (by omega) (by omega)];omega
 simp only[nat_plus.j0,e1,Int.toNat_natCast,if_pos (show(0:Int)≤((a.length+1:Nat):Int) by omega),if_pos (show a.length+1≤70368744177664 by omega)]
 exact plus_loop ha hb hab hlen a.length 0 _ 0 (by omega) (by simp) (lm_rep _) (by omega) (by omega) (fun j _=>by
  by_cases h:j<a.length+1
  ·rw[rd_lt (by simpa using h)];simp
  ·exact rd_ge (by simp;omega)) ⟨by rw[lv_rep];simp [lv_nil]⟩
theorem plus_ev {a b:List Int} (ha:Lm a) (hb:Lm b) (h1:a.length<549755813888) (h2:b.length<549755813888):Ev (fun k=>nat_plus.f k a b) (dg (lv a+lv b).toNat):=by
 simp only[nat_plus.f]
 by_cases h:(a.length:Int)<(b.length:Int)
 ·simp only[if_pos h]
  rw[Int.add_comm]
  exact plus_long hb ha (by omega) h2
 ·simp only[if_neg h]
  exact plus_long ha hb (by omega) h1
def lsum:List (List Int)→Int
 | []=>0
 |a::l=>lv a+lsum l
def Lms (l:List (List Int)):Prop:=∀x∈l,Lm x∧x.length<1073741824
theorem rd3_lt {l:List (List Int)} {i:Nat} (h:i<l.length):rd_L3 l (i:Int)=l[i]:=by
 unfold rd_L3
 simp [List.getD_eq_getElem?_getD,h]
theorem lsum_take {l:List (List Int)} {i:Nat} (h:i<l.length):lsum (l.take (i+1))=lsum (l.take i)+lv l[i]:=by
 have app:∀(a b:List (List Int)),lsum (a++b)=lsum a+lsum b:=by
  intro a
  induction a with
  |nil=>intro b;simp [lsum]
  |cons x a ih=>intro b;simp only[List.cons_append,lsum];rw[ih];omega
 rw[List.take_succ_eq_append_getElem h,app]
 simp [lsum]
theorem lv_dg_toNat {x:Int} (h:0≤x):lv (dg x.toNat)=x:=by rw[lv_dg];omega
theorem add_loop {l:List (List Int)} (hl:Lms l) (hlen:l.length<1073741824):∀(d i:Nat) (s:List Int),i+d=l.length→Lm s→s.length≤1073741824+i→lv s=lsum (l.take i)→
 Ev (fun k=>nat_Add.l0 k s l (l.length:Int) (i:Int)) (dg (lsum l).toNat):=by
 intro d
 induction d with
 |zero=>
  intro i s hi hs hsl hv
  have hi:i=l.length:=by omega
  subst hi
  refine Ev.succ ?_
  simp only[nat_Add.l0,if_neg (show ¬((l.length:Nat):Int)<(l.length:Int) by omega)]
  refine Ev.bind (trim_ev hs (by omega)) ?_
  refine Ev.cast (Ev.some _) ?_
  rw[hv,List.take_of_length_le (Nat.le_refl _)]
 |succ d ih=>
  intro i s hi hs hsl hv
  have hil:i<l.length:=by omega
  have hx:=hl l[i] (List.getElem_mem hil)
  refine Ev.succ ?_
  have e1:wrap64 ((i:Int)+1)=((i+1:Nat):Int):=by rw[w64 (by omega) (by omega)];omega
  simp only[nat_Add.l0,e1,rd3_lt hil,if_pos (show(i:Int)<(l.length:Int) by omega),if_pos (show(0:Int)≤(i:Int) by omega)]
  refine Ev.bind (short_ev hx.1 (by omega)) ?_
  have h2:=dg_len_of hx.1
  refine Ev.bind (plus_ev hs (lm_dg _) (by omega) (by omega)) ?_
  have h3:0≤lv s:=lv_nonneg hs
  have h4:0≤lv l[i]:=lv_nonneg hx.1
  refine ih (i+1) _ (by omega) (lm_dg _) ?_ ?_
  ·rw[lv_dg_toNat h4]
   have h5:=lv_le_of_len hs hsl
   have h6:=lv_le_of_len hx.1 (m:=1073741824+i) (by omega)
   refine dg_len_le ?_
   rw[show 1073741824+(i+1)=(1073741824+i)+1 by omega,bp_succ]
   generalize bp (1073741824+i)=p at*
   omega
  ·rw[lv_dg_toNat h4,lv_dg_toNat (by omega),hv,lsum_take hil]
theorem add_ev {l:List (List Int)} (hl:Lms l) (hlen:l.length<1073741824):Ev (fun k=>nat_Add.f k l) (dg (lsum l).toNat):=by
 simp only[nat_Add.f]
 exact add_loop hl hlen l.length 0 [] (by omega) lm_nil (by simp) (by simp [lv_nil,lsum])
theorem add2_ev {a b:Nat} (ha:(dg a).length<1073741824) (hb:(dg b).length<1073741824):Ev (fun k=>nat_Add.f k [dg a,dg b]) (dg (a+b)):=by
 refine Ev.cast (add_ev (l:=[dg a,dg b]) (fun x hx=>?_) (by simp)) ?_
 ·rcases List.mem_cons.mp hx with e|e
  ·exact e ▸ ⟨lm_dg a,ha⟩
  ·rw[List.mem_singleton.mp e];exact⟨lm_dg b,hb⟩
 ·congr 1
  simp only[lsum,lv_dg]
  omega
end Mw
end
