/- What functions of the program do and come to, for the statement MacwilliamsDelsarte, part 1. Conditions: as each theorem says. -/
import Derived.Test.YtifkbghnmhineaaQDelsarte0

namespace Go.Proofs.Ytifkbghnmhineaa.PAll
open Go.RowKit Go.Proofs.YtifkbghnmhineaaW.PrintWords Go.Proofs.YtifkbghnmhineaaW.PrintLast Go.Proofs.YtifkbghnmhineaaW.PrintMore
attribute [local go_sem] max2_int min2_int max_two min_two max_three min_three max_four min_four
set_option linter.unusedVariables false
set_option linter.unusedSimpArgs false
def r4_divides.T11:Bool×List (List Nat×List Nat):=(true,[([],[]),([],[]),([],[]),([1,2],[1,2]),([],[]),([3,4],[3,4]),([],[]),([],[]),([],[]),([7,8],[7,8]),([],[]),([9,10],[9,10]),([6,11],[6,11]),([12],[12]),([],[]),([],[]),([14,15],[14,15]),([],[]),([],[]),([17,18],[17,18]),([19],[19]),([16,20],[16,20]),([13,21],[13,21]),([],[]),([22,23],[22,23]),([0,5,0,1,2,3,4,5,6,7,8,9,10,11,12,13,14,15,16,17,18,19,20,21,22,23,24],[0,5]),([25,24,0,1,2,3,4,5,6,7,8,9,10,11,12,13,14,15,16,17,18,19,20,21,22,23,24],[24,25])])
def r4_divides.B11:List Nat:=[0,0,0,6,0,30,0,0,0,384,0,1920,4032,8128,0,0,49152,0,0,393216,917504,2080768,4194240,0,16777152,33554431,67108863]
theorem r4_divides.tab11:rtab .any (opsOf Try.f132 11)=r4_divides.T11:=by kernel_rfl
theorem r4_divides.bits11:waitsOk r4_divides.T11.2 r4_divides.B11=true:=by kernel_rfl
set_option maxHeartbeats 8000000 in
set_option maxRecDepth 100000 in
theorem r4_divides.calls (k:Nat) (A0:Option Addr) (c0:Nat) (l0:List Int) (A1:Option Addr) (c1:Nat) (l1:List Int) (a2:Int) (r:Bool) (w:World) (hr0:Kd.C (Kd.int .i64) w A0 l0.length l0) (hc0:l0.length≤c0) (hr1:Kd.C (Kd.int .i64) w A1 l1.length l1) (hc1:l1.length≤c1) (h:r4_divides.f k l0 l1 a2=some r):
 Calls Try.prog 132 #[.slice A0 l0.length c0, .slice A1 l1.length c1, .int .i64 a2] w fun e w'=>e= .returned (.bool r)∧Below w.heap.size w w':=by
 have HR0:=zk hr0
 have HC0:=zk hc0
 clear hr0 hc0
 have HR1:=zk hr1
 have HC1:=zk hc1
 clear hr1 hc1
 have HB:=zk (Below.refl w.heap.size w)
 have H:=h
 clear h
 unfold r4_divides.f at H
 obtain⟨ya1,hya1⟩:∃y_:List Int,y_=(([]:List Int)):=⟨_,rfl⟩
 replace H:(if ya1.length+l1.length<17592186044416 then((some (ya1++l1:List Int)).bind fun ya4=>(if ya4.length<17592186044416 then((some (ya4++[1]:List Int)).bind fun ya7=>(r4_divides.l0 k l0 a2 (l0.length:Int) ya7 (wrap64 ((ya7.length:Int)-1)))) else(none))) else(none))=some r:=zY hya1 H
 have Nya1:=zk hya1
 clear hya1
 replace H:=zg H
 obtain⟨c4,H⟩:=H
 have LMc4:=zk c4
 clear c4
 obtain⟨ya4,hya4⟩:∃y_:List Int,y_=(ya1++l1):=⟨_,rfl⟩
 replace H:(if ya4.length<17592186044416 then((some (ya4++[1]:List Int)).bind fun ya7=>(r4_divides.l0 k l0 a2 (l0.length:Int) ya7 (wrap64 ((ya7.length:Int)-1)))) else(none))=some r:=zY hya4 H
 have Nya4:=zk hya4
 clear hya4
 replace H:=zg H
 obtain⟨c5,H⟩:=H
 have LMc5:=zk c5
 clear c5
 obtain⟨ya7,hya7⟩:∃y_:List Int,y_=(ya4++[1]):=⟨_,rfl⟩
 replace H:(r4_divides.l0 k l0 a2 (l0.length:Int) ya7 (wrap64 ((ya7.length:Int)-1)))=some r:=zY hya7 H
 have Nya7:=zk hya7
 clear hya7
 have H':=zk H
 clear H
 go_enter Try.func132,Try.ntmps132
 go_wp2_with (first|((with_reducible refine gate_dst (N:=15) rfl ?_);refine Kd.R_lit (Kd.int .i64) _ 3 ?hg (N:=15) ?hd (xs:=([]:List Int)) (inner:=[]) (ok:=fun _=>True) (okp:=fun _=>True) ?hr ?hp (fun _ hk=>hk) trivial (Below.refl _ _) (Nat.le_refl _) (by simp) ?_;(case hd=>rfl);(case hg=>rfl);(case hr=>first|(go_simp;done)|(go_simp;rfl));(case hp=>exact(Reps.none _ _));intro va2 w6 ho7 hb hg_ hnew_;clear hg_ hnew_;(first|rw[←Nya1.out] at ho7|(simp only[Int.reduceToNat] at ho7;rw[←Nya1.out] at ho7));have HOa3:=yRl ho7 HB;replace HB:=yS HB hb;clear hb ho7)|((with_reducible refine gate_builtin (b:= .append) (xs:= #[.tmp 15, .tmp 16]) rfl ?_);at_builtin;refine Kd.R_append_rows (Kd.int .i64) (w0:=w) w.heap.size rfl (.tmp 15) (.tmp 16) 22 3 (.int .i64 0) 8 rfl Try.underlying22 info3 rfl (by decide) (by omega) va2 ya1 l1 _ _ _ (fun _=>True) (fun _=>False) rfl rfl ?aO ?aR (fun _ _ h=>h) (fun _ h=>h.elim) ?aF ?aB ?aS ?aL ?_;(case aR=>repeat(first|exact(Kd.C_below HR1.out HB.out)|(with_reducible refine Kd.C_alloc ?_ _)|(with_reducible refine Kd.C_drewN ?_ _)|(with_reducible refine Kd.C_drew ?_)));(case aB=>exact(zB HB.out));(case aF=>exact(fun _ _=>trivial));(case aO=>exact(zR HOa3.out));(case aS=>exact(below_size (zB HB.out)));(case aL=>have:=LMc4.out;omega);intro va5 w8 ho hb hg hat;rw[←Nya4.out] at ho;replace HB:=zk (hb);have HOa6:=zk (ho);clear HOa3;clear ho hb hg hat)|((with_reducible refine gate_builtin (b:= .append) (xs:= #[.tmp 18, .tmp 19]) rfl ?_);at_builtin;refine Kd.R_append (Kd.int .i64) (w0:=w) w.heap.size rfl (.tmp 18) (.tmp 19) 22 3 (.int .i64 0) 8 rfl Try.underlying22 info3 rfl (by decide) (by omega) va5 ya4 1 [.int .i64 1] (fun _=>True) (fun _=>False) rfl rfl ?aP (fun _ hk=>hk.elim) ?aF ?aO ?aB ?aS ?aL ?_;(case aP=>exact rfl);(case aB=>exact(zB HB.out));(case aF=>exact(fun _ _=>trivial));(case aO=>exact(zR HOa6.out));(case aS=>exact(below_size (zB HB.out)));(case aL=>have:=LMc5.out;omega);intro va8 w9 ho hb hg hat;rw[←Nya7.out] at ho;replace HB:=zk (hb);have HOa9:=zk (ho);clear HOa6;clear ho hb hg hat;obtain⟨Ao10,co10,rfl⟩:=Kd.R_slice HOa9.out))
 go_loopg [9] k (fun kq v9 w'=>∃(x8_1:List Int) (x9_1:Int),v9= .int .i64 x9_1∧Aside0 (r4_divides.l0 kq l0 a2 (l0.length:Int) x8_1 x9_1=some r)∧Aside0 (kq≤k)∧Aside0 (Kd.R (Kd.int .i64) 3 w' w.heap.size (fun _=>True) (.slice Ao10 ya7.length co10) x8_1)∧Aside0 (Below w.heap.size w w'))
 case atStart=>exact⟨(ya7),(wrap64 ((ya7.length:Int)-1)),zF,H',⟨Nat.le_refl _⟩,⟨zR HOa9.out⟩,⟨zB HB.out⟩⟩
 clear H'
 (try clear c4);(try clear c5)
 obtain⟨x8_1,x9_1,rfl,HA,HK1,HO_8,HB⟩:=hrel
 have hl8_1:=(Kd.R_reads' HO_8.out).1
 rw[hl8_1] at HO_8
 (try simp only[hl8_1])
 cases gk with|zero=>exact absurd HA.out (by simp [r4_divides.l0])|succ k1=>?_
 have H:=HA.out
 clear HA
 simp only[r4_divides.l0] at H
 replace H:=zi H
 rcases H with⟨c11,H⟩|⟨c11,H⟩
 ·have c11b0:decide ((l0.length:Int)≤x9_1)=true:=decide_eq_true c11
  (try(have c11h0:=c11b0;simp only[hl8_1] at c11h0))
  clear c11
  replace H:=zgd H
  obtain⟨c12b0,H⟩:=H
  replace H:=zg H
  obtain⟨c13,H⟩:=H
  have c13b0:=decide_eq_true c13
  (try(have c13h0:=c13b0;simp only[hl8_1] at c13h0))
  clear c13
  have H':=zk H
  clear H
  have pb0:0≤(x9_1:Int):=zd
  have qb0:x9_1<(x8_1.length:Int):=zd
  obtain⟨adb0,eb0,hxb0_0⟩:=Kd.at_int (Kd.R_reads' HO_8.out).2.2 x9_1 pb0 qb0
  cases eb0
  replace pb0:=eq_true pb0
  replace qb0:=eq_true qb0
  go_wp2
  go_loopg [11] k1 (fun kq v11 w'=>∃(x8_2:List Int) (x11_2:Int),v11= .int .i64 x11_2∧Aside0 (r4_divides.l1 kq l0 a2 (l0.length:Int) x8_2 x9_1 (rd x8_1 x9_1) x11_2=some r)∧Aside0 (kq≤k1)∧Aside0 (Kd.R (Kd.int .i64) 3 w' w.heap.size (fun _=>True) (.slice (some adb0) x8_1.length co10) x8_2)∧Aside0 (Below w.heap.size w w'))
  case atStart=>exact⟨(x8_1),(0),zF,H',⟨Nat.le_refl _⟩,⟨by(try simp only[hl8_1]);(with_reducible repeat(first|apply Kd.R_alloc|apply Kd.R_drewN|apply Kd.R_drew));exact HO_8.out⟩,⟨zB HB.out⟩⟩
  clear H'
  (try clear c4);(try clear c5);(try clear c11);(try clear c11b0);(try clear c12b0);(try clear c13);(try clear c13b0);(try clear hxb0_0);(try clear pb0);(try clear qb0)
  obtain⟨x8_2,x11_2,rfl,HA,HK2,HO_8,HB⟩:=hrel
  have hl8_2:=(Kd.R_reads' HO_8.out).1
  rw[hl8_2] at HO_8
  (try simp only[hl8_2])
  cases gk with|zero=>exact absurd HA.out (by simp [r4_divides.l1])|succ k2=>?_
  have H:=HA.out
  clear HA
  simp only[r4_divides.l1] at H
  replace H:=zi H
  rcases H with⟨c14,H⟩|⟨c14,H⟩
  ·have c14b0:=decide_eq_true c14
   (try(have c14h0:=c14b0;simp only[hl8_1,hl8_2] at c14h0))
   clear c14
   obtain⟨ji15,hji15⟩:∃j_:Int,(wrap64 ((wrap64 (x9_1-(l0.length:Int)))+x11_2))=j_:=⟨_,rfl⟩
   replace H:(if 0≤(ji15) then(if(ji15)<(x8_2.length:Int) then(if 0≤x11_2 then(if x11_2<(l0.length:Int) then(if a2=0 then(none) else(r4_divides.l1 k2 l0 a2 (l0.length:Int) (x8_2.set ((ji15):Int).toNat (Int.tmod (wrap64 ((rd x8_2 (ji15))+(wrap64 ((wrap64 (a2-(rd x8_1 x9_1)))*(rd l0 x11_2))))) a2)) x9_1 (rd x8_1 x9_1) (wrap64 (x11_2+1)))) else(none)) else(none)) else(none)) else(none))=some r:=by first|(rw[hji15] at H;exact H)|(simp only[hji15] at H ⊢;exact H)
   have hji15w:(IntKind.i64.wrap ((wrap64 (x9_1-(l0.length:Int)))+x11_2))=ji15:=(i64_w _).trans hji15
   replace H:=zgd H
   obtain⟨c16b0,H⟩:=H
   replace H:=zg H
   obtain⟨c17,H⟩:=H
   have c17b0:=decide_eq_true c17
   (try(have c17h0:=c17b0;simp only[hl8_1,hl8_2] at c17h0))
   clear c17
   replace H:=zgd H
   obtain⟨c18b0,H⟩:=H
   replace H:=zg H
   obtain⟨c19,H⟩:=H
   have c19b0:=decide_eq_true c19
   (try(have c19h0:=c19b0;simp only[hl8_1,hl8_2] at c19h0))
   clear c19
   replace H:=zh H
   obtain⟨c20,H⟩:=H
   have c20b0:=beq_eq_false_iff_ne.mpr c20
   have c20b1:=bne_iff_ne.mpr c20
   obtain⟨yb3,hyb3⟩:∃y_:List Int,y_=(x8_2.set ((ji15):Int).toNat (Int.tmod (wrap64 ((rd x8_2 (ji15))+(wrap64 ((wrap64 (a2-(rd x8_1 x9_1)))*(rd l0 x11_2))))) a2)):=⟨_,rfl⟩
   replace H:(r4_divides.l1 k2 l0 a2 (l0.length:Int) yb3 x9_1 (rd x8_1 x9_1) (wrap64 (x11_2+1)))=some r:=zY hyb3 H
   have Nyb3:=zk hyb3
   clear hyb3
   have H':=zk H
   clear H
   try go_wp2
   replace HO_8:=zk (Kd.R_drew HO_8.out)
   replace HB:=zk (below_drew1 HB.out)
   have pb1:0≤((ji15):Int):=zd
   have qb1:(ji15)<(x8_2.length:Int):=zd
   obtain⟨adb1,eb1,hxb1_0⟩:=Kd.at_int (Kd.R_reads' HO_8.out).2.2 (ji15) pb1 qb1
   obtain rfl:adb0=adb1:=(by injection eb1)
   replace pb1:=eq_true pb1
   replace qb1:=eq_true qb1
   have pb2:0≤(x11_2:Int):=zd
   have qb2:x11_2<(l0.length:Int):=zd
   obtain⟨adb2,eb2,hxb2_0⟩:=Kd.at_int HR0.out x11_2 pb2 qb2
   have hw112_0:=hxb2_0
   cases eb2
   replace hxb2_0:=(HB.out.cell (World.block_lt_of_cell? w _ hxb2_0)).trans hxb2_0
   replace pb2:=eq_true pb2
   replace qb2:=eq_true qb2
   have p21:0≤((ji15):Int):=zd
   have q21:((ji15):Int)<((x8_2.length:Int):Int):=zd
   obtain⟨go21,co21,eo21,gb21,gl21,cl21,HG21⟩:=Kd.R_form HO_8.out (by omega)
   (first|cases eo21|(injection eo21 with ea_ en_ ec_;(first|subst ea_|(injection ea_ with ea_;subst ea_));subst ec_;clear en_))
   have GB21:=zk gb21
   have GG21:=zk HG21
   clear gb21 gl21 HG21
   (first|simp only[add_plain] at hxb0_0|skip)
   (first|simp only[add_plain] at hxb1_0|skip)
   obtain⟨hx21_0,hf21_0⟩:=Kd.R_celln 0 HO_8.out ((ji15):Int) p21 q21
   replace p21:=eq_true p21
   replace q21:=eq_true q21
   have HP23:=Kd.R_putn HO_8.out ((ji15):Int) (Int.tmod (wrap64 ((rd x8_2 (ji15))+(wrap64 ((wrap64 (a2-(rd x8_1 x9_1)))*(rd l0 x11_2))))) a2)
   rw[←Nyb3.out] at HP23
   have HQ23:=zk HP23
   clear HP23
   refine start_ (n:=27) (S:=fun w'=>w'.cell? ⟨go21,((ji15)).toNat,none⟩=some (.int .i64 (rd x8_2 (ji15)))∧w'.cell? (adb2.add (x11_2).toNat)=some (.int .i64 (rd l0 x11_2))) (ds:=[26]) #[false,false,false,false,false,false,false,false,false,false,false,false,false,false,false,false,false,false,false,false,false,false,false,false,false,false,false] (by kernel_rfl) rfl rfl ⟨hxb1_0,((HB.out.cell (World.block_lt_of_cell? w _ hw112_0)).trans hw112_0)⟩ (fun hHeld=>?_);refine with_tabW r4_divides.tab11 r4_divides.bits11 (fun HT_ HW_=>?_)
   first|(generalize wr.drew=w22 at HO_8 HB GG21 HQ23 hf21_0 hxb0_0 hxb1_0 hxb2_0 hx21_0 hHeld ⊢)|(generalize wr.drew=w22 at HO_8 HB GG21 HQ23 hf21_0 hxb1_0 hxb2_0 hx21_0 hHeld ⊢)|(generalize wr.drew=w22 at HO_8 HB GG21 HQ23 hf21_0 hxb0_0 hxb2_0 hx21_0 hHeld ⊢)|(generalize wr.drew=w22 at HO_8 HB GG21 HQ23 hf21_0 hxb0_0 hxb1_0 hx21_0 hHeld ⊢)|(generalize wr.drew=w22 at HO_8 HB GG21 HQ23 hf21_0 hxb0_0 hxb1_0 hxb2_0 hHeld ⊢)|(generalize wr.drew=w22 at HO_8 HB GG21 HQ23 hf21_0 hxb2_0 hx21_0 hHeld ⊢)|(generalize wr.drew=w22 at HO_8 HB GG21 HQ23 hf21_0 hxb1_0 hx21_0 hHeld ⊢)|(generalize wr.drew=w22 at HO_8 HB GG21 HQ23 hf21_0 hxb1_0 hxb2_0 hHeld ⊢)|(generalize wr.drew=w22 at HO_8 HB GG21 HQ23 hf21_0 hxb0_0 hx21_0 hHeld ⊢)|(generalize wr.drew=w22 at HO_8 HB GG21 HQ23 hf21_0 hxb0_0 hxb2_0 hHeld ⊢)|(generalize wr.drew=w22 at HO_8 HB GG21 HQ23 hf21_0 hxb0_0 hxb1_0 hHeld ⊢)|(generalize wr.drew=w22 at HO_8 HB GG21 HQ23 hf21_0 hx21_0 hHeld ⊢)|(generalize wr.drew=w22 at HO_8 HB GG21 HQ23 hf21_0 hxb2_0 hHeld ⊢)|(generalize wr.drew=w22 at HO_8 HB GG21 HQ23 hf21_0 hxb1_0 hHeld ⊢)|(generalize wr.drew=w22 at HO_8 HB GG21 HQ23 hf21_0 hxb0_0 hHeld ⊢)|(generalize wr.drew=w22 at HO_8 HB GG21 HQ23 hf21_0 hHeld ⊢)
   refine zp (i:=0) (N:=some 38) HT_ ?_
   refine zp (i:=1) (N:=some 39) HT_ ?_
   refine zp (i:=2) (N:=some 40) HT_ ?_
   refine zp (i:=3) (N:=some 41) HT_ ?_
   refine zp (i:=4) (N:=some 42) HT_ ?_
   refine zp (i:=5) (N:=some 43) HT_ ?_
   refine zp (i:=6) (N:=some 44) HT_ ?_
   refine zp (i:=7) (N:=some 45) HT_ ?_
   refine zp (i:=8) (N:=some 46) HT_ ?_
   refine zp (i:=9) (N:=some 47) HT_ ?_
   refine zp (i:=10) (N:=some 48) HT_ ?_
   refine zp (i:=11) (N:=some 49) HT_ ?_
   refine zp (i:=12) (N:=some 50) HT_ ?_
   refine zp (i:=14) (N:=some 52) HT_ ?_
   refine zp (i:=15) (N:=some 53) HT_ ?_
   refine zp (i:=16) (N:=some 54) HT_ ?_
   refine zp (i:=17) (N:=some 55) HT_ ?_
   refine zp (i:=18) (N:=some 56) HT_ ?_
   refine zp (i:=19) (N:=some 57) HT_ ?_
   refine zp (i:=23) (N:=some 61) HT_ ?_
   refine take_ (i:=13) (N:=some 51) (v:=?_) (a':=?_) #[true,true,true,true,true,true,true,true,true,true,true,true,true,true,true,true,true,true,true,true,false,false,false,true,false,false,false] rfl rfl (take_ofW HT_.out HW_.out (by kernel_rfl)) (fun _ _ _ h=>h) (Or.inl ⟨by rfl,?_⟩) hHeld ?_ ?_
   rotate_left
   ·rintro w' ⟨s0,s1⟩
    go_simp
    with_reducible rfl
   rotate_left
   ·simp only[Act.put,List.setIfInBounds_toArray,List.set_cons_zero,List.set_cons_succ,i64_w,i32_w]
    rfl
   refine take_ (i:=20) (N:=some 58) (v:=?_) (a':=?_) #[true,true,true,true,true,true,true,true,true,true,true,true,true,true,true,true,true,true,true,true,true,false,false,true,false,false,false] rfl rfl (take_ofW HT_.out HW_.out (by kernel_rfl)) (fun _ _ _ h=>h) (Or.inl ⟨by rfl,?_⟩) hHeld ?_ ?_
   rotate_left
   ·rintro w' ⟨s0,s1⟩
    go_simp
    with_reducible rfl
   rotate_left
   ·simp only[Act.put,List.setIfInBounds_toArray,List.set_cons_zero,List.set_cons_succ,i64_w,i32_w]
    rfl
   refine zp (i:=21) (N:=some 59) HT_ ?_
   refine zp (i:=22) (N:=some 60) HT_ ?_
   refine zp (i:=24) (N:=some 62) HT_ ?_
   refine zp (i:=25) (N:=some 63) HT_ ?_
   refine last_ (i:=26) (N:=none) #[true,true,true,true,true,true,true,true,true,true,true,true,true,true,true,true,true,true,true,true,true,true,true,true,true,true,true] rfl rfl (one_of HT_.out (by kernel_rfl)) (by decide) (fun K hK=>?_)
   refine skip_ (w1:=?_) (by rfl) rfl ?_ ?_
   rotate_left
   ·go_simp
    rfl
   refine hK.out _ _ ?_
   clear hK K
   refine done_ (done_of HT_.out (by kernel_rfl)) ?_
   try go_wp2
   (try simp only[←hl8_2])
   (try simp only[add_plain] at*)
   go_roundg k2
   case measure=>have:=HK1.out;have:=HK2.out;omega
   case rel=>exact⟨(yb3),(wrap64 (x11_2+1)),zF,H',⟨zo2 HK1 HK2⟩,⟨by(try simp only[hl8_1]);(try simp only[hl8_2]);(with_reducible repeat(first|apply Kd.R_alloc|apply Kd.R_drewN|apply Kd.R_drew));exact HQ23.out⟩,⟨zB1 HB.out GB21.out⟩⟩
  have c14b0:=decide_eq_false c14
  (try(have c14h0:=c14b0;simp only[hl8_1,hl8_2] at c14h0))
  clear c14
  replace H:=zgd H
  obtain⟨c24b0,H⟩:=H
  replace H:=zg H
  obtain⟨c25,H⟩:=H
  have c25b0:=decide_eq_true c25
  (try(have c25h0:=c25b0;simp only[hl8_1,hl8_2] at c25h0))
  clear c25
  obtain⟨yb4,hyb4⟩:∃y_:List Int,y_=(x8_2.set (x9_1:Int).toNat 0):=⟨_,rfl⟩
  replace H:(r4_divides.l0 k2 l0 a2 (l0.length:Int) yb4 (wrap64 (x9_1-1)))=some r:=zY hyb4 H
  have Nyb4:=zk hyb4
  clear hyb4
  have H':=zk H
  clear H
  have p26:0≤(x9_1:Int):=zd
  have q26:(x9_1:Int)<((x8_2.length:Int):Int):=zd
  obtain⟨go26,co26,eo26,gb26,gl26,cl26,HG26⟩:=Kd.R_form HO_8.out (by omega)
  (first|cases eo26|(injection eo26 with ea_ en_ ec_;(first|subst ea_|(injection ea_ with ea_;subst ea_));subst ec_;clear en_))
  have GB26:=zk gb26
  have GG26:=zk HG26
  clear gb26 gl26 HG26
  obtain⟨hx26_0,hf26_0⟩:=Kd.R_celln 0 HO_8.out (x9_1:Int) p26 q26
  replace p26:=eq_true p26
  replace q26:=eq_true q26
  have HP27:=Kd.R_putg HO_8.out (x9_1:Int) 0
  go_wp2_with (first|((with_reducible refine gate_store (t:=3) (p:=66) rfl ?_);refine store_event (t:=3) (p:=66) (v:=?vo_w28) (w1:=(wr.setCell ⟨go26,(x9_1:Int).toNat,none⟩ (.int .i64 0))) ?hg ?ho ?hn ?hr ?_;(case ho=>rfl);(case hg=>rfl);(case hn=>rfl);(case hr=>first|(go_simp;done)|(go_simp;rfl));intro w28 hw;have hg:wr.grownBy w28 (some go26):=(by rw[hw];exact HP27.2);have hp_:Kd.R (Kd.int .i64) 3 w28 w.heap.size (fun _=>True) (.slice (some ⟨go26,0,none⟩) x8_2.length co10) yb4:=(by rw[hw,Nyb4.out];exact HP27.1);clear HP27;replace HO_8:=zk (hp_);replace HB:=zk ((by rw[hw];exact below_set (HB.out) GB26.out:Below w.heap.size w w28));clear hg hw hp_))
  (try simp only[←hl8_1,←hl8_2])
  (try simp only[add_plain] at*)
  go_roundg k2
  case measure=>have:=HK1.out;have:=HK2.out;omega
  case rel=>exact⟨(yb4),(wrap64 (x9_1-1)),zF,H',⟨zo2 HK1 HK2⟩,⟨by(try simp only[hl8_1]);(try simp only[hl8_2]);(with_reducible repeat(first|apply Kd.R_alloc|apply Kd.R_drewN|apply Kd.R_drew));exact HO_8.out⟩,⟨zB HB.out⟩⟩
 have c11b0:decide ((l0.length:Int)≤x9_1)=false:=decide_eq_false c11
 (try(have c11h0:=c11b0;simp only[hl8_1] at c11h0))
 clear c11
 have H':=zk H
 clear H
 go_wp2
 go_loopg [12] k1 (fun kq v12 w'=>∃(x12_2:Int),v12= .int .i64 x12_2∧Aside0 (r4_divides.l2 kq x8_1 x12_2=some r)∧Aside0 (kq≤k1)∧Aside0 (Kd.R (Kd.int .i64) 3 w' w.heap.size (fun _=>True) (.slice Ao10 x8_1.length co10) x8_1)∧Aside0 (Below w.heap.size w w'))
 case atStart=>exact⟨(0),zF,H',⟨Nat.le_refl _⟩,⟨by(try simp only[hl8_1]);(with_reducible repeat(first|apply Kd.R_alloc|apply Kd.R_drewN|apply Kd.R_drew));exact HO_8.out⟩,⟨zB HB.out⟩⟩
 clear H'
 (try clear c4);(try clear c5);(try clear c11);(try clear c11b0);(try clear c12b0);(try clear c13);(try clear c13b0);(try clear c14);(try clear c14b0);(try clear c16b0);(try clear c17);(try clear c17b0);(try clear c18b0);(try clear c19);(try clear c19b0);(try clear c20);(try clear c20b0);(try clear c20b1);(try clear p21);(try clear q21);(try clear c24b0);(try clear c25);(try clear c25b0);(try clear p26);(try clear q26);(try clear hxb0_0);(try clear hxb1_0);(try clear hxb2_0);(try clear hx21_0);(try clear hx26_0);(try clear pb0);(try clear pb1);(try clear pb2);(try clear qb0);(try clear qb1);(try clear qb2)
 obtain⟨x12_2,rfl,HA,HK2,HO_8,HB⟩:=hrel
 cases gk with|zero=>exact absurd HA.out (by simp [r4_divides.l2])|succ k2=>?_
 have H:=HA.out
 clear HA
 simp only[r4_divides.l2] at H
 replace H:=zi H
 rcases H with⟨c29,H⟩|⟨c29,H⟩
 ·have c29b0:=decide_eq_true c29
  (try(have c29h0:=c29b0;simp only[hl8_1] at c29h0))
  clear c29
  replace H:=zgd H
  obtain⟨c30b0,H⟩:=H
  replace H:=zi H
  rcases H with⟨c31,H⟩|⟨c31,H⟩
  ·have c31b0:=beq_iff_eq.mpr c31
   have c31b1:=bne_eq_false_iff_eq.mpr c31
   clear c31
   have H':=zk H
   clear H
   have pb5:0≤(x12_2:Int):=zd
   have qb5:x12_2<(x8_1.length:Int):=zd
   obtain⟨adb5,eb5,hxb5_0⟩:=Kd.at_int (Kd.R_reads' HO_8.out).2.2 x12_2 pb5 qb5
   cases eb5
   replace pb5:=eq_true pb5
   replace qb5:=eq_true qb5
   go_wp2
   (try simp only[add_plain] at*)
   go_roundg k2
   case measure=>have:=HK1.out;have:=HK2.out;omega
   case rel=>exact⟨(wrap64 (x12_2+1)),zF,H',⟨zo2 HK1 HK2⟩,⟨by(try simp only[hl8_1]);(with_reducible repeat(first|apply Kd.R_alloc|apply Kd.R_drewN|apply Kd.R_drew));exact HO_8.out⟩,⟨zB HB.out⟩⟩
  have c31b0:=beq_eq_false_iff_ne.mpr c31
  have c31b1:=bne_iff_ne.mpr c31
  obtain rfl:=Option.some.inj H
  have pb5:0≤(x12_2:Int):=zd
  have qb5:x12_2<(x8_1.length:Int):=zd
  obtain⟨adb5,eb5,hxb5_0⟩:=Kd.at_int (Kd.R_reads' HO_8.out).2.2 x12_2 pb5 qb5
  cases eb5
  replace pb5:=eq_true pb5
  replace qb5:=eq_true qb5
  go_wp2
  go_ret
  exact⟨zE,zB HB.out⟩
 have c29b0:=decide_eq_false c29
 (try(have c29h0:=c29b0;simp only[hl8_1] at c29h0))
 clear c29
 obtain rfl:=Option.some.inj H
 go_wp2
 go_ret
 exact⟨zE,zB HB.out⟩
set_option maxHeartbeats 8000000 in
set_option maxRecDepth 100000 in
theorem r4_digits.calls (k:Nat) (a0:Int) (a1:Int) (a2:Int) (r:List Int) (w:World) (h:r4_digits.f k a0 a1 a2=some r):
 Calls Try.prog 133 #[.int .i64 a0, .int .i64 a1, .int .i64 a2] w fun e w'=>∃v0_:Value,e= .returned (v0_)∧Kd.R (Kd.int .i64) 3 w' w.heap.size (fun _=>True) v0_ r∧Below w.heap.size w w':=by
 have HB:=zk (Below.refl w.heap.size w)
 have H:=h
 clear h
 unfold r4_digits.f at H
 replace H:=zg H
 obtain⟨c4,H⟩:=H
 have c4b0:=eq_true c4
 have c4b1:=decide_eq_true c4
 clear c4
 replace H:=zg H
 obtain⟨c5,H⟩:=H
 have c5b0:=eq_true c5
 have c5b1:=decide_eq_true c5
 clear c5
 obtain⟨ya1,hya1⟩:∃y_:List Int,y_=(List.replicate (a2:Int).toNat 0):=⟨_,rfl⟩
 replace H:(r4_digits.l0 k a0 a1 a2 ya1 0)=some r:=zY hya1 H
 have Nya1:=zk hya1
 clear hya1
 have H':=zk H
 clear H
 go_enter Try.func133,Try.ntmps133
 go_wp2_with (first|((with_reducible refine gate_dst (N:=10) rfl ?_);refine Kd.R_make (Kd.int .i64) _ 3 rfl (N:=10) rfl 22 _ _ rfl a2 rfl rfl Try.underlying22 (.int .i64 0) 8 info3 rfl (by decide) (by omega) 0 (ok:=fun _=>True) (okp:=fun _=>True) rfl (fun _ hk=>hk) trivial zd (Nat.le_trans (Nat.mul_le_mul_right _ (zd:a2.toNat≤35184372088832)) (by omega)) (Below.refl _ _) (Nat.le_refl _) ?_;intro va2 w6 ho7 hb hg_ hnew_;clear hg_ hnew_;(first|rw[←Nya1.out] at ho7|(simp only[Int.reduceToNat] at ho7;rw[←Nya1.out] at ho7));have HOa3:=yRl ho7 HB;replace HB:=yS HB hb;clear hb ho7))
 go_loopg [0,8] k (fun kq v0 v8 w'=>∃(x0_1:Int) (x7_1:List Int) (x8_1:Int),v0= .int .i64 x0_1∧v8= .int .i64 x8_1∧Aside0 (r4_digits.l0 kq x0_1 a1 a2 x7_1 x8_1=some r)∧Aside0 (kq≤k)∧Aside0 (Kd.R (Kd.int .i64) 3 w' w.heap.size (fun _=>True) va2 x7_1)∧Aside0 (Below w.heap.size w w'))
 case atStart=>exact⟨(a0),(ya1),(0),zF,zF,H',⟨Nat.le_refl _⟩,⟨zR HOa3.out⟩,⟨zB HB.out⟩⟩
 clear H'
 (try clear c4);(try clear c4b0);(try clear c4b1);(try clear c5);(try clear c5b0);(try clear c5b1)
 obtain⟨x0_1,x7_1,x8_1,rfl,rfl,HA,HK1,HO_7,HB⟩:=hrel
 cases gk with|zero=>exact absurd HA.out (by simp [r4_digits.l0])|succ k1=>?_
 have H:=HA.out
 clear HA
 simp only[r4_digits.l0] at H
 replace H:=zid H
 rcases H with⟨c8b0,H⟩|⟨c8b0,H⟩
 ·replace H:=zh H
  obtain⟨c9,H⟩:=H
  have c9b0:=beq_eq_false_iff_ne.mpr c9
  have c9b1:=bne_iff_ne.mpr c9
  replace H:=zgd H
  obtain⟨c10b0,H⟩:=H
  replace H:=zgd H
  obtain⟨c11b0,H⟩:=H
  obtain⟨ya4,hya4⟩:∃y_:List Int,y_=(x7_1.set (x8_1:Int).toNat (Int.tmod x0_1 a1)):=⟨_,rfl⟩
  replace H:(r4_digits.l0 k1 (wrap64 (Int.tdiv x0_1 a1)) a1 a2 ya4 (wrap64 (x8_1+1)))=some r:=zY hya4 H
  have Nya4:=zk hya4
  clear hya4
  have H':=zk H
  clear H
  have p12:0≤(x8_1:Int):=zd
  have q12:(x8_1:Int)<((x7_1.length:Int):Int):=zd
  obtain⟨go12,co12,eo12,gb12,gl12,cl12,HG12⟩:=Kd.R_form HO_7.out (by omega)
  (first|cases eo12|(injection eo12 with ea_ en_ ec_;(first|subst ea_|(injection ea_ with ea_;subst ea_));subst ec_;clear en_))
  have GB12:=zk gb12
  have GG12:=zk HG12
  clear gb12 gl12 HG12
  obtain⟨hx12_0,hf12_0⟩:=Kd.R_celln 0 HO_7.out (x8_1:Int) p12 q12
  replace p12:=eq_true p12
  replace q12:=eq_true q12
  have HP13:=Kd.R_putg HO_7.out (x8_1:Int) (Int.tmod x0_1 a1)
  go_wp2_with (first|((with_reducible refine gate_store (t:=3) (p:=21) rfl ?_);refine store_event (t:=3) (p:=21) (v:=?vo_w14) (w1:=(wr.setCell ⟨go12,(x8_1:Int).toNat,none⟩ (.int .i64 (Int.tmod x0_1 a1)))) ?hg ?ho ?hn ?hr ?_;(case ho=>rfl);(case hg=>rfl);(case hn=>rfl);(case hr=>first|(go_simp;done)|(go_simp;rfl));intro w14 hw;have hg:wr.grownBy w14 (some go12):=(by rw[hw];exact HP13.2);have hp_:Kd.R (Kd.int .i64) 3 w14 w.heap.size (fun _=>True) (.slice (some ⟨go12,0,none⟩) x7_1.length co12) ya4:=(by rw[hw,Nya4.out];exact HP13.1);clear HP13;replace HO_7:=zk (hp_);replace HB:=zk ((by rw[hw];exact below_set (HB.out) GB12.out:Below w.heap.size w w14));clear hg hw hp_))
  go_roundg k1
  case measure=>have:=HK1.out;omega
  case rel=>exact⟨(wrap64 (Int.tdiv x0_1 a1)),(ya4),(wrap64 (x8_1+1)),zF,zF,H',⟨zo1 HK1⟩,⟨zR HO_7.out⟩,⟨zB HB.out⟩⟩
 obtain rfl:=Option.some.inj H
 go_wp2
 go_ret
 exact⟨_,zE,zR HO_7.out,zB HB.out⟩
set_option maxHeartbeats 8000000 in
set_option maxRecDepth 100000 in
theorem r4_irreducible.calls (k:Nat) (A0:Option Addr) (c0:Nat) (l0:List Int) (a1:Int) (r:Bool) (w:World) (hr0:Kd.C (Kd.int .i64) w A0 l0.length l0) (hc0:l0.length≤c0) (h:r4_irreducible.f k l0 a1=some r):
 Calls Try.prog 110 #[.slice A0 l0.length c0, .int .i64 a1] w fun e w'=>e= .returned (.bool r)∧Below w.heap.size w w':=by
 have HR0:=zk hr0
 have HC0:=zk hc0
 clear hr0 hc0
 have HB:=zk (Below.refl w.heap.size w)
 have H:=h
 clear h
 unfold r4_irreducible.f at H
 have H':=zk H
 clear H
 go_enter Try.func110,Try.ntmps110
 go_wp2
 go_loopg [5,6] k (fun kq v5 v6 w'=>∃(x5_1:Int) (x6_1:Int),v5= .int .i64 x5_1∧v6= .int .i64 x6_1∧Aside0 (r4_irreducible.l0 kq l0 a1 x5_1 x6_1=some r)∧Aside0 (kq≤k)∧Aside0 (Below w.heap.size w w'))
 case atStart=>exact⟨(1),(1),zF,zF,H',⟨Nat.le_refl _⟩,⟨zB HB.out⟩⟩
 clear H'
 obtain⟨x5_1,x6_1,rfl,rfl,HA,HK1,HB⟩:=hrel
 cases gk with|zero=>exact absurd HA.out (by simp [r4_irreducible.l0])|succ k1=>?_
 have H:=HA.out
 clear HA
 simp only[r4_irreducible.l0] at H
 replace H:=zid H
 rcases H with⟨c3b0,H⟩|⟨c3b0,H⟩
 ·have H':=zk H
  clear H
  go_wp2
  go_loopg [7] k1 (fun kq v7 w'=>∃(x7_2:Int),v7= .int .i64 x7_2∧Aside0 (r4_irreducible.l1 kq l0 a1 (wrap64 (x5_1*a1)) x6_1 x7_2=some r)∧Aside0 (kq≤k1)∧Aside0 (Below w.heap.size w w'))
  case atStart=>exact⟨(0),zF,H',⟨Nat.le_refl _⟩,⟨zB HB.out⟩⟩
  clear H'
  (try clear c3b0)
  obtain⟨x7_2,rfl,HA,HK2,HB⟩:=hrel
  cases gk with|zero=>exact absurd HA.out (by simp [r4_irreducible.l1])|succ k2=>?_
  have H:=HA.out
  clear HA
  simp only[r4_irreducible.l1] at H
  replace H:=zid H
  rcases H with⟨c4b0,H⟩|⟨c4b0,H⟩
  ·replace H:=zb H
   obtain⟨ta1,A5,H⟩:=H
   replace H:=zb H
   obtain⟨ta4,A6,H⟩:=H
   by_cases c7:ta4=true
   ·subst c7
    rw[if_pos rfl] at H
    obtain rfl:=Option.some.inj H
    go_wp2_with (first|((with_reducible refine gC 133 ?_);refine zG (some 26) Try.func133 #[.int .i64 x7_2, .int .i64 a1, .int .i64 x6_1] ?_;(with_reducible refine(r4_digits.calls k2 x7_2 a1 x6_1 ta1 _ A5.out).mono ?_);rintro e w8 ⟨va2,rfl,ho0,hb⟩;refine⟨_,rfl,?_⟩;have HOa3:=yRl ho0 HB;replace HB:=yS HB hb;(try clear hb ho0);obtain⟨Ao9,co9,rfl⟩:=Kd.R_slice HOa3.out)|((with_reducible refine gC 132 ?_);refine zG (some 29) Try.func132 #[.slice Ao9 ta1.length co9, .slice A0 l0.length c0, .int .i64 a1] ?_;(with_reducible refine(r4_divides.calls k2 _ _ ta1 _ _ l0 a1 true _ ?side1 ?side2 ?side3 ?side4 A6.out).mono ?_);(case side1=>exact zC (Kd.R_reads' HOa3.out).2.2);(case side2=>exact(Kd.R_reads' HOa3.out).2.1);(case side3=>exact zC (Kd.C_below HR0.out HB.out));(case side4=>exact HC0.out);rintro e w10 ⟨rfl,hb⟩;refine⟨_,rfl,?_⟩;replace HOa3:=yRb HOa3 hb;replace HB:=yS HB hb;(try clear hb);(try clear hb2);(try clear hk);(try clear hi)))
    go_ret
    exact⟨zE,zB HB.out⟩
   replace c7:=Bool.eq_false_iff.mpr c7
   subst c7
   rw[if_neg Bool.false_ne_true] at H
   have H':=zk H
   clear H
   go_wp2_with (first|((with_reducible refine gC 133 ?_);refine zG (some 26) Try.func133 #[.int .i64 x7_2, .int .i64 a1, .int .i64 x6_1] ?_;(with_reducible refine(r4_digits.calls k2 x7_2 a1 x6_1 ta1 _ A5.out).mono ?_);rintro e w11 ⟨va2,rfl,ho0,hb⟩;refine⟨_,rfl,?_⟩;have HOa3:=yRl ho0 HB;replace HB:=yS HB hb;(try clear hb ho0);obtain⟨Ao12,co12,rfl⟩:=Kd.R_slice HOa3.out)|((with_reducible refine gC 132 ?_);refine zG (some 29) Try.func132 #[.slice Ao12 ta1.length co12, .slice A0 l0.length c0, .int .i64 a1] ?_;(with_reducible refine(r4_divides.calls k2 _ _ ta1 _ _ l0 a1 false _ ?side1 ?side2 ?side3 ?side4 A6.out).mono ?_);(case side1=>exact zC (Kd.R_reads' HOa3.out).2.2);(case side2=>exact(Kd.R_reads' HOa3.out).2.1);(case side3=>exact zC (Kd.C_below HR0.out HB.out));(case side4=>exact HC0.out);rintro e w13 ⟨rfl,hb⟩;refine⟨_,rfl,?_⟩;replace HOa3:=yRb HOa3 hb;replace HB:=yS HB hb;(try clear hb);(try clear hb2);(try clear hk);(try clear hi)))
   go_roundg k2
   case measure=>have:=HK1.out;have:=HK2.out;omega
   case rel=>exact⟨(wrap64 (x7_2+1)),zF,H',⟨zo2 HK1 HK2⟩,⟨zB HB.out⟩⟩
  have H':=zk H
  clear H
  go_wp2
  go_roundg k2
  case measure=>have:=HK1.out;have:=HK2.out;omega
  case rel=>exact⟨((wrap64 (x5_1*a1))),(wrap64 (x6_1+1)),zF,zF,H',⟨zo2 HK1 HK2⟩,⟨zB HB.out⟩⟩
 obtain rfl:=Option.some.inj H
 go_wp2
 go_ret
 exact⟨zE,zB HB.out⟩
set_option maxHeartbeats 8000000 in
set_option maxRecDepth 100000 in
theorem r4_Check.calls (k:Nat) (a0_0:Int) (a0_1:Int) (A0_2:Option Addr) (c0_2:Nat) (l0_2:List Int) (r:Int) (w:World) (hr0_2:Kd.C (Kd.int .i64) w A0_2 l0_2.length l0_2) (hc0_2:l0_2.length≤c0_2) (h:r4_Check.f k a0_0 a0_1 l0_2=some r):
 Calls Try.prog 67 #[.agg #[.int .i64 a0_0, .int .i64 a0_1, .slice A0_2 l0_2.length c0_2]] w fun e w'=>e= .returned (.int .i64 r)∧Below w.heap.size w w':=by
 have hu24:=Try.underlying24
 have HR0_2:=zk hr0_2
 have HC0_2:=zk hc0_2
 clear hr0_2 hc0_2
 have HB:=zk (Below.refl w.heap.size w)
 have H:=h
 clear h
 unfold r4_Check.f at H
 have HC2:=zk H
 clear H
 go_enter Try.func67,Try.ntmps67
 go_upto_region 1 with(first|((with_reducible refine gate_dst (N:=1) rfl ?_);refine box_event ?hg (N:=1) ?hd (cs:= #[.int .i64 a0_0, .int .i64 a0_1, .slice A0_2 l0_2.length c0_2]) (t:=24) ?hr ?_;(case hd=>rfl);(case hg=>rfl);(case hr=>first|(go_simp;done)|(go_simp;rfl));intro gba1 hg w3 hbox hb;have BKa1:=zk (hbox);have GWa1:=yg hg HB;have GEa1:=yg hg HB;replace HB:=yS HB hb;clear hb hbox hg))
 repeat(go_quiet (first|((with_reducible refine gate_dst (N:=1) rfl ?_);refine box_event ?hg (N:=1) ?hd (cs:= #[.int .i64 a0_0, .int .i64 a0_1, .slice A0_2 l0_2.length c0_2]) (t:=24) ?hr ?_;(case hd=>rfl);(case hg=>rfl);(case hr=>first|(go_simp;done)|(go_simp;rfl));intro gba1 hg w3 hbox hb;have BKa1:=zk (hbox);have GWa1:=yg hg HB;have GEa1:=yg hg HB;replace HB:=yS HB hb;clear hb hbox hg));go_upto_region 1 with(first|((with_reducible refine gate_dst (N:=1) rfl ?_);refine box_event ?hg (N:=1) ?hd (cs:= #[.int .i64 a0_0, .int .i64 a0_1, .slice A0_2 l0_2.length c0_2]) (t:=24) ?hr ?_;(case hd=>rfl);(case hg=>rfl);(case hr=>first|(go_simp;done)|(go_simp;rfl));intro gba1 hg w3 hbox hb;have n0_:=yS HB hb;have n1_:=zk (hbox);have n2_:=yg hg HB;have n3_:=yg hg HB;clear HB;have HB:=n0_;have BKa1:=n1_;have GWa1:=n2_;have GEa1:=n3_;clear n0_ n1_ n2_ n3_;clear hb hbox hg)))
 (try simp only[Act.put,List.setIfInBounds_toArray,List.set_cons_zero,List.set_cons_succ])
 go_cut [12] (fun v12 wc=>∃(kq:Nat) (x12_1:Bool),v12= .bool x12_1∧Aside0 (r4_Check.j0 kq x12_1 a0_0 a0_1 l0_2=some r)∧Aside0 (kq≤k)∧Aside0 (wc.heap[gba1]?=some (.cells #[.int .i64 a0_0, .int .i64 a0_1,(.slice A0_2 l0_2.length c0_2)] 24 (0,0)))∧Aside0 (Below w.heap.size w wc))
 case first=>
  have H:=HC2.out
  clear HC2
  replace H:=zb H
  obtain⟨ta2,A4,H⟩:=H
  replace H:=zi H
  rcases H with⟨c5,H⟩|⟨c5,H⟩
  ·have c5b0:=beq_iff_eq.mpr c5
   have c5b1:=bne_eq_false_iff_eq.mpr c5
   clear c5
   (first|rw[c5b0]|(simp only[i64_w,i32_w];rw[c5b0])|rw[c5b1]|skip)
   have H':=zk H
   clear H
   obtain⟨hcz6_0,hcz6_1,hcz6_2,hfz6_0,hfz6_1,hfz6_2⟩:=zz3 BKa1
   go_wp2_with (first|(go_at_call 24;(with_reducible refine(r4_Order.calls k a0_0 a0_1 _ _ l0_2 ta2 _ ?side1 ?side2 A4.out).mono ?_);(case side1=>exact zC (Kd.C_below HR0_2.out HB.out));(case side2=>exact HC0_2.out);rintro e w7 ⟨rfl,hb⟩;replace BKa1:=yK BKa1 hb;replace HB:=yS1 HB GEa1 hb;(try clear hb);(try clear hb2);(try clear hk);(try clear hi)))
   repeat(go_quiet (first|(go_at_call 24;(with_reducible refine(r4_Order.calls k a0_0 a0_1 _ _ l0_2 ta2 _ ?side1 ?side2 A4.out).mono ?_);(case side1=>exact zC (Kd.C_below HR0_2.out HB.out));(case side2=>exact HC0_2.out);rintro e w7 ⟨rfl,hb⟩;replace BKa1:=yK BKa1 hb;replace HB:=yS1 HB GEa1 hb;(try clear hb);(try clear hb2);(try clear hk);(try clear hi)));try go_wp2_with (first|(go_at_call 24;(with_reducible refine(r4_Order.calls k a0_0 a0_1 _ _ l0_2 ta2 _ ?side1 ?side2 A4.out).mono ?_);(case side1=>exact zC (Kd.C_below HR0_2.out HB.out));(case side2=>exact HC0_2.out);rintro e w7 ⟨rfl,hb⟩;have n0_:=yK BKa1 hb;have n1_:=yS1 HB GEa1 hb;clear BKa1;clear HB;have BKa1:=n0_;have HB:=n1_;clear n0_ n1_;(try clear hb);(try clear hb2);(try clear hk);(try clear hi))))
   go_meet
   case rel=>exact⟨_,(true),zF,H',⟨zO⟩,⟨zK BKa1.out⟩,⟨zB1 HB.out GEa1.out⟩⟩
  have c5b0:=beq_eq_false_iff_ne.mpr c5
  have c5b1:=bne_iff_ne.mpr c5
  (first|rw[c5b0]|(simp only[i64_w,i32_w];rw[c5b0])|rw[c5b1]|skip)
  replace H:=zb H
  obtain⟨ta3,A8,H⟩:=H
  have H':=zk H
  clear H
  obtain⟨hcz9_0,hcz9_1,hcz9_2,hfz9_0,hfz9_1,hfz9_2⟩:=zz3 BKa1
  go_wp2_with (first|(go_at_call 24;(with_reducible refine(r4_Order.calls k a0_0 a0_1 _ _ l0_2 ta2 _ ?side1 ?side2 A4.out).mono ?_);(case side1=>exact zC (Kd.C_below HR0_2.out HB.out));(case side2=>exact HC0_2.out);rintro e w10 ⟨rfl,hb⟩;replace BKa1:=yK BKa1 hb;replace HB:=yS1 HB GEa1 hb;(try clear hb);(try clear hb2);(try clear hk);(try clear hi);obtain⟨hcz11_0,hcz11_1,hcz11_2,hfz11_0,hfz11_1,hfz11_2⟩:=zz3 BKa1)|(go_at_call 109;(with_reducible refine(r4_prime.calls k a0_0 ta3 _ A8.out).mono ?_);rintro e w' ⟨rfl,⟨nd,rfl⟩⟩;(try first|exact⟨rfl,_,World.drewN_drewN _ _ _⟩|exact⟨rfl,_,Eq.trans (World.drewN_drewN _ _ _) (congrArg (World.drewN _) (Nat.add_assoc _ _ _))⟩)))
  repeat(go_quiet (first|(go_at_call 24;(with_reducible refine(r4_Order.calls k a0_0 a0_1 _ _ l0_2 ta2 _ ?side1 ?side2 A4.out).mono ?_);(case side1=>exact zC (Kd.C_below HR0_2.out HB.out));(case side2=>exact HC0_2.out);rintro e w10 ⟨rfl,hb⟩;replace BKa1:=yK BKa1 hb;replace HB:=yS1 HB GEa1 hb;(try clear hb);(try clear hb2);(try clear hk);(try clear hi);obtain⟨hcz11_0,hcz11_1,hcz11_2,hfz11_0,hfz11_1,hfz11_2⟩:=zz3 BKa1)|(go_at_call 109;(with_reducible refine(r4_prime.calls k a0_0 ta3 _ A8.out).mono ?_);rintro e w' ⟨rfl,⟨nd,rfl⟩⟩;(try first|exact⟨rfl,_,World.drewN_drewN _ _ _⟩|exact⟨rfl,_,Eq.trans (World.drewN_drewN _ _ _) (congrArg (World.drewN _) (Nat.add_assoc _ _ _))⟩)));try go_wp2_with (first|(go_at_call 24;(with_reducible refine(r4_Order.calls k a0_0 a0_1 _ _ l0_2 ta2 _ ?side1 ?side2 A4.out).mono ?_);(case side1=>exact zC (Kd.C_below HR0_2.out HB.out));(case side2=>exact HC0_2.out);rintro e w10 ⟨rfl,hb⟩;have n0_:=yK BKa1 hb;have n1_:=yS1 HB GEa1 hb;clear BKa1;clear HB;have BKa1:=n0_;have HB:=n1_;clear n0_ n1_;(try clear hb);(try clear hb2);(try clear hk);(try clear hi);obtain⟨hcz11_0,hcz11_1,hcz11_2,hfz11_0,hfz11_1,hfz11_2⟩:=zz3 BKa1)|(go_at_call 109;(with_reducible refine(r4_prime.calls k a0_0 ta3 _ A8.out).mono ?_);rintro e w' ⟨rfl,⟨nd,rfl⟩⟩;(try first|exact⟨rfl,_,World.drewN_drewN _ _ _⟩|exact⟨rfl,_,Eq.trans (World.drewN_drewN _ _ _) (congrArg (World.drewN _) (Nat.add_assoc _ _ _))⟩))))
  go_meet
  case rel=>exact⟨_,(!ta3),zF,H',⟨zO⟩,⟨zK BKa1.out⟩,⟨zB1 HB.out GEa1.out⟩⟩
 clear HC2
 (try clear c5);(try clear c5b0);(try clear c5b1);(try clear hcz11_0);(try clear hcz11_1);(try clear hcz11_2);(try clear hcz6_0);(try clear hcz6_1);(try clear hcz6_2);(try clear hcz9_0);(try clear hcz9_1);(try clear hcz9_2);(try clear hfz11_0);(try clear hfz11_1);(try clear hfz11_2);(try clear hfz6_0);(try clear hfz6_1);(try clear hfz6_2);(try clear hfz9_0);(try clear hfz9_1);(try clear hfz9_2)
 obtain⟨kq,x12_1,rfl,HA,HJ1,BKa1,HB⟩:=hcut
 cases kq with|zero=>exact absurd HA.out (by simp [r4_Check.j0])|succ kj1=>?_
 have H:=HA.out
 clear HA
 simp only[r4_Check.j0] at H
 by_cases c12:x12_1=true
 ·subst c12
  rw[if_pos rfl] at H
  obtain rfl:=Option.some.inj H
  go_wp2
  repeat(go_quiet (fail);try go_wp2)
  go_ret
  exact⟨zE,zB1 HB.out GEa1.out⟩
 replace c12:=Bool.eq_false_iff.mpr c12
 subst c12
 rw[if_neg Bool.false_ne_true] at H
 replace H:=zi H
 rcases H with⟨c13,H⟩|⟨c13,H⟩
 ·have c13b0:=beq_iff_eq.mpr c13
  have c13b1:=bne_eq_false_iff_eq.mpr c13
  clear c13
  replace H:=zi H
  rcases H with⟨c14,H⟩|⟨c14,H⟩
  ·have c14b0:=beq_iff_eq.mpr c14
   have c14b1:=bne_eq_false_iff_eq.mpr c14
   clear c14
   obtain rfl:=Option.some.inj H
   obtain⟨hcz15_0,hcz15_1,hcz15_2,hfz15_0,hfz15_1,hfz15_2⟩:=zz3 BKa1
   go_wp2
   repeat(go_quiet (fail);try go_wp2)
   go_ret
   exact⟨zE,zB1 HB.out GEa1.out⟩
  have c14b0:=beq_eq_false_iff_ne.mpr c14
  have c14b1:=bne_iff_ne.mpr c14
  have c14b2:¬(l0_2=[]):=fun h_=>c14 (by rw[h_];rfl)
  obtain rfl:=Option.some.inj H
  obtain⟨hcz16_0,hcz16_1,hcz16_2,hfz16_0,hfz16_1,hfz16_2⟩:=zz3 BKa1
  go_wp2
  repeat(go_quiet (fail);try go_wp2)
  go_ret
  exact⟨zE,zB1 HB.out GEa1.out⟩
 have c13b0:=beq_eq_false_iff_ne.mpr c13
 have c13b1:=bne_iff_ne.mpr c13
 replace H:=zi H
 rcases H with⟨c17,H⟩|⟨c17,H⟩
 ·have c17b0:=beq_iff_eq.mpr c17
  have c17b1:=bne_eq_false_iff_eq.mpr c17
  clear c17
  have H':=zk H
  clear H
  obtain⟨hcz18_0,hcz18_1,hcz18_2,hfz18_0,hfz18_1,hfz18_2⟩:=zz3 BKa1
  go_wp2
  repeat(go_quiet (fail);try go_wp2)
  go_loopg [3] kj1 (fun kq v3 w'=>∃(x3_2:Int),v3= .int .i64 x3_2∧Aside0 (r4_Check.l0 kq x3_2 a0_0 a0_1 l0_2=some r)∧Aside0 (kq≤kj1)∧Aside0 (w'.heap[gba1]?=some (.cells #[.int .i64 a0_0, .int .i64 a0_1,(.slice A0_2 l0_2.length c0_2)] 24 (0,0)))∧Aside0 (Below w.heap.size w w'))
  case atStart=>exact⟨(0),zF,H',⟨Nat.le_refl _⟩,⟨zK BKa1.out⟩,⟨zB1 HB.out GEa1.out⟩⟩
  clear H'
  (try clear c5);(try clear c5b0);(try clear c5b1);(try clear c12);(try clear c13);(try clear c13b0);(try clear c13b1);(try clear c14);(try clear c14b0);(try clear c14b1);(try clear c14b2);(try clear c17);(try clear c17b0);(try clear c17b1);(try clear hcz11_0);(try clear hcz11_1);(try clear hcz11_2);(try clear hcz15_0);(try clear hcz15_1);(try clear hcz15_2);(try clear hcz16_0);(try clear hcz16_1);(try clear hcz16_2);(try clear hcz18_0);(try clear hcz18_1);(try clear hcz18_2);(try clear hcz6_0);(try clear hcz6_1);(try clear hcz6_2);(try clear hcz9_0);(try clear hcz9_1);(try clear hcz9_2);(try clear hfz11_0);(try clear hfz11_1);(try clear hfz11_2);(try clear hfz15_0);(try clear hfz15_1);(try clear hfz15_2);(try clear hfz16_0);(try clear hfz16_1);(try clear hfz16_2);(try clear hfz18_0);(try clear hfz18_1);(try clear hfz18_2);(try clear hfz6_0);(try clear hfz6_1);(try clear hfz6_2);(try clear hfz9_0);(try clear hfz9_1);(try clear hfz9_2)
  obtain⟨x3_2,rfl,HA,HK2,BKa1,HB⟩:=hrel
  cases gk with|zero=>exact absurd HA.out (by simp [r4_Check.l0])|succ k2=>?_
  have H:=HA.out
  clear HA
  simp only[r4_Check.l0] at H
  replace H:=zid H
  rcases H with⟨c19b0,H⟩|⟨c19b0,H⟩
  ·replace H:=zgd H
   obtain⟨c20b0,H⟩:=H
   replace H:=zgd H
   obtain⟨c21b0,H⟩:=H
   replace H:=zid H
   rcases H with⟨c22b0,H⟩|⟨c22b0,H⟩
   ·obtain rfl:=Option.some.inj H
    obtain⟨hcz23_0,hcz23_1,hcz23_2,hfz23_0,hfz23_1,hfz23_2⟩:=zz3 BKa1
    have pa4:0≤(x3_2:Int):=zd
    have qa4:x3_2<(l0_2.length:Int):=zd
    obtain⟨ada4,ea4,hxa4_0⟩:=Kd.at_int HR0_2.out x3_2 pa4 qa4
    cases ea4
    replace hxa4_0:=(HB.out.cell (World.block_lt_of_cell? w _ hxa4_0)).trans hxa4_0
    replace pa4:=eq_true pa4
    replace qa4:=eq_true qa4
    go_wp2
    repeat(go_quiet (fail);try go_wp2)
    go_ret
    exact⟨zE,zB1 HB.out GEa1.out⟩
   replace H:=zi H
   rcases H with⟨c24,H⟩|⟨c24,H⟩
   ·have c24b0:decide (a0_0≤(rd l0_2 x3_2))=true:=decide_eq_true c24
    clear c24
    obtain rfl:=Option.some.inj H
    obtain⟨hcz25_0,hcz25_1,hcz25_2,hfz25_0,hfz25_1,hfz25_2⟩:=zz3 BKa1
    have pa4:0≤(x3_2:Int):=zd
    have qa4:x3_2<(l0_2.length:Int):=zd
    obtain⟨ada4,ea4,hxa4_0⟩:=Kd.at_int HR0_2.out x3_2 pa4 qa4
    cases ea4
    replace hxa4_0:=(HB.out.cell (World.block_lt_of_cell? w _ hxa4_0)).trans hxa4_0
    replace pa4:=eq_true pa4
    replace qa4:=eq_true qa4
    have pa5:0≤(x3_2:Int):=zd
    have qa5:x3_2<(l0_2.length:Int):=zd
    obtain⟨ada5,ea5,hxa5_0⟩:=Kd.at_int HR0_2.out x3_2 pa5 qa5
    obtain rfl:ada4=ada5:=(by injection ea5)
    replace hxa5_0:=(HB.out.cell (World.block_lt_of_cell? w _ hxa5_0)).trans hxa5_0
    replace pa5:=eq_true pa5
    replace qa5:=eq_true qa5
    go_wp2
    repeat(go_quiet (fail);try go_wp2)
    go_ret
    exact⟨zE,zB1 HB.out GEa1.out⟩
   have c24b0:decide (a0_0≤(rd l0_2 x3_2))=false:=decide_eq_false c24
   clear c24
   have H':=zk H
   clear H
   obtain⟨hcz26_0,hcz26_1,hcz26_2,hfz26_0,hfz26_1,hfz26_2⟩:=zz3 BKa1
   have pa4:0≤(x3_2:Int):=zd
   have qa4:x3_2<(l0_2.length:Int):=zd
   obtain⟨ada4,ea4,hxa4_0⟩:=Kd.at_int HR0_2.out x3_2 pa4 qa4
   cases ea4
   replace hxa4_0:=(HB.out.cell (World.block_lt_of_cell? w _ hxa4_0)).trans hxa4_0
   replace pa4:=eq_true pa4
   replace qa4:=eq_true qa4
   have pa5:0≤(x3_2:Int):=zd
   have qa5:x3_2<(l0_2.length:Int):=zd
   obtain⟨ada5,ea5,hxa5_0⟩:=Kd.at_int HR0_2.out x3_2 pa5 qa5
   obtain rfl:ada4=ada5:=(by injection ea5)
   replace hxa5_0:=(HB.out.cell (World.block_lt_of_cell? w _ hxa5_0)).trans hxa5_0
   replace pa5:=eq_true pa5
   replace qa5:=eq_true qa5
   go_wp2
   repeat(go_quiet (fail);try go_wp2)
   go_roundg k2
   case measure=>have:=HJ1.out;have:=HK2.out;omega
   case rel=>exact⟨(wrap64 (x3_2+1)),zF,H',⟨zo2 HJ1 HK2⟩,⟨zK BKa1.out⟩,⟨zB1 HB.out GEa1.out⟩⟩
  replace H:=zb H
  obtain⟨ta6,A27,H⟩:=H
  by_cases c28:ta6=true
  ·subst c28
   rw[if_pos rfl] at H
   obtain rfl:=Option.some.inj H
   obtain⟨hcz29_0,hcz29_1,hcz29_2,hfz29_0,hfz29_1,hfz29_2⟩:=zz3 BKa1
   go_wp2_with (first|(go_at_call 110;(with_reducible refine(r4_irreducible.calls k2 _ _ l0_2 a0_0 true _ ?side1 ?side2 A27.out).mono ?_);(case side1=>exact zC (Kd.C_below HR0_2.out HB.out));(case side2=>exact HC0_2.out);rintro e w30 ⟨rfl,hb⟩;replace BKa1:=yK BKa1 hb;replace HB:=yS1 HB GEa1 hb;(try clear hb);(try clear hb2);(try clear hk);(try clear hi)))
   repeat(go_quiet (first|(go_at_call 110;(with_reducible refine(r4_irreducible.calls k2 _ _ l0_2 a0_0 true _ ?side1 ?side2 A27.out).mono ?_);(case side1=>exact zC (Kd.C_below HR0_2.out HB.out));(case side2=>exact HC0_2.out);rintro e w30 ⟨rfl,hb⟩;replace BKa1:=yK BKa1 hb;replace HB:=yS1 HB GEa1 hb;(try clear hb);(try clear hb2);(try clear hk);(try clear hi)));try go_wp2_with (first|(go_at_call 110;(with_reducible refine(r4_irreducible.calls k2 _ _ l0_2 a0_0 true _ ?side1 ?side2 A27.out).mono ?_);(case side1=>exact zC (Kd.C_below HR0_2.out HB.out));(case side2=>exact HC0_2.out);rintro e w30 ⟨rfl,hb⟩;have n0_:=yK BKa1 hb;have n1_:=yS1 HB GEa1 hb;clear BKa1;clear HB;have BKa1:=n0_;have HB:=n1_;clear n0_ n1_;(try clear hb);(try clear hb2);(try clear hk);(try clear hi))))
   go_ret
   exact⟨zE,zB1 HB.out GEa1.out⟩
  replace c28:=Bool.eq_false_iff.mpr c28
  subst c28
  rw[if_neg Bool.false_ne_true] at H
  obtain rfl:=Option.some.inj H
  obtain⟨hcz31_0,hcz31_1,hcz31_2,hfz31_0,hfz31_1,hfz31_2⟩:=zz3 BKa1
  go_wp2_with (first|(go_at_call 110;(with_reducible refine(r4_irreducible.calls k2 _ _ l0_2 a0_0 false _ ?side1 ?side2 A27.out).mono ?_);(case side1=>exact zC (Kd.C_below HR0_2.out HB.out));(case side2=>exact HC0_2.out);rintro e w32 ⟨rfl,hb⟩;replace BKa1:=yK BKa1 hb;replace HB:=yS1 HB GEa1 hb;(try clear hb);(try clear hb2);(try clear hk);(try clear hi)))
  repeat(go_quiet (first|(go_at_call 110;(with_reducible refine(r4_irreducible.calls k2 _ _ l0_2 a0_0 false _ ?side1 ?side2 A27.out).mono ?_);(case side1=>exact zC (Kd.C_below HR0_2.out HB.out));(case side2=>exact HC0_2.out);rintro e w32 ⟨rfl,hb⟩;replace BKa1:=yK BKa1 hb;replace HB:=yS1 HB GEa1 hb;(try clear hb);(try clear hb2);(try clear hk);(try clear hi)));try go_wp2_with (first|(go_at_call 110;(with_reducible refine(r4_irreducible.calls k2 _ _ l0_2 a0_0 false _ ?side1 ?side2 A27.out).mono ?_);(case side1=>exact zC (Kd.C_below HR0_2.out HB.out));(case side2=>exact HC0_2.out);rintro e w32 ⟨rfl,hb⟩;have n0_:=yK BKa1 hb;have n1_:=yS1 HB GEa1 hb;clear BKa1;clear HB;have BKa1:=n0_;have HB:=n1_;clear n0_ n1_;(try clear hb);(try clear hb2);(try clear hk);(try clear hi))))
  go_ret
  exact⟨zE,zB1 HB.out GEa1.out⟩
 have c17b0:=beq_eq_false_iff_ne.mpr c17
 have c17b1:=bne_iff_ne.mpr c17
 obtain rfl:=Option.some.inj H
 obtain⟨hcz33_0,hcz33_1,hcz33_2,hfz33_0,hfz33_1,hfz33_2⟩:=zz3 BKa1
 go_wp2
 repeat(go_quiet (fail);try go_wp2)
 go_ret
 exact⟨zE,zB1 HB.out GEa1.out⟩
set_option maxHeartbeats 8000000 in
set_option maxRecDepth 100000 in
theorem r24_has.calls (k:Nat) (A0:Option Addr) (c0:Nat) (l0:List (List Int)) (A1:Option Addr) (c1:Nat) (l1:List Int) (r:Bool) (w:World) (hr0:Kd.C (Kd.slice 3 (Kd.int .i64)) w A0 l0.length l0) (hc0:l0.length≤c0) (hr1:Kd.C (Kd.int .i64) w A1 l1.length l1) (hc1:l1.length≤c1) (h:r24_has.f k l0 l1=some r):
 Calls Try.prog 111 #[.slice A0 l0.length c0, .slice A1 l1.length c1] w fun e w'=>e= .returned (.bool r)∧Drawn0 w w':=by
 have HR0:=zk hr0
 have HC0:=zk hc0
 clear hr0 hc0
 have HR1:=zk hr1
 have HC1:=zk hc1
 clear hr1 hc1
 have H:=h
 clear h
 unfold r24_has.f at H
 have H':=zk H
 clear H
 go_enter Try.func111,Try.ntmps111
 go_wp2
 go_loopg [5] k (fun kq v5 w'=>∃(x5_1:Int),v5= .int .i64 x5_1∧Aside0 (r24_has.l0 kq l0 l1 x5_1=some r)∧Aside0 (kq≤k)∧Drawn0 w w')
 case atStart=>exact⟨(0),zF,H',⟨Nat.le_refl _⟩,by repeat(first|exact Drawn0.refl _|apply Drawn0.step)⟩
 clear H'
 obtain⟨x5_1,rfl,HA,HK1,⟨m1,rfl⟩⟩:=hrel
 cases gk with|zero=>exact absurd HA.out (by simp [r24_has.l0])|succ k1=>?_
 have H:=HA.out
 clear HA
 simp only[r24_has.l0] at H
 replace H:=zid H
 rcases H with⟨c3b0,H⟩|⟨c3b0,H⟩
 ·replace H:=zgd H
  obtain⟨c4b0,H⟩:=H
  replace H:=zb H
  obtain⟨ta2,A5,H⟩:=H
  replace H:=zi H
  rcases H with⟨c6,H⟩|⟨c6,H⟩
  ·have c6b0:=beq_iff_eq.mpr c6
   have c6b1:=bne_eq_false_iff_eq.mpr c6
   clear c6
   obtain rfl:=Option.some.inj H
   have pa1:0≤(x5_1:Int):=zd
   have qa1:x5_1<(l0.length:Int):=zd
   obtain⟨ada1,Aa1_0,ca1_0,ea1,hxa1_0,hla1_0,hia1_0⟩:=at_L1 HR0.out x5_1 pa1 qa1
   cases ea1
   have HRa1_0:=zk hia1_0
   have HCa1_0:=zk hla1_0
   clear hia1_0 hla1_0
   replace pa1:=eq_true pa1
   replace qa1:=eq_true qa1
   go_wp2_with (first|((with_reducible refine gC 61 ?_);refine zG (some 17) Try.func61 #[.slice Aa1_0 (rd_L1 l0 x5_1).length ca1_0, .slice A1 l1.length c1] ?_;(with_reducible refine(r24_Distance.calls k1 _ _ (rd_L1 l0 x5_1) _ _ l1 ta2 _ ?side1 ?side2 ?side3 ?side4 A5.out).mono ?_);(case side1=>exact zC HRa1_0.out);(case side2=>exact HCa1_0.out);(case side3=>exact zC HR1.out);(case side4=>exact HC1.out);rintro e w' ⟨rfl,⟨nd,rfl⟩⟩;refine⟨_,rfl,?_⟩))
   go_ret
   exact⟨zF,by repeat(first|exact Drawn0.refl _|apply Drawn0.step)⟩
  have c6b0:=beq_eq_false_iff_ne.mpr c6
  have c6b1:=bne_iff_ne.mpr c6
  have H':=zk H
  clear H
  have pa1:0≤(x5_1:Int):=zd
  have qa1:x5_1<(l0.length:Int):=zd
  obtain⟨ada1,Aa1_0,ca1_0,ea1,hxa1_0,hla1_0,hia1_0⟩:=at_L1 HR0.out x5_1 pa1 qa1
  cases ea1
  have HRa1_0:=zk hia1_0
  have HCa1_0:=zk hla1_0
  clear hia1_0 hla1_0
  replace pa1:=eq_true pa1
  replace qa1:=eq_true qa1
  go_wp2_with (first|((with_reducible refine gC 61 ?_);refine zG (some 17) Try.func61 #[.slice Aa1_0 (rd_L1 l0 x5_1).length ca1_0, .slice A1 l1.length c1] ?_;(with_reducible refine(r24_Distance.calls k1 _ _ (rd_L1 l0 x5_1) _ _ l1 ta2 _ ?side1 ?side2 ?side3 ?side4 A5.out).mono ?_);(case side1=>exact zC HRa1_0.out);(case side2=>exact HCa1_0.out);(case side3=>exact zC HR1.out);(case side4=>exact HC1.out);rintro e w' ⟨rfl,⟨nd,rfl⟩⟩;refine⟨_,rfl,?_⟩))
  go_roundg k1
  case measure=>have:=HK1.out;omega
  case rel=>exact⟨(wrap64 (x5_1+1)),zF,H',⟨zo1 HK1⟩,by repeat(first|exact Drawn0.refl _|apply Drawn0.step)⟩
 obtain rfl:=Option.some.inj H
 go_wp2
 go_ret
 exact⟨zF,by repeat(first|exact Drawn0.refl _|apply Drawn0.step)⟩
def r4_Digits.T1:Bool×List (List Nat×List Nat):=(true,[([],[]),([],[]),([0,1],[0,1]),([],[]),([3],[3]),([],[]),([5],[5]),([2,4,6,2],[2,4,6]),([7,7,0,1,2,3,4,5,6,7],[7])])
def r4_Digits.B1:List Nat:=[0,0,3,0,8,0,32,127,255]
theorem r4_Digits.tab1:rtab .any (opsOf Try.f134 1)=r4_Digits.T1:=by kernel_rfl
theorem r4_Digits.bits1:waitsOk r4_Digits.T1.2 r4_Digits.B1=true:=by kernel_rfl
set_option maxHeartbeats 8000000 in
set_option maxRecDepth 100000 in
theorem r4_Digits.calls (k:Nat) (a0_0:Int) (a0_1:Int) (A0_2:Option Addr) (c0_2:Nat) (l0_2:List Int) (a1:Int) (r:List Int) (w:World) (hr0_2:Kd.C (Kd.int .i64) w A0_2 l0_2.length l0_2) (hc0_2:l0_2.length≤c0_2) (h:r4_Digits.f k a0_0 a0_1 l0_2 a1=some r):
 Calls Try.prog 134 #[.agg #[.int .i64 a0_0, .int .i64 a0_1, .slice A0_2 l0_2.length c0_2], .int .i64 a1] w fun e w'=>∃v0_:Value,e= .returned (v0_)∧Kd.R (Kd.int .i64) 3 w' w.heap.size (fun _=>True) v0_ r∧Below w.heap.size w w':=by
 have hu24:=Try.underlying24
 have HR0_2:=zk hr0_2
 have HC0_2:=zk hc0_2
 clear hr0_2 hc0_2
 have HB:=zk (Below.refl w.heap.size w)
 have H:=h
 clear h
 unfold r4_Digits.f at H
 replace H:=zb H
 obtain⟨ta2,A3,H⟩:=H
 replace H:=zb H
 obtain⟨ta3,A4,H⟩:=H
 obtain rfl:=Option.some.inj H
 go_enter Try.func134,Try.ntmps134
 try go_wp2_with (first|((with_reducible refine gate_dst (N:=2) rfl ?_);refine box_event ?hg (N:=2) ?hd (cs:= #[.int .i64 a0_0, .int .i64 a0_1, .slice A0_2 l0_2.length c0_2]) (t:=24) ?hr ?_;(case hd=>rfl);(case hg=>rfl);(case hr=>first|(go_simp;done)|(go_simp;rfl));intro gba1 hg w5 hbox hb;have BKa1:=zk (hbox);have GWa1:=yg hg HB;have GEa1:=yg hg HB;replace HB:=yS HB hb;clear hb hbox hg))
 replace BKa1:=zk (blk_drew BKa1.out)
 replace HB:=zk (below_drew1 HB.out)
 refine start_ (n:=9) (S:=fun w'=>w'.cell? ⟨gba1,0,none⟩=some (.int .i64 a0_0)∧w'.cell? ⟨gba1,1,none⟩=some (.int .i64 a0_1)∧w'.cell? ⟨gba1,2,none⟩=some (.slice A0_2 l0_2.length c0_2)) (ds:=[]) #[false,false,false,false,false,false,false,false,false] (by kernel_rfl) rfl rfl ⟨(blk_cell BKa1.out 0).trans rfl,(blk_cell BKa1.out 1).trans rfl,(blk_cell BKa1.out 2).trans rfl⟩ (fun hHeld=>?_);refine with_tabW r4_Digits.tab1 r4_Digits.bits1 (fun HT_ HW_=>?_)
 generalize w5.drew=w6 at BKa1 HB hHeld ⊢
 refine zp (i:=1) (N:=some 6) HT_ ?_
 refine zp (i:=3) (N:=some 8) HT_ ?_
 refine zp (i:=5) (N:=some 10) HT_ ?_
 refine take_ (i:=0) (N:=some 5) (v:=?_) (a':=?_) #[true,true,false,true,false,true,false,false,false] rfl rfl (take_ofW HT_.out HW_.out (by kernel_rfl)) (fun _ _ _ h=>h) (Or.inl ⟨by rfl,?_⟩) hHeld ?_ ?_
 rotate_left
 ·rintro w' ⟨s0,s1,s2⟩
  go_simp
  with_reducible rfl
 rotate_left
 ·simp only[Act.put,List.setIfInBounds_toArray,List.set_cons_zero,List.set_cons_succ,i64_w,i32_w]
  rfl
 refine take_ (i:=4) (N:=some 9) (v:=?_) (a':=?_) #[true,true,false,true,true,true,false,false,false] rfl rfl (take_ofW HT_.out HW_.out (by kernel_rfl)) (fun _ _ _ h=>h) (Or.inl ⟨by rfl,?_⟩) hHeld ?_ ?_
 rotate_left
 ·rintro w' ⟨s0,s1,s2⟩
  go_simp
  with_reducible rfl
 rotate_left
 ·simp only[Act.put,List.setIfInBounds_toArray,List.set_cons_zero,List.set_cons_succ,i64_w,i32_w]
  rfl
 refine take_ (i:=6) (N:=some 11) (v:=?_) (a':=?_) #[true,true,false,true,true,true,true,false,false] rfl rfl (take_ofW HT_.out HW_.out (by kernel_rfl)) (fun _ _ _ h=>h) (Or.inl ⟨by rfl,?_⟩) hHeld ?_ ?_
 rotate_left
 ·rintro w' ⟨s0,s1,s2⟩
  go_simp
  with_reducible rfl
 rotate_left
 ·simp only[Act.put,List.setIfInBounds_toArray,List.set_cons_zero,List.set_cons_succ,i64_w,i32_w]
  rfl
 refine one_ (i:=2) (N:=some 7) #[true,true,true,true,true,true,true,false,false] rfl rfl (one_of HT_.out (by kernel_rfl)) (by decide) (fun K hK=>?_)
 refine goes_ Try.func106 (by kernel_rfl) rfl #[.agg #[.int .i64 a0_0, .int .i64 a0_1, .slice A0_2 l0_2.length c0_2], .int .i64 a1] (by rfl) rfl rfl (by(try simp only[List.map_toArray,List.map_cons,List.map_nil]);first|done|rfl|(simp only[List.length_drop,List.length_take];rfl)) ?_
 with_reducible refine(r4_In.calls k a0_0 a0_1 _ _ l0_2 a1 ta2 _ ?side1 ?side2 A3.out).mono ?_
 (case side1=>exact zC (Kd.C_below HR0_2.out HB.out))
 (case side2=>exact HC0_2.out)
 rintro e w7 ⟨rfl,hb⟩
 refine⟨_,rfl,?_⟩
 replace BKa1:=yK BKa1 hb
 replace HB:=yS1 HB GEa1 hb
 (try clear hb)
 refine hK.out _ _ ⟨(blk_cell BKa1.out 0).trans rfl,(blk_cell BKa1.out 1).trans rfl,(blk_cell BKa1.out 2).trans rfl⟩ (fun hHeld=>?_)
 clear hK K
 refine norm_ (a':=?_) ?_ ?_
 rotate_left
 ·show Act.put _ (some 7) _=_
  simp only[Act.put,List.setIfInBounds_toArray,List.set_cons_zero,List.set_cons_succ,i64_w,i32_w]
  rfl
 refine one_ (i:=7) (N:=some 12) #[true,true,true,true,true,true,true,true,false] rfl rfl (one_of HT_.out (by kernel_rfl)) (by decide) (fun K hK=>?_)
 refine goes_ Try.func133 (by kernel_rfl) rfl #[.int .i64 ta2, .int .i64 a0_0, .int .i64 a0_1] (by rfl) rfl rfl (by(try simp only[List.map_toArray,List.map_cons,List.map_nil]);first|done|rfl|(simp only[List.length_drop,List.length_take];rfl)) ?_
 with_reducible refine(r4_digits.calls k ta2 a0_0 a0_1 ta3 _ A4.out).mono ?_
 rintro e w8 ⟨va4,rfl,ho0,hb⟩
 refine⟨_,rfl,?_⟩
 have HOa5:=yRl1 ho0 HB GEa1
 replace BKa1:=yK BKa1 hb
 replace HB:=yS1 HB GEa1 hb
 (try clear hb)
 (try clear ho0)
 refine hK.out _ _ ⟨(blk_cell BKa1.out 0).trans rfl,(blk_cell BKa1.out 1).trans rfl,(blk_cell BKa1.out 2).trans rfl⟩ (fun hHeld=>?_)
 clear hK K
 refine norm_ (a':=?_) ?_ ?_
 rotate_left
 ·show Act.put _ (some 12) _=_
  simp only[Act.put,List.setIfInBounds_toArray,List.set_cons_zero,List.set_cons_succ,i64_w,i32_w]
  rfl
 refine zp (i:=8) (N:=some 4) HT_ ?_
 refine done_ (done_of HT_.out (by kernel_rfl)) ?_
 try go_wp2
 go_ret
 exact⟨_,zE,zR HOa5.out,zB1 HB.out GEa1.out⟩
set_option maxHeartbeats 8000000 in
set_option maxRecDepth 100000 in
theorem r4_Value.calls (k:Nat) (a0_0:Int) (a0_1:Int) (A0_2:Option Addr) (c0_2:Nat) (l0_2:List Int) (A1:Option Addr) (c1:Nat) (l1:List Int) (r:Int) (w:World) (hr0_2:Kd.C (Kd.int .i64) w A0_2 l0_2.length l0_2) (hc0_2:l0_2.length≤c0_2) (hr1:Kd.C (Kd.int .i64) w A1 l1.length l1) (hc1:l1.length≤c1) (h:r4_Value.f k a0_0 a0_1 l0_2 l1=some r):
 Calls Try.prog 135 #[.agg #[.int .i64 a0_0, .int .i64 a0_1, .slice A0_2 l0_2.length c0_2], .slice A1 l1.length c1] w fun e w'=>e= .returned (.int .i64 r)∧Below w.heap.size w w':=by
 have hu24:=Try.underlying24
 have HR0_2:=zk hr0_2
 have HC0_2:=zk hc0_2
 clear hr0_2 hc0_2
 have HR1:=zk hr1
 have HC1:=zk hc1
 clear hr1 hc1
 have HB:=zk (Below.refl w.heap.size w)
 have H:=h
 clear h
 unfold r4_Value.f at H
 have H':=zk H
 clear H
 go_enter Try.func135,Try.ntmps135
 go_wp2_with (first|((with_reducible refine gate_dst (N:=2) rfl ?_);refine box_event ?hg (N:=2) ?hd (cs:= #[.int .i64 a0_0, .int .i64 a0_1, .slice A0_2 l0_2.length c0_2]) (t:=24) ?hr ?_;(case hd=>rfl);(case hg=>rfl);(case hr=>first|(go_simp;done)|(go_simp;rfl));intro gba1 hg w3 hbox hb;have BKa1:=zk (hbox);have GWa1:=yg hg HB;have GEa1:=yg hg HB;replace HB:=yS HB hb;clear hb hbox hg))
 repeat(go_quiet (first|((with_reducible refine gate_dst (N:=2) rfl ?_);refine box_event ?hg (N:=2) ?hd (cs:= #[.int .i64 a0_0, .int .i64 a0_1, .slice A0_2 l0_2.length c0_2]) (t:=24) ?hr ?_;(case hd=>rfl);(case hg=>rfl);(case hr=>first|(go_simp;done)|(go_simp;rfl));intro gba1 hg w3 hbox hb;have BKa1:=zk (hbox);have GWa1:=yg hg HB;have GEa1:=yg hg HB;replace HB:=yS HB hb;clear hb hbox hg));try go_wp2_with (first|((with_reducible refine gate_dst (N:=2) rfl ?_);refine box_event ?hg (N:=2) ?hd (cs:= #[.int .i64 a0_0, .int .i64 a0_1, .slice A0_2 l0_2.length c0_2]) (t:=24) ?hr ?_;(case hd=>rfl);(case hg=>rfl);(case hr=>first|(go_simp;done)|(go_simp;rfl));intro gba1 hg w3 hbox hb;have n0_:=yS HB hb;have n1_:=zk (hbox);have n2_:=yg hg HB;have n3_:=yg hg HB;clear HB;have HB:=n0_;have BKa1:=n1_;have GWa1:=n2_;have GEa1:=n3_;clear n0_ n1_ n2_ n3_;clear hb hbox hg)))
 go_loopg [5,6] k (fun kq v5 v6 w'=>∃(x5_1:Int) (x6_1:Int),v5= .int .i64 x5_1∧v6= .int .i64 x6_1∧Aside0 (r4_Value.l0 kq l1 x5_1 x6_1 a0_0 a0_1 l0_2=some r)∧Aside0 (kq≤k)∧Aside0 (w'.heap[gba1]?=some (.cells #[.int .i64 a0_0, .int .i64 a0_1,(.slice A0_2 l0_2.length c0_2)] 24 (0,0)))∧Aside0 (Below w.heap.size w w'))
 case atStart=>exact⟨(0),(wrap64 ((l1.length:Int)-1)),zF,zF,H',⟨Nat.le_refl _⟩,⟨zK BKa1.out⟩,⟨zB1 HB.out GEa1.out⟩⟩
 clear H'
 obtain⟨x5_1,x6_1,rfl,rfl,HA,HK1,BKa1,HB⟩:=hrel
 cases gk with|zero=>exact absurd HA.out (by simp [r4_Value.l0])|succ k1=>?_
 have H:=HA.out
 clear HA
 simp only[r4_Value.l0] at H
 replace H:=zi H
 rcases H with⟨c4,H⟩|⟨c4,H⟩
 ·have c4b0:decide (0≤x6_1)=true:=decide_eq_true c4
  clear c4
  replace H:=zgd H
  obtain⟨c5b0,H⟩:=H
  replace H:=zgd H
  obtain⟨c6b0,H⟩:=H
  have H':=zk H
  clear H
  obtain⟨hcz7_0,hcz7_1,hcz7_2,hfz7_0,hfz7_1,hfz7_2⟩:=zz3 BKa1
  have pa2:0≤(x6_1:Int):=zd
  have qa2:x6_1<(l1.length:Int):=zd
  obtain⟨ada2,ea2,hxa2_0⟩:=Kd.at_int HR1.out x6_1 pa2 qa2
  cases ea2
  replace hxa2_0:=(HB.out.cell (World.block_lt_of_cell? w _ hxa2_0)).trans hxa2_0
  replace pa2:=eq_true pa2
  replace qa2:=eq_true qa2
  go_wp2
  repeat(go_quiet (fail);try go_wp2)
  go_roundg k1
  case measure=>have:=HK1.out;omega
  case rel=>exact⟨(wrap64 ((wrap64 (x5_1*a0_0))+(rd l1 x6_1))),(wrap64 (x6_1-1)),zF,zF,H',⟨zo1 HK1⟩,⟨zK BKa1.out⟩,⟨zB1 HB.out GEa1.out⟩⟩
 have c4b0:decide (0≤x6_1)=false:=decide_eq_false c4
 clear c4
 obtain rfl:=Option.some.inj H
 go_wp2
 repeat(go_quiet (fail);try go_wp2)
 go_ret
 exact⟨zE,zB1 HB.out GEa1.out⟩
def r4_Add.T6:Bool×List (List Nat×List Nat):=(true,[([],[]),([],[]),([],[]),([],[]),([2,3],[2,3]),([4],[4]),([],[]),([],[]),([6,7],[6,7]),([8],[8]),([5,9],[5,9]),([],[]),([11],[11]),([10,12],[10,12]),([0,1,0,1,2,3,4,5,6,7,8,9,10,11,12,13],[0,1]),([14,13,0,1,2,3,4,5,6,7,8,9,10,11,12,13],[13,14])])
def r4_Add.B6:List Nat:=[0,0,0,0,12,28,0,0,192,448,1020,0,2048,8188,16383,32767]
theorem r4_Add.tab6:rtab .any (opsOf Try.f112 6)=r4_Add.T6:=by kernel_rfl
theorem r4_Add.bits6:waitsOk r4_Add.T6.2 r4_Add.B6=true:=by kernel_rfl
set_option maxHeartbeats 8000000 in
set_option maxRecDepth 100000 in
theorem r4_Add.calls (k:Nat) (a0_0:Int) (a0_1:Int) (A0_2:Option Addr) (c0_2:Nat) (l0_2:List Int) (a1:Int) (a2:Int) (r:Int) (w:World) (hr0_2:Kd.C (Kd.int .i64) w A0_2 l0_2.length l0_2) (hc0_2:l0_2.length≤c0_2) (h:r4_Add.f k a0_0 a0_1 l0_2 a1 a2=some r):
 Calls Try.prog 112 #[.agg #[.int .i64 a0_0, .int .i64 a0_1, .slice A0_2 l0_2.length c0_2], .int .i64 a1, .int .i64 a2] w fun e w'=>e= .returned (.int .i64 r)∧Below w.heap.size w w':=by
 have hu24:=Try.underlying24
 have HR0_2:=zk hr0_2
 have HC0_2:=zk hc0_2
 clear hr0_2 hc0_2
 have HB:=zk (Below.refl w.heap.size w)
 have H:=h
 clear h
 unfold r4_Add.f at H
 replace H:=zb H
 obtain⟨ta2,A4,H⟩:=H
 replace H:=zb H
 obtain⟨ta5,A5,H⟩:=H
 have H':=zk H
 clear H
 go_enter Try.func112,Try.ntmps112
 go_wp2_with (first|((with_reducible refine gate_dst (N:=3) rfl ?_);refine box_event ?hg (N:=3) ?hd (cs:= #[.int .i64 a0_0, .int .i64 a0_1, .slice A0_2 l0_2.length c0_2]) (t:=24) ?hr ?_;(case hd=>rfl);(case hg=>rfl);(case hr=>first|(go_simp;done)|(go_simp;rfl));intro gba1 hg w6 hbox hb;have BKa1:=zk (hbox);have GWa1:=yg hg HB;have GEa1:=yg hg HB;replace HB:=yS HB hb;clear hb hbox hg;obtain⟨hcz7_0,hcz7_1,hcz7_2,hfz7_0,hfz7_1,hfz7_2⟩:=zz3 BKa1)|((with_reducible refine gC 134 ?_);refine zG (some 12) Try.func134 #[.agg #[.int .i64 a0_0, .int .i64 a0_1, .slice A0_2 l0_2.length c0_2], .int .i64 a1] ?_;(with_reducible refine(r4_Digits.calls k a0_0 a0_1 _ _ l0_2 a1 ta2 _ ?side1 ?side2 A4.out).mono ?_);(case side1=>exact zC (Kd.C_below HR0_2.out HB.out));(case side2=>exact HC0_2.out);rintro e w8 ⟨va3,rfl,ho0,hb⟩;refine⟨_,rfl,?_⟩;have HOa4:=yRl1 ho0 HB GEa1;replace BKa1:=yK BKa1 hb;replace HB:=yS1 HB GEa1 hb;(try clear hb ho0);obtain⟨hcz9_0,hcz9_1,hcz9_2,hfz9_0,hfz9_1,hfz9_2⟩:=zz3 BKa1)|((with_reducible refine gC 134 ?_);refine zG (some 15) Try.func134 #[.agg #[.int .i64 a0_0, .int .i64 a0_1, .slice A0_2 l0_2.length c0_2], .int .i64 a2] ?_;(with_reducible refine(r4_Digits.calls k a0_0 a0_1 _ _ l0_2 a2 ta5 _ ?side1 ?side2 A5.out).mono ?_);(case side1=>exact zC (Kd.C_below HR0_2.out HB.out));(case side2=>exact HC0_2.out);rintro e w10 ⟨va6,rfl,ho0,hb⟩;refine⟨_,rfl,?_⟩;replace ho0:=yn ho0 HOa4;have HOa7:=yRl1 ho0 HB GEa1;replace HOa4:=yRe HOa4 ho0 hb;replace BKa1:=yK BKa1 hb;replace HB:=yS1 HB GEa1 hb;(try clear hb ho0)))
 go_loopg [9] k (fun kq v9 w'=>∃(x7_1:List Int) (x9_1:Int),v9= .int .i64 x9_1∧Aside0 (r4_Add.l0 kq x7_1 ta5 x9_1 a0_0 a0_1 l0_2=some r)∧Aside0 (kq≤k)∧Aside0 (Kd.R (Kd.int .i64) 3 w' w.heap.size (fun k_=>some k_≠(va6:Value).ownBlock) va3 x7_1)∧Aside0 (Kd.R (Kd.int .i64) 3 w' w.heap.size (fun k_=>some k_≠(va3:Value).ownBlock) va6 ta5)∧Aside0 (w'.heap[gba1]?=some (.cells #[.int .i64 a0_0, .int .i64 a0_1,(.slice A0_2 l0_2.length c0_2)] 24 (0,0)))∧Aside0 (Below w.heap.size w w'))
 case atStart=>exact⟨(ta2),(0),zF,H',⟨Nat.le_refl _⟩,⟨by(with_reducible repeat(first|apply Kd.R_alloc|apply Kd.R_drewN|apply Kd.R_drew));exact Kd.R_mono HOa4.out (fun _ hk=>hk.2)⟩,⟨by(with_reducible repeat(first|apply Kd.R_alloc|apply Kd.R_drewN|apply Kd.R_drew));exact Kd.R_mono HOa7.out (fun _ hk=>hk.2)⟩,⟨zK BKa1.out⟩,⟨zB1 HB.out GEa1.out⟩⟩
 clear H'
 (try clear hcz7_0);(try clear hcz7_1);(try clear hcz7_2);(try clear hcz9_0);(try clear hcz9_1);(try clear hcz9_2);(try clear hfz7_0);(try clear hfz7_1);(try clear hfz7_2);(try clear hfz9_0);(try clear hfz9_1);(try clear hfz9_2)
 obtain⟨x7_1,x9_1,rfl,HA,HK1,HO_7,HO_8,BKa1,HB⟩:=hrel
 cases gk with|zero=>exact absurd HA.out (by simp [r4_Add.l0])|succ k1=>?_
 have H:=HA.out
 clear HA
 simp only[r4_Add.l0] at H
 replace H:=zid H
 rcases H with⟨c11b0,H⟩|⟨c11b0,H⟩
 ·replace H:=zgd H
  obtain⟨c12b0,H⟩:=H
  replace H:=zgd H
  obtain⟨c13b0,H⟩:=H
  replace H:=zh H
  obtain⟨c14,H⟩:=H
  have c14b0:=beq_eq_false_iff_ne.mpr c14
  have c14b1:=bne_iff_ne.mpr c14
  obtain⟨yb0,hyb0⟩:∃y_:List Int,y_=(x7_1.set (x9_1:Int).toNat (Int.tmod (wrap64 ((rd x7_1 x9_1)+(rd ta5 x9_1))) a0_0)):=⟨_,rfl⟩
  replace H:(r4_Add.l0 k1 yb0 ta5 (wrap64 (x9_1+1)) a0_0 a0_1 l0_2)=some r:=zY hyb0 H
  have Nyb0:=zk hyb0
  clear hyb0
  have H':=zk H
  clear H
  obtain⟨Ao16,co16,rfl⟩:=Kd.R_slice HO_7.out
  try go_wp2
  replace HO_7:=zk (Kd.R_drew HO_7.out)
  replace HO_8:=zk (Kd.R_drew HO_8.out)
  replace BKa1:=zk (blk_drew BKa1.out)
  replace HB:=zk (below_drew1 HB.out)
  have pa8:0≤(x9_1:Int):=zd
  have qa8:x9_1<(x7_1.length:Int):=zd
  obtain⟨ada8,ea8,hxa8_0⟩:=Kd.at_int (Kd.R_reads' HO_7.out).2.2 x9_1 pa8 qa8
  cases ea8
  replace pa8:=eq_true pa8
  replace qa8:=eq_true qa8
  obtain⟨Ao18,co18,eo18⟩:=Kd.R_slice HO_8.out
  (first|subst eo18|(injection eo18 with f1_ f2_ f3_;have f4_:=f1_.symm;have f5_:=f3_.symm;clear f1_ f2_ f3_;subst f4_;subst f5_))
  have pa9:0≤(x9_1:Int):=zd
  have qa9:x9_1<(ta5.length:Int):=zd
  obtain⟨ada9,ea9,hxa9_0⟩:=Kd.at_int (Kd.R_reads' HO_8.out).2.2 x9_1 pa9 qa9
  cases ea9
  replace pa9:=eq_true pa9
  replace qa9:=eq_true qa9
  have p15:0≤(x9_1:Int):=zd
  have q15:(x9_1:Int)<((x7_1.length:Int):Int):=zd
  obtain⟨go15,co15,eo15,gb15,gl15,cl15,HG15⟩:=Kd.R_form HO_7.out (by omega)
  (first|cases eo15|(injection eo15 with ea_ en_ ec_;(first|subst ea_|(injection ea_ with ea_;subst ea_));subst ec_;clear en_))
  have GB15:=zk gb15
  have GG15:=zk HG15
  clear gb15 gl15 HG15
  (first|simp only[add_plain] at hxa8_0|skip)
  obtain⟨hx15_0,hf15_0⟩:=Kd.R_celln 0 HO_7.out (x9_1:Int) p15 q15
  replace p15:=eq_true p15
  replace q15:=eq_true q15
  have HP19:=Kd.R_putn HO_7.out (x9_1:Int) (Int.tmod (wrap64 ((rd x7_1 x9_1)+(rd ta5 x9_1))) a0_0)
  rw[←Nyb0.out] at HP19
  have HQ19:=zk HP19
  clear HP19
  refine start_ (n:=16) (S:=fun w'=>w'.cell? ⟨gba1,0,none⟩=some (.int .i64 a0_0)∧w'.cell? ⟨gba1,1,none⟩=some (.int .i64 a0_1)∧w'.cell? ⟨gba1,2,none⟩=some (.slice A0_2 l0_2.length c0_2)∧w'.cell? ⟨go15,(x9_1).toNat,none⟩=some (.int .i64 (rd x7_1 x9_1))∧w'.cell? (ada9.add (x9_1).toNat)=some (.int .i64 (rd ta5 x9_1))) (ds:=[15]) #[false,false,false,false,false,false,false,false,false,false,false,false,false,false,false,false] (by kernel_rfl) rfl rfl ⟨(blk_cell BKa1.out 0).trans rfl,(blk_cell BKa1.out 1).trans rfl,(blk_cell BKa1.out 2).trans rfl,hxa8_0,hxa9_0⟩ (fun hHeld=>?_);refine with_tabW r4_Add.tab6 r4_Add.bits6 (fun HT_ HW_=>?_)
  first|(generalize wr.drew=w17 at HO_7 HO_8 BKa1 HB GG15 HQ19 hf15_0 hxa8_0 hxa9_0 hx15_0 hHeld ⊢)|(generalize wr.drew=w17 at HO_7 HO_8 BKa1 HB GG15 HQ19 hf15_0 hxa9_0 hx15_0 hHeld ⊢)|(generalize wr.drew=w17 at HO_7 HO_8 BKa1 HB GG15 HQ19 hf15_0 hxa8_0 hx15_0 hHeld ⊢)|(generalize wr.drew=w17 at HO_7 HO_8 BKa1 HB GG15 HQ19 hf15_0 hxa8_0 hxa9_0 hHeld ⊢)|(generalize wr.drew=w17 at HO_7 HO_8 BKa1 HB GG15 HQ19 hf15_0 hx15_0 hHeld ⊢)|(generalize wr.drew=w17 at HO_7 HO_8 BKa1 HB GG15 HQ19 hf15_0 hxa9_0 hHeld ⊢)|(generalize wr.drew=w17 at HO_7 HO_8 BKa1 HB GG15 HQ19 hf15_0 hxa8_0 hHeld ⊢)|(generalize wr.drew=w17 at HO_7 HO_8 BKa1 HB GG15 HQ19 hf15_0 hHeld ⊢)
  refine zp (i:=0) (N:=some 22) HT_ ?_
  refine zp (i:=1) (N:=some 23) HT_ ?_
  refine zp (i:=2) (N:=some 24) HT_ ?_
  refine zp (i:=3) (N:=some 25) HT_ ?_
  refine zp (i:=4) (N:=some 26) HT_ ?_
  refine zp (i:=6) (N:=some 28) HT_ ?_
  refine zp (i:=7) (N:=some 29) HT_ ?_
  refine zp (i:=8) (N:=some 30) HT_ ?_
  refine zp (i:=11) (N:=some 33) HT_ ?_
  refine take_ (i:=5) (N:=some 27) (v:=?_) (a':=?_) #[true,true,true,true,true,true,true,true,true,false,false,true,false,false,false,false] rfl rfl (take_ofW HT_.out HW_.out (by kernel_rfl)) (fun _ _ _ h=>h) (Or.inl ⟨by rfl,?_⟩) hHeld ?_ ?_
  rotate_left
  ·rintro w' ⟨s0,s1,s2,s3,s4⟩
   go_simp
   with_reducible rfl
  rotate_left
  ·simp only[Act.put,List.setIfInBounds_toArray,List.set_cons_zero,List.set_cons_succ,i64_w,i32_w]
   rfl
  refine take_ (i:=9) (N:=some 31) (v:=?_) (a':=?_) #[true,true,true,true,true,true,true,true,true,true,false,true,false,false,false,false] rfl rfl (take_ofW HT_.out HW_.out (by kernel_rfl)) (fun _ _ _ h=>h) (Or.inl ⟨by rfl,?_⟩) hHeld ?_ ?_
  rotate_left
  ·rintro w' ⟨s0,s1,s2,s3,s4⟩
   go_simp
   with_reducible rfl
  rotate_left
  ·simp only[Act.put,List.setIfInBounds_toArray,List.set_cons_zero,List.set_cons_succ,i64_w,i32_w]
   rfl
  refine zp (i:=10) (N:=some 32) HT_ ?_
  refine take_ (i:=12) (N:=some 34) (v:=?_) (a':=?_) #[true,true,true,true,true,true,true,true,true,true,true,true,true,false,false,false] rfl rfl (take_ofW HT_.out HW_.out (by kernel_rfl)) (fun _ _ _ h=>h) (Or.inl ⟨by rfl,?_⟩) hHeld ?_ ?_
  rotate_left
  ·rintro w' ⟨s0,s1,s2,s3,s4⟩
   go_simp
   with_reducible rfl
  rotate_left
  ·simp only[Act.put,List.setIfInBounds_toArray,List.set_cons_zero,List.set_cons_succ,i64_w,i32_w]
   rfl
  refine zp (i:=13) (N:=some 35) HT_ ?_
  refine zp (i:=14) (N:=some 36) HT_ ?_
  refine last_ (i:=15) (N:=none) #[true,true,true,true,true,true,true,true,true,true,true,true,true,true,true,true] rfl rfl (one_of HT_.out (by kernel_rfl)) (by decide) (fun K hK=>?_)
  refine skip_ (w1:=?_) (by rfl) rfl ?_ ?_
  rotate_left
  ·go_simp
   rfl
  refine hK.out _ _ ?_
  clear hK K
  refine done_ (done_of HT_.out (by kernel_rfl)) ?_
  try go_wp2
  go_roundg k1
  case measure=>have:=HK1.out;omega
  case rel=>exact⟨(yb0),(wrap64 (x9_1+1)),zF,H',⟨zo1 HK1⟩,⟨zR HQ19.out⟩,⟨by(with_reducible repeat(first|apply Kd.R_alloc|apply Kd.R_drewN|apply Kd.R_drew));exact Kd.R_mono (Kd.R_far (p:=⟨go15,(x9_1:Int).toNat,none⟩) (Kd.R_mono HO_8.out (fun k_ hk=>(⟨hk,fun e_=>hk (by rw[e_];rfl)⟩:_∧k_≠go15))) (fun _ hk=>hk.2) (.int .i64 (Int.tmod (wrap64 ((rd x7_1 x9_1)+(rd ta5 x9_1))) a0_0))) (fun _ hk=>hk.1)⟩,⟨by(with_reducible repeat(first|refine blk_drewN ?_ _|refine blk_drew ?_|refine blk_alloc ?_ _));refine blk_far ?_ (by have h_:=Kd.R_ne HO_7.out BKa1.out (by decide);intro e_;exact h_ (by rw[e_];rfl)) _;(with_reducible repeat(first|refine blk_drewN ?_ _|refine blk_drew ?_|refine blk_alloc ?_ _));exact BKa1.out⟩,⟨zB2 HB.out GB15.out GEa1.out⟩⟩
 replace H:=zb H
 obtain⟨tb1,A20,H⟩:=H
 obtain rfl:=Option.some.inj H
 obtain⟨Ao21,co21,rfl⟩:=Kd.R_slice HO_7.out
 obtain⟨hcz22_0,hcz22_1,hcz22_2,hfz22_0,hfz22_1,hfz22_2⟩:=zz3 BKa1
 go_wp2_with (first|((with_reducible refine gC 135 ?_);refine zG (some 39) Try.func135 #[.agg #[.int .i64 a0_0, .int .i64 a0_1, .slice A0_2 l0_2.length c0_2], .slice Ao21 x7_1.length co21] ?_;(with_reducible refine(r4_Value.calls k1 a0_0 a0_1 _ _ l0_2 _ _ x7_1 tb1 _ ?side1 ?side2 ?side3 ?side4 A20.out).mono ?_);(case side1=>exact zC (Kd.C_below HR0_2.out HB.out));(case side2=>exact HC0_2.out);(case side3=>exact zC (Kd.R_reads' HO_7.out).2.2);(case side4=>exact(Kd.R_reads' HO_7.out).2.1);rintro e w23 ⟨rfl,hb⟩;refine⟨_,rfl,?_⟩;replace HO_7:=yRb HO_7 hb;replace HO_8:=yRb HO_8 hb;replace BKa1:=yK BKa1 hb;replace HB:=yS1 HB GEa1 hb;(try clear hb);(try clear hb2);(try clear hk);(try clear hi)))
 go_ret
 exact⟨zE,zB1 HB.out GEa1.out⟩
def r4_Mul.T10:Bool×List (List Nat×List Nat):=(true,[([],[]),([],[]),([],[]),([1,2],[1,2]),([],[]),([],[]),([],[]),([5,6],[5,6]),([4,7],[4,7]),([8],[8]),([],[]),([],[]),([10,11],[10,11]),([12],[12]),([],[]),([],[]),([14,15],[14,15]),([16],[16]),([13,17],[13,17]),([9,18],[9,18]),([],[]),([20],[20]),([19,21],[19,21]),([0,3,0,1,2,3,4,5,6,7,8,9,10,11,12,13,14,15,16,17,18,19,20,21,22],[0,3]),([23,22,0,1,2,3,4,5,6,7,8,9,10,11,12,13,14,15,16,17,18,19,20,21,22],[22,23])])
def r4_Mul.B10:List Nat:=[0,0,0,6,0,0,0,96,240,496,0,0,3072,7168,0,0,49152,114688,261120,524272,0,1048576,4194288,8388607,16777215]
theorem r4_Mul.tab10:rtab .any (opsOf Try.f113 10)=r4_Mul.T10:=by kernel_rfl
theorem r4_Mul.bits10:waitsOk r4_Mul.T10.2 r4_Mul.B10=true:=by kernel_rfl
def r4_Mul.T17:Bool×List (List Nat×List Nat):=(true,[([],[]),([],[]),([],[]),([2],[2]),([1,3],[1,3]),([],[]),([4,5],[4,5]),([],[]),([],[]),([],[]),([9],[9]),([8,10],[8,10]),([],[]),([11,12],[11,12]),([7,13],[7,13]),([14],[14]),([],[]),([16],[16]),([],[]),([],[]),([18,19],[18,19]),([20],[20]),([17,21],[17,21]),([],[]),([23],[23]),([],[]),([24,25],[24,25]),([26],[26]),([22,27],[22,27]),([15,28],[15,28]),([],[]),([30],[30]),([29,31],[29,31]),([0,6,0,1,2,3,4,5,6,7,8,9,10,11,12,13,14,15,16,17,18,19,20,21,22,23,24,25,26,27,28,29,30,31,32],[0,6]),([33,32,0,1,2,3,4,5,6,7,8,9,10,11,12,13,14,15,16,17,18,19,20,21,22,23,24,25,26,27,28,29,30,31,32],[32,33])])
def r4_Mul.B17:List Nat:=[0,0,0,4,14,0,62,0,0,0,512,1792,0,7936,16256,32640,0,65536,0,0,786432,1835008,4128768,0,8388608,0,58720256,125829120,268369920,536870784,0,1073741824,4294967168,8589934591,17179869183]
theorem r4_Mul.tab17:rtab .any (opsOf Try.f113 17)=r4_Mul.T17:=by kernel_rfl
theorem r4_Mul.bits17:waitsOk r4_Mul.T17.2 r4_Mul.B17=true:=by kernel_rfl
set_option maxHeartbeats 8000000 in
set_option maxRecDepth 100000 in
theorem r4_Mul.calls (k:Nat) (a0_0:Int) (a0_1:Int) (A0_2:Option Addr) (c0_2:Nat) (l0_2:List Int) (a1:Int) (a2:Int) (r:Int) (w:World) (hr0_2:Kd.C (Kd.int .i64) w A0_2 l0_2.length l0_2) (hc0_2:l0_2.length≤c0_2) (h:r4_Mul.f k a0_0 a0_1 l0_2 a1 a2=some r):
 Calls Try.prog 113 #[.agg #[.int .i64 a0_0, .int .i64 a0_1, .slice A0_2 l0_2.length c0_2], .int .i64 a1, .int .i64 a2] w fun e w'=>e= .returned (.int .i64 r)∧Below w.heap.size w w':=by
 have hu24:=Try.underlying24
 have HR0_2:=zk hr0_2
 have HC0_2:=zk hc0_2
 clear hr0_2 hc0_2
 have HB:=zk (Below.refl w.heap.size w)
 have H:=h
 clear h
 unfold r4_Mul.f at H
 replace H:=zb H
 obtain⟨ta2,A4,H⟩:=H
 replace H:=zb H
 obtain⟨ta5,A5,H⟩:=H
 obtain⟨ji6,hji6⟩:∃j_:Int,(wrap64 ((wrap64 (2*a0_1))-1))=j_:=⟨_,rfl⟩
 replace H:(if 0≤(ji6) then(if(ji6:Int).toNat≤35184372088832 then(r4_Mul.l0 k ta2 ta5 (List.replicate (ji6:Int).toNat 0) 0 a0_0 a0_1 l0_2) else(none)) else(none))=some r:=by first|(rw[hji6] at H;exact H)|(simp only[hji6] at H ⊢;exact H)
 (try rw[hji6] at A4)
 (try rw[hji6] at A5)
 have hji6w:(IntKind.i64.wrap ((wrap64 (2*a0_1))-1))=ji6:=(i64_w _).trans hji6
 replace H:=zg H
 obtain⟨c7,H⟩:=H
 have c7b0:=eq_true c7
 have c7b1:=decide_eq_true c7
 clear c7
 replace H:=zg H
 obtain⟨c8,H⟩:=H
 have c8b0:=eq_true c8
 have c8b1:=decide_eq_true c8
 clear c8
 obtain⟨ya8,hya8⟩:∃y_:List Int,y_=(List.replicate (ji6:Int).toNat 0):=⟨_,rfl⟩
 replace H:(r4_Mul.l0 k ta2 ta5 ya8 0 a0_0 a0_1 l0_2)=some r:=zY hya8 H
 have Nya8:=zk hya8
 clear hya8
 have H':=zk H
 clear H
 go_enter Try.func113,Try.ntmps113
 go_wp2_with (first|((with_reducible refine gate_dst (N:=3) rfl ?_);refine box_event ?hg (N:=3) ?hd (cs:= #[.int .i64 a0_0, .int .i64 a0_1, .slice A0_2 l0_2.length c0_2]) (t:=24) ?hr ?_;(case hd=>rfl);(case hg=>rfl);(case hr=>first|(go_simp;done)|(go_simp;rfl));intro gba1 hg w9 hbox hb;have BKa1:=zk (hbox);have GWa1:=yg hg HB;have GEa1:=yg hg HB;replace HB:=yS HB hb;clear hb hbox hg;obtain⟨hcz10_0,hcz10_1,hcz10_2,hfz10_0,hfz10_1,hfz10_2⟩:=zz3 BKa1)|((with_reducible refine gC 134 ?_);refine zG (some 16) Try.func134 #[.agg #[.int .i64 a0_0, .int .i64 a0_1, .slice A0_2 l0_2.length c0_2], .int .i64 a1] ?_;(with_reducible refine(r4_Digits.calls k a0_0 a0_1 _ _ l0_2 a1 ta2 _ ?side1 ?side2 A4.out).mono ?_);(case side1=>exact zC (Kd.C_below HR0_2.out HB.out));(case side2=>exact HC0_2.out);rintro e w11 ⟨va3,rfl,ho0,hb⟩;refine⟨_,rfl,?_⟩;have HOa4:=yRl1 ho0 HB GEa1;replace BKa1:=yK BKa1 hb;replace HB:=yS1 HB GEa1 hb;(try clear hb ho0);obtain⟨hcz12_0,hcz12_1,hcz12_2,hfz12_0,hfz12_1,hfz12_2⟩:=zz3 BKa1)|((with_reducible refine gC 134 ?_);refine zG (some 19) Try.func134 #[.agg #[.int .i64 a0_0, .int .i64 a0_1, .slice A0_2 l0_2.length c0_2], .int .i64 a2] ?_;(with_reducible refine(r4_Digits.calls k a0_0 a0_1 _ _ l0_2 a2 ta5 _ ?side1 ?side2 A5.out).mono ?_);(case side1=>exact zC (Kd.C_below HR0_2.out HB.out));(case side2=>exact HC0_2.out);rintro e w13 ⟨va6,rfl,ho0,hb⟩;refine⟨_,rfl,?_⟩;replace ho0:=yn ho0 HOa4;have HOa7:=yRl1 ho0 HB GEa1;replace HOa4:=yRe HOa4 ho0 hb;replace BKa1:=yK BKa1 hb;replace HB:=yS1 HB GEa1 hb;(try clear hb ho0);obtain⟨hcz14_0,hcz14_1,hcz14_2,hfz14_0,hfz14_1,hfz14_2⟩:=zz3 BKa1)|((with_reducible refine gate_dst (N:=24) rfl ?_);refine Kd.R_make (Kd.int .i64) _ 3 rfl (N:=24) rfl 22 _ _ rfl ji6 rfl rfl Try.underlying22 (.int .i64 0) 8 info3 rfl (by decide) (by omega) 0 (ok:=fun _=>True) (okp:=fun _=>True) rfl (fun _ hk=>hk) trivial zd (Nat.le_trans (Nat.mul_le_mul_right _ (zd:ji6.toNat≤35184372088832)) (by omega)) (Below.refl _ _) (Nat.le_refl _) ?_;intro va9 w15 ho16 hb hg_ hnew_;clear hg_ hnew_;(first|rw[←Nya8.out] at ho16|(simp only[Int.reduceToNat] at ho16;rw[←Nya8.out] at ho16));replace ho16:=yn ho16 HOa4;replace ho16:=yn ho16 HOa7;have HOb0:=yRl1 ho16 HB GEa1;replace HOa4:=yRe HOa4 ho16 hb;replace HOa7:=yRe HOa7 ho16 hb;replace BKa1:=yK BKa1 hb;replace HB:=yS1 HB GEa1 hb;clear hb ho16))
 go_loopg [10] k (fun kq v10 w'=>∃(x9_1:List Int) (x10_1:Int),v10= .int .i64 x10_1∧Aside0 (r4_Mul.l0 kq ta2 ta5 x9_1 x10_1 a0_0 a0_1 l0_2=some r)∧Aside0 (kq≤k)∧Aside0 (Kd.R (Kd.int .i64) 3 w' w.heap.size (fun k_=>some k_≠(va6:Value).ownBlock∧some k_≠(va9:Value).ownBlock) va3 ta2)∧Aside0 (Kd.R (Kd.int .i64) 3 w' w.heap.size (fun k_=>some k_≠(va3:Value).ownBlock∧some k_≠(va9:Value).ownBlock) va6 ta5)∧Aside0 (Kd.R (Kd.int .i64) 3 w' w.heap.size (fun k_=>some k_≠(va3:Value).ownBlock∧some k_≠(va6:Value).ownBlock) va9 x9_1)∧Aside0 (w'.heap[gba1]?=some (.cells #[.int .i64 a0_0, .int .i64 a0_1,(.slice A0_2 l0_2.length c0_2)] 24 (0,0)))∧Aside0 (Below w.heap.size w w'))
 case atStart=>exact⟨(ya8),(0),zF,H',⟨Nat.le_refl _⟩,⟨by(with_reducible repeat(first|apply Kd.R_alloc|apply Kd.R_drewN|apply Kd.R_drew));exact Kd.R_mono HOa4.out (fun _ hk=>⟨hk.1.2,hk.2⟩)⟩,⟨by(with_reducible repeat(first|apply Kd.R_alloc|apply Kd.R_drewN|apply Kd.R_drew));exact Kd.R_mono HOa7.out (fun _ hk=>⟨hk.1.2,hk.2⟩)⟩,⟨by(with_reducible repeat(first|apply Kd.R_alloc|apply Kd.R_drewN|apply Kd.R_drew));exact Kd.R_mono HOb0.out (fun _ hk=>⟨hk.1.2,hk.2⟩)⟩,⟨zK BKa1.out⟩,⟨zB1 HB.out GEa1.out⟩⟩
 clear H'
 (try clear c7);(try clear c7b0);(try clear c7b1);(try clear c8);(try clear c8b0);(try clear c8b1);(try clear hcz10_0);(try clear hcz10_1);(try clear hcz10_2);(try clear hcz12_0);(try clear hcz12_1);(try clear hcz12_2);(try clear hcz14_0);(try clear hcz14_1);(try clear hcz14_2);(try clear hfz10_0);(try clear hfz10_1);(try clear hfz10_2);(try clear hfz12_0);(try clear hfz12_1);(try clear hfz12_2);(try clear hfz14_0);(try clear hfz14_1);(try clear hfz14_2)
 obtain⟨x9_1,x10_1,rfl,HA,HK1,HO_7,HO_8,HO_9,BKa1,HB⟩:=hrel
 cases gk with|zero=>exact absurd HA.out (by simp [r4_Mul.l0])|succ k1=>?_
 have H:=HA.out
 clear HA
 simp only[r4_Mul.l0] at H
 replace H:=zid H
 rcases H with⟨c17b0,H⟩|⟨c17b0,H⟩
 ·have H':=zk H
  clear H
  obtain⟨hcz18_0,hcz18_1,hcz18_2,hfz18_0,hfz18_1,hfz18_2⟩:=zz3 BKa1
  go_wp2
  go_loopg [11] k1 (fun kq v11 w'=>∃(x9_2:List Int) (x11_2:Int),v11= .int .i64 x11_2∧Aside0 (r4_Mul.l1 kq ta2 ta5 x9_2 x10_1 x11_2 a0_0 a0_1 l0_2=some r)∧Aside0 (kq≤k1)∧Aside0 (Kd.R (Kd.int .i64) 3 w' w.heap.size (fun k_=>some k_≠(va6:Value).ownBlock∧some k_≠(va9:Value).ownBlock) va3 ta2)∧Aside0 (Kd.R (Kd.int .i64) 3 w' w.heap.size (fun k_=>some k_≠(va3:Value).ownBlock∧some k_≠(va9:Value).ownBlock) va6 ta5)∧Aside0 (Kd.R (Kd.int .i64) 3 w' w.heap.size (fun k_=>some k_≠(va3:Value).ownBlock∧some k_≠(va6:Value).ownBlock) va9 x9_2)∧Aside0 (w'.heap[gba1]?=some (.cells #[.int .i64 a0_0, .int .i64 a0_1,(.slice A0_2 l0_2.length c0_2)] 24 (0,0)))∧Aside0 (Below w.heap.size w w'))
  case atStart=>exact⟨(x9_1),(0),zF,H',⟨Nat.le_refl _⟩,⟨zR HO_7.out⟩,⟨zR HO_8.out⟩,⟨zR HO_9.out⟩,⟨zK BKa1.out⟩,⟨zB1 HB.out GEa1.out⟩⟩
  clear H'
  (try clear c7);(try clear c7b0);(try clear c7b1);(try clear c8);(try clear c8b0);(try clear c8b1);(try clear c17b0);(try clear hcz10_0);(try clear hcz10_1);(try clear hcz10_2);(try clear hcz12_0);(try clear hcz12_1);(try clear hcz12_2);(try clear hcz14_0);(try clear hcz14_1);(try clear hcz14_2);(try clear hcz18_0);(try clear hcz18_1);(try clear hcz18_2);(try clear hfz10_0);(try clear hfz10_1);(try clear hfz10_2);(try clear hfz12_0);(try clear hfz12_1);(try clear hfz12_2);(try clear hfz14_0);(try clear hfz14_1);(try clear hfz14_2);(try clear hfz18_0);(try clear hfz18_1);(try clear hfz18_2)
  obtain⟨x9_2,x11_2,rfl,HA,HK2,HO_7,HO_8,HO_9,BKa1,HB⟩:=hrel
  cases gk with|zero=>exact absurd HA.out (by simp [r4_Mul.l1])|succ k2=>?_
  have H:=HA.out
  clear HA
  simp only[r4_Mul.l1] at H
  replace H:=zid H
  rcases H with⟨c19b0,H⟩|⟨c19b0,H⟩
  ·obtain⟨ji20,hji20⟩:∃j_:Int,(wrap64 (x10_1+x11_2))=j_:=⟨_,rfl⟩
   replace H:(if 0≤(ji20) then(if(ji20)<(x9_2.length:Int) then(if 0≤x10_1 then(if x10_1<(ta2.length:Int) then(if 0≤x11_2 then(if x11_2<(ta5.length:Int) then(if a0_0=0 then(none) else(r4_Mul.l1 k2 ta2 ta5 (x9_2.set ((ji20):Int).toNat (Int.tmod (wrap64 ((rd x9_2 (ji20))+(wrap64 ((rd ta2 x10_1)*(rd ta5 x11_2))))) a0_0)) x10_1 (wrap64 (x11_2+1)) a0_0 a0_1 l0_2)) else(none)) else(none)) else(none)) else(none)) else(none)) else(none))=some r:=by first|(rw[hji20] at H;exact H)|(simp only[hji20] at H ⊢;exact H)
   have hji20w:(IntKind.i64.wrap (x10_1+x11_2))=ji20:=(i64_w _).trans hji20
   replace H:=zgd H
   obtain⟨c21b0,H⟩:=H
   replace H:=zgd H
   obtain⟨c22b0,H⟩:=H
   replace H:=zgd H
   obtain⟨c23b0,H⟩:=H
   replace H:=zgd H
   obtain⟨c24b0,H⟩:=H
   replace H:=zgd H
   obtain⟨c25b0,H⟩:=H
   replace H:=zgd H
   obtain⟨c26b0,H⟩:=H
   replace H:=zh H
   obtain⟨c27,H⟩:=H
   have c27b0:=beq_eq_false_iff_ne.mpr c27
   have c27b1:=bne_iff_ne.mpr c27
   obtain⟨yb4,hyb4⟩:∃y_:List Int,y_=(x9_2.set ((ji20):Int).toNat (Int.tmod (wrap64 ((rd x9_2 (ji20))+(wrap64 ((rd ta2 x10_1)*(rd ta5 x11_2))))) a0_0)):=⟨_,rfl⟩
   replace H:(r4_Mul.l1 k2 ta2 ta5 yb4 x10_1 (wrap64 (x11_2+1)) a0_0 a0_1 l0_2)=some r:=zY hyb4 H
   have Nyb4:=zk hyb4
   clear hyb4
   have H':=zk H
   clear H
   obtain⟨hcz29_0,hcz29_1,hcz29_2,hfz29_0,hfz29_1,hfz29_2⟩:=zz3 BKa1
   try go_wp2
   replace HO_7:=zk (Kd.R_drew HO_7.out)
   replace HO_8:=zk (Kd.R_drew HO_8.out)
   replace HO_9:=zk (Kd.R_drew HO_9.out)
   replace BKa1:=zk (blk_drew BKa1.out)
   replace HB:=zk (below_drew1 HB.out)
   obtain⟨Ao31,co31,eo31⟩:=Kd.R_slice HO_9.out
   (first|subst eo31|(injection eo31 with f1_ f2_ f3_;have f4_:=f1_.symm;have f5_:=f3_.symm;clear f1_ f2_ f3_;subst f4_;subst f5_))
   have pb1:0≤((ji20):Int):=zd
   have qb1:(ji20)<(x9_2.length:Int):=zd
   obtain⟨adb1,eb1,hxb1_0⟩:=Kd.at_int (Kd.R_reads' HO_9.out).2.2 (ji20) pb1 qb1
   cases eb1
   replace pb1:=eq_true pb1
   replace qb1:=eq_true qb1
   obtain⟨Ao32,co32,eo32⟩:=Kd.R_slice HO_7.out
   (first|subst eo32|(injection eo32 with f1_ f2_ f3_;have f4_:=f1_.symm;have f5_:=f3_.symm;clear f1_ f2_ f3_;subst f4_;subst f5_))
   have pb2:0≤(x10_1:Int):=zd
   have qb2:x10_1<(ta2.length:Int):=zd
   obtain⟨adb2,eb2,hxb2_0⟩:=Kd.at_int (Kd.R_reads' HO_7.out).2.2 x10_1 pb2 qb2
   cases eb2
   replace pb2:=eq_true pb2
   replace qb2:=eq_true qb2
   obtain⟨Ao33,co33,eo33⟩:=Kd.R_slice HO_8.out
   (first|subst eo33|(injection eo33 with f1_ f2_ f3_;have f4_:=f1_.symm;have f5_:=f3_.symm;clear f1_ f2_ f3_;subst f4_;subst f5_))
   have pb3:0≤(x11_2:Int):=zd
   have qb3:x11_2<(ta5.length:Int):=zd
   obtain⟨adb3,eb3,hxb3_0⟩:=Kd.at_int (Kd.R_reads' HO_8.out).2.2 x11_2 pb3 qb3
   cases eb3
   replace pb3:=eq_true pb3
   replace qb3:=eq_true qb3
   have p28:0≤((ji20):Int):=zd
   have q28:((ji20):Int)<((x9_2.length:Int):Int):=zd
   obtain⟨go28,co28,eo28,gb28,gl28,cl28,HG28⟩:=Kd.R_form HO_9.out (by omega)
   (first|cases eo28|(injection eo28 with ea_ en_ ec_;(first|subst ea_|(injection ea_ with ea_;subst ea_));subst ec_;clear en_))
   have GB28:=zk gb28
   have GG28:=zk HG28
   clear gb28 gl28 HG28
   (first|simp only[add_plain] at hxb1_0|skip)
   obtain⟨hx28_0,hf28_0⟩:=Kd.R_celln 0 HO_9.out ((ji20):Int) p28 q28
   replace p28:=eq_true p28
   replace q28:=eq_true q28
   have HP34:=Kd.R_putn HO_9.out ((ji20):Int) (Int.tmod (wrap64 ((rd x9_2 (ji20))+(wrap64 ((rd ta2 x10_1)*(rd ta5 x11_2))))) a0_0)
   rw[←Nyb4.out] at HP34
   have HQ34:=zk HP34
   clear HP34
   refine start_ (n:=25) (S:=fun w'=>w'.cell? ⟨gba1,0,none⟩=some (.int .i64 a0_0)∧w'.cell? ⟨gba1,1,none⟩=some (.int .i64 a0_1)∧w'.cell? ⟨gba1,2,none⟩=some (.slice A0_2 l0_2.length c0_2)∧w'.cell? ⟨go28,((ji20)).toNat,none⟩=some (.int .i64 (rd x9_2 (ji20)))∧w'.cell? (adb2.add (x10_1).toNat)=some (.int .i64 (rd ta2 x10_1))∧w'.cell? (adb3.add (x11_2).toNat)=some (.int .i64 (rd ta5 x11_2))) (ds:=[24]) #[false,false,false,false,false,false,false,false,false,false,false,false,false,false,false,false,false,false,false,false,false,false,false,false,false] (by kernel_rfl) rfl rfl ⟨(blk_cell BKa1.out 0).trans rfl,(blk_cell BKa1.out 1).trans rfl,(blk_cell BKa1.out 2).trans rfl,hxb1_0,hxb2_0,hxb3_0⟩ (fun hHeld=>?_);refine with_tabW r4_Mul.tab10 r4_Mul.bits10 (fun HT_ HW_=>?_)
   first|(generalize wr.drew=w30 at HO_7 HO_8 HO_9 BKa1 HB GG28 HQ34 hf28_0 hxb1_0 hxb2_0 hxb3_0 hx28_0 hHeld ⊢)|(generalize wr.drew=w30 at HO_7 HO_8 HO_9 BKa1 HB GG28 HQ34 hf28_0 hxb2_0 hxb3_0 hx28_0 hHeld ⊢)|(generalize wr.drew=w30 at HO_7 HO_8 HO_9 BKa1 HB GG28 HQ34 hf28_0 hxb1_0 hxb3_0 hx28_0 hHeld ⊢)|(generalize wr.drew=w30 at HO_7 HO_8 HO_9 BKa1 HB GG28 HQ34 hf28_0 hxb1_0 hxb2_0 hx28_0 hHeld ⊢)|(generalize wr.drew=w30 at HO_7 HO_8 HO_9 BKa1 HB GG28 HQ34 hf28_0 hxb1_0 hxb2_0 hxb3_0 hHeld ⊢)|(generalize wr.drew=w30 at HO_7 HO_8 HO_9 BKa1 HB GG28 HQ34 hf28_0 hxb3_0 hx28_0 hHeld ⊢)|(generalize wr.drew=w30 at HO_7 HO_8 HO_9 BKa1 HB GG28 HQ34 hf28_0 hxb2_0 hx28_0 hHeld ⊢)|(generalize wr.drew=w30 at HO_7 HO_8 HO_9 BKa1 HB GG28 HQ34 hf28_0 hxb2_0 hxb3_0 hHeld ⊢)|(generalize wr.drew=w30 at HO_7 HO_8 HO_9 BKa1 HB GG28 HQ34 hf28_0 hxb1_0 hx28_0 hHeld ⊢)|(generalize wr.drew=w30 at HO_7 HO_8 HO_9 BKa1 HB GG28 HQ34 hf28_0 hxb1_0 hxb3_0 hHeld ⊢)|(generalize wr.drew=w30 at HO_7 HO_8 HO_9 BKa1 HB GG28 HQ34 hf28_0 hxb1_0 hxb2_0 hHeld ⊢)|(generalize wr.drew=w30 at HO_7 HO_8 HO_9 BKa1 HB GG28 HQ34 hf28_0 hx28_0 hHeld ⊢)|(generalize wr.drew=w30 at HO_7 HO_8 HO_9 BKa1 HB GG28 HQ34 hf28_0 hxb3_0 hHeld ⊢)|(generalize wr.drew=w30 at HO_7 HO_8 HO_9 BKa1 HB GG28 HQ34 hf28_0 hxb2_0 hHeld ⊢)|(generalize wr.drew=w30 at HO_7 HO_8 HO_9 BKa1 HB GG28 HQ34 hf28_0 hxb1_0 hHeld ⊢)|(generalize wr.drew=w30 at HO_7 HO_8 HO_9 BKa1 HB GG28 HQ34 hf28_0 hHeld ⊢)
   refine zp (i:=0) (N:=some 37) HT_ ?_
   refine zp (i:=1) (N:=some 38) HT_ ?_
   refine zp (i:=2) (N:=some 39) HT_ ?_
   refine zp (i:=3) (N:=some 40) HT_ ?_
   refine zp (i:=4) (N:=some 41) HT_ ?_
   refine zp (i:=5) (N:=some 42) HT_ ?_
   refine zp (i:=6) (N:=some 43) HT_ ?_
   refine zp (i:=7) (N:=some 44) HT_ ?_
   refine zp (i:=8) (N:=some 45) HT_ ?_
   refine zp (i:=10) (N:=some 47) HT_ ?_
   refine zp (i:=11) (N:=some 48) HT_ ?_
   refine zp (i:=12) (N:=some 49) HT_ ?_
   refine zp (i:=14) (N:=some 51) HT_ ?_
   refine zp (i:=15) (N:=some 52) HT_ ?_
   refine zp (i:=16) (N:=some 53) HT_ ?_
   refine zp (i:=20) (N:=some 57) HT_ ?_
   refine take_ (i:=9) (N:=some 46) (v:=?_) (a':=?_) #[true,true,true,true,true,true,true,true,true,true,true,true,true,false,true,true,true,false,false,false,true,false,false,false,false] rfl rfl (take_ofW HT_.out HW_.out (by kernel_rfl)) (fun _ _ _ h=>h) (Or.inl ⟨by rfl,?_⟩) hHeld ?_ ?_
   rotate_left
   ·rintro w' ⟨s0,s1,s2,s3,s4,s5⟩
    go_simp
    with_reducible rfl
   rotate_left
   ·simp only[Act.put,List.setIfInBounds_toArray,List.set_cons_zero,List.set_cons_succ,i64_w,i32_w]
    rfl
   refine take_ (i:=13) (N:=some 50) (v:=?_) (a':=?_) #[true,true,true,true,true,true,true,true,true,true,true,true,true,true,true,true,true,false,false,false,true,false,false,false,false] rfl rfl (take_ofW HT_.out HW_.out (by kernel_rfl)) (fun _ _ _ h=>h) (Or.inl ⟨by rfl,?_⟩) hHeld ?_ ?_
   rotate_left
   ·rintro w' ⟨s0,s1,s2,s3,s4,s5⟩
    go_simp
    with_reducible rfl
   rotate_left
   ·simp only[Act.put,List.setIfInBounds_toArray,List.set_cons_zero,List.set_cons_succ,i64_w,i32_w]
    rfl
   refine take_ (i:=17) (N:=some 54) (v:=?_) (a':=?_) #[true,true,true,true,true,true,true,true,true,true,true,true,true,true,true,true,true,true,false,false,true,false,false,false,false] rfl rfl (take_ofW HT_.out HW_.out (by kernel_rfl)) (fun _ _ _ h=>h) (Or.inl ⟨by rfl,?_⟩) hHeld ?_ ?_
   rotate_left
   ·rintro w' ⟨s0,s1,s2,s3,s4,s5⟩
    go_simp
    with_reducible rfl
   rotate_left
   ·simp only[Act.put,List.setIfInBounds_toArray,List.set_cons_zero,List.set_cons_succ,i64_w,i32_w]
    rfl
   refine zp (i:=18) (N:=some 55) HT_ ?_
   refine zp (i:=19) (N:=some 56) HT_ ?_
   refine take_ (i:=21) (N:=some 58) (v:=?_) (a':=?_) #[true,true,true,true,true,true,true,true,true,true,true,true,true,true,true,true,true,true,true,true,true,true,false,false,false] rfl rfl (take_ofW HT_.out HW_.out (by kernel_rfl)) (fun _ _ _ h=>h) (Or.inl ⟨by rfl,?_⟩) hHeld ?_ ?_
   rotate_left
   ·rintro w' ⟨s0,s1,s2,s3,s4,s5⟩
    go_simp
    with_reducible rfl
   rotate_left
   ·simp only[Act.put,List.setIfInBounds_toArray,List.set_cons_zero,List.set_cons_succ,i64_w,i32_w]
    rfl
   refine zp (i:=22) (N:=some 59) HT_ ?_
   refine zp (i:=23) (N:=some 60) HT_ ?_
   refine last_ (i:=24) (N:=none) #[true,true,true,true,true,true,true,true,true,true,true,true,true,true,true,true,true,true,true,true,true,true,true,true,true] rfl rfl (one_of HT_.out (by kernel_rfl)) (by decide) (fun K hK=>?_)
   refine skip_ (w1:=?_) (by rfl) rfl ?_ ?_
   rotate_left
   ·go_simp
    rfl
   refine hK.out _ _ ?_
   clear hK K
   refine done_ (done_of HT_.out (by kernel_rfl)) ?_
   try go_wp2
   go_roundg k2
   case measure=>have:=HK1.out;have:=HK2.out;omega
   case rel=>exact⟨(yb4),(wrap64 (x11_2+1)),zF,H',⟨zo2 HK1 HK2⟩,⟨by(with_reducible repeat(first|apply Kd.R_alloc|apply Kd.R_drewN|apply Kd.R_drew));exact Kd.R_mono (Kd.R_far (p:=⟨go28,((ji20):Int).toNat,none⟩) (Kd.R_mono HO_7.out (fun k_ hk=>(⟨hk,fun e_=>hk.2 (by rw[e_];rfl)⟩:_∧k_≠go28))) (fun _ hk=>hk.2) (.int .i64 (Int.tmod (wrap64 ((rd x9_2 (ji20))+(wrap64 ((rd ta2 x10_1)*(rd ta5 x11_2))))) a0_0))) (fun _ hk=>⟨hk.1.1,hk.1.2⟩)⟩,⟨by(with_reducible repeat(first|apply Kd.R_alloc|apply Kd.R_drewN|apply Kd.R_drew));exact Kd.R_mono (Kd.R_far (p:=⟨go28,((ji20):Int).toNat,none⟩) (Kd.R_mono HO_8.out (fun k_ hk=>(⟨hk,fun e_=>hk.2 (by rw[e_];rfl)⟩:_∧k_≠go28))) (fun _ hk=>hk.2) (.int .i64 (Int.tmod (wrap64 ((rd x9_2 (ji20))+(wrap64 ((rd ta2 x10_1)*(rd ta5 x11_2))))) a0_0))) (fun _ hk=>⟨hk.1.1,hk.1.2⟩)⟩,⟨zR HQ34.out⟩,⟨by(with_reducible repeat(first|refine blk_drewN ?_ _|refine blk_drew ?_|refine blk_alloc ?_ _));refine blk_far ?_ (by have h_:=Kd.R_ne HO_9.out BKa1.out (by decide);intro e_;exact h_ (by rw[e_];rfl)) _;(with_reducible repeat(first|refine blk_drewN ?_ _|refine blk_drew ?_|refine blk_alloc ?_ _));exact BKa1.out⟩,⟨zB2 HB.out GB28.out GEa1.out⟩⟩
  have H':=zk H
  clear H
  obtain⟨hcz35_0,hcz35_1,hcz35_2,hfz35_0,hfz35_1,hfz35_2⟩:=zz3 BKa1
  go_wp2
  go_roundg k2
  case measure=>have:=HK1.out;have:=HK2.out;omega
  case rel=>exact⟨(x9_2),(wrap64 (x10_1+1)),zF,H',⟨zo2 HK1 HK2⟩,⟨zR HO_7.out⟩,⟨zR HO_8.out⟩,⟨zR HO_9.out⟩,⟨zK BKa1.out⟩,⟨zB1 HB.out GEa1.out⟩⟩
 have H':=zk H
 clear H
 obtain⟨hcz36_0,hcz36_1,hcz36_2,hfz36_0,hfz36_1,hfz36_2⟩:=zz3 BKa1
 go_wp2
 go_loopg [12] k1 (fun kq v12 w'=>∃(x9_2:List Int) (x12_2:Int),v12= .int .i64 x12_2∧Aside0 (r4_Mul.l2 kq x9_2 x12_2 a0_0 a0_1 l0_2=some r)∧Aside0 (kq≤k1)∧Aside0 (Kd.R (Kd.int .i64) 3 w' w.heap.size (fun _=>True) va9 x9_2)∧Aside0 (w'.heap[gba1]?=some (.cells #[.int .i64 a0_0, .int .i64 a0_1,(.slice A0_2 l0_2.length c0_2)] 24 (0,0)))∧Aside0 (Below w.heap.size w w'))
 case atStart=>exact⟨(x9_1),(wrap64 ((wrap64 (2*a0_1))-2)),zF,H',⟨Nat.le_refl _⟩,⟨by(with_reducible repeat(first|apply Kd.R_alloc|apply Kd.R_drewN|apply Kd.R_drew));exact Kd.R_mono HO_9.out (fun _ hk=>trivial)⟩,⟨zK BKa1.out⟩,⟨zB1 HB.out GEa1.out⟩⟩
 clear H'
 (try clear c7);(try clear c7b0);(try clear c7b1);(try clear c8);(try clear c8b0);(try clear c8b1);(try clear c17b0);(try clear c19b0);(try clear c21b0);(try clear c22b0);(try clear c23b0);(try clear c24b0);(try clear c25b0);(try clear c26b0);(try clear c27);(try clear c27b0);(try clear c27b1);(try clear p28);(try clear q28);(try clear hcz10_0);(try clear hcz10_1);(try clear hcz10_2);(try clear hcz12_0);(try clear hcz12_1);(try clear hcz12_2);(try clear hcz14_0);(try clear hcz14_1);(try clear hcz14_2);(try clear hcz18_0);(try clear hcz18_1);(try clear hcz18_2);(try clear hcz29_0);(try clear hcz29_1);(try clear hcz29_2);(try clear hcz35_0);(try clear hcz35_1);(try clear hcz35_2);(try clear hcz36_0);(try clear hcz36_1);(try clear hcz36_2);(try clear hfz10_0);(try clear hfz10_1);(try clear hfz10_2);(try clear hfz12_0);(try clear hfz12_1);(try clear hfz12_2);(try clear hfz14_0);(try clear hfz14_1);(try clear hfz14_2);(try clear hfz18_0);(try clear hfz18_1);(try clear hfz18_2);(try clear hfz29_0);(try clear hfz29_1);(try clear hfz29_2);(try clear hfz35_0);(try clear hfz35_1);(try clear hfz35_2);(try clear hfz36_0);(try clear hfz36_1);(try clear hfz36_2);(try clear hxb1_0);(try clear hxb2_0);(try clear hxb3_0);(try clear hx28_0);(try clear pb1);(try clear pb2);(try clear pb3);(try clear qb1);(try clear qb2);(try clear qb3)
 obtain⟨x9_2,x12_2,rfl,HA,HK2,HO_9,BKa1,HB⟩:=hrel
 cases gk with|zero=>exact absurd HA.out (by simp [r4_Mul.l2])|succ k2=>?_
 have H:=HA.out
 clear HA
 simp only[r4_Mul.l2] at H
 replace H:=zi H
 rcases H with⟨c37,H⟩|⟨c37,H⟩
 ·have c37b0:decide (a0_1≤x12_2)=true:=decide_eq_true c37
  clear c37
  have H':=zk H
  clear H
  obtain⟨hcz38_0,hcz38_1,hcz38_2,hfz38_0,hfz38_1,hfz38_2⟩:=zz3 BKa1
  go_wp2
  go_loopg [13] k2 (fun kq v13 w'=>∃(x9_3:List Int) (x13_3:Int),v13= .int .i64 x13_3∧Aside0 (r4_Mul.l3 kq x9_3 x12_2 x13_3 a0_0 a0_1 l0_2=some r)∧Aside0 (kq≤k2)∧Aside0 (Kd.R (Kd.int .i64) 3 w' w.heap.size (fun _=>True) va9 x9_3)∧Aside0 (w'.heap[gba1]?=some (.cells #[.int .i64 a0_0, .int .i64 a0_1,(.slice A0_2 l0_2.length c0_2)] 24 (0,0)))∧Aside0 (Below w.heap.size w w'))
  case atStart=>exact⟨(x9_2),(0),zF,H',⟨Nat.le_refl _⟩,⟨zR HO_9.out⟩,⟨zK BKa1.out⟩,⟨zB1 HB.out GEa1.out⟩⟩
  clear H'
  (try clear c7);(try clear c7b0);(try clear c7b1);(try clear c8);(try clear c8b0);(try clear c8b1);(try clear c17b0);(try clear c19b0);(try clear c21b0);(try clear c22b0);(try clear c23b0);(try clear c24b0);(try clear c25b0);(try clear c26b0);(try clear c27);(try clear c27b0);(try clear c27b1);(try clear p28);(try clear q28);(try clear c37);(try clear c37b0);(try clear hcz10_0);(try clear hcz10_1);(try clear hcz10_2);(try clear hcz12_0);(try clear hcz12_1);(try clear hcz12_2);(try clear hcz14_0);(try clear hcz14_1);(try clear hcz14_2);(try clear hcz18_0);(try clear hcz18_1);(try clear hcz18_2);(try clear hcz29_0);(try clear hcz29_1);(try clear hcz29_2);(try clear hcz35_0);(try clear hcz35_1);(try clear hcz35_2);(try clear hcz36_0);(try clear hcz36_1);(try clear hcz36_2);(try clear hcz38_0);(try clear hcz38_1);(try clear hcz38_2);(try clear hfz10_0);(try clear hfz10_1);(try clear hfz10_2);(try clear hfz12_0);(try clear hfz12_1);(try clear hfz12_2);(try clear hfz14_0);(try clear hfz14_1);(try clear hfz14_2);(try clear hfz18_0);(try clear hfz18_1);(try clear hfz18_2);(try clear hfz29_0);(try clear hfz29_1);(try clear hfz29_2);(try clear hfz35_0);(try clear hfz35_1);(try clear hfz35_2);(try clear hfz36_0);(try clear hfz36_1);(try clear hfz36_2);(try clear hfz38_0);(try clear hfz38_1);(try clear hfz38_2);(try clear hxb1_0);(try clear hxb2_0);(try clear hxb3_0);(try clear hx28_0);(try clear pb1);(try clear pb2);(try clear pb3);(try clear qb1);(try clear qb2);(try clear qb3)
  obtain⟨x9_3,x13_3,rfl,HA,HK3,HO_9,BKa1,HB⟩:=hrel
  cases gk with|zero=>exact absurd HA.out (by simp [r4_Mul.l3])|succ k3=>?_
  have H:=HA.out
  clear HA
  simp only[r4_Mul.l3] at H
  replace H:=zid H
  rcases H with⟨c39b0,H⟩|⟨c39b0,H⟩
  ·obtain⟨ji40,hji40⟩:∃j_:Int,(wrap64 ((wrap64 (x12_2-a0_1))+x13_3))=j_:=⟨_,rfl⟩
   replace H:(if 0≤(ji40) then(if(ji40)<(x9_3.length:Int) then(if 0≤x12_2 then(if x12_2<(x9_3.length:Int) then(if 0≤x13_3 then(if x13_3<(l0_2.length:Int) then(if a0_0=0 then(none) else(r4_Mul.l3 k3 (x9_3.set ((ji40):Int).toNat (Int.tmod (wrap64 ((rd x9_3 (ji40))+(wrap64 ((wrap64 (a0_0-(rd x9_3 x12_2)))*(rd l0_2 x13_3))))) a0_0)) x12_2 (wrap64 (x13_3+1)) a0_0 a0_1 l0_2)) else(none)) else(none)) else(none)) else(none)) else(none)) else(none))=some r:=by first|(rw[hji40] at H;exact H)|(simp only[hji40] at H ⊢;exact H)
   have hji40w:(IntKind.i64.wrap ((wrap64 (x12_2-a0_1))+x13_3))=ji40:=(i64_w _).trans hji40
   replace H:=zgd H
   obtain⟨c41b0,H⟩:=H
   replace H:=zgd H
   obtain⟨c42b0,H⟩:=H
   replace H:=zgd H
   obtain⟨c43b0,H⟩:=H
   replace H:=zgd H
   obtain⟨c44b0,H⟩:=H
   replace H:=zgd H
   obtain⟨c45b0,H⟩:=H
   replace H:=zgd H
   obtain⟨c46b0,H⟩:=H
   replace H:=zh H
   obtain⟨c47,H⟩:=H
   have c47b0:=beq_eq_false_iff_ne.mpr c47
   have c47b1:=bne_iff_ne.mpr c47
   obtain⟨yc3,hyc3⟩:∃y_:List Int,y_=(x9_3.set ((ji40):Int).toNat (Int.tmod (wrap64 ((rd x9_3 (ji40))+(wrap64 ((wrap64 (a0_0-(rd x9_3 x12_2)))*(rd l0_2 x13_3))))) a0_0)):=⟨_,rfl⟩
   replace H:(r4_Mul.l3 k3 yc3 x12_2 (wrap64 (x13_3+1)) a0_0 a0_1 l0_2)=some r:=zY hyc3 H
   have Nyc3:=zk hyc3
   clear hyc3
   have H':=zk H
   clear H
   obtain⟨hcz49_0,hcz49_1,hcz49_2,hfz49_0,hfz49_1,hfz49_2⟩:=zz3 BKa1
   try go_wp2
   replace HO_9:=zk (Kd.R_drew HO_9.out)
   replace BKa1:=zk (blk_drew BKa1.out)
   replace HB:=zk (below_drew1 HB.out)
   obtain⟨Ao51,co51,eo51⟩:=Kd.R_slice HO_9.out
   (first|subst eo51|(injection eo51 with f1_ f2_ f3_;have f4_:=f1_.symm;have f5_:=f3_.symm;clear f1_ f2_ f3_;subst f4_;subst f5_))
   have pc0:0≤((ji40):Int):=zd
   have qc0:(ji40)<(x9_3.length:Int):=zd
   obtain⟨adc0,ec0,hxc0_0⟩:=Kd.at_int (Kd.R_reads' HO_9.out).2.2 (ji40) pc0 qc0
   cases ec0
   replace pc0:=eq_true pc0
   replace qc0:=eq_true qc0
   have pc1:0≤(x12_2:Int):=zd
   have qc1:x12_2<(x9_3.length:Int):=zd
   obtain⟨adc1,ec1,hxc1_0⟩:=Kd.at_int (Kd.R_reads' HO_9.out).2.2 x12_2 pc1 qc1
   obtain rfl:adc0=adc1:=(by injection ec1)
   replace pc1:=eq_true pc1
   replace qc1:=eq_true qc1
   have pc2:0≤(x13_3:Int):=zd
   have qc2:x13_3<(l0_2.length:Int):=zd
   obtain⟨adc2,ec2,hxc2_0⟩:=Kd.at_int HR0_2.out x13_3 pc2 qc2
   have hw122_0:=hxc2_0
   cases ec2
   replace hxc2_0:=(HB.out.cell (World.block_lt_of_cell? w _ hxc2_0)).trans hxc2_0
   replace pc2:=eq_true pc2
   replace qc2:=eq_true qc2
   have p48:0≤((ji40):Int):=zd
   have q48:((ji40):Int)<((x9_3.length:Int):Int):=zd
   obtain⟨go48,co48,eo48,gb48,gl48,cl48,HG48⟩:=Kd.R_form HO_9.out (by omega)
   (first|cases eo48|(injection eo48 with ea_ en_ ec_;(first|subst ea_|(injection ea_ with ea_;subst ea_));subst ec_;clear en_))
   have GB48:=zk gb48
   have GG48:=zk HG48
   clear gb48 gl48 HG48
   (first|simp only[add_plain] at hxc0_0|skip)
   (first|simp only[add_plain] at hxc1_0|skip)
   obtain⟨hx48_0,hf48_0⟩:=Kd.R_celln 0 HO_9.out ((ji40):Int) p48 q48
   replace p48:=eq_true p48
   replace q48:=eq_true q48
   have HP52:=Kd.R_putn HO_9.out ((ji40):Int) (Int.tmod (wrap64 ((rd x9_3 (ji40))+(wrap64 ((wrap64 (a0_0-(rd x9_3 x12_2)))*(rd l0_2 x13_3))))) a0_0)
   rw[←Nyc3.out] at HP52
   have HQ52:=zk HP52
   clear HP52
   refine start_ (n:=35) (S:=fun w'=>w'.cell? ⟨gba1,0,none⟩=some (.int .i64 a0_0)∧w'.cell? ⟨gba1,1,none⟩=some (.int .i64 a0_1)∧w'.cell? ⟨gba1,2,none⟩=some (.slice (some adc2) l0_2.length c0_2)∧w'.cell? ⟨go48,((ji40)).toNat,none⟩=some (.int .i64 (rd x9_3 (ji40)))∧w'.cell? ⟨go48,(x12_2).toNat,none⟩=some (.int .i64 (rd x9_3 x12_2))∧w'.cell? (adc2.add (x13_3).toNat)=some (.int .i64 (rd l0_2 x13_3))) (ds:=[34]) #[false,false,false,false,false,false,false,false,false,false,false,false,false,false,false,false,false,false,false,false,false,false,false,false,false,false,false,false,false,false,false,false,false,false,false] (by kernel_rfl) rfl rfl ⟨(blk_cell BKa1.out 0).trans rfl,(blk_cell BKa1.out 1).trans rfl,(blk_cell BKa1.out 2).trans rfl,hxc0_0,hxc1_0,((HB.out.cell (World.block_lt_of_cell? w _ hw122_0)).trans hw122_0)⟩ (fun hHeld=>?_);refine with_tabW r4_Mul.tab17 r4_Mul.bits17 (fun HT_ HW_=>?_)
   first|(generalize wr.drew=w50 at HO_9 BKa1 HB GG48 HQ52 hf48_0 hxc0_0 hxc1_0 hxc2_0 hx48_0 hHeld ⊢)|(generalize wr.drew=w50 at HO_9 BKa1 HB GG48 HQ52 hf48_0 hxc1_0 hxc2_0 hx48_0 hHeld ⊢)|(generalize wr.drew=w50 at HO_9 BKa1 HB GG48 HQ52 hf48_0 hxc0_0 hxc2_0 hx48_0 hHeld ⊢)|(generalize wr.drew=w50 at HO_9 BKa1 HB GG48 HQ52 hf48_0 hxc0_0 hxc1_0 hx48_0 hHeld ⊢)|(generalize wr.drew=w50 at HO_9 BKa1 HB GG48 HQ52 hf48_0 hxc0_0 hxc1_0 hxc2_0 hHeld ⊢)|(generalize wr.drew=w50 at HO_9 BKa1 HB GG48 HQ52 hf48_0 hxc2_0 hx48_0 hHeld ⊢)|(generalize wr.drew=w50 at HO_9 BKa1 HB GG48 HQ52 hf48_0 hxc1_0 hx48_0 hHeld ⊢)|(generalize wr.drew=w50 at HO_9 BKa1 HB GG48 HQ52 hf48_0 hxc1_0 hxc2_0 hHeld ⊢)|(generalize wr.drew=w50 at HO_9 BKa1 HB GG48 HQ52 hf48_0 hxc0_0 hx48_0 hHeld ⊢)|(generalize wr.drew=w50 at HO_9 BKa1 HB GG48 HQ52 hf48_0 hxc0_0 hxc2_0 hHeld ⊢)|(generalize wr.drew=w50 at HO_9 BKa1 HB GG48 HQ52 hf48_0 hxc0_0 hxc1_0 hHeld ⊢)|(generalize wr.drew=w50 at HO_9 BKa1 HB GG48 HQ52 hf48_0 hx48_0 hHeld ⊢)|(generalize wr.drew=w50 at HO_9 BKa1 HB GG48 HQ52 hf48_0 hxc2_0 hHeld ⊢)|(generalize wr.drew=w50 at HO_9 BKa1 HB GG48 HQ52 hf48_0 hxc1_0 hHeld ⊢)|(generalize wr.drew=w50 at HO_9 BKa1 HB GG48 HQ52 hf48_0 hxc0_0 hHeld ⊢)|(generalize wr.drew=w50 at HO_9 BKa1 HB GG48 HQ52 hf48_0 hHeld ⊢)
   refine zp (i:=0) (N:=some 77) HT_ ?_
   refine zp (i:=1) (N:=some 78) HT_ ?_
   refine zp (i:=2) (N:=some 79) HT_ ?_
   refine zp (i:=5) (N:=some 82) HT_ ?_
   refine zp (i:=7) (N:=some 84) HT_ ?_
   refine zp (i:=8) (N:=some 85) HT_ ?_
   refine zp (i:=9) (N:=some 86) HT_ ?_
   refine zp (i:=12) (N:=some 89) HT_ ?_
   refine zp (i:=16) (N:=some 93) HT_ ?_
   refine zp (i:=18) (N:=some 95) HT_ ?_
   refine zp (i:=19) (N:=some 96) HT_ ?_
   refine zp (i:=20) (N:=some 97) HT_ ?_
   refine zp (i:=23) (N:=some 100) HT_ ?_
   refine zp (i:=25) (N:=some 102) HT_ ?_
   refine zp (i:=30) (N:=some 107) HT_ ?_
   refine take_ (i:=3) (N:=some 80) (v:=?_) (a':=?_) #[true,true,true,true,false,true,false,true,true,true,false,false,true,false,false,false,true,false,true,true,true,false,false,true,false,true,false,false,false,false,true,false,false,false,false] rfl rfl (take_ofW HT_.out HW_.out (by kernel_rfl)) (fun _ _ _ h=>h) (Or.inl ⟨by rfl,?_⟩) hHeld ?_ ?_
   rotate_left
   ·rintro w' ⟨s0,s1,s2,s3,s4,s5⟩
    go_simp
    with_reducible rfl
   rotate_left
   ·simp only[Act.put,List.setIfInBounds_toArray,List.set_cons_zero,List.set_cons_succ,i64_w,i32_w]
    rfl
   refine zp (i:=4) (N:=some 81) HT_ ?_
   refine zp (i:=6) (N:=some 83) HT_ ?_
   refine take_ (i:=10) (N:=some 87) (v:=?_) (a':=?_) #[true,true,true,true,true,true,true,true,true,true,true,false,true,false,false,false,true,false,true,true,true,false,false,true,false,true,false,false,false,false,true,false,false,false,false] rfl rfl (take_ofW HT_.out HW_.out (by kernel_rfl)) (fun _ _ _ h=>h) (Or.inl ⟨by rfl,?_⟩) hHeld ?_ ?_
   rotate_left
   ·rintro w' ⟨s0,s1,s2,s3,s4,s5⟩
    go_simp
    with_reducible rfl
   rotate_left
   ·simp only[Act.put,List.setIfInBounds_toArray,List.set_cons_zero,List.set_cons_succ,i64_w,i32_w]
    rfl
   refine zp (i:=11) (N:=some 88) HT_ ?_
   refine zp (i:=13) (N:=some 90) HT_ ?_
   refine zp (i:=14) (N:=some 91) HT_ ?_
   refine take_ (i:=15) (N:=some 92) (v:=?_) (a':=?_) #[true,true,true,true,true,true,true,true,true,true,true,true,true,true,true,true,true,false,true,true,true,false,false,true,false,true,false,false,false,false,true,false,false,false,false] rfl rfl (take_ofW HT_.out HW_.out (by kernel_rfl)) (fun _ _ _ h=>h) (Or.inl ⟨by rfl,?_⟩) hHeld ?_ ?_
   rotate_left
   ·rintro w' ⟨s0,s1,s2,s3,s4,s5⟩
    go_simp
    with_reducible rfl
   rotate_left
   ·simp only[Act.put,List.setIfInBounds_toArray,List.set_cons_zero,List.set_cons_succ,i64_w,i32_w]
    rfl
   refine take_ (i:=17) (N:=some 94) (v:=?_) (a':=?_) #[true,true,true,true,true,true,true,true,true,true,true,true,true,true,true,true,true,true,true,true,true,false,false,true,false,true,false,false,false,false,true,false,false,false,false] rfl rfl (take_ofW HT_.out HW_.out (by kernel_rfl)) (fun _ _ _ h=>h) (Or.inl ⟨by rfl,?_⟩) hHeld ?_ ?_
   rotate_left
   ·rintro w' ⟨s0,s1,s2,s3,s4,s5⟩
    go_simp
    with_reducible rfl
   rotate_left
   ·simp only[Act.put,List.setIfInBounds_toArray,List.set_cons_zero,List.set_cons_succ,i64_w,i32_w]
    rfl
   refine take_ (i:=21) (N:=some 98) (v:=?_) (a':=?_) #[true,true,true,true,true,true,true,true,true,true,true,true,true,true,true,true,true,true,true,true,true,true,false,true,false,true,false,false,false,false,true,false,false,false,false] rfl rfl (take_ofW HT_.out HW_.out (by kernel_rfl)) (fun _ _ _ h=>h) (Or.inl ⟨by rfl,?_⟩) hHeld ?_ ?_
   rotate_left
   ·rintro w' ⟨s0,s1,s2,s3,s4,s5⟩
    go_simp
    with_reducible rfl
   rotate_left
   ·simp only[Act.put,List.setIfInBounds_toArray,List.set_cons_zero,List.set_cons_succ,i64_w,i32_w]
    rfl
   refine zp (i:=22) (N:=some 99) HT_ ?_
   refine take_ (i:=24) (N:=some 101) (v:=?_) (a':=?_) #[true,true,true,true,true,true,true,true,true,true,true,true,true,true,true,true,true,true,true,true,true,true,true,true,true,true,false,false,false,false,true,false,false,false,false] rfl rfl (take_ofW HT_.out HW_.out (by kernel_rfl)) (fun _ _ _ h=>h) (Or.inl ⟨by rfl,?_⟩) hHeld ?_ ?_
   rotate_left
   ·rintro w' ⟨s0,s1,s2,s3,s4,s5⟩
    go_simp
    with_reducible rfl
   rotate_left
   ·simp only[Act.put,List.setIfInBounds_toArray,List.set_cons_zero,List.set_cons_succ,i64_w,i32_w]
    rfl
   refine zp (i:=26) (N:=some 103) HT_ ?_
   refine take_ (i:=27) (N:=some 104) (v:=?_) (a':=?_) #[true,true,true,true,true,true,true,true,true,true,true,true,true,true,true,true,true,true,true,true,true,true,true,true,true,true,true,true,false,false,true,false,false,false,false] rfl rfl (take_ofW HT_.out HW_.out (by kernel_rfl)) (fun _ _ _ h=>h) (Or.inl ⟨by rfl,?_⟩) hHeld ?_ ?_
   rotate_left
   ·rintro w' ⟨s0,s1,s2,s3,s4,s5⟩
    go_simp
    with_reducible rfl
   rotate_left
   ·simp only[Act.put,List.setIfInBounds_toArray,List.set_cons_zero,List.set_cons_succ,i64_w,i32_w]
    rfl
   refine zp (i:=28) (N:=some 105) HT_ ?_
   refine zp (i:=29) (N:=some 106) HT_ ?_
   refine take_ (i:=31) (N:=some 108) (v:=?_) (a':=?_) #[true,true,true,true,true,true,true,true,true,true,true,true,true,true,true,true,true,true,true,true,true,true,true,true,true,true,true,true,true,true,true,true,false,false,false] rfl rfl (take_ofW HT_.out HW_.out (by kernel_rfl)) (fun _ _ _ h=>h) (Or.inl ⟨by rfl,?_⟩) hHeld ?_ ?_
   rotate_left
   ·rintro w' ⟨s0,s1,s2,s3,s4,s5⟩
    go_simp
    with_reducible rfl
   rotate_left
   ·simp only[Act.put,List.setIfInBounds_toArray,List.set_cons_zero,List.set_cons_succ,i64_w,i32_w]
    rfl
   refine zp (i:=32) (N:=some 109) HT_ ?_
   refine zp (i:=33) (N:=some 110) HT_ ?_
   refine last_ (i:=34) (N:=none) #[true,true,true,true,true,true,true,true,true,true,true,true,true,true,true,true,true,true,true,true,true,true,true,true,true,true,true,true,true,true,true,true,true,true,true] rfl rfl (one_of HT_.out (by kernel_rfl)) (by decide) (fun K hK=>?_)
   refine skip_ (w1:=?_) (by rfl) rfl ?_ ?_
   rotate_left
   ·go_simp
    rfl
   refine hK.out _ _ ?_
   clear hK K
   refine done_ (done_of HT_.out (by kernel_rfl)) ?_
   try go_wp2
   go_roundg k3
   case measure=>have:=HK1.out;have:=HK2.out;have:=HK3.out;omega
   case rel=>exact⟨(yc3),(wrap64 (x13_3+1)),zF,H',⟨by have:=HK1.out;have:=HK2.out;have:=HK3.out;omega⟩,⟨zR HQ52.out⟩,⟨by(with_reducible repeat(first|refine blk_drewN ?_ _|refine blk_drew ?_|refine blk_alloc ?_ _));refine blk_far ?_ (by have h_:=Kd.R_ne HO_9.out BKa1.out (by decide);intro e_;exact h_ (by rw[e_];rfl)) _;(with_reducible repeat(first|refine blk_drewN ?_ _|refine blk_drew ?_|refine blk_alloc ?_ _));exact BKa1.out⟩,⟨zB2 HB.out GB48.out GEa1.out⟩⟩
  have H':=zk H
  clear H
  obtain⟨hcz53_0,hcz53_1,hcz53_2,hfz53_0,hfz53_1,hfz53_2⟩:=zz3 BKa1
  go_wp2
  go_roundg k3
  case measure=>have:=HK1.out;have:=HK2.out;have:=HK3.out;omega
  case rel=>exact⟨(x9_3),(wrap64 (x12_2-1)),zF,H',⟨by have:=HK1.out;have:=HK2.out;have:=HK3.out;omega⟩,⟨zR HO_9.out⟩,⟨zK BKa1.out⟩,⟨zB1 HB.out GEa1.out⟩⟩
 have c37b0:decide (a0_1≤x12_2)=false:=decide_eq_false c37
 clear c37
 replace H:=zg H
 obtain⟨c54,H⟩:=H
 have c54b0:=eq_true c54
 have c54b1:=decide_eq_true c54
 clear c54
 replace H:=zg H
 obtain⟨c55,H⟩:=H
 have c55b0:=eq_true c55
 have c55b1:=decide_eq_true c55
 clear c55
 obtain⟨yb5,hyb5⟩:∃y_:List Int,y_=(x9_2.take (a0_1:Int).toNat):=⟨_,rfl⟩
 replace H:((r4_Value.f k2 a0_0 a0_1 l0_2 yb5).bind fun tb9=>(some tb9))=some r:=zY hyb5 H
 have Nyb5:=zk hyb5
 clear hyb5
 replace H:=zb H
 obtain⟨tb9,A56,H⟩:=H
 obtain rfl:=Option.some.inj H
 obtain⟨hcz57_0,hcz57_1,hcz57_2,hfz57_0,hfz57_1,hfz57_2⟩:=zz3 BKa1
 try go_wp2
 replace HO_9:=zk (Kd.R_drew HO_9.out)
 replace BKa1:=zk (blk_drew BKa1.out)
 replace HB:=zk (below_drew1 HB.out)
 obtain⟨Ao60,co60,eo60⟩:=Kd.R_slice HO_9.out
 (first|subst eo60|(injection eo60 with f1_ f2_ f3_;have f4_:=f1_.symm;have f5_:=f3_.symm;clear f1_ f2_ f3_;subst f4_;subst f5_))
 have q59:(a0_1:Int)≤((x9_2.length:Int):Int):=zd
 obtain⟨i059,hi059,_,hsz59,_⟩:=info_parts info3
 have hroom59:x9_2.length≤co60:=(Kd.R_reads' HO_9.out).2.1
 have hC59:Kd.C (Kd.int .i64) _ Ao60 x9_2.length x9_2:=(Kd.R_reads' HO_9.out).2.2
 have hcut59:=cut_to (P:=Try.prog) 22 3 .i64 Try.underlying22 hi059 Ao60 x9_2.length co60 a0_1 zd q59 hroom59
 have hr59:=Kd.C_take (m:=(a0_1:Int).toNat) hC59 (by omega)
 have hy59:yb5.length=(a0_1:Int).toNat:=(by rw[Nyb5.out,List.length_take];omega)
 rw[←Nyb5.out] at hr59
 rw[←hy59] at hcut59
 have HRb8:=zk hr59
 have HCb8:=zk (show yb5.length≤co60 from by omega)
 clear hr59 hC59 hroom59 hi059 hsz59
 have KY59:=zk hy59
 clear hy59
 have KL59:=zk (show(a0_1:Int).toNat≤x9_2.length from by omega)
 replace q59:=eq_true q59
 refine start_ (n:=7) (S:=fun w'=>w'.cell? ⟨gba1,0,none⟩=some (.int .i64 a0_0)∧w'.cell? ⟨gba1,1,none⟩=some (.int .i64 a0_1)∧w'.cell? ⟨gba1,2,none⟩=some (.slice A0_2 l0_2.length c0_2)) (ds:=[]) #[false,false,false,false,false,false,false] (by kernel_rfl) rfl rfl ⟨(blk_cell BKa1.out 0).trans rfl,(blk_cell BKa1.out 1).trans rfl,(blk_cell BKa1.out 2).trans rfl⟩ (fun hHeld=>?_)
 generalize wr.drew=w58 at HO_9 BKa1 HB HRb8 hHeld ⊢
 refine pure_ (i:=1) (N:=some 112) (v:=?_) (a':=?_) #[false,true,false,false,false,false,false] rfl rfl (by kernel_rfl) (fun _ _ _ h=>h) (Or.inl ⟨by rfl,?_⟩) ?_ ?_
 rotate_left
 ·intro w'
  go_simp
  with_reducible rfl
 rotate_left
 ·simp only[Act.put,List.setIfInBounds_toArray,List.set_cons_zero,List.set_cons_succ,i64_w,i32_w]
  rfl
 refine pure_ (i:=2) (N:=some 113) (v:=?_) (a':=?_) #[false,true,true,false,false,false,false] rfl rfl (by kernel_rfl) (fun _ _ _ h=>h) (Or.inl ⟨by rfl,?_⟩) ?_ ?_
 rotate_left
 ·intro w'
  go_simp
  with_reducible rfl
 rotate_left
 ·simp only[Act.put,List.setIfInBounds_toArray,List.set_cons_zero,List.set_cons_succ,i64_w,i32_w]
  rfl
 refine take_ (i:=0) (N:=some 111) (v:=?_) (a':=?_) #[true,true,true,false,false,false,false] rfl rfl (by kernel_rfl) (fun _ _ _ h=>h) (Or.inl ⟨by rfl,?_⟩) hHeld ?_ ?_
 rotate_left
 ·rintro w' ⟨s0,s1,s2⟩
  go_simp
  with_reducible rfl
 rotate_left
 ·simp only[Act.put,List.setIfInBounds_toArray,List.set_cons_zero,List.set_cons_succ,i64_w,i32_w]
  rfl
 refine take_ (i:=3) (N:=some 114) (v:=?_) (a':=?_) #[true,true,true,true,false,false,false] rfl rfl (by kernel_rfl) (fun _ _ _ h=>h) (Or.inl ⟨by rfl,?_⟩) hHeld ?_ ?_
 rotate_left
 ·rintro w' ⟨s0,s1,s2⟩
  go_simp
  with_reducible rfl
 rotate_left
 ·simp only[Act.put,List.setIfInBounds_toArray,List.set_cons_zero,List.set_cons_succ,i64_w,i32_w]
  rfl
 refine pure_ (i:=4) (N:=some 115) (v:=?_) (a':=?_) #[true,true,true,true,true,false,false] rfl rfl (by kernel_rfl) (fun _ _ _ h=>h) (Or.inl ⟨by rfl,?_⟩) ?_ ?_
 rotate_left
 ·intro w'
  go_simp
  with_reducible rfl
 rotate_left
 ·simp only[Act.put,List.setIfInBounds_toArray,List.set_cons_zero,List.set_cons_succ,i64_w,i32_w]
  rfl
 refine one_ (i:=5) (N:=some 116) #[true,true,true,true,true,true,false] rfl rfl (by kernel_rfl) (by decide) (fun K hK=>?_)
 refine goes_ Try.func135 (by kernel_rfl) rfl #[.agg #[.int .i64 a0_0, .int .i64 a0_1, .slice A0_2 l0_2.length c0_2], .slice Ao60 yb5.length co60] (by rfl) rfl rfl (by(try simp only[List.map_toArray,List.map_cons,List.map_nil]);first|done|rfl|(simp only[List.length_drop,List.length_take];rfl)) ?_
 with_reducible refine(r4_Value.calls k2 a0_0 a0_1 _ _ l0_2 _ _ yb5 tb9 _ ?side1 ?side2 ?side3 ?side4 A56.out).mono ?_
 (case side1=>exact zC (Kd.C_below HR0_2.out HB.out))
 (case side2=>exact HC0_2.out)
 (case side3=>repeat(first|exact(zCr HRb8.out)|(with_reducible refine Kd.C_alloc ?_ _)|(with_reducible refine Kd.C_drewN ?_ _)|(with_reducible refine Kd.C_drew ?_)))
 (case side4=>exact HCb8.out)
 rintro e w61 ⟨rfl,hb⟩
 refine⟨_,rfl,?_⟩
 replace HO_9:=yRb HO_9 hb
 replace BKa1:=yK BKa1 hb
 (try replace HRb8:=yCb HRb8 hb)
 replace HB:=yS1 HB GEa1 hb
 (try clear hb)
 refine hK.out _ _ ⟨(blk_cell BKa1.out 0).trans rfl,(blk_cell BKa1.out 1).trans rfl,(blk_cell BKa1.out 2).trans rfl⟩ (fun hHeld=>?_)
 clear hK K
 refine norm_ (a':=?_) ?_ ?_
 rotate_left
 ·show Act.put _ (some 116) _=_
  simp only[Act.put,List.setIfInBounds_toArray,List.set_cons_zero,List.set_cons_succ,i64_w,i32_w]
  rfl
 refine pure_ (i:=6) (N:=some 6) (v:=?_) (a':=?_) #[true,true,true,true,true,true,true] rfl rfl (by kernel_rfl) (fun _ _ _ h=>h) (Or.inl ⟨by rfl,?_⟩) ?_ ?_
 rotate_left
 ·intro w'
  go_simp
  with_reducible rfl
 rotate_left
 ·simp only[Act.put,List.setIfInBounds_toArray,List.set_cons_zero,List.set_cons_succ,i64_w,i32_w]
  rfl
 refine done_ (by kernel_rfl) ?_
 try go_wp2
 go_ret
 exact⟨by first|rfl|(simp [errW_none,errW_some]<;>rfl)|(simp only[←hji6];first|rfl|(simp [errW_none,errW_some]<;>rfl))|(simp [*,errW_none,errW_some]<;>rfl),zB1 HB.out GEa1.out⟩
def r24_Span.T5:Bool×List (List Nat×List Nat):=(true,[([],[]),([],[]),([],[]),([],[]),([2,3],[2,3]),([4],[4]),([0,1,5],[0,1,5]),([6,6,0,1,2,3,4,5,6],[6])])
def r24_Span.B5:List Nat:=[0,0,0,0,12,28,63,127]
theorem r24_Span.tab5:rtab .any (opsOf Try.f68 5)=r24_Span.T5:=by kernel_rfl
theorem r24_Span.bits5:waitsOk r24_Span.T5.2 r24_Span.B5=true:=by kernel_rfl
def r24_Span.T20:Bool×List (List Nat×List Nat):=(true,[([],[]),([],[]),([],[]),([],[]),([],[]),([3,4],[3,4]),([5],[5]),([],[]),([6,7],[6,7]),([8],[8]),([],[]),([],[]),([],[]),([],[]),([12,13],[12,13]),([14],[14]),([10,11,15],[10,11,15]),([2,9,16,16],[2,9,16]),([0,1,0,1,2,3,4,5,6,7,8,9,10,11,12,13,14,15,16,17],[0,1]),([18,17,17,0,1,2,3,4,5,6,7,8,9,10,11,12,13,14,15,16,17],[17,18])])
def r24_Span.B20:List Nat:=[0,0,0,0,0,24,56,0,248,504,0,0,0,0,12288,28672,64512,131068,262143,524287]
theorem r24_Span.tab20:rtab .any (opsOf Try.f68 20)=r24_Span.T20:=by kernel_rfl
theorem r24_Span.bits20:waitsOk r24_Span.T20.2 r24_Span.B20=true:=by kernel_rfl
set_option maxHeartbeats 8000000 in
set_option maxRecDepth 100000 in
theorem r24_Span.calls (k:Nat) (a0_0:Int) (a0_1:Int) (A0_2:Option Addr) (c0_2:Nat) (l0_2:List Int) (a1:Int) (A2:Option Addr) (c2:Nat) (l2:List (List Int)) (a3:Int) (r:List (List Int)) (w:World) (hr0_2:Kd.C (Kd.int .i64) w A0_2 l0_2.length l0_2) (hc0_2:l0_2.length≤c0_2) (hr2:Kd.C (Kd.slice 3 (Kd.int .i64)) w A2 l2.length l2) (hc2:l2.length≤c2) (h:r24_Span.f k a0_0 a0_1 l0_2 a1 l2 a3=some r):
 Calls Try.prog 68 #[.agg #[.int .i64 a0_0, .int .i64 a0_1, .slice A0_2 l0_2.length c0_2], .int .i64 a1, .slice A2 l2.length c2, .int .i64 a3] w fun e w'=>∃v0_:Value,e= .returned (v0_)∧Kd.N (Kd.slice 3 (Kd.int .i64)) 22 w' w.heap.size (fun k_=>(w.heap.size≤k_)) v0_ r∧Below w.heap.size w w':=by
 have hu24:=Try.underlying24
 have HR0_2:=zk hr0_2
 have HC0_2:=zk hc0_2
 clear hr0_2 hc0_2
 have HR2:=zk hr2
 have HC2:=zk hc2
 clear hr2 hc2
 have HB:=zk (Below.refl w.heap.size w)
 have H:=h
 clear h
 unfold r24_Span.f at H
 replace H:=zg H
 obtain⟨c5,H⟩:=H
 have c5b0:=eq_true c5
 have c5b1:=decide_eq_true c5
 clear c5
 replace H:=zg H
 obtain⟨c6,H⟩:=H
 have c6b0:=eq_true c6
 have c6b1:=decide_eq_true c6
 clear c6
 obtain⟨ya2,hya2⟩:∃y_:List Int,y_=(List.replicate (a1:Int).toNat 0):=⟨_,rfl⟩
 replace H:(r24_Span.l0 k a1 l2 a3 (([ya2]:List (List Int))) 0 a0_0 a0_1 l0_2)=some r:=zY hya2 H
 have Nya2:=zk hya2
 clear hya2
 obtain⟨ya5,hya5⟩:∃y_:List (List Int),y_=(([ya2]:List (List Int))):=⟨_,rfl⟩
 replace H:(r24_Span.l0 k a1 l2 a3 ya5 0 a0_0 a0_1 l0_2)=some r:=zY hya5 H
 have Nya5:=zk hya5
 clear hya5
 have H':=zk H
 clear H
 go_enter Try.func68,Try.ntmps68
 go_wp2_with (first|((with_reducible refine gate_dst (N:=4) rfl ?_);refine box_event ?hg (N:=4) ?hd (cs:= #[.int .i64 a0_0, .int .i64 a0_1, .slice A0_2 l0_2.length c0_2]) (t:=24) ?hr ?_;(case hd=>rfl);(case hg=>rfl);(case hr=>first|(go_simp;done)|(go_simp;rfl));intro gba1 hg w7 hbox hb;have BKa1:=zk (hbox);have GWa1:=yg hg HB;have GEa1:=yg hg HB;replace HB:=yS HB hb;clear hb hbox hg)|((with_reducible refine gate_dst (N:=18) rfl ?_);refine Kd.R_make (Kd.int .i64) _ 3 rfl (N:=18) rfl 22 _ _ rfl a1 rfl rfl Try.underlying22 (.int .i64 0) 8 info3 rfl (by decide) (by omega) 0 (ok:=fun _=>True) (okp:=fun _=>True) rfl (fun _ hk=>hk) trivial zd (Nat.le_trans (Nat.mul_le_mul_right _ (zd:a1.toNat≤35184372088832)) (by omega)) (Below.refl _ _) (Nat.le_refl _) ?_;intro va3 w8 ho9 hb hg_ hnew_;clear hg_ hnew_;(first|rw[←Nya2.out] at ho9|(simp only[Int.reduceToNat] at ho9;rw[←Nya2.out] at ho9));replace ho9:=Kd.R_newM (M:=fun k_=>(w.heap.size≤k_)) ho9 (below_size (zB1 HB.out GEa1.out)) (fun k_ h_=>h_);have HOa4:=yRl1 ho9 HB GEa1;replace BKa1:=yK BKa1 hb;replace HB:=yS1 HB GEa1 hb;clear hb ho9;obtain⟨Ao10,co10,rfl⟩:=Kd.R_slice HOa4.out)|((with_reducible refine gate_dst (N:=19) rfl ?_);refine Kd.N_lit (Kd.slice 3 (Kd.int .i64)) _ 22 ?hg (N':=19) ?hd (xs:=([ya2]:List (List Int))) (inner:=[.slice Ao10 ya2.length co10]) (ok:=(fun k_=>(w.heap.size≤k_)∧k_≠gba1)) (okp:=(fun k_=>(w.heap.size≤k_)∧k_≠gba1)) ?hr ?hp (fun _ hk=>hk) ((show ∀k_,w8.heap.size≤k_→(fun k_=>(w.heap.size≤k_)∧k_≠gba1) k_ from fun k_ hk=>⟨(Nat.le_trans (below_size (zB1 HB.out GEa1.out)) hk),Kd.freshB (g:=gba1) (o:= .cells #[.int .i64 a0_0, .int .i64 a0_1, .slice A0_2 l0_2.length c0_2] 24 (0,0)) (zK BKa1.out) k_ hk⟩) _ (Nat.le_refl _)) (Below.refl _ _) (Nat.le_refl _) (by simp) ?_;(case hd=>rfl);(case hg=>rfl);(case hr=>first|(go_simp;done)|(go_simp;rfl));(case hp=>exact(Reps.one (show Kd.FK (Kd.slice 3 (Kd.int .i64)) _ _ ya2 [.slice Ao10 ya2.length co10] from(Mw.FK_of_R (Kd.R_mono (ok':=(fun k_=>(w.heap.size≤k_)∧k_≠gba1)) (Kd.R_types (HOa4.out) BKa1.out (by decide)) (fun k_ hk=>by exact⟨hk.1.1,hk.2⟩)))) (Reps.none _ _)));intro va6 w11 ho12 hb hg_ hnew_;clear hg_ hnew_;(first|rw[←Nya5.out] at ho12|(simp only[Int.reduceToNat] at ho12;rw[←Nya5.out] at ho12));have HOa7:=zk (Kd.N_lower ho12 (below_size (zB1 HB.out GEa1.out)));replace BKa1:=yK BKa1 hb;replace HB:=yS1 HB GEa1 hb;clear HOa4;clear hb ho12))
 go_loopg [9,10] k (fun kq v9 v10 w'=>∃(x9_1:List (List Int)) (x10_1:Int),v10= .int .i64 x10_1∧Aside0 (r24_Span.l0 kq a1 l2 a3 x9_1 x10_1 a0_0 a0_1 l0_2=some r)∧Aside0 (kq≤k)∧Aside0 (Kd.N (Kd.slice 3 (Kd.int .i64)) 22 w' w.heap.size (fun k_=>(w.heap.size≤k_)∧k_≠gba1) v9 x9_1)∧Aside0 (w'.heap[gba1]?=some (.cells #[.int .i64 a0_0, .int .i64 a0_1,(.slice A0_2 l0_2.length c0_2)] 24 (0,0)))∧Aside0 (Below w.heap.size w w'))
 case atStart=>exact⟨(ya5),(0),zF,H',⟨Nat.le_refl _⟩,⟨zN HOa7.out⟩,⟨zK BKa1.out⟩,⟨zB1 HB.out GEa1.out⟩⟩
 clear H'
 (try clear c5);(try clear c5b0);(try clear c5b1);(try clear c6);(try clear c6b0);(try clear c6b1)
 obtain⟨x9_1,x10_1,rfl,HA,HK1,HO_9,BKa1,HB⟩:=hrel
 cases gk with|zero=>exact absurd HA.out (by simp [r24_Span.l0])|succ k1=>?_
 have H:=HA.out
 clear HA
 simp only[r24_Span.l0] at H
 replace H:=zid H
 rcases H with⟨c13b0,H⟩|⟨c13b0,H⟩
 ·replace H:=zgd H
  obtain⟨c14b0,H⟩:=H
  replace H:=zb H
  obtain⟨ta9,A15,H⟩:=H
  replace H:=zb H
  obtain⟨tb2,A16,H⟩:=H
  by_cases c17:tb2=true
  ·subst c17
   rw[if_pos rfl] at H
   have H':=zk H
   clear H
   try go_wp2
   replace HO_9:=zk (Kd.N_drew HO_9.out)
   replace BKa1:=zk (blk_drew BKa1.out)
   replace HB:=zk (below_drew1 HB.out)
   have pa8:0≤(x10_1:Int):=zd
   have qa8:x10_1<(l2.length:Int):=zd
   obtain⟨ada8,Aa8_0,ca8_0,ea8,hxa8_0,hla8_0,hia8_0⟩:=at_L1 HR2.out x10_1 pa8 qa8
   have hw108_0:=hxa8_0
   cases ea8
   replace hxa8_0:=(HB.out.cell (World.block_lt_of_cell? w _ hxa8_0)).trans hxa8_0
   have HRa8_0:=zk hia8_0
   have HCa8_0:=zk hla8_0
   clear hia8_0 hla8_0
   replace pa8:=eq_true pa8
   replace qa8:=eq_true qa8
   refine start_ (n:=8) (S:=fun w'=>w'.cell? ⟨gba1,0,none⟩=some (.int .i64 a0_0)∧w'.cell? ⟨gba1,1,none⟩=some (.int .i64 a0_1)∧w'.cell? ⟨gba1,2,none⟩=some (.slice A0_2 l0_2.length c0_2)∧w'.cell? (ada8.add (x10_1).toNat)=some (.slice Aa8_0 (rd_L1 l2 x10_1).length ca8_0)) (ds:=[]) #[false,false,false,false,false,false,false,false] (by kernel_rfl) rfl rfl ⟨(blk_cell BKa1.out 0).trans rfl,(blk_cell BKa1.out 1).trans rfl,(blk_cell BKa1.out 2).trans rfl,((HB.out.cell (World.block_lt_of_cell? w _ hw108_0)).trans hw108_0)⟩ (fun hHeld=>?_);refine with_tabW r24_Span.tab5 r24_Span.bits5 (fun HT_ HW_=>?_)
   first|(generalize wr.drew=w18 at HO_9 BKa1 HB HRa8_0 hxa8_0 hHeld ⊢)|(generalize wr.drew=w18 at HO_9 BKa1 HB HRa8_0 hHeld ⊢)
   refine zp (i:=1) (N:=some 27) HT_ ?_
   refine zp (i:=2) (N:=some 28) HT_ ?_
   refine zp (i:=3) (N:=some 29) HT_ ?_
   refine zp (i:=4) (N:=some 30) HT_ ?_
   refine take_ (i:=0) (N:=some 26) (v:=?_) (a':=?_) #[true,true,true,true,true,false,false,false] rfl rfl (take_ofW HT_.out HW_.out (by kernel_rfl)) (fun _ _ _ h=>h) (Or.inl ⟨by rfl,?_⟩) hHeld ?_ ?_
   rotate_left
   ·rintro w' ⟨s0,s1,s2,s3⟩
    go_simp
    with_reducible rfl
   rotate_left
   ·simp only[Act.put,List.setIfInBounds_toArray,List.set_cons_zero,List.set_cons_succ,i64_w,i32_w]
    rfl
   refine take_ (i:=5) (N:=some 31) (v:=?_) (a':=?_) #[true,true,true,true,true,true,false,false] rfl rfl (take_ofW HT_.out HW_.out (by kernel_rfl)) (fun _ _ _ h=>h) (Or.inl ⟨by rfl,?_⟩) hHeld ?_ ?_
   rotate_left
   ·rintro w' ⟨s0,s1,s2,s3⟩
    go_simp
    with_reducible rfl
   rotate_left
   ·simp only[Act.put,List.setIfInBounds_toArray,List.set_cons_zero,List.set_cons_succ,i64_w,i32_w]
    rfl
   refine one_ (i:=6) (N:=some 32) #[true,true,true,true,true,true,true,false] rfl rfl (one_of HT_.out (by kernel_rfl)) (by decide) (fun K hK=>?_)
   refine goes_ Try.func60 (by kernel_rfl) rfl #[.agg #[.int .i64 a0_0, .int .i64 a0_1, .slice A0_2 l0_2.length c0_2], .int .i64 a1, .slice Aa8_0 (rd_L1 l2 x10_1).length ca8_0] (by rfl) rfl rfl (by(try simp only[List.map_toArray,List.map_cons,List.map_nil]);first|done|rfl|(simp only[List.length_drop,List.length_take];rfl)) ?_
   with_reducible refine(r24_Row.calls k1 a0_0 a0_1 _ _ l0_2 a1 _ _ (rd_L1 l2 x10_1) ta9 _ ?side1 ?side2 ?side3 ?side4 A15.out).mono ?_
   (case side1=>exact zC (Kd.C_below HR0_2.out HB.out))
   (case side2=>exact HC0_2.out)
   (case side3=>exact zC (Kd.C_below HRa8_0.out HB.out))
   (case side4=>exact HCa8_0.out)
   rintro e w19 ⟨vb0,rfl,ho0,hb⟩
   refine⟨_,rfl,?_⟩
   replace HO_9:=yNe HO_9 ho0 hb
   replace ho0:=Kd.R_newM (M:=fun k_=>(w.heap.size≤k_)) ho0 (below_size (zB1 HB.out GEa1.out)) (fun k_ h_=>h_)
   have HOb1:=yRl1 ho0 HB GEa1
   replace BKa1:=yK BKa1 hb
   replace HB:=yS1 HB GEa1 hb
   (try clear hb)
   (try clear ho0)
   refine hK.out _ _ ⟨(blk_cell BKa1.out 0).trans rfl,(blk_cell BKa1.out 1).trans rfl,(blk_cell BKa1.out 2).trans rfl,((HB.out.cell (World.block_lt_of_cell? w _ hw108_0)).trans hw108_0)⟩ (fun hHeld=>?_)
   clear hK K
   refine norm_ (a':=?_) ?_ ?_
   rotate_left
   ·show Act.put _ (some 32) _=_
    simp only[Act.put,List.setIfInBounds_toArray,List.set_cons_zero,List.set_cons_succ,i64_w,i32_w]
    rfl
   refine zp (i:=7) (N:=some 11) HT_ ?_
   refine done_ (done_of HT_.out (by kernel_rfl)) ?_
   obtain⟨Ao20,co20,rfl⟩:=Kd.N_slice HO_9.out
   obtain⟨Ao21,co21,rfl⟩:=Kd.R_slice HOb1.out
   try go_wp2_with (first|((with_reducible refine gC 111 ?_);refine zG (some 35) Try.func111 #[.slice Ao20 x9_1.length co20, .slice Ao21 ta9.length co21] ?_;(with_reducible refine(r24_has.calls k1 _ _ x9_1 _ _ ta9 true _ ?side1 ?side2 ?side3 ?side4 A16.out).mono ?_);(case side1=>exact zC (Kd.N_reads' HO_9.out).2.2);(case side2=>exact(Kd.N_reads' HO_9.out).2.1);(case side3=>exact zC (Kd.R_reads' HOb1.out).2.2);(case side4=>exact(Kd.R_reads' HOb1.out).2.1);rintro e w' ⟨rfl,⟨nd,rfl⟩⟩;refine⟨_,rfl,?_⟩))
   go_roundg k1
   case measure=>have:=HK1.out;omega
   case rel=>exact⟨(x9_1),(wrap64 (x10_1+1)),zF,H',⟨zo1 HK1⟩,⟨by(with_reducible repeat(first|apply Kd.N_alloc|apply Kd.N_drewN|apply Kd.N_drew));exact Kd.N_mono HO_9.out (fun _ hk=>⟨hk.1.1,hk.1.2⟩)⟩,⟨zK BKa1.out⟩,⟨zB1 HB.out GEa1.out⟩⟩
  replace c17:=Bool.eq_false_iff.mpr c17
  subst c17
  rw[if_neg Bool.false_ne_true] at H
  replace H:=zb H
  obtain⟨tb3,A22,H⟩:=H
  replace H:=zh H
  obtain⟨c23,H⟩:=H
  have c23b0:=beq_eq_false_iff_ne.mpr c23
  have c23b1:=bne_iff_ne.mpr c23
  replace H:=zi H
  rcases H with⟨c24,H⟩|⟨c24,H⟩
  ·have c24b0:decide ((wrap64 (Int.tdiv a3 tb3))<(x9_1.length:Int))=true:=decide_eq_true c24
   clear c24
   obtain rfl:=Option.some.inj H
   try go_wp2
   replace HO_9:=zk (Kd.N_drew HO_9.out)
   replace BKa1:=zk (blk_drew BKa1.out)
   replace HB:=zk (below_drew1 HB.out)
   have pa8:0≤(x10_1:Int):=zd
   have qa8:x10_1<(l2.length:Int):=zd
   obtain⟨ada8,Aa8_0,ca8_0,ea8,hxa8_0,hla8_0,hia8_0⟩:=at_L1 HR2.out x10_1 pa8 qa8
   have hw108_0:=hxa8_0
   cases ea8
   replace hxa8_0:=(HB.out.cell (World.block_lt_of_cell? w _ hxa8_0)).trans hxa8_0
   have HRa8_0:=zk hia8_0
   have HCa8_0:=zk hla8_0
   clear hia8_0 hla8_0
   replace pa8:=eq_true pa8
   replace qa8:=eq_true qa8
   refine start_ (n:=8) (S:=fun w'=>w'.cell? ⟨gba1,0,none⟩=some (.int .i64 a0_0)∧w'.cell? ⟨gba1,1,none⟩=some (.int .i64 a0_1)∧w'.cell? ⟨gba1,2,none⟩=some (.slice A0_2 l0_2.length c0_2)∧w'.cell? (ada8.add (x10_1).toNat)=some (.slice Aa8_0 (rd_L1 l2 x10_1).length ca8_0)) (ds:=[]) #[false,false,false,false,false,false,false,false] (by kernel_rfl) rfl rfl ⟨(blk_cell BKa1.out 0).trans rfl,(blk_cell BKa1.out 1).trans rfl,(blk_cell BKa1.out 2).trans rfl,((HB.out.cell (World.block_lt_of_cell? w _ hw108_0)).trans hw108_0)⟩ (fun hHeld=>?_);refine with_tabW r24_Span.tab5 r24_Span.bits5 (fun HT_ HW_=>?_)
   first|(generalize wr.drew=w25 at HO_9 BKa1 HB HRa8_0 hxa8_0 hHeld ⊢)|(generalize wr.drew=w25 at HO_9 BKa1 HB HRa8_0 hHeld ⊢)
   refine zp (i:=1) (N:=some 27) HT_ ?_
   refine zp (i:=2) (N:=some 28) HT_ ?_
   refine zp (i:=3) (N:=some 29) HT_ ?_
   refine zp (i:=4) (N:=some 30) HT_ ?_
   refine take_ (i:=0) (N:=some 26) (v:=?_) (a':=?_) #[true,true,true,true,true,false,false,false] rfl rfl (take_ofW HT_.out HW_.out (by kernel_rfl)) (fun _ _ _ h=>h) (Or.inl ⟨by rfl,?_⟩) hHeld ?_ ?_
   rotate_left
   ·rintro w' ⟨s0,s1,s2,s3⟩
    go_simp
    with_reducible rfl
   rotate_left
   ·simp only[Act.put,List.setIfInBounds_toArray,List.set_cons_zero,List.set_cons_succ,i64_w,i32_w]
    rfl
   refine take_ (i:=5) (N:=some 31) (v:=?_) (a':=?_) #[true,true,true,true,true,true,false,false] rfl rfl (take_ofW HT_.out HW_.out (by kernel_rfl)) (fun _ _ _ h=>h) (Or.inl ⟨by rfl,?_⟩) hHeld ?_ ?_
   rotate_left
   ·rintro w' ⟨s0,s1,s2,s3⟩
    go_simp
    with_reducible rfl
   rotate_left
   ·simp only[Act.put,List.setIfInBounds_toArray,List.set_cons_zero,List.set_cons_succ,i64_w,i32_w]
    rfl
   refine one_ (i:=6) (N:=some 32) #[true,true,true,true,true,true,true,false] rfl rfl (one_of HT_.out (by kernel_rfl)) (by decide) (fun K hK=>?_)
   refine goes_ Try.func60 (by kernel_rfl) rfl #[.agg #[.int .i64 a0_0, .int .i64 a0_1, .slice A0_2 l0_2.length c0_2], .int .i64 a1, .slice Aa8_0 (rd_L1 l2 x10_1).length ca8_0] (by rfl) rfl rfl (by(try simp only[List.map_toArray,List.map_cons,List.map_nil]);first|done|rfl|(simp only[List.length_drop,List.length_take];rfl)) ?_
   with_reducible refine(r24_Row.calls k1 a0_0 a0_1 _ _ l0_2 a1 _ _ (rd_L1 l2 x10_1) ta9 _ ?side1 ?side2 ?side3 ?side4 A15.out).mono ?_
   (case side1=>exact zC (Kd.C_below HR0_2.out HB.out))
   (case side2=>exact HC0_2.out)
   (case side3=>exact zC (Kd.C_below HRa8_0.out HB.out))
   (case side4=>exact HCa8_0.out)
   rintro e w26 ⟨vb0,rfl,ho0,hb⟩
   refine⟨_,rfl,?_⟩
   replace HO_9:=yNe HO_9 ho0 hb
   replace ho0:=Kd.R_newM (M:=fun k_=>(w.heap.size≤k_)) ho0 (below_size (zB1 HB.out GEa1.out)) (fun k_ h_=>h_)
   have HOb1:=yRl1 ho0 HB GEa1
   replace BKa1:=yK BKa1 hb
   replace HB:=yS1 HB GEa1 hb
   (try clear hb)
   (try clear ho0)
   refine hK.out _ _ ⟨(blk_cell BKa1.out 0).trans rfl,(blk_cell BKa1.out 1).trans rfl,(blk_cell BKa1.out 2).trans rfl,((HB.out.cell (World.block_lt_of_cell? w _ hw108_0)).trans hw108_0)⟩ (fun hHeld=>?_)
   clear hK K
   refine norm_ (a':=?_) ?_ ?_
   rotate_left
   ·show Act.put _ (some 32) _=_
    simp only[Act.put,List.setIfInBounds_toArray,List.set_cons_zero,List.set_cons_succ,i64_w,i32_w]
    rfl
   refine zp (i:=7) (N:=some 11) HT_ ?_
   refine done_ (done_of HT_.out (by kernel_rfl)) ?_
   obtain⟨Ao27,co27,rfl⟩:=Kd.N_slice HO_9.out
   obtain⟨Ao28,co28,rfl⟩:=Kd.R_slice HOb1.out
   try go_wp2_with (first|((with_reducible refine gC 111 ?_);refine zG (some 35) Try.func111 #[.slice Ao27 x9_1.length co27, .slice Ao28 ta9.length co28] ?_;(with_reducible refine(r24_has.calls k1 _ _ x9_1 _ _ ta9 false _ ?side1 ?side2 ?side3 ?side4 A16.out).mono ?_);(case side1=>exact zC (Kd.N_reads' HO_9.out).2.2);(case side2=>exact(Kd.N_reads' HO_9.out).2.1);(case side3=>exact zC (Kd.R_reads' HOb1.out).2.2);(case side4=>exact(Kd.R_reads' HOb1.out).2.1);rintro e w' ⟨rfl,⟨nd,rfl⟩⟩;refine⟨_,rfl,?_⟩;obtain⟨hcz29_0,hcz29_1,hcz29_2,hfz29_0,hfz29_1,hfz29_2⟩:=zz3 BKa1)|((with_reducible refine gC 24 ?_);refine zG (some 40) Try.func24 #[.agg #[.int .i64 a0_0, .int .i64 a0_1, .slice A0_2 l0_2.length c0_2]] ?_;(with_reducible refine(r4_Order.calls k1 a0_0 a0_1 _ _ l0_2 tb3 _ ?side1 ?side2 A22.out).mono ?_);(case side1=>exact zC (Kd.C_below HR0_2.out (zB1 HB.out GEa1.out)));(case side2=>exact HC0_2.out);rintro e w30 ⟨rfl,hb⟩;refine⟨_,rfl,?_⟩;replace HO_9:=yNb HO_9 hb;replace HOb1:=yRb HOb1 hb;replace BKa1:=yK BKa1 hb;replace HB:=yS1 HB GEa1 hb;(try clear hb);(try clear hb2);(try clear hk);(try clear hi)))
   go_ret
   exact⟨_,zE,by first|exact Kd.S_nil _ _ _ _ _|exact Kd.N_nil _ _ _ _ _|exact Kd.V_nil _ _ _ _ _|exact Kd.Q_nil _ _ _ _ _|exact Kd.R_nil _ _ _ _ _,zB1 HB.out GEa1.out⟩
  have c24b0:decide ((wrap64 (Int.tdiv a3 tb3))<(x9_1.length:Int))=false:=decide_eq_false c24
  clear c24
  have H':=zk H
  clear H
  try go_wp2
  replace HO_9:=zk (Kd.N_drew HO_9.out)
  replace BKa1:=zk (blk_drew BKa1.out)
  replace HB:=zk (below_drew1 HB.out)
  have pa8:0≤(x10_1:Int):=zd
  have qa8:x10_1<(l2.length:Int):=zd
  obtain⟨ada8,Aa8_0,ca8_0,ea8,hxa8_0,hla8_0,hia8_0⟩:=at_L1 HR2.out x10_1 pa8 qa8
  have hw108_0:=hxa8_0
  cases ea8
  replace hxa8_0:=(HB.out.cell (World.block_lt_of_cell? w _ hxa8_0)).trans hxa8_0
  have HRa8_0:=zk hia8_0
  have HCa8_0:=zk hla8_0
  clear hia8_0 hla8_0
  replace pa8:=eq_true pa8
  replace qa8:=eq_true qa8
  refine start_ (n:=8) (S:=fun w'=>w'.cell? ⟨gba1,0,none⟩=some (.int .i64 a0_0)∧w'.cell? ⟨gba1,1,none⟩=some (.int .i64 a0_1)∧w'.cell? ⟨gba1,2,none⟩=some (.slice A0_2 l0_2.length c0_2)∧w'.cell? (ada8.add (x10_1).toNat)=some (.slice Aa8_0 (rd_L1 l2 x10_1).length ca8_0)) (ds:=[]) #[false,false,false,false,false,false,false,false] (by kernel_rfl) rfl rfl ⟨(blk_cell BKa1.out 0).trans rfl,(blk_cell BKa1.out 1).trans rfl,(blk_cell BKa1.out 2).trans rfl,((HB.out.cell (World.block_lt_of_cell? w _ hw108_0)).trans hw108_0)⟩ (fun hHeld=>?_);refine with_tabW r24_Span.tab5 r24_Span.bits5 (fun HT_ HW_=>?_)
  first|(generalize wr.drew=w31 at HO_9 BKa1 HB HRa8_0 hxa8_0 hHeld ⊢)|(generalize wr.drew=w31 at HO_9 BKa1 HB HRa8_0 hHeld ⊢)
  refine zp (i:=1) (N:=some 27) HT_ ?_
  refine zp (i:=2) (N:=some 28) HT_ ?_
  refine zp (i:=3) (N:=some 29) HT_ ?_
  refine zp (i:=4) (N:=some 30) HT_ ?_
  refine take_ (i:=0) (N:=some 26) (v:=?_) (a':=?_) #[true,true,true,true,true,false,false,false] rfl rfl (take_ofW HT_.out HW_.out (by kernel_rfl)) (fun _ _ _ h=>h) (Or.inl ⟨by rfl,?_⟩) hHeld ?_ ?_
  rotate_left
  ·rintro w' ⟨s0,s1,s2,s3⟩
   go_simp
   with_reducible rfl
  rotate_left
  ·simp only[Act.put,List.setIfInBounds_toArray,List.set_cons_zero,List.set_cons_succ,i64_w,i32_w]
   rfl
  refine take_ (i:=5) (N:=some 31) (v:=?_) (a':=?_) #[true,true,true,true,true,true,false,false] rfl rfl (take_ofW HT_.out HW_.out (by kernel_rfl)) (fun _ _ _ h=>h) (Or.inl ⟨by rfl,?_⟩) hHeld ?_ ?_
  rotate_left
  ·rintro w' ⟨s0,s1,s2,s3⟩
   go_simp
   with_reducible rfl
  rotate_left
  ·simp only[Act.put,List.setIfInBounds_toArray,List.set_cons_zero,List.set_cons_succ,i64_w,i32_w]
   rfl
  refine one_ (i:=6) (N:=some 32) #[true,true,true,true,true,true,true,false] rfl rfl (one_of HT_.out (by kernel_rfl)) (by decide) (fun K hK=>?_)
  refine goes_ Try.func60 (by kernel_rfl) rfl #[.agg #[.int .i64 a0_0, .int .i64 a0_1, .slice A0_2 l0_2.length c0_2], .int .i64 a1, .slice Aa8_0 (rd_L1 l2 x10_1).length ca8_0] (by rfl) rfl rfl (by(try simp only[List.map_toArray,List.map_cons,List.map_nil]);first|done|rfl|(simp only[List.length_drop,List.length_take];rfl)) ?_
  with_reducible refine(r24_Row.calls k1 a0_0 a0_1 _ _ l0_2 a1 _ _ (rd_L1 l2 x10_1) ta9 _ ?side1 ?side2 ?side3 ?side4 A15.out).mono ?_
  (case side1=>exact zC (Kd.C_below HR0_2.out HB.out))
  (case side2=>exact HC0_2.out)
  (case side3=>exact zC (Kd.C_below HRa8_0.out HB.out))
  (case side4=>exact HCa8_0.out)
  rintro e w32 ⟨vb0,rfl,ho0,hb⟩
  refine⟨_,rfl,?_⟩
  replace HO_9:=yNe HO_9 ho0 hb
  replace ho0:=Kd.R_newM (M:=fun k_=>(w.heap.size≤k_)) ho0 (below_size (zB1 HB.out GEa1.out)) (fun k_ h_=>h_)
  have HOb1:=yRl1 ho0 HB GEa1
  replace BKa1:=yK BKa1 hb
  replace HB:=yS1 HB GEa1 hb
  (try clear hb)
  (try clear ho0)
  refine hK.out _ _ ⟨(blk_cell BKa1.out 0).trans rfl,(blk_cell BKa1.out 1).trans rfl,(blk_cell BKa1.out 2).trans rfl,((HB.out.cell (World.block_lt_of_cell? w _ hw108_0)).trans hw108_0)⟩ (fun hHeld=>?_)
  clear hK K
  refine norm_ (a':=?_) ?_ ?_
  rotate_left
  ·show Act.put _ (some 32) _=_
   simp only[Act.put,List.setIfInBounds_toArray,List.set_cons_zero,List.set_cons_succ,i64_w,i32_w]
   rfl
  refine zp (i:=7) (N:=some 11) HT_ ?_
  refine done_ (done_of HT_.out (by kernel_rfl)) ?_
  obtain⟨Ao33,co33,rfl⟩:=Kd.N_slice HO_9.out
  obtain⟨Ao34,co34,rfl⟩:=Kd.R_slice HOb1.out
  try go_wp2_with (first|((with_reducible refine gC 111 ?_);refine zG (some 35) Try.func111 #[.slice Ao33 x9_1.length co33, .slice Ao34 ta9.length co34] ?_;(with_reducible refine(r24_has.calls k1 _ _ x9_1 _ _ ta9 false _ ?side1 ?side2 ?side3 ?side4 A16.out).mono ?_);(case side1=>exact zC (Kd.N_reads' HO_9.out).2.2);(case side2=>exact(Kd.N_reads' HO_9.out).2.1);(case side3=>exact zC (Kd.R_reads' HOb1.out).2.2);(case side4=>exact(Kd.R_reads' HOb1.out).2.1);rintro e w' ⟨rfl,⟨nd,rfl⟩⟩;refine⟨_,rfl,?_⟩;obtain⟨hcz35_0,hcz35_1,hcz35_2,hfz35_0,hfz35_1,hfz35_2⟩:=zz3 BKa1)|((with_reducible refine gC 24 ?_);refine zG (some 40) Try.func24 #[.agg #[.int .i64 a0_0, .int .i64 a0_1, .slice A0_2 l0_2.length c0_2]] ?_;(with_reducible refine(r4_Order.calls k1 a0_0 a0_1 _ _ l0_2 tb3 _ ?side1 ?side2 A22.out).mono ?_);(case side1=>exact zC (Kd.C_below HR0_2.out (zB1 HB.out GEa1.out)));(case side2=>exact HC0_2.out);rintro e w36 ⟨rfl,hb⟩;refine⟨_,rfl,?_⟩;replace HO_9:=yNb HO_9 hb;replace HOb1:=yRb HOb1 hb;replace BKa1:=yK BKa1 hb;replace HB:=yS1 HB GEa1 hb;(try clear hb);(try clear hb2);(try clear hk);(try clear hi)))
  go_loopg [12,13] k1 (fun kq v12 v13 w'=>∃(x11_2:List Int) (x12_2:List (List Int)) (x13_2:Int),v13= .int .i64 x13_2∧Aside0 (r24_Span.l1 kq a1 l2 a3 x9_1 x10_1 x11_2 x12_2 x13_2 a0_0 a0_1 l0_2=some r)∧Aside0 (kq≤k1)∧Aside0 (Kd.N (Kd.slice 3 (Kd.int .i64)) 22 w' w.heap.size (fun k_=>(w.heap.size≤k_)∧some k_≠((.slice Ao34 ta9.length co34):Value).ownBlock∧some k_≠(v12:Value).ownBlock∧k_≠gba1) (.slice Ao33 x9_1.length co33) x9_1)∧Aside0 (Kd.R (Kd.int .i64) 3 w' w.heap.size (fun k_=>(w.heap.size≤k_)) (.slice Ao34 ta9.length co34) x11_2)∧Aside0 (Kd.N (Kd.slice 3 (Kd.int .i64)) 22 w' w.heap.size (fun k_=>(w.heap.size≤k_)∧some k_≠((.slice Ao33 x9_1.length co33):Value).ownBlock∧some k_≠((.slice Ao34 ta9.length co34):Value).ownBlock∧k_≠gba1) v12 x12_2)∧Aside0 (w'.heap[gba1]?=some (.cells #[.int .i64 a0_0, .int .i64 a0_1,(.slice A0_2 l0_2.length c0_2)] 24 (0,0)))∧Aside0 (Below w.heap.size w w'))
  case atStart=>exact⟨(ta9),(([]:List (List Int))),(0),zF,H',⟨Nat.le_refl _⟩,⟨by(with_reducible repeat(first|apply Kd.N_alloc|apply Kd.N_drewN|apply Kd.N_drew));exact Kd.N_mono HO_9.out (fun _ hk=>⟨hk.1.1,⟨hk.2,⟨(by simp [Value.ownBlock]),hk.1.2⟩⟩⟩)⟩,⟨by(with_reducible repeat(first|apply Kd.R_alloc|apply Kd.R_drewN|apply Kd.R_drew));exact Kd.R_mono HOb1.out (fun _ hk=>hk.1)⟩,⟨by first|exact Kd.S_nil _ _ _ _ _|exact Kd.N_nil _ _ _ _ _|exact Kd.V_nil _ _ _ _ _|exact Kd.Q_nil _ _ _ _ _|exact Kd.R_nil _ _ _ _ _⟩,⟨zK BKa1.out⟩,⟨zB1 HB.out GEa1.out⟩⟩
  clear H'
  (try clear c5);(try clear c5b0);(try clear c5b1);(try clear c6);(try clear c6b0);(try clear c6b1);(try clear c13b0);(try clear c14b0);(try clear c17);(try clear c23);(try clear c23b0);(try clear c23b1);(try clear c24);(try clear c24b0);(try clear hcz29_0);(try clear hcz29_1);(try clear hcz29_2);(try clear hcz35_0);(try clear hcz35_1);(try clear hcz35_2);(try clear hfz29_0);(try clear hfz29_1);(try clear hfz29_2);(try clear hfz35_0);(try clear hfz35_1);(try clear hfz35_2);(try clear hxa8_0);(try clear pa8);(try clear qa8)
  obtain⟨x11_2,x12_2,x13_2,rfl,HA,HK2,HO_9,HO_11,HO_12,BKa1,HB⟩:=hrel
  have hl11_2:=(Kd.R_reads' HO_11.out).1
  rw[hl11_2] at HO_11
  (try simp only[hl11_2])
  (try simp only[hl11_2] at BKa1)
  (try simp only[hl11_2] at HO_9)
  (try simp only[hl11_2] at HO_12)
  cases gk with|zero=>exact absurd HA.out (by simp [r24_Span.l1])|succ k2=>?_
  have H:=HA.out
  clear HA
  simp only[r24_Span.l1] at H
  replace H:=zb H
  obtain⟨tb4,A37,H⟩:=H
  replace H:=zid H
  rcases H with⟨c38b0,H⟩|⟨c38b0,H⟩
  ·have H':=zk H
   clear H
   obtain⟨hcz39_0,hcz39_1,hcz39_2,hfz39_0,hfz39_1,hfz39_2⟩:=zz3 BKa1
   go_wp2_with (first|((with_reducible refine gC 24 ?_);refine zG (some 45) Try.func24 #[.agg #[.int .i64 a0_0, .int .i64 a0_1, .slice A0_2 l0_2.length c0_2]] ?_;(with_reducible refine(r4_Order.calls k2 a0_0 a0_1 _ _ l0_2 tb4 _ ?side1 ?side2 A37.out).mono ?_);(case side1=>exact zC (Kd.C_below HR0_2.out HB.out));(case side2=>exact HC0_2.out);rintro e w40 ⟨rfl,hb⟩;refine⟨_,rfl,?_⟩;replace HO_9:=yNb HO_9 hb;replace HO_11:=yRb HO_11 hb;replace HO_12:=yNb HO_12 hb;replace BKa1:=yK BKa1 hb;replace HB:=yS1 HB GEa1 hb;(try clear hb);(try clear hb2);(try clear hk);(try clear hi)))
   go_loopg [12,14] k2 (fun kq v12 v14 w'=>∃(x11_3:List Int) (x12_3:List (List Int)) (x14_3:Int),v14= .int .i64 x14_3∧Aside0 (r24_Span.l2 kq a1 l2 a3 x9_1 x10_1 x11_3 x12_3 x13_2 x14_3 a0_0 a0_1 l0_2=some r)∧Aside0 (kq≤k2)∧Aside0 (Kd.N (Kd.slice 3 (Kd.int .i64)) 22 w' w.heap.size (fun k_=>(w.heap.size≤k_)∧some k_≠((.slice Ao34 x11_2.length co34):Value).ownBlock∧some k_≠(v12:Value).ownBlock∧k_≠gba1) (.slice Ao33 x9_1.length co33) x9_1)∧Aside0 (Kd.R (Kd.int .i64) 3 w' w.heap.size (fun k_=>(w.heap.size≤k_)) (.slice Ao34 x11_2.length co34) x11_3)∧Aside0 (Kd.N (Kd.slice 3 (Kd.int .i64)) 22 w' w.heap.size (fun k_=>(w.heap.size≤k_)∧some k_≠((.slice Ao33 x9_1.length co33):Value).ownBlock∧some k_≠((.slice Ao34 x11_2.length co34):Value).ownBlock∧k_≠gba1) v12 x12_3)∧Aside0 (w'.heap[gba1]?=some (.cells #[.int .i64 a0_0, .int .i64 a0_1,(.slice A0_2 l0_2.length c0_2)] 24 (0,0)))∧Aside0 (Below w.heap.size w w'))
   case atStart=>exact⟨(x11_2),(x12_2),(0),zF,H',⟨Nat.le_refl _⟩,⟨by(try simp only[hl11_2]);(with_reducible repeat(first|apply Kd.N_alloc|apply Kd.N_drewN|apply Kd.N_drew));exact HO_9.out⟩,⟨by(try simp only[hl11_2]);(with_reducible repeat(first|apply Kd.R_alloc|apply Kd.R_drewN|apply Kd.R_drew));exact HO_11.out⟩,⟨by(try simp only[hl11_2]);(with_reducible repeat(first|apply Kd.N_alloc|apply Kd.N_drewN|apply Kd.N_drew));exact HO_12.out⟩,⟨by(try simp only[hl11_2]);(with_reducible repeat(first|refine blk_drewN ?_ _|refine blk_drew ?_|refine blk_alloc ?_ _));exact BKa1.out⟩,⟨zB1 HB.out GEa1.out⟩⟩
   clear H'
   (try clear c5);(try clear c5b0);(try clear c5b1);(try clear c6);(try clear c6b0);(try clear c6b1);(try clear c13b0);(try clear c14b0);(try clear c17);(try clear c23);(try clear c23b0);(try clear c23b1);(try clear c24);(try clear c24b0);(try clear c38b0);(try clear hcz29_0);(try clear hcz29_1);(try clear hcz29_2);(try clear hcz35_0);(try clear hcz35_1);(try clear hcz35_2);(try clear hcz39_0);(try clear hcz39_1);(try clear hcz39_2);(try clear hfz29_0);(try clear hfz29_1);(try clear hfz29_2);(try clear hfz35_0);(try clear hfz35_1);(try clear hfz35_2);(try clear hfz39_0);(try clear hfz39_1);(try clear hfz39_2);(try clear hxa8_0);(try clear pa8);(try clear qa8)
   obtain⟨x11_3,x12_3,x14_3,rfl,HA,HK3,HO_9,HO_11,HO_12,BKa1,HB⟩:=hrel
   have hl11_3:=(Kd.R_reads' HO_11.out).1
   rw[hl11_3] at HO_11
   (try simp only[hl11_3])
   (try simp only[hl11_3] at BKa1)
   (try simp only[hl11_3] at HO_9)
   (try simp only[hl11_3] at HO_12)
   cases gk with|zero=>exact absurd HA.out (by simp [r24_Span.l2])|succ k3=>?_
   have H:=HA.out
   clear HA
   simp only[r24_Span.l2] at H
   replace H:=zi H
   rcases H with⟨c41,H⟩|⟨c41,H⟩
   ·have c41b0:=decide_eq_true c41
    (try(have c41h0:=c41b0;simp only[hl11_2,hl11_3] at c41h0))
    clear c41
    replace H:=zg H
    obtain⟨c42,H⟩:=H
    have c42b0:=eq_true c42
    have c42b1:=decide_eq_true c42
    clear c42
    replace H:=zg H
    obtain⟨c43,H⟩:=H
    have c43b0:=eq_true c43
    have c43b1:=decide_eq_true c43
    clear c43
    obtain⟨yb5,hyb5⟩:∃y_:List Int,y_=(List.replicate (a1:Int).toNat 0):=⟨_,rfl⟩
    replace H:(r24_Span.l3 k3 a1 l2 a3 x9_1 x10_1 x11_3 x12_3 x13_2 x14_3 yb5 0 a0_0 a0_1 l0_2)=some r:=zY hyb5 H
    have Nyb5:=zk hyb5
    clear hyb5
    have H':=zk H
    clear H
    go_wp2_with (first|((with_reducible refine gate_dst (N:=56) rfl ?_);refine Kd.R_make (Kd.int .i64) _ 3 rfl (N:=56) rfl 22 _ _ rfl a1 rfl rfl Try.underlying22 (.int .i64 0) 8 info3 rfl (by decide) (by omega) 0 (ok:=fun _=>True) (okp:=fun _=>True) rfl (fun _ hk=>hk) trivial zd (Nat.le_trans (Nat.mul_le_mul_right _ (zd:a1.toNat≤35184372088832)) (by omega)) (Below.refl _ _) (Nat.le_refl _) ?_;intro vb6 w44 ho45 hb hg_ hnew_;clear hg_ hnew_;(first|rw[←Nyb5.out] at ho45|(simp only[Int.reduceToNat] at ho45;rw[←Nyb5.out] at ho45));replace HO_9:=yNe HO_9 ho45 hb;replace HO_12:=yNe HO_12 ho45 hb;replace ho45:=Kd.R_newM (M:=fun k_=>(w.heap.size≤k_)) ho45 (below_size (zB1 HB.out GEa1.out)) (fun k_ h_=>h_);replace ho45:=yn ho45 HO_11;have HOb7:=yRl1 ho45 HB GEa1;replace HO_11:=yRe HO_11 ho45 hb;replace BKa1:=yK BKa1 hb;replace HB:=yS1 HB GEa1 hb;clear hb ho45))
    go_loopg [16] k3 (fun kq v16 w'=>∃(x15_4:List Int) (x16_4:Int),v16= .int .i64 x16_4∧Aside0 (r24_Span.l3 kq a1 l2 a3 x9_1 x10_1 x11_3 x12_3 x13_2 x14_3 x15_4 x16_4 a0_0 a0_1 l0_2=some r)∧Aside0 (kq≤k3)∧Aside0 (Kd.N (Kd.slice 3 (Kd.int .i64)) 22 w' w.heap.size (fun k_=>(w.heap.size≤k_)∧some k_≠((.slice Ao34 x11_3.length co34):Value).ownBlock∧some k_≠(u12:Value).ownBlock∧some k_≠(vb6:Value).ownBlock∧k_≠gba1) (.slice Ao33 x9_1.length co33) x9_1)∧Aside0 (Kd.R (Kd.int .i64) 3 w' w.heap.size (fun k_=>(w.heap.size≤k_)∧some k_≠(vb6:Value).ownBlock) (.slice Ao34 x11_3.length co34) x11_3)∧Aside0 (Kd.N (Kd.slice 3 (Kd.int .i64)) 22 w' w.heap.size (fun k_=>(w.heap.size≤k_)∧some k_≠((.slice Ao33 x9_1.length co33):Value).ownBlock∧some k_≠((.slice Ao34 x11_3.length co34):Value).ownBlock∧some k_≠(vb6:Value).ownBlock∧k_≠gba1) u12 x12_3)∧Aside0 (Kd.R (Kd.int .i64) 3 w' w.heap.size (fun k_=>(w.heap.size≤k_)∧some k_≠((.slice Ao34 x11_3.length co34):Value).ownBlock) vb6 x15_4)∧Aside0 (w'.heap[gba1]?=some (.cells #[.int .i64 a0_0, .int .i64 a0_1,(.slice A0_2 l0_2.length c0_2)] 24 (0,0)))∧Aside0 (Below w.heap.size w w'))
    case atStart=>exact⟨(yb5),(0),zF,H',⟨Nat.le_refl _⟩,⟨by(try simp only[hl11_2]);(try simp only[hl11_3]);(with_reducible repeat(first|apply Kd.N_alloc|apply Kd.N_drewN|apply Kd.N_drew));exact Kd.N_mono HO_9.out (fun _ hk=>⟨hk.1.1,⟨hk.1.2.1,⟨hk.1.2.2.1,⟨hk.2,hk.1.2.2.2⟩⟩⟩⟩)⟩,⟨by(try simp only[hl11_2]);(try simp only[hl11_3]);(with_reducible repeat(first|apply Kd.R_alloc|apply Kd.R_drewN|apply Kd.R_drew));exact HO_11.out⟩,⟨by(try simp only[hl11_2]);(try simp only[hl11_3]);(with_reducible repeat(first|apply Kd.N_alloc|apply Kd.N_drewN|apply Kd.N_drew));exact Kd.N_mono HO_12.out (fun _ hk=>⟨hk.1.1,⟨hk.1.2.1,⟨hk.1.2.2.1,⟨hk.2,hk.1.2.2.2⟩⟩⟩⟩)⟩,⟨by(try simp only[hl11_2]);(try simp only[hl11_3]);(with_reducible repeat(first|apply Kd.R_alloc|apply Kd.R_drewN|apply Kd.R_drew));exact Kd.R_mono HOb7.out (fun _ hk=>⟨hk.1.1,hk.2⟩)⟩,⟨by(try simp only[hl11_2]);(try simp only[hl11_3]);(with_reducible repeat(first|refine blk_drewN ?_ _|refine blk_drew ?_|refine blk_alloc ?_ _));exact BKa1.out⟩,⟨zB1 HB.out GEa1.out⟩⟩
    clear H'
    (try clear c5);(try clear c5b0);(try clear c5b1);(try clear c6);(try clear c6b0);(try clear c6b1);(try clear c13b0);(try clear c14b0);(try clear c17);(try clear c23);(try clear c23b0);(try clear c23b1);(try clear c24);(try clear c24b0);(try clear c38b0);(try clear c41);(try clear c41b0);(try clear c42);(try clear c42b0);(try clear c42b1);(try clear c43);(try clear c43b0);(try clear c43b1);(try clear hcz29_0);(try clear hcz29_1);(try clear hcz29_2);(try clear hcz35_0);(try clear hcz35_1);(try clear hcz35_2);(try clear hcz39_0);(try clear hcz39_1);(try clear hcz39_2);(try clear hfz29_0);(try clear hfz29_1);(try clear hfz29_2);(try clear hfz35_0);(try clear hfz35_1);(try clear hfz35_2);(try clear hfz39_0);(try clear hfz39_1);(try clear hfz39_2);(try clear hxa8_0);(try clear pa8);(try clear qa8)
    obtain⟨x15_4,x16_4,rfl,HA,HK4,HO_9,HO_11,HO_12,HO_15,BKa1,HB⟩:=hrel
    cases gk with|zero=>exact absurd HA.out (by simp [r24_Span.l3])|succ k4=>?_
    have H:=HA.out
    clear HA
    simp only[r24_Span.l3] at H
    replace H:=zid H
    rcases H with⟨c46b0,H⟩|⟨c46b0,H⟩
    ·replace H:=zgd H
     obtain⟨c47b0,H⟩:=H
     replace H:=zg H
     obtain⟨c48,H⟩:=H
     have c48b0:=decide_eq_true c48
     (try(have c48h0:=c48b0;simp only[hl11_2,hl11_3] at c48h0))
     clear c48
     replace H:=zgd H
     obtain⟨c49b0,H⟩:=H
     replace H:=zg H
     obtain⟨c50,H⟩:=H
     have c50b0:=decide_eq_true c50
     (try(have c50h0:=c50b0;simp only[hl11_2,hl11_3] at c50h0))
     clear c50
     replace H:=zg H
     obtain⟨c51,H⟩:=H
     have c51b0:=decide_eq_true c51
     (try(have c51h0:=c51b0;simp only[hl11_2,hl11_3] at c51h0))
     clear c51
     replace H:=zb H
     obtain⟨tc1,A52,H⟩:=H
     replace H:=zb H
     obtain⟨tc2,A53,H⟩:=H
     replace H:=zg H
     obtain⟨c54,H⟩:=H
     have c54b0:=decide_eq_true c54
     (try(have c54h0:=c54b0;simp only[hl11_2,hl11_3] at c54h0))
     clear c54
     obtain⟨yc3,hyc3⟩:∃y_:List Int,y_=(x15_4.set (x16_4:Int).toNat tc2):=⟨_,rfl⟩
     replace H:(r24_Span.l3 k4 a1 l2 a3 x9_1 x10_1 x11_3 x12_3 x13_2 x14_3 yc3 (wrap64 (x16_4+1)) a0_0 a0_1 l0_2)=some r:=zY hyc3 H
     have Nyc3:=zk hyc3
     clear hyc3
     have H':=zk H
     clear H
     try go_wp2
     replace HO_9:=zk (Kd.N_drew HO_9.out)
     replace HO_11:=zk (Kd.R_drew HO_11.out)
     replace HO_12:=zk (Kd.N_drew HO_12.out)
     replace HO_15:=zk (Kd.R_drew HO_15.out)
     replace BKa1:=zk (blk_drew BKa1.out)
     replace HB:=zk (below_drew1 HB.out)
     have pb8:0≤(x14_3:Int):=zd
     have qb8:x14_3<(x9_1.length:Int):=zd
     obtain⟨adb8,Ab8_0,cb8_0,eb8,hxb8_0,hlb8_0,hib8_0⟩:=at_L1 (Kd.N_reads' HO_9.out).2.2 x14_3 pb8 qb8
     cases eb8
     obtain⟨ceb8,hceb8,hMeb8,hccb8⟩:=Kd.N_get HO_9.out [] x14_3 pb8 (by first|exact qb8|exact zd|(have e_:=(Kd.N_reads' HO_9.out).1;omega))
     obtain⟨uab8_0,ucb8_0,rfl,ulb8_0,geb8_0⟩:=Kd.FK_slice_open hMeb8
     have hvb8_0:=hccb8 0 _ rfl
     rw[Nat.add_zero,show((Kd.slice 3 (Kd.int .i64))).sz=1 from rfl,Nat.mul_one] at hvb8_0
     replace hvb8_0:=Option.some.inj (hvb8_0.symm.trans hxb8_0)
     injection hvb8_0 with hva_ hvn_ hvc_
     rw[hva_] at geb8_0
     rw[hvc_] at ulb8_0
     have HLb8_0:=zk (show Kd.V (Kd.int .i64) 3 _ w.heap.size _ _ (rd_L1 x9_1 x14_3) from Kd.V_mk ulb8_0 geb8_0)
     clear hva_ hvn_ hvc_ geb8_0 ulb8_0
     clear hccb8 hceb8
     have HRb8_0:=zk hib8_0
     have HCb8_0:=zk hlb8_0
     clear hib8_0 hlb8_0
     replace pb8:=eq_true pb8
     replace qb8:=eq_true qb8
     have pb9:0≤(x16_4:Int):=zd
     have qb9:x16_4<((rd_L1 x9_1 x14_3).length:Int):=zd
     obtain⟨adb9,eb9,hxb9_0⟩:=Kd.at_int (zCr HRb8_0.out) x16_4 pb9 qb9
     cases eb9
     replace pb9:=eq_true pb9
     replace qb9:=eq_true qb9
     have pc0:0≤(x16_4:Int):=zd
     have qc0:x16_4<(x11_3.length:Int):=zd
     obtain⟨adc0,ec0,hxc0_0⟩:=Kd.at_int (Kd.R_reads' HO_11.out).2.2 x16_4 pc0 qc0
     cases ec0
     replace pc0:=eq_true pc0
     replace qc0:=eq_true qc0
     refine start_ (n:=20) (S:=fun w'=>w'.cell? ⟨gba1,0,none⟩=some (.int .i64 a0_0)∧w'.cell? ⟨gba1,1,none⟩=some (.int .i64 a0_1)∧w'.cell? ⟨gba1,2,none⟩=some (.slice A0_2 l0_2.length c0_2)∧w'.cell? (adb8.add (x14_3).toNat)=some (.slice (some adb9) (rd_L1 x9_1 x14_3).length cb8_0)∧w'.cell? (adb9.add (x16_4).toNat)=some (.int .i64 (rd (rd_L1 x9_1 x14_3) x16_4))∧w'.cell? (adc0.add (x16_4).toNat)=some (.int .i64 (rd x11_3 x16_4))) (ds:=[19]) #[false,false,false,false,false,false,false,false,false,false,false,false,false,false,false,false,false,false,false,false] (by kernel_rfl) rfl rfl ⟨(blk_cell BKa1.out 0).trans rfl,(blk_cell BKa1.out 1).trans rfl,(blk_cell BKa1.out 2).trans rfl,hxb8_0,hxb9_0,hxc0_0⟩ (fun hHeld=>?_);refine with_tabW r24_Span.tab20 r24_Span.bits20 (fun HT_ HW_=>?_)
     first|(generalize wr.drew=w56 at HO_9 HO_11 HO_12 HO_15 BKa1 HB HLb8_0 HRb8_0 hxb8_0 hxb9_0 hxc0_0 hHeld ⊢)|(generalize wr.drew=w56 at HO_9 HO_11 HO_12 HO_15 BKa1 HB HLb8_0 HRb8_0 hxb9_0 hxc0_0 hHeld ⊢)|(generalize wr.drew=w56 at HO_9 HO_11 HO_12 HO_15 BKa1 HB HLb8_0 HRb8_0 hxb8_0 hxc0_0 hHeld ⊢)|(generalize wr.drew=w56 at HO_9 HO_11 HO_12 HO_15 BKa1 HB HLb8_0 HRb8_0 hxb8_0 hxb9_0 hHeld ⊢)|(generalize wr.drew=w56 at HO_9 HO_11 HO_12 HO_15 BKa1 HB HLb8_0 HRb8_0 hxc0_0 hHeld ⊢)|(generalize wr.drew=w56 at HO_9 HO_11 HO_12 HO_15 BKa1 HB HLb8_0 HRb8_0 hxb9_0 hHeld ⊢)|(generalize wr.drew=w56 at HO_9 HO_11 HO_12 HO_15 BKa1 HB HLb8_0 HRb8_0 hxb8_0 hHeld ⊢)|(generalize wr.drew=w56 at HO_9 HO_11 HO_12 HO_15 BKa1 HB HLb8_0 HRb8_0 hHeld ⊢)
     refine zp (i:=0) (N:=some 62) HT_ ?_
     refine zp (i:=1) (N:=some 63) HT_ ?_
     refine zp (i:=3) (N:=some 65) HT_ ?_
     refine zp (i:=4) (N:=some 66) HT_ ?_
     refine zp (i:=5) (N:=some 67) HT_ ?_
     refine zp (i:=7) (N:=some 69) HT_ ?_
     refine zp (i:=11) (N:=some 73) HT_ ?_
     refine zp (i:=12) (N:=some 74) HT_ ?_
     refine zp (i:=13) (N:=some 75) HT_ ?_
     refine zp (i:=14) (N:=some 76) HT_ ?_
     refine take_ (i:=2) (N:=some 64) (v:=?_) (a':=?_) #[true,true,true,true,true,true,false,true,false,false,false,true,true,true,true,false,false,false,false,false] rfl rfl (take_ofW HT_.out HW_.out (by kernel_rfl)) (fun _ _ _ h=>h) (Or.inl ⟨by rfl,?_⟩) hHeld ?_ ?_
     rotate_left
     ·rintro w' ⟨s0,s1,s2,s3,s4,s5⟩
      go_simp
      with_reducible rfl
     rotate_left
     ·simp only[Act.put,List.setIfInBounds_toArray,List.set_cons_zero,List.set_cons_succ,i64_w,i32_w]
      rfl
     refine take_ (i:=6) (N:=some 68) (v:=?_) (a':=?_) #[true,true,true,true,true,true,true,true,false,false,false,true,true,true,true,false,false,false,false,false] rfl rfl (take_ofW HT_.out HW_.out (by kernel_rfl)) (fun _ _ _ h=>h) (Or.inl ⟨by rfl,?_⟩) hHeld ?_ ?_
     rotate_left
     ·rintro w' ⟨s0,s1,s2,s3,s4,s5⟩
      go_simp
      with_reducible rfl
     rotate_left
     ·simp only[Act.put,List.setIfInBounds_toArray,List.set_cons_zero,List.set_cons_succ,i64_w,i32_w]
      rfl
     refine zp (i:=8) (N:=some 70) HT_ ?_
     refine take_ (i:=9) (N:=some 71) (v:=?_) (a':=?_) #[true,true,true,true,true,true,true,true,true,true,false,true,true,true,true,false,false,false,false,false] rfl rfl (take_ofW HT_.out HW_.out (by kernel_rfl)) (fun _ _ _ h=>h) (Or.inl ⟨by rfl,?_⟩) hHeld ?_ ?_
     rotate_left
     ·rintro w' ⟨s0,s1,s2,s3,s4,s5⟩
      go_simp
      with_reducible rfl
     rotate_left
     ·simp only[Act.put,List.setIfInBounds_toArray,List.set_cons_zero,List.set_cons_succ,i64_w,i32_w]
      rfl
     refine take_ (i:=10) (N:=some 72) (v:=?_) (a':=?_) #[true,true,true,true,true,true,true,true,true,true,true,true,true,true,true,false,false,false,false,false] rfl rfl (take_ofW HT_.out HW_.out (by kernel_rfl)) (fun _ _ _ h=>h) (Or.inl ⟨by rfl,?_⟩) hHeld ?_ ?_
     rotate_left
     ·rintro w' ⟨s0,s1,s2,s3,s4,s5⟩
      go_simp
      with_reducible rfl
     rotate_left
     ·simp only[Act.put,List.setIfInBounds_toArray,List.set_cons_zero,List.set_cons_succ,i64_w,i32_w]
      rfl
     refine take_ (i:=15) (N:=some 77) (v:=?_) (a':=?_) #[true,true,true,true,true,true,true,true,true,true,true,true,true,true,true,true,false,false,false,false] rfl rfl (take_ofW HT_.out HW_.out (by kernel_rfl)) (fun _ _ _ h=>h) (Or.inl ⟨by rfl,?_⟩) hHeld ?_ ?_
     rotate_left
     ·rintro w' ⟨s0,s1,s2,s3,s4,s5⟩
      go_simp
      with_reducible rfl
     rotate_left
     ·simp only[Act.put,List.setIfInBounds_toArray,List.set_cons_zero,List.set_cons_succ,i64_w,i32_w]
      rfl
     refine one_ (i:=16) (N:=some 78) #[true,true,true,true,true,true,true,true,true,true,true,true,true,true,true,true,true,false,false,false] rfl rfl (one_of HT_.out (by kernel_rfl)) (by decide) (fun K hK=>?_)
     refine goes_ Try.func113 (by kernel_rfl) rfl #[.agg #[.int .i64 a0_0, .int .i64 a0_1, .slice A0_2 l0_2.length c0_2], .int .i64 x13_2, .int .i64 (rd x11_3 x16_4)] (by rfl) rfl rfl (by(try simp only[List.map_toArray,List.map_cons,List.map_nil]);first|done|rfl|(simp only[List.length_drop,List.length_take];rfl)) ?_
     with_reducible refine(r4_Mul.calls k4 a0_0 a0_1 _ _ l0_2 x13_2 (rd x11_3 x16_4) tc1 _ ?side1 ?side2 A52.out).mono ?_
     (case side1=>exact zC (Kd.C_below HR0_2.out HB.out))
     (case side2=>exact HC0_2.out)
     rintro e w57 ⟨rfl,hb⟩
     have HS3_:=(hb.cell (World.block_lt_of_cell? _ _ (hHeld.2.2.2.1))).trans (hHeld.2.2.2.1)
     have HS4_:=(hb.cell (World.block_lt_of_cell? _ _ (hHeld.2.2.2.2.1))).trans (hHeld.2.2.2.2.1)
     have HS5_:=(hb.cell (World.block_lt_of_cell? _ _ (hHeld.2.2.2.2.2))).trans (hHeld.2.2.2.2.2)
     refine⟨_,rfl,?_⟩
     replace HO_9:=yNb HO_9 hb
     replace HO_11:=yRb HO_11 hb
     replace HO_12:=yNb HO_12 hb
     replace HO_15:=yRb HO_15 hb
     replace HLb8_0:=yVb HLb8_0 hb
     replace BKa1:=yK BKa1 hb
     (try replace HRb8_0:=yCb HRb8_0 hb)
     replace HB:=yS1 HB GEa1 hb
     (try clear hb)
     refine hK.out _ _ ⟨(blk_cell BKa1.out 0).trans rfl,(blk_cell BKa1.out 1).trans rfl,(blk_cell BKa1.out 2).trans rfl,HS3_,HS4_,HS5_⟩ (fun hHeld=>?_)
     clear hK K
     refine norm_ (a':=?_) ?_ ?_
     rotate_left
     ·show Act.put _ (some 78) _=_
      simp only[Act.put,List.setIfInBounds_toArray,List.set_cons_zero,List.set_cons_succ,i64_w,i32_w]
      rfl
     refine one_ (i:=17) (N:=some 79) #[true,true,true,true,true,true,true,true,true,true,true,true,true,true,true,true,true,true,false,false] rfl rfl (one_of HT_.out (by kernel_rfl)) (by decide) (fun K hK=>?_)
     refine goes_ Try.func112 (by kernel_rfl) rfl #[.agg #[.int .i64 a0_0, .int .i64 a0_1, .slice A0_2 l0_2.length c0_2], .int .i64 (rd (rd_L1 x9_1 x14_3) x16_4), .int .i64 tc1] (by rfl) rfl rfl (by(try simp only[List.map_toArray,List.map_cons,List.map_nil]);first|done|rfl|(simp only[List.length_drop,List.length_take];rfl)) ?_
     with_reducible refine(r4_Add.calls k4 a0_0 a0_1 _ _ l0_2 (rd (rd_L1 x9_1 x14_3) x16_4) tc1 tc2 _ ?side1 ?side2 A53.out).mono ?_
     (case side1=>exact zC (Kd.C_below HR0_2.out HB.out))
     (case side2=>exact HC0_2.out)
     rintro e w58 ⟨rfl,hb⟩
     have HS3_:=(hb.cell (World.block_lt_of_cell? _ _ (hHeld.2.2.2.1))).trans (hHeld.2.2.2.1)
     have HS4_:=(hb.cell (World.block_lt_of_cell? _ _ (hHeld.2.2.2.2.1))).trans (hHeld.2.2.2.2.1)
     have HS5_:=(hb.cell (World.block_lt_of_cell? _ _ (hHeld.2.2.2.2.2))).trans (hHeld.2.2.2.2.2)
     refine⟨_,rfl,?_⟩
     replace HO_9:=yNb HO_9 hb
     replace HO_11:=yRb HO_11 hb
     replace HO_12:=yNb HO_12 hb
     replace HO_15:=yRb HO_15 hb
     replace HLb8_0:=yVb HLb8_0 hb
     replace BKa1:=yK BKa1 hb
     (try replace HRb8_0:=yCb HRb8_0 hb)
     replace HB:=yS1 HB GEa1 hb
     (try clear hb)
     have p55:0≤(x16_4:Int):=zd
     have q55:(x16_4:Int)<((x15_4.length:Int):Int):=zd
     obtain⟨go55,co55,eo55,gb55,gl55,cl55,HG55⟩:=Kd.R_form HO_15.out (by omega)
     (first|cases eo55|(injection eo55 with ea_ en_ ec_;(first|subst ea_|(injection ea_ with ea_;subst ea_));subst ec_;clear en_))
     have GB55:=zk gb55
     have GG55:=zk HG55
     clear gb55 gl55 HG55
     obtain⟨hx55_0,hf55_0⟩:=Kd.R_celln 0 HO_15.out (x16_4:Int) p55 q55
     replace p55:=eq_true p55
     replace q55:=eq_true q55
     have HP59:=Kd.R_putn HO_15.out (x16_4:Int) tc2
     rw[←Nyc3.out] at HP59
     have HQ59:=zk HP59
     clear HP59
     refine hK.out _ _ ⟨(blk_cell BKa1.out 0).trans rfl,(blk_cell BKa1.out 1).trans rfl,(blk_cell BKa1.out 2).trans rfl,HS3_,HS4_,HS5_⟩ (fun hHeld=>?_)
     clear hK K
     refine norm_ (a':=?_) ?_ ?_
     rotate_left
     ·show Act.put _ (some 79) _=_
      simp only[Act.put,List.setIfInBounds_toArray,List.set_cons_zero,List.set_cons_succ,i64_w,i32_w]
      rfl
     refine zp (i:=18) (N:=some 80) HT_ ?_
     refine last_ (i:=19) (N:=none) #[true,true,true,true,true,true,true,true,true,true,true,true,true,true,true,true,true,true,true,true] rfl rfl (one_of HT_.out (by kernel_rfl)) (by decide) (fun K hK=>?_)
     refine skip_ (w1:=?_) (by rfl) rfl ?_ ?_
     rotate_left
     ·go_simp
      rfl
     refine hK.out _ _ ?_
     clear hK K
     refine done_ (done_of HT_.out (by kernel_rfl)) ?_
     try go_wp2
     go_roundg k4
     case measure=>have:=HK1.out;have:=HK2.out;have:=HK3.out;have:=HK4.out;omega
     case rel=>exact⟨(yc3),(wrap64 (x16_4+1)),zF,H',⟨by have:=HK1.out;have:=HK2.out;have:=HK3.out;have:=HK4.out;omega⟩,⟨by(try simp only[hl11_2]);(try simp only[hl11_3]);(with_reducible repeat(first|apply Kd.N_alloc|apply Kd.N_drewN|apply Kd.N_drew));exact Kd.N_mono (Kd.N_far (p:=⟨go55,(x16_4:Int).toNat,none⟩) (Kd.N_mono HO_9.out (fun k_ hk=>(⟨hk,fun e_=>hk.2.2.2.1 (by rw[e_];rfl)⟩:_∧k_≠go55))) (fun _ hk=>hk.2) (.int .i64 tc2)) (fun _ hk=>⟨hk.1.1,⟨hk.1.2.1,⟨hk.1.2.2.1,⟨hk.1.2.2.2.1,hk.1.2.2.2.2⟩⟩⟩⟩)⟩,⟨by(try simp only[hl11_2]);(try simp only[hl11_3]);(with_reducible repeat(first|apply Kd.R_alloc|apply Kd.R_drewN|apply Kd.R_drew));exact Kd.R_mono (Kd.R_far (p:=⟨go55,(x16_4:Int).toNat,none⟩) (Kd.R_mono HO_11.out (fun k_ hk=>(⟨hk,fun e_=>hk.2 (by rw[e_];rfl)⟩:_∧k_≠go55))) (fun _ hk=>hk.2) (.int .i64 tc2)) (fun _ hk=>⟨hk.1.1,hk.1.2⟩)⟩,⟨by(try simp only[hl11_2]);(try simp only[hl11_3]);(with_reducible repeat(first|apply Kd.N_alloc|apply Kd.N_drewN|apply Kd.N_drew));exact Kd.N_mono (Kd.N_far (p:=⟨go55,(x16_4:Int).toNat,none⟩) (Kd.N_mono HO_12.out (fun k_ hk=>(⟨hk,fun e_=>hk.2.2.2.1 (by rw[e_];rfl)⟩:_∧k_≠go55))) (fun _ hk=>hk.2) (.int .i64 tc2)) (fun _ hk=>⟨hk.1.1,⟨hk.1.2.1,⟨hk.1.2.2.1,⟨hk.1.2.2.2.1,hk.1.2.2.2.2⟩⟩⟩⟩)⟩,⟨by(try simp only[hl11_2]);(try simp only[hl11_3]);(with_reducible repeat(first|apply Kd.R_alloc|apply Kd.R_drewN|apply Kd.R_drew));exact HQ59.out⟩,⟨by(try simp only[hl11_2]);(try simp only[hl11_3]);(with_reducible repeat(first|refine blk_drewN ?_ _|refine blk_drew ?_|refine blk_alloc ?_ _));refine blk_far ?_ (by have h_:=Kd.R_ne HO_15.out BKa1.out (by decide);intro e_;exact h_ (by rw[e_];rfl)) _;(with_reducible repeat(first|refine blk_drewN ?_ _|refine blk_drew ?_|refine blk_alloc ?_ _));exact BKa1.out⟩,⟨zB2 HB.out GB55.out GEa1.out⟩⟩
    replace H:=zg H
    obtain⟨c60,H⟩:=H
    have LMc60:=zk c60
    clear c60
    obtain⟨yc4,hyc4⟩:∃y_:List (List Int),y_=(x12_3++[x15_4]):=⟨_,rfl⟩
    replace H:(r24_Span.l2 k4 a1 l2 a3 x9_1 x10_1 x11_3 yc4 x13_2 (wrap64 (x14_3+1)) a0_0 a0_1 l0_2)=some r:=zY hyc4 H
    have Nyc4:=zk hyc4
    clear hyc4
    have H':=zk H
    clear H
    obtain⟨Ao62,co62,rfl⟩:=Kd.R_slice HO_15.out
    go_wp2_with (first|((with_reducible refine gate_builtin (b:= .append) (xs:= #[.tmp 81, .tmp 83]) rfl ?_);at_builtin;refine Kd.N_append (Kd.slice 3 (Kd.int .i64)) (w0:=w) w.heap.size rfl (.tmp 81) (.tmp 83) 25 22 (.slice none 0 0) 24 rfl Try.underlying25 info22 rfl (by decide) (by omega) u12 x12_3 x15_4 [.slice Ao62 x15_4.length co62] (fun k_=>(w.heap.size≤k_)∧some k_≠(.slice Ao33 x9_1.length co33:Value).ownBlock∧some k_≠(.slice Ao34 x11_3.length co34:Value).ownBlock∧k_≠gba1) (fun k_=>((fun k_=>(w.heap.size≤k_)∧some k_≠(.slice Ao33 x9_1.length co33:Value).ownBlock∧some k_≠(.slice Ao34 x11_3.length co34:Value).ownBlock∧k_≠gba1)) k_∧some k_≠(u12:Value).ownBlock) rfl rfl ?aP (fun _ hk=>hk) ?aF ?aO ?aB ?aS ?aL ?_;(case aP=>exact(Mw.FK_of_R (Kd.R_mono (ok':=(fun k_=>((fun k_=>(w.heap.size≤k_)∧some k_≠(.slice Ao33 x9_1.length co33:Value).ownBlock∧some k_≠(.slice Ao34 x11_3.length co34:Value).ownBlock∧k_≠gba1)) k_∧some k_≠(u12:Value).ownBlock)) (Kd.R_types (Kd.R_apart' (Kd.R_apart' (HO_15.out) (Kd.N_typed HO_9.out) (by decide)) (Kd.N_typed HO_12.out) (by decide)) BKa1.out (by decide)) (fun k_ hk=>by exact⟨⟨hk.1.1.1.1,⟨hk.1.1.2,⟨hk.1.1.1.2,hk.2⟩⟩⟩,hk.1.2⟩))));(case aB=>exact(zB1 HB.out GEa1.out));(case aF=>exact(fun k_ hk=>⟨(Nat.le_trans (below_size (zB1 HB.out GEa1.out)) hk),Kd.fresh' (Kd.N_lt (zN HO_9.out)) k_ hk,Kd.fresh' (Kd.R_lt (zR HO_11.out)) k_ hk,Kd.freshB (g:=gba1) (o:= .cells #[.int .i64 a0_0, .int .i64 a0_1, .slice A0_2 l0_2.length c0_2] 24 (0,0)) (zK BKa1.out) k_ hk⟩));(case aO=>exact(by(with_reducible repeat(first|apply Kd.N_alloc|apply Kd.N_drewN|apply Kd.N_drew));exact Kd.N_mono HO_12.out (fun _ hk=>⟨hk.1,⟨hk.2.1,⟨hk.2.2.1,hk.2.2.2.2⟩⟩⟩)));(case aS=>exact(below_size (zB1 HB.out GEa1.out)));(case aL=>have:=LMc60.out;omega);intro vc5 w61 ho hb hg hat;rw[←Nyc4.out] at ho;replace HO_9:=zk (Kd.N_afterv (ok:=(fun k_=>(w.heap.size≤k_)∧some k_≠(.slice Ao34 x11_3.length co34:Value).ownBlock∧some k_≠(.slice Ao62 x15_4.length co62:Value).ownBlock∧k_≠gba1)) (by(with_reducible repeat(first|apply Kd.N_alloc|apply Kd.N_drewN|apply Kd.N_drew));exact Kd.N_mono HO_9.out (fun _ hk=>⟨⟨hk.1,⟨hk.2.1,⟨hk.2.2.2.1,hk.2.2.2.2⟩⟩⟩,hk.2.2.1⟩)) hg hat);replace HO_11:=zk (Kd.R_over' (zR HO_11.out) (Kd.N_typed (zN HO_12.out)) (by decide) hg);replace BKa1:=zk (blk_grown (g:=gba1) (o:= .cells #[.int .i64 a0_0, .int .i64 a0_1, .slice A0_2 l0_2.length c0_2] 24 (0,0)) (zK BKa1.out) hg (Kd.N_ne HO_12.out BKa1.out (by decide)));replace HB:=zk (hb);have HOc6:=zk (ho);clear HO_12 HO_15;clear ho hb hg hat))
    (try simp only[←hl11_3])
    go_roundg k4
    case measure=>have:=HK1.out;have:=HK2.out;have:=HK3.out;have:=HK4.out;omega
    case rel=>exact⟨(x11_3),(yc4),(wrap64 (x14_3+1)),zF,H',⟨by have:=HK1.out;have:=HK2.out;have:=HK3.out;have:=HK4.out;omega⟩,⟨by(try simp only[hl11_2]);(try simp only[hl11_3]);(with_reducible repeat(first|apply Kd.N_alloc|apply Kd.N_drewN|apply Kd.N_drew));exact Kd.N_mono HO_9.out (fun _ hk=>⟨hk.1.1,⟨hk.1.2.1,⟨hk.2,hk.1.2.2.2⟩⟩⟩)⟩,⟨by(try simp only[hl11_2]);(try simp only[hl11_3]);(with_reducible repeat(first|apply Kd.R_alloc|apply Kd.R_drewN|apply Kd.R_drew));exact Kd.R_mono HO_11.out (fun _ hk=>hk.1)⟩,⟨by(try simp only[hl11_2]);(try simp only[hl11_3]);(with_reducible repeat(first|apply Kd.N_alloc|apply Kd.N_drewN|apply Kd.N_drew));exact HOc6.out⟩,⟨by(try simp only[hl11_2]);(try simp only[hl11_3]);(with_reducible repeat(first|refine blk_drewN ?_ _|refine blk_drew ?_|refine blk_alloc ?_ _));exact BKa1.out⟩,⟨zB1 HB.out GEa1.out⟩⟩
   have c41b0:=decide_eq_false c41
   (try(have c41h0:=c41b0;simp only[hl11_2,hl11_3] at c41h0))
   clear c41
   have H':=zk H
   clear H
   go_wp2
   (try simp only[←hl11_2,←hl11_3])
   go_roundg k3
   case measure=>have:=HK1.out;have:=HK2.out;have:=HK3.out;omega
   case rel=>exact⟨(x11_3),(x12_3),(wrap64 (x13_2+1)),zF,H',⟨by have:=HK1.out;have:=HK2.out;have:=HK3.out;omega⟩,⟨by(try simp only[hl11_2]);(try simp only[hl11_3]);(with_reducible repeat(first|apply Kd.N_alloc|apply Kd.N_drewN|apply Kd.N_drew));exact HO_9.out⟩,⟨by(try simp only[hl11_2]);(try simp only[hl11_3]);(with_reducible repeat(first|apply Kd.R_alloc|apply Kd.R_drewN|apply Kd.R_drew));exact HO_11.out⟩,⟨by(try simp only[hl11_2]);(try simp only[hl11_3]);(with_reducible repeat(first|apply Kd.N_alloc|apply Kd.N_drewN|apply Kd.N_drew));exact HO_12.out⟩,⟨by(try simp only[hl11_2]);(try simp only[hl11_3]);(with_reducible repeat(first|refine blk_drewN ?_ _|refine blk_drew ?_|refine blk_alloc ?_ _));exact BKa1.out⟩,⟨zB1 HB.out GEa1.out⟩⟩
  have H':=zk H
  clear H
  obtain⟨hcz63_0,hcz63_1,hcz63_2,hfz63_0,hfz63_1,hfz63_2⟩:=zz3 BKa1
  go_wp2_with (first|((with_reducible refine gC 24 ?_);refine zG (some 45) Try.func24 #[.agg #[.int .i64 a0_0, .int .i64 a0_1, .slice A0_2 l0_2.length c0_2]] ?_;(with_reducible refine(r4_Order.calls k2 a0_0 a0_1 _ _ l0_2 tb4 _ ?side1 ?side2 A37.out).mono ?_);(case side1=>exact zC (Kd.C_below HR0_2.out HB.out));(case side2=>exact HC0_2.out);rintro e w64 ⟨rfl,hb⟩;refine⟨_,rfl,?_⟩;replace HO_9:=yNb HO_9 hb;replace HO_11:=yRb HO_11 hb;replace HO_12:=yNb HO_12 hb;replace BKa1:=yK BKa1 hb;replace HB:=yS1 HB GEa1 hb;(try clear hb);(try clear hb2);(try clear hk);(try clear hi)))
  (try simp only[←hl11_2])
  go_roundg k2
  case measure=>have:=HK1.out;have:=HK2.out;omega
  case rel=>exact⟨(x12_2),(wrap64 (x10_1+1)),zF,H',⟨zo2 HK1 HK2⟩,⟨by(try simp only[hl11_2]);(with_reducible repeat(first|apply Kd.N_alloc|apply Kd.N_drewN|apply Kd.N_drew));exact Kd.N_mono HO_12.out (fun _ hk=>⟨hk.1,hk.2.2.2⟩)⟩,⟨by(try simp only[hl11_2]);(with_reducible repeat(first|refine blk_drewN ?_ _|refine blk_drew ?_|refine blk_alloc ?_ _));exact BKa1.out⟩,⟨zB1 HB.out GEa1.out⟩⟩
 obtain rfl:=Option.some.inj H
 go_wp2
 go_ret
 exact⟨_,zE,by(with_reducible repeat(first|apply Kd.N_alloc|apply Kd.N_drewN|apply Kd.N_drew));exact Kd.N_mono HO_9.out (fun _ hk=>hk.1),zB1 HB.out GEa1.out⟩
set_option maxHeartbeats 8000000 in
set_option maxRecDepth 100000 in
theorem r24_All.calls (k:Nat) (a0_0:Int) (a0_1:Int) (A0_2:Option Addr) (c0_2:Nat) (l0_2:List Int) (a1:Int) (a2:Int) (r:List (List Int)) (w:World) (hr0_2:Kd.C (Kd.int .i64) w A0_2 l0_2.length l0_2) (hc0_2:l0_2.length≤c0_2) (h:r24_All.f k a0_0 a0_1 l0_2 a1 a2=some r):
 Calls Try.prog 69 #[.agg #[.int .i64 a0_0, .int .i64 a0_1, .slice A0_2 l0_2.length c0_2], .int .i64 a1, .int .i64 a2] w fun e w'=>∃v0_:Value,e= .returned (v0_)∧Kd.N (Kd.slice 3 (Kd.int .i64)) 22 w' w.heap.size (fun k_=>(w.heap.size≤k_)) v0_ r∧Below w.heap.size w w':=by
 have hu24:=Try.underlying24
 have HR0_2:=zk hr0_2
 have HC0_2:=zk hc0_2
 clear hr0_2 hc0_2
 have HB:=zk (Below.refl w.heap.size w)
 have H:=h
 clear h
 unfold r24_All.f at H
 have H':=zk H
 clear H
 go_enter Try.func69,Try.ntmps69
 go_wp2_with (first|((with_reducible refine gate_dst (N:=3) rfl ?_);refine box_event ?hg (N:=3) ?hd (cs:= #[.int .i64 a0_0, .int .i64 a0_1, .slice A0_2 l0_2.length c0_2]) (t:=24) ?hr ?_;(case hd=>rfl);(case hg=>rfl);(case hr=>first|(go_simp;done)|(go_simp;rfl));intro gba1 hg w4 hbox hb;have BKa1:=zk (hbox);have GWa1:=yg hg HB;have GEa1:=yg hg HB;replace HB:=yS HB hb;clear hb hbox hg))
 go_loopg [7,8] k (fun kq v7 v8 w'=>∃(x7_1:List (List Int)) (x8_1:Int),v8= .int .i64 x8_1∧Aside0 (r24_All.l0 kq a1 a2 x7_1 x8_1 a0_0 a0_1 l0_2=some r)∧Aside0 (kq≤k)∧Aside0 (Kd.N (Kd.slice 3 (Kd.int .i64)) 22 w' w.heap.size (fun k_=>(w.heap.size≤k_)∧k_≠gba1) v7 x7_1)∧Aside0 (w'.heap[gba1]?=some (.cells #[.int .i64 a0_0, .int .i64 a0_1,(.slice A0_2 l0_2.length c0_2)] 24 (0,0)))∧Aside0 (Below w.heap.size w w'))
 case atStart=>exact⟨(([]:List (List Int))),(0),zF,H',⟨Nat.le_refl _⟩,⟨by first|exact Kd.S_nil _ _ _ _ _|exact Kd.N_nil _ _ _ _ _|exact Kd.V_nil _ _ _ _ _|exact Kd.Q_nil _ _ _ _ _|exact Kd.R_nil _ _ _ _ _⟩,⟨zK BKa1.out⟩,⟨zB1 HB.out GEa1.out⟩⟩
 clear H'
 obtain⟨x7_1,x8_1,rfl,HA,HK1,HO_7,BKa1,HB⟩:=hrel
 cases gk with|zero=>exact absurd HA.out (by simp [r24_All.l0])|succ k1=>?_
 have H:=HA.out
 clear HA
 simp only[r24_All.l0] at H
 replace H:=zid H
 rcases H with⟨c5b0,H⟩|⟨c5b0,H⟩
 ·replace H:=zg H
  obtain⟨c6,H⟩:=H
  have c6b0:=eq_true c6
  have c6b1:=decide_eq_true c6
  clear c6
  replace H:=zg H
  obtain⟨c7,H⟩:=H
  have c7b0:=eq_true c7
  have c7b1:=decide_eq_true c7
  clear c7
  obtain⟨ya2,hya2⟩:∃y_:List Int,y_=(List.replicate (a1:Int).toNat 0):=⟨_,rfl⟩
  replace H:(if 0≤x8_1 then(if x8_1<(ya2.length:Int) then(if x7_1.length<5864062014805 then(r24_All.l0 k1 a1 a2 (x7_1++[(ya2.set (x8_1:Int).toNat 1)]) (wrap64 (x8_1+1)) a0_0 a0_1 l0_2) else(none)) else(none)) else(none))=some r:=zY hya2 H
  have Nya2:=zk hya2
  clear hya2
  replace H:=zgd H
  obtain⟨c8b0,H⟩:=H
  replace H:=zgd H
  obtain⟨c9b0,H⟩:=H
  obtain⟨ya5,hya5⟩:∃y_:List Int,y_=(ya2.set (x8_1:Int).toNat 1):=⟨_,rfl⟩
  replace H:(if x7_1.length<5864062014805 then(r24_All.l0 k1 a1 a2 (x7_1++[ya5]) (wrap64 (x8_1+1)) a0_0 a0_1 l0_2) else(none))=some r:=zY hya5 H
  have Nya5:=zk hya5
  clear hya5
  replace H:=zg H
  obtain⟨c11,H⟩:=H
  have LMc11:=zk c11
  clear c11
  obtain⟨ya6,hya6⟩:∃y_:List (List Int),y_=(x7_1++[ya5]):=⟨_,rfl⟩
  replace H:(r24_All.l0 k1 a1 a2 ya6 (wrap64 (x8_1+1)) a0_0 a0_1 l0_2)=some r:=zY hya6 H
  have Nya6:=zk hya6
  clear hya6
  have H':=zk H
  clear H
  go_wp2_with (first|((with_reducible refine gate_dst (N:=16) rfl ?_);refine Kd.R_make (Kd.int .i64) _ 3 rfl (N:=16) rfl 22 _ _ rfl a1 rfl rfl Try.underlying22 (.int .i64 0) 8 info3 rfl (by decide) (by omega) 0 (ok:=fun _=>True) (okp:=fun _=>True) rfl (fun _ hk=>hk) trivial zd (Nat.le_trans (Nat.mul_le_mul_right _ (zd:a1.toNat≤35184372088832)) (by omega)) (Below.refl _ _) (Nat.le_refl _) ?_;intro va3 w12 ho13 hb hg_ hnew_;clear hg_ hnew_;(first|rw[←Nya2.out] at ho13|(simp only[Int.reduceToNat] at ho13;rw[←Nya2.out] at ho13));replace HO_7:=yNe HO_7 ho13 hb;replace ho13:=Kd.R_newM (M:=fun k_=>(w.heap.size≤k_)) ho13 (below_size (zB1 HB.out GEa1.out)) (fun k_ h_=>h_);have HOa4:=yRl1 ho13 HB GEa1;replace BKa1:=yK BKa1 hb;replace HB:=yS1 HB GEa1 hb;clear hb ho13;have p10:0≤(x8_1:Int):=zd;have q10:(x8_1:Int)<((ya2.length:Int):Int):=zd;obtain⟨go10,co10,eo10,gb10,gl10,cl10,HG10⟩:=Kd.R_form HOa4.out (by omega);(first|cases eo10|(injection eo10 with ea_ en_ ec_;(first|subst ea_|(injection ea_ with ea_;subst ea_));subst ec_;clear en_));have GB10:=zk gb10;have GG10:=zk HG10;clear gb10 gl10 HG10;obtain⟨hx10_0,hf10_0⟩:=Kd.R_celln 0 HOa4.out (x8_1:Int) p10 q10;replace p10:=eq_true p10;replace q10:=eq_true q10;have n_:=zk (Kd.R_mono (ok':=(fun k_=>(w.heap.size≤k_))) HOa4.out (fun k_ hk=>hk.1));clear HOa4;have HOa4:=n_;clear n_;obtain⟨hy14_,hz14_⟩:=Kd.R_celln 0 HOa4.out (x8_1:Int) zd zd;have HP14:=Kd.R_putg HOa4.out (x8_1:Int) 1)|((with_reducible refine gate_store (t:=3) (p:=19) rfl ?_);refine store_event (t:=3) (p:=19) (v:=?vo_w15) (w1:=(w12.setCell ⟨go10,(x8_1:Int).toNat,none⟩ (.int .i64 1))) ?hg ?ho ?hn ?hr ?_;(case ho=>rfl);(case hg=>rfl);(case hn=>rfl);(case hr=>first|(go_simp;done)|(go_simp;rfl));intro w15 hw;have hg:w12.grownBy w15 (some go10):=(by rw[hw];exact HP14.2);have hp_:Kd.R (Kd.int .i64) 3 w15 w.heap.size (fun k_=>(w.heap.size≤k_)) (.slice (some ⟨go10,0,none⟩) ya2.length co10) ya5:=(by rw[hw,Nya5.out];exact HP14.1);clear HP14;replace HO_7:=zk (Kd.N_afterv (v:=(.slice (some ⟨go10,0,none⟩) ya2.length co10)) (v1:=(.slice (some ⟨go10,0,none⟩) ya2.length co10)) (ok:=(fun k_=>(w.heap.size≤k_)∧k_≠gba1)) (zN HO_7.out) hg (.inl rfl));replace BKa1:=zk (blk_grown (g:=gba1) (o:= .cells #[.int .i64 a0_0, .int .i64 a0_1, .slice A0_2 l0_2.length c0_2] 24 (0,0)) (zK BKa1.out) hg (Kd.R_ne HOa4.out BKa1.out (by decide)));replace HOa4:=zk (hp_);replace HB:=zk ((by rw[hw];exact below_set (HB.out) GB10.out:Below w.heap.size w w15));clear hg hw hp_)|((with_reducible refine gate_builtin (b:= .append) (xs:= #[.tmp 20, .tmp 22]) rfl ?_);at_builtin;refine Kd.N_append (Kd.slice 3 (Kd.int .i64)) (w0:=w) w.heap.size rfl (.tmp 20) (.tmp 22) 25 22 (.slice none 0 0) 24 rfl Try.underlying25 info22 rfl (by decide) (by omega) u7 x7_1 ya5 [.slice (some ⟨go10,0,none⟩) ya2.length co10] (fun k_=>(w.heap.size≤k_)∧k_≠gba1) (fun k_=>((fun k_=>(w.heap.size≤k_)∧k_≠gba1)) k_∧some k_≠(u7:Value).ownBlock) rfl rfl ?aP (fun _ hk=>hk) ?aF ?aO ?aB ?aS ?aL ?_;(case aP=>exact(Mw.FK_of_R (Kd.R_mono (ok':=(fun k_=>((fun k_=>(w.heap.size≤k_)∧k_≠gba1)) k_∧some k_≠(u7:Value).ownBlock)) (Kd.R_types (Kd.R_apart' (HOa4.out) (Kd.N_typed HO_7.out) (by decide)) BKa1.out (by decide)) (fun k_ hk=>by exact⟨⟨hk.1.1,hk.2⟩,hk.1.2⟩))));(case aB=>exact(zB1 HB.out GEa1.out));(case aF=>exact(fun k_ hk=>⟨(Nat.le_trans (below_size (zB1 HB.out GEa1.out)) hk),Kd.freshB (g:=gba1) (o:= .cells #[.int .i64 a0_0, .int .i64 a0_1, .slice A0_2 l0_2.length c0_2] 24 (0,0)) (zK BKa1.out) k_ hk⟩));(case aO=>exact(by(with_reducible repeat(first|apply Kd.N_alloc|apply Kd.N_drewN|apply Kd.N_drew));exact Kd.N_mono HO_7.out (fun _ hk=>⟨hk.1.1,hk.1.2⟩)));(case aS=>exact(below_size (zB1 HB.out GEa1.out)));(case aL=>have:=LMc11.out;omega);intro va7 w16 ho hb hg hat;rw[←Nya6.out] at ho;replace BKa1:=zk (blk_grown (g:=gba1) (o:= .cells #[.int .i64 a0_0, .int .i64 a0_1, .slice A0_2 l0_2.length c0_2] 24 (0,0)) (zK BKa1.out) hg (Kd.N_ne HO_7.out BKa1.out (by decide)));replace HB:=zk (hb);have HOa8:=zk (ho);clear HO_7 HOa4;clear ho hb hg hat))
  go_roundg k1
  case measure=>have:=HK1.out;omega
  case rel=>exact⟨(ya6),(wrap64 (x8_1+1)),zF,H',⟨zo1 HK1⟩,⟨zN HOa8.out⟩,⟨zK BKa1.out⟩,⟨zB1 HB.out GEa1.out⟩⟩
 replace H:=zb H
 obtain⟨ta9,A17,H⟩:=H
 obtain rfl:=Option.some.inj H
 obtain⟨hcz18_0,hcz18_1,hcz18_2,hfz18_0,hfz18_1,hfz18_2⟩:=zz3 BKa1
 obtain⟨Ao19,co19,rfl⟩:=Kd.N_slice HO_7.out
 go_wp2_with (first|((with_reducible refine gC 68 ?_);refine zG (some 28) Try.func68 #[.agg #[.int .i64 a0_0, .int .i64 a0_1, .slice A0_2 l0_2.length c0_2], .int .i64 a1, .slice Ao19 x7_1.length co19, .int .i64 a2] ?_;(with_reducible refine(r24_Span.calls k1 a0_0 a0_1 _ _ l0_2 a1 _ _ x7_1 a2 ta9 _ ?side1 ?side2 ?side3 ?side4 A17.out).mono ?_);(case side1=>exact zC (Kd.C_below HR0_2.out HB.out));(case side2=>exact HC0_2.out);(case side3=>exact zC (Kd.N_reads' HO_7.out).2.2);(case side4=>exact(Kd.N_reads' HO_7.out).2.1);rintro e w20 ⟨vb0,rfl,ho0,hb⟩;refine⟨_,rfl,?_⟩;have HOb1:=zk (Kd.N_lower (Kd.N_mono (ok':=fun k_=>(w.heap.size≤k_)∧some k_≠(.slice Ao19 x7_1.length co19:Value).ownBlock∧k_≠gba1) ho0 (fun k_ hk_=>⟨(Nat.le_trans (below_size (zB1 HB.out GEa1.out)) hk_),(Kd.fresh' (Kd.N_lt (zN HO_7.out)) k_ hk_),(Kd.freshB (g:=gba1) (o:= .cells #[.int .i64 a0_0, .int .i64 a0_1, .slice A0_2 l0_2.length c0_2] 24 (0,0)) (zK BKa1.out) k_ hk_)⟩)) (below_size (zB1 HB.out GEa1.out)));replace HO_7:=zk (Kd.N_elder' (zN HO_7.out) (Kd.N_base ho0) hb);replace BKa1:=yK BKa1 hb;replace HB:=yS1 HB GEa1 hb;(try clear hb ho0)))
 go_ret
 exact⟨_,zE,by(with_reducible repeat(first|apply Kd.N_alloc|apply Kd.N_drewN|apply Kd.N_drew));exact Kd.N_mono HOb1.out (fun _ hk=>hk.1),zB1 HB.out GEa1.out⟩
def r4_Dot.T5:Bool×List (List Nat×List Nat):=(true,[([],[]),([],[]),([],[]),([],[]),([],[]),([3,4],[3,4]),([5],[5]),([],[]),([],[]),([7,8],[7,8]),([9],[9]),([2,6,10],[2,6,10]),([0,1,11,11],[0,1,11]),([12,12,0,1,2,3,4,5,6,7,8,9,10,11,12],[1,12])])
def r4_Dot.B5:List Nat:=[0,0,0,0,0,24,56,0,0,384,896,2044,4095,8191]
theorem r4_Dot.tab5:rtab .any (opsOf Try.f114 5)=r4_Dot.T5:=by kernel_rfl
theorem r4_Dot.bits5:waitsOk r4_Dot.T5.2 r4_Dot.B5=true:=by kernel_rfl
set_option maxHeartbeats 8000000 in
set_option maxRecDepth 100000 in
theorem r4_Dot.calls (k:Nat) (a0_0:Int) (a0_1:Int) (A0_2:Option Addr) (c0_2:Nat) (l0_2:List Int) (A1:Option Addr) (c1:Nat) (l1:List Int) (A2:Option Addr) (c2:Nat) (l2:List Int) (r:Int) (w:World) (hr0_2:Kd.C (Kd.int .i64) w A0_2 l0_2.length l0_2) (hc0_2:l0_2.length≤c0_2) (hr1:Kd.C (Kd.int .i64) w A1 l1.length l1) (hc1:l1.length≤c1) (hr2:Kd.C (Kd.int .i64) w A2 l2.length l2) (hc2:l2.length≤c2) (h:r4_Dot.f k a0_0 a0_1 l0_2 l1 l2=some r):
 Calls Try.prog 114 #[.agg #[.int .i64 a0_0, .int .i64 a0_1, .slice A0_2 l0_2.length c0_2], .slice A1 l1.length c1, .slice A2 l2.length c2] w fun e w'=>e= .returned (.int .i64 r)∧Below w.heap.size w w':=by
 have hu24:=Try.underlying24
 have HR0_2:=zk hr0_2
 have HC0_2:=zk hc0_2
 clear hr0_2 hc0_2
 have HR1:=zk hr1
 have HC1:=zk hc1
 clear hr1 hc1
 have HR2:=zk hr2
 have HC2:=zk hc2
 clear hr2 hc2
 have HB:=zk (Below.refl w.heap.size w)
 have H:=h
 clear h
 unfold r4_Dot.f at H
 have H':=zk H
 clear H
 go_enter Try.func114,Try.ntmps114
 go_wp2_with (first|((with_reducible refine gate_dst (N:=3) rfl ?_);(try(refine gate_guard (by rfl) ?_;dsimp only));refine box_event ?hg (N:=3) ?hd (cs:= #[.int .i64 a0_0, .int .i64 a0_1, .slice A0_2 l0_2.length c0_2]) (t:=24) ?hr ?_;(case hd=>rfl);(case hg=>rfl);(case hr=>first|(go_simp;done)|(go_simp;rfl));intro gba1 hg w4 hbox hb;have BKa1:=zk (hbox);have GWa1:=yg hg HB;have GEa1:=yg hg HB;replace HB:=yS HB hb;clear hb hbox hg))
 go_loopg [7,8] k (fun kq v7 v8 w'=>∃(x7_1:Int) (x8_1:Int),v7= .int .i64 x7_1∧v8= .int .i64 x8_1∧Aside0 (r4_Dot.l0 kq l1 l2 x7_1 x8_1 a0_0 a0_1 l0_2=some r)∧Aside0 (kq≤k)∧Aside0 (w'.heap[gba1]?=some (.cells #[.int .i64 a0_0, .int .i64 a0_1,(.slice A0_2 l0_2.length c0_2)] 24 (0,0)))∧Aside0 (Below w.heap.size w w'))
 case atStart=>exact⟨(0),(0),zF,zF,H',⟨Nat.le_refl _⟩,⟨zK BKa1.out⟩,⟨zB1 HB.out GEa1.out⟩⟩
 clear H'
 obtain⟨x7_1,x8_1,rfl,rfl,HA,HK1,BKa1,HB⟩:=hrel
 cases gk with|zero=>exact absurd HA.out (by simp [r4_Dot.l0])|succ k1=>?_
 have H:=HA.out
 clear HA
 simp only[r4_Dot.l0] at H
 have HC5:=zk H
 clear H
 go_upto_region 3 with(fail)
 go_cut [18] (fun v18 wc=>∃(kq:Nat) (x18_4:Bool),v18= .bool x18_4∧Aside0 (r4_Dot.j1 kq l1 l2 x7_1 x8_1 x18_4 a0_0 a0_1 l0_2=some r)∧Aside0 (kq≤k1)∧Aside0 (wc.heap[gba1]?=some (.cells #[.int .i64 a0_0, .int .i64 a0_1,(.slice A0_2 l0_2.length c0_2)] 24 (0,0)))∧Aside0 (Below w.heap.size w wc))
 case first=>
  have H:=HC5.out
  clear HC5
  replace H:=zid H
  rcases H with⟨c6b0,H⟩|⟨c6b0,H⟩
  ·(first|rw[c6b0]|(simp only[i64_w,i32_w];rw[c6b0])|rw[c6b1]|skip)
   have H':=zk H
   clear H
   go_wp2
   go_meet
   case rel=>exact⟨_,(decide (x8_1<(l2.length:Int))),zF,H',⟨by have:=HK1.out;first|omega|exact Nat.le_refl _⟩,⟨zK BKa1.out⟩,⟨zB1 HB.out GEa1.out⟩⟩
  (first|rw[c6b0]|(simp only[i64_w,i32_w];rw[c6b0])|rw[c6b1]|skip)
  have H':=zk H
  clear H
  go_wp2
  go_meet
  case rel=>exact⟨_,(false),zF,H',⟨by have:=HK1.out;first|omega|exact Nat.le_refl _⟩,⟨zK BKa1.out⟩,⟨zB1 HB.out GEa1.out⟩⟩
 clear HC5
 (try clear c6b0)
 obtain⟨kq,x18_4,rfl,HA,HJ4,BKa1,HB⟩:=hcut
 cases kq with|zero=>exact absurd HA.out (by simp [r4_Dot.j1])|succ kj4=>?_
 have H:=HA.out
 clear HA
 simp only[r4_Dot.j1] at H
 by_cases c7:x18_4=true
 ·subst c7
  rw[if_pos rfl] at H
  replace H:=zgd H
  obtain⟨c8b0,H⟩:=H
  replace H:=zgd H
  obtain⟨c9b0,H⟩:=H
  replace H:=zgd H
  obtain⟨c10b0,H⟩:=H
  replace H:=zb H
  obtain⟨ta4,A11,H⟩:=H
  replace H:=zb H
  obtain⟨ta5,A12,H⟩:=H
  have H':=zk H
  clear H
  try go_wp2
  replace BKa1:=zk (blk_drew BKa1.out)
  replace HB:=zk (below_drew1 HB.out)
  have pa2:0≤(x8_1:Int):=zd
  have qa2:x8_1<(l1.length:Int):=zd
  obtain⟨ada2,ea2,hxa2_0⟩:=Kd.at_int HR1.out x8_1 pa2 qa2
  have hw102_0:=hxa2_0
  cases ea2
  replace hxa2_0:=(HB.out.cell (World.block_lt_of_cell? w _ hxa2_0)).trans hxa2_0
  replace pa2:=eq_true pa2
  replace qa2:=eq_true qa2
  have pa3:0≤(x8_1:Int):=zd
  have qa3:x8_1<(l2.length:Int):=zd
  obtain⟨ada3,ea3,hxa3_0⟩:=Kd.at_int HR2.out x8_1 pa3 qa3
  have hw103_0:=hxa3_0
  cases ea3
  replace hxa3_0:=(HB.out.cell (World.block_lt_of_cell? w _ hxa3_0)).trans hxa3_0
  replace pa3:=eq_true pa3
  replace qa3:=eq_true qa3
  refine start_ (n:=14) (S:=fun w'=>w'.cell? ⟨gba1,0,none⟩=some (.int .i64 a0_0)∧w'.cell? ⟨gba1,1,none⟩=some (.int .i64 a0_1)∧w'.cell? ⟨gba1,2,none⟩=some (.slice A0_2 l0_2.length c0_2)∧w'.cell? (ada2.add (x8_1).toNat)=some (.int .i64 (rd l1 x8_1))∧w'.cell? (ada3.add (x8_1).toNat)=some (.int .i64 (rd l2 x8_1))) (ds:=[]) #[false,false,false,false,false,false,false,false,false,false,false,false,false,false] (by kernel_rfl) rfl rfl ⟨(blk_cell BKa1.out 0).trans rfl,(blk_cell BKa1.out 1).trans rfl,(blk_cell BKa1.out 2).trans rfl,((HB.out.cell (World.block_lt_of_cell? w _ hw102_0)).trans hw102_0),((HB.out.cell (World.block_lt_of_cell? w _ hw103_0)).trans hw103_0)⟩ (fun hHeld=>?_);refine with_tabW r4_Dot.tab5 r4_Dot.bits5 (fun HT_ HW_=>?_)
  first|(generalize wc.drew=w13 at BKa1 HB hxa2_0 hxa3_0 hHeld ⊢)|(generalize wc.drew=w13 at BKa1 HB hxa3_0 hHeld ⊢)|(generalize wc.drew=w13 at BKa1 HB hxa2_0 hHeld ⊢)|(generalize wc.drew=w13 at BKa1 HB hHeld ⊢)
  refine zp (i:=1) (N:=some 22) HT_ ?_
  refine zp (i:=3) (N:=some 24) HT_ ?_
  refine zp (i:=4) (N:=some 25) HT_ ?_
  refine zp (i:=5) (N:=some 26) HT_ ?_
  refine zp (i:=7) (N:=some 28) HT_ ?_
  refine zp (i:=8) (N:=some 29) HT_ ?_
  refine zp (i:=9) (N:=some 30) HT_ ?_
  refine take_ (i:=0) (N:=some 21) (v:=?_) (a':=?_) #[true,true,false,true,true,true,false,true,true,true,false,false,false,false] rfl rfl (take_ofW HT_.out HW_.out (by kernel_rfl)) (fun _ _ _ h=>h) (Or.inl ⟨by rfl,?_⟩) hHeld ?_ ?_
  rotate_left
  ·rintro w' ⟨s0,s1,s2,s3,s4⟩
   go_simp
   with_reducible rfl
  rotate_left
  ·simp only[Act.put,List.setIfInBounds_toArray,List.set_cons_zero,List.set_cons_succ,i64_w,i32_w]
   rfl
  refine take_ (i:=2) (N:=some 23) (v:=?_) (a':=?_) #[true,true,true,true,true,true,false,true,true,true,false,false,false,false] rfl rfl (take_ofW HT_.out HW_.out (by kernel_rfl)) (fun _ _ _ h=>h) (Or.inl ⟨by rfl,?_⟩) hHeld ?_ ?_
  rotate_left
  ·rintro w' ⟨s0,s1,s2,s3,s4⟩
   go_simp
   with_reducible rfl
  rotate_left
  ·simp only[Act.put,List.setIfInBounds_toArray,List.set_cons_zero,List.set_cons_succ,i64_w,i32_w]
   rfl
  refine take_ (i:=6) (N:=some 27) (v:=?_) (a':=?_) #[true,true,true,true,true,true,true,true,true,true,false,false,false,false] rfl rfl (take_ofW HT_.out HW_.out (by kernel_rfl)) (fun _ _ _ h=>h) (Or.inl ⟨by rfl,?_⟩) hHeld ?_ ?_
  rotate_left
  ·rintro w' ⟨s0,s1,s2,s3,s4⟩
   go_simp
   with_reducible rfl
  rotate_left
  ·simp only[Act.put,List.setIfInBounds_toArray,List.set_cons_zero,List.set_cons_succ,i64_w,i32_w]
   rfl
  refine take_ (i:=10) (N:=some 31) (v:=?_) (a':=?_) #[true,true,true,true,true,true,true,true,true,true,true,false,false,false] rfl rfl (take_ofW HT_.out HW_.out (by kernel_rfl)) (fun _ _ _ h=>h) (Or.inl ⟨by rfl,?_⟩) hHeld ?_ ?_
  rotate_left
  ·rintro w' ⟨s0,s1,s2,s3,s4⟩
   go_simp
   with_reducible rfl
  rotate_left
  ·simp only[Act.put,List.setIfInBounds_toArray,List.set_cons_zero,List.set_cons_succ,i64_w,i32_w]
   rfl
  refine one_ (i:=11) (N:=some 32) #[true,true,true,true,true,true,true,true,true,true,true,true,false,false] rfl rfl (one_of HT_.out (by kernel_rfl)) (by decide) (fun K hK=>?_)
  refine goes_ Try.func113 (by kernel_rfl) rfl #[.agg #[.int .i64 a0_0, .int .i64 a0_1, .slice A0_2 l0_2.length c0_2], .int .i64 (rd l1 x8_1), .int .i64 (rd l2 x8_1)] (by rfl) rfl rfl (by(try simp only[List.map_toArray,List.map_cons,List.map_nil]);first|done|rfl|(simp only[List.length_drop,List.length_take];rfl)) ?_
  with_reducible refine(r4_Mul.calls kj4 a0_0 a0_1 _ _ l0_2 (rd l1 x8_1) (rd l2 x8_1) ta4 _ ?side1 ?side2 A11.out).mono ?_
  (case side1=>exact zC (Kd.C_below HR0_2.out HB.out))
  (case side2=>exact HC0_2.out)
  rintro e w14 ⟨rfl,hb⟩
  refine⟨_,rfl,?_⟩
  replace BKa1:=yK BKa1 hb
  replace HB:=yS1 HB GEa1 hb
  (try clear hb)
  refine hK.out _ _ ⟨(blk_cell BKa1.out 0).trans rfl,(blk_cell BKa1.out 1).trans rfl,(blk_cell BKa1.out 2).trans rfl,((HB.out.cell (World.block_lt_of_cell? w _ hw102_0)).trans hw102_0),((HB.out.cell (World.block_lt_of_cell? w _ hw103_0)).trans hw103_0)⟩ (fun hHeld=>?_)
  clear hK K
  refine norm_ (a':=?_) ?_ ?_
  rotate_left
  ·show Act.put _ (some 32) _=_
   simp only[Act.put,List.setIfInBounds_toArray,List.set_cons_zero,List.set_cons_succ,i64_w,i32_w]
   rfl
  refine one_ (i:=12) (N:=some 33) #[true,true,true,true,true,true,true,true,true,true,true,true,true,false] rfl rfl (one_of HT_.out (by kernel_rfl)) (by decide) (fun K hK=>?_)
  refine goes_ Try.func112 (by kernel_rfl) rfl #[.agg #[.int .i64 a0_0, .int .i64 a0_1, .slice A0_2 l0_2.length c0_2], .int .i64 x7_1, .int .i64 ta4] (by rfl) rfl rfl (by(try simp only[List.map_toArray,List.map_cons,List.map_nil]);first|done|rfl|(simp only[List.length_drop,List.length_take];rfl)) ?_
  with_reducible refine(r4_Add.calls kj4 a0_0 a0_1 _ _ l0_2 x7_1 ta4 ta5 _ ?side1 ?side2 A12.out).mono ?_
  (case side1=>exact zC (Kd.C_below HR0_2.out HB.out))
  (case side2=>exact HC0_2.out)
  rintro e w15 ⟨rfl,hb⟩
  refine⟨_,rfl,?_⟩
  replace BKa1:=yK BKa1 hb
  replace HB:=yS1 HB GEa1 hb
  (try clear hb)
  refine hK.out _ _ ⟨(blk_cell BKa1.out 0).trans rfl,(blk_cell BKa1.out 1).trans rfl,(blk_cell BKa1.out 2).trans rfl,((HB.out.cell (World.block_lt_of_cell? w _ hw102_0)).trans hw102_0),((HB.out.cell (World.block_lt_of_cell? w _ hw103_0)).trans hw103_0)⟩ (fun hHeld=>?_)
  clear hK K
  refine norm_ (a':=?_) ?_ ?_
  rotate_left
  ·show Act.put _ (some 33) _=_
   simp only[Act.put,List.setIfInBounds_toArray,List.set_cons_zero,List.set_cons_succ,i64_w,i32_w]
   rfl
  refine zp (i:=13) (N:=some 7) HT_ ?_
  refine done_ (done_of HT_.out (by kernel_rfl)) ?_
  try go_wp2
  go_roundg kj4
  case measure=>have:=HK1.out;have:=HJ4.out;omega
  case rel=>exact⟨(ta5),(wrap64 (x8_1+1)),zF,zF,H',⟨zo2 HK1 HJ4⟩,⟨zK BKa1.out⟩,⟨zB1 HB.out GEa1.out⟩⟩
 replace c7:=Bool.eq_false_iff.mpr c7
 subst c7
 rw[if_neg Bool.false_ne_true] at H
 obtain rfl:=Option.some.inj H
 go_wp2
 go_ret
 exact⟨zE,zB1 HB.out GEa1.out⟩
def r24_Orthogonal.T9:Bool×List (List Nat×List Nat):=(true,[([],[]),([0],[0]),([1],[1]),([1],[1]),([1],[1]),([3,4,1],[1,3,4]),([5,1],[1,5]),([1],[1]),([1],[1]),([7,8,1],[1,7,8]),([9,1],[1,9]),([2,6,10,1,1],[1,2,6,10]),([11,1],[1,11]),([1,12],[1,12]),([13,11,0,1,2,3,4,5,6,7,8,9,10,11,12,13],[0,13])])
def r24_Orthogonal.B9:List Nat:=[0,1,3,3,3,27,59,3,3,387,899,2047,4095,8191,16383]
theorem r24_Orthogonal.tab9:rtab .any (opsOf Try.f70 9)=r24_Orthogonal.T9:=by kernel_rfl
theorem r24_Orthogonal.bits9:waitsOk r24_Orthogonal.T9.2 r24_Orthogonal.B9=true:=by kernel_rfl
set_option maxHeartbeats 8000000 in
set_option maxRecDepth 100000 in
theorem r24_Orthogonal.calls (k:Nat) (a0_0:Int) (a0_1:Int) (A0_2:Option Addr) (c0_2:Nat) (l0_2:List Int) (P1_:Nat→Prop) (A1:Option Addr) (c1:Nat) (l1:List (List Int)) (A2:Option Addr) (c2:Nat) (l2:List (List Int)) (r:List (List Int)) (w:World) (hr0_2:Kd.C (Kd.int .i64) w A0_2 l0_2.length l0_2) (hc0_2:l0_2.length≤c0_2) (hs1:Kd.V (Kd.slice 3 (Kd.int .i64)) 22 w w.heap.size (fun k_=>P1_ k_) (.slice A1 l1.length c1) l1) (hr2:Kd.C (Kd.slice 3 (Kd.int .i64)) w A2 l2.length l2) (hc2:l2.length≤c2) (h:r24_Orthogonal.f k a0_0 a0_1 l0_2 l1 l2=some r):
 Calls Try.prog 70 #[.agg #[.int .i64 a0_0, .int .i64 a0_1, .slice A0_2 l0_2.length c0_2], .slice A1 l1.length c1, .slice A2 l2.length c2] w fun e w'=>∃v0_:Value,e= .returned (v0_)∧Kd.N (Kd.slice 3 (Kd.int .i64)) 22 w' w.heap.size (fun k_=>(P1_ k_∨w.heap.size≤k_)) v0_ r∧Below w.heap.size w w':=by
 have hu24:=Try.underlying24
 have HR0_2:=zk hr0_2
 have HC0_2:=zk hc0_2
 clear hr0_2 hc0_2
 have HO1:=zk (show Kd.V (Kd.slice 3 (Kd.int .i64)) 22 w w.heap.size (fun k_=>(P1_ k_∨w.heap.size≤k_)) (.slice A1 l1.length c1) l1 from Kd.V_mono hs1 (fun k_ hk=> .inl hk))
 have HR2:=zk hr2
 have HC2:=zk hc2
 clear hr2 hc2
 have HB:=zk (Below.refl w.heap.size w)
 have H:=h
 clear h
 unfold r24_Orthogonal.f at H
 have H':=zk H
 clear H
 go_enter Try.func70,Try.ntmps70
 go_wp2_with (first|((with_reducible refine gate_dst (N:=3) rfl ?_);refine box_event ?hg (N:=3) ?hd (cs:= #[.int .i64 a0_0, .int .i64 a0_1, .slice A0_2 l0_2.length c0_2]) (t:=24) ?hr ?_;(case hd=>rfl);(case hg=>rfl);(case hr=>first|(go_simp;done)|(go_simp;rfl));intro gba1 hg w4 hbox hb;replace HO1:=yVB HO1 hg hb;have BKa1:=zk (hbox);have GWa1:=yg hg HB;have GEa1:=yg hg HB;replace HB:=yS HB hb;clear hb hbox hg))
 go_loopg [7,8] k (fun kq v7 v8 w'=>∃(x7_1:List (List Int)) (x8_1:Int),v8= .int .i64 x8_1∧Aside0 (r24_Orthogonal.l0 kq l1 l2 x7_1 x8_1 a0_0 a0_1 l0_2=some r)∧Aside0 (kq≤k)∧Aside0 (Kd.V (Kd.slice 3 (Kd.int .i64)) 22 w' w.heap.size (fun k_=>(P1_ k_∨w.heap.size≤k_)∧some k_≠(v7:Value).ownBlock∧k_≠gba1) (.slice A1 l1.length c1) l1)∧Aside0 (Kd.N (Kd.slice 3 (Kd.int .i64)) 22 w' w.heap.size (fun k_=>(P1_ k_∨w.heap.size≤k_)∧k_≠gba1) v7 x7_1)∧Aside0 (w'.heap[gba1]?=some (.cells #[.int .i64 a0_0, .int .i64 a0_1,(.slice A0_2 l0_2.length c0_2)] 24 (0,0)))∧Aside0 (Below w.heap.size w w'))
 case atStart=>exact⟨(([]:List (List Int))),(0),zF,H',⟨Nat.le_refl _⟩,⟨by(with_reducible repeat(first|apply Kd.V_alloc|apply Kd.V_drewN|apply Kd.V_drew));exact Kd.V_mono HO1.out (fun _ hk=>⟨hk.1,⟨(by simp [Value.ownBlock]),hk.2⟩⟩)⟩,⟨by first|exact Kd.S_nil _ _ _ _ _|exact Kd.N_nil _ _ _ _ _|exact Kd.V_nil _ _ _ _ _|exact Kd.Q_nil _ _ _ _ _|exact Kd.R_nil _ _ _ _ _⟩,⟨zK BKa1.out⟩,⟨zB1 HB.out GEa1.out⟩⟩
 clear H'
 obtain⟨x7_1,x8_1,rfl,HA,HK1,HO_1,HO_7,BKa1,HB⟩:=hrel
 cases gk with|zero=>exact absurd HA.out (by simp [r24_Orthogonal.l0])|succ k1=>?_
 have H:=HA.out
 clear HA
 simp only[r24_Orthogonal.l0] at H
 replace H:=zid H
 rcases H with⟨c5b0,H⟩|⟨c5b0,H⟩
 ·have H':=zk H
  clear H
  go_wp2
  go_loopg [9,10] k1 (fun kq v9 v10 w'=>∃(x9_2:Bool) (x10_2:Int),v9= .bool x9_2∧v10= .int .i64 x10_2∧Aside0 (r24_Orthogonal.l1 kq l1 l2 x7_1 x8_1 x9_2 x10_2 a0_0 a0_1 l0_2=some r)∧Aside0 (kq≤k1)∧Aside0 (Kd.V (Kd.slice 3 (Kd.int .i64)) 22 w' w.heap.size (fun k_=>(P1_ k_∨w.heap.size≤k_)∧some k_≠(u7:Value).ownBlock∧k_≠gba1) (.slice A1 l1.length c1) l1)∧Aside0 (Kd.N (Kd.slice 3 (Kd.int .i64)) 22 w' w.heap.size (fun k_=>(P1_ k_∨w.heap.size≤k_)∧k_≠gba1) u7 x7_1)∧Aside0 (w'.heap[gba1]?=some (.cells #[.int .i64 a0_0, .int .i64 a0_1,(.slice A0_2 l0_2.length c0_2)] 24 (0,0)))∧Aside0 (Below w.heap.size w w'))
  case atStart=>exact⟨(true),(0),zF,zF,H',⟨Nat.le_refl _⟩,⟨zV HO_1.out⟩,⟨zN HO_7.out⟩,⟨zK BKa1.out⟩,⟨zB1 HB.out GEa1.out⟩⟩
  clear H'
  (try clear c5b0)
  obtain⟨x9_2,x10_2,rfl,rfl,HA,HK2,HO_1,HO_7,BKa1,HB⟩:=hrel
  cases gk with|zero=>exact absurd HA.out (by simp [r24_Orthogonal.l1])|succ k2=>?_
  have H:=HA.out
  clear HA
  simp only[r24_Orthogonal.l1] at H
  replace H:=zid H
  rcases H with⟨c6b0,H⟩|⟨c6b0,H⟩
  ·by_cases c7:x9_2=true
   ·subst c7
    rw[if_pos rfl] at H
    replace H:=zgd H
    obtain⟨c8b0,H⟩:=H
    replace H:=zgd H
    obtain⟨c9b0,H⟩:=H
    replace H:=zgd H
    obtain⟨c10b0,H⟩:=H
    replace H:=zb H
    obtain⟨ta4,A11,H⟩:=H
    have H':=zk H
    clear H
    try go_wp2
    replace HO_1:=zk (Kd.V_drew HO_1.out)
    replace HO_7:=zk (Kd.N_drew HO_7.out)
    replace BKa1:=zk (blk_drew BKa1.out)
    replace HB:=zk (below_drew1 HB.out)
    have pa2:0≤(x8_1:Int):=zd
    have qa2:x8_1<(l1.length:Int):=zd
    obtain⟨ada2,Aa2_0,ca2_0,ea2,hxa2_0,hla2_0,hia2_0⟩:=at_L1 (Kd.V_reads' HO_1.out).2.2 x8_1 pa2 qa2
    cases ea2
    obtain⟨cea2,hcea2,hMea2,hcca2⟩:=Kd.V_get HO_1.out [] x8_1 pa2 (by first|exact qa2|exact zd|(have e_:=(Kd.V_reads' HO_1.out).1;omega))
    obtain⟨uaa2_0,uca2_0,rfl,ula2_0,gea2_0⟩:=Kd.FK_slice_open hMea2
    have hva2_0:=hcca2 0 _ rfl
    rw[Nat.add_zero,show((Kd.slice 3 (Kd.int .i64))).sz=1 from rfl,Nat.mul_one] at hva2_0
    replace hva2_0:=Option.some.inj (hva2_0.symm.trans hxa2_0)
    injection hva2_0 with hva_ hvn_ hvc_
    rw[hva_] at gea2_0
    rw[hvc_] at ula2_0
    have HLa2_0:=zk (show Kd.V (Kd.int .i64) 3 _ w.heap.size _ _ (rd_L1 l1 x8_1) from Kd.V_mk ula2_0 gea2_0)
    clear hva_ hvn_ hvc_ gea2_0 ula2_0
    clear hcca2 hcea2
    have HRa2_0:=zk hia2_0
    have HCa2_0:=zk hla2_0
    clear hia2_0 hla2_0
    replace pa2:=eq_true pa2
    replace qa2:=eq_true qa2
    have pa3:0≤(x10_2:Int):=zd
    have qa3:x10_2<(l2.length:Int):=zd
    obtain⟨ada3,Aa3_0,ca3_0,ea3,hxa3_0,hla3_0,hia3_0⟩:=at_L1 HR2.out x10_2 pa3 qa3
    have hw103_0:=hxa3_0
    cases ea3
    replace hxa3_0:=(HB.out.cell (World.block_lt_of_cell? w _ hxa3_0)).trans hxa3_0
    have HRa3_0:=zk hia3_0
    have HCa3_0:=zk hla3_0
    clear hia3_0 hla3_0
    replace pa3:=eq_true pa3
    replace qa3:=eq_true qa3
    refine start_ (n:=15) (S:=fun w'=>w'.cell? ⟨gba1,0,none⟩=some (.int .i64 a0_0)∧w'.cell? ⟨gba1,1,none⟩=some (.int .i64 a0_1)∧w'.cell? ⟨gba1,2,none⟩=some (.slice A0_2 l0_2.length c0_2)∧w'.cell? (ada2.add (x8_1).toNat)=some (.slice Aa2_0 (rd_L1 l1 x8_1).length ca2_0)∧w'.cell? (ada3.add (x10_2).toNat)=some (.slice Aa3_0 (rd_L1 l2 x10_2).length ca3_0)) (ds:=[]) #[false,false,false,false,false,false,false,false,false,false,false,false,false,false,false] (by kernel_rfl) rfl rfl ⟨(blk_cell BKa1.out 0).trans rfl,(blk_cell BKa1.out 1).trans rfl,(blk_cell BKa1.out 2).trans rfl,hxa2_0,((HB.out.cell (World.block_lt_of_cell? w _ hw103_0)).trans hw103_0)⟩ (fun hHeld=>?_);refine with_tabW r24_Orthogonal.tab9 r24_Orthogonal.bits9 (fun HT_ HW_=>?_)
    first|(generalize wr.drew=w12 at HO_1 HO_7 BKa1 HB HLa2_0 HRa2_0 HRa3_0 hxa2_0 hxa3_0 hHeld ⊢)|(generalize wr.drew=w12 at HO_1 HO_7 BKa1 HB HLa2_0 HRa2_0 HRa3_0 hxa3_0 hHeld ⊢)|(generalize wr.drew=w12 at HO_1 HO_7 BKa1 HB HLa2_0 HRa2_0 HRa3_0 hxa2_0 hHeld ⊢)|(generalize wr.drew=w12 at HO_1 HO_7 BKa1 HB HLa2_0 HRa2_0 HRa3_0 hHeld ⊢)
    refine zp (i:=0) (N:=some 23) HT_ ?_
    refine zp (i:=1) (N:=some 24) HT_ ?_
    refine zp (i:=3) (N:=some 26) HT_ ?_
    refine zp (i:=4) (N:=some 27) HT_ ?_
    refine zp (i:=5) (N:=some 28) HT_ ?_
    refine zp (i:=7) (N:=some 30) HT_ ?_
    refine zp (i:=8) (N:=some 31) HT_ ?_
    refine zp (i:=9) (N:=some 32) HT_ ?_
    refine take_ (i:=2) (N:=some 25) (v:=?_) (a':=?_) #[true,true,true,true,true,true,false,true,true,true,false,false,false,false,false] rfl rfl (take_ofW HT_.out HW_.out (by kernel_rfl)) (fun _ _ _ h=>h) (Or.inl ⟨by rfl,?_⟩) hHeld ?_ ?_
    rotate_left
    ·rintro w' ⟨s0,s1,s2,s3,s4⟩
     go_simp
     with_reducible rfl
    rotate_left
    ·simp only[Act.put,List.setIfInBounds_toArray,List.set_cons_zero,List.set_cons_succ,i64_w,i32_w]
     rfl
    refine take_ (i:=6) (N:=some 29) (v:=?_) (a':=?_) #[true,true,true,true,true,true,true,true,true,true,false,false,false,false,false] rfl rfl (take_ofW HT_.out HW_.out (by kernel_rfl)) (fun _ _ _ h=>h) (Or.inl ⟨by rfl,?_⟩) hHeld ?_ ?_
    rotate_left
    ·rintro w' ⟨s0,s1,s2,s3,s4⟩
     go_simp
     with_reducible rfl
    rotate_left
    ·simp only[Act.put,List.setIfInBounds_toArray,List.set_cons_zero,List.set_cons_succ,i64_w,i32_w]
     rfl
    refine take_ (i:=10) (N:=some 33) (v:=?_) (a':=?_) #[true,true,true,true,true,true,true,true,true,true,true,false,false,false,false] rfl rfl (take_ofW HT_.out HW_.out (by kernel_rfl)) (fun _ _ _ h=>h) (Or.inl ⟨by rfl,?_⟩) hHeld ?_ ?_
    rotate_left
    ·rintro w' ⟨s0,s1,s2,s3,s4⟩
     go_simp
     with_reducible rfl
    rotate_left
    ·simp only[Act.put,List.setIfInBounds_toArray,List.set_cons_zero,List.set_cons_succ,i64_w,i32_w]
     rfl
    refine one_ (i:=11) (N:=some 34) #[true,true,true,true,true,true,true,true,true,true,true,true,false,false,false] rfl rfl (one_of HT_.out (by kernel_rfl)) (by decide) (fun K hK=>?_)
    refine goes_ Try.func114 (by kernel_rfl) rfl #[.agg #[.int .i64 a0_0, .int .i64 a0_1, .slice A0_2 l0_2.length c0_2], .slice Aa2_0 (rd_L1 l1 x8_1).length ca2_0, .slice Aa3_0 (rd_L1 l2 x10_2).length ca3_0] (by rfl) rfl rfl (by(try simp only[List.map_toArray,List.map_cons,List.map_nil]);first|done|rfl|(simp only[List.length_drop,List.length_take];rfl)) ?_
    with_reducible refine(r4_Dot.calls k2 a0_0 a0_1 _ _ l0_2 _ _ (rd_L1 l1 x8_1) _ _ (rd_L1 l2 x10_2) ta4 _ ?side1 ?side2 ?side3 ?side4 ?side5 ?side6 A11.out).mono ?_
    (case side1=>exact zC (Kd.C_below HR0_2.out HB.out))
    (case side2=>exact HC0_2.out)
    (case side3=>repeat(first|exact(zCr HRa2_0.out)|(with_reducible refine Kd.C_alloc ?_ _)|(with_reducible refine Kd.C_drewN ?_ _)|(with_reducible refine Kd.C_drew ?_)))
    (case side4=>exact HCa2_0.out)
    (case side5=>exact zC (Kd.C_below HRa3_0.out HB.out))
    (case side6=>exact HCa3_0.out)
    rintro e w13 ⟨rfl,hb⟩
    have HS3_:=(hb.cell (World.block_lt_of_cell? _ _ (hHeld.2.2.2.1))).trans (hHeld.2.2.2.1)
    refine⟨_,rfl,?_⟩
    replace HO_1:=yVb HO_1 hb
    replace HO_7:=yNb HO_7 hb
    replace HLa2_0:=yVb HLa2_0 hb
    replace BKa1:=yK BKa1 hb
    (try replace HRa2_0:=yCb HRa2_0 hb)
    replace HB:=yS1 HB GEa1 hb
    (try clear hb)
    refine hK.out _ _ ⟨(blk_cell BKa1.out 0).trans rfl,(blk_cell BKa1.out 1).trans rfl,(blk_cell BKa1.out 2).trans rfl,HS3_,((HB.out.cell (World.block_lt_of_cell? w _ hw103_0)).trans hw103_0)⟩ (fun hHeld=>?_)
    clear hK K
    refine norm_ (a':=?_) ?_ ?_
    rotate_left
    ·show Act.put _ (some 34) _=_
     simp only[Act.put,List.setIfInBounds_toArray,List.set_cons_zero,List.set_cons_succ,i64_w,i32_w]
     rfl
    refine zp (i:=12) (N:=some 35) HT_ ?_
    refine zp (i:=13) (N:=some 36) HT_ ?_
    refine zp (i:=14) (N:=some 9) HT_ ?_
    refine done_ (done_of HT_.out (by kernel_rfl)) ?_
    try go_wp2
    go_roundg k2
    case measure=>have:=HK1.out;have:=HK2.out;omega
    case rel=>exact⟨((ta4==0)),(wrap64 (x10_2+1)),zF,zF,H',⟨zo2 HK1 HK2⟩,⟨zV HO_1.out⟩,⟨zN HO_7.out⟩,⟨zK BKa1.out⟩,⟨zB1 HB.out GEa1.out⟩⟩
   replace c7:=Bool.eq_false_iff.mpr c7
   subst c7
   rw[if_neg Bool.false_ne_true] at H
   have H':=zk H
   clear H
   try go_wp2
   replace HO_1:=zk (Kd.V_drew HO_1.out)
   replace HO_7:=zk (Kd.N_drew HO_7.out)
   replace BKa1:=zk (blk_drew BKa1.out)
   replace HB:=zk (below_drew1 HB.out)
   refine start_ (n:=15) (S:=fun w'=>True) (ds:=[]) #[false,false,false,false,false,false,false,false,false,false,false,false,false,false,false] (by kernel_rfl) rfl rfl trivial (fun hHeld=>?_);refine with_tabW r24_Orthogonal.tab9 r24_Orthogonal.bits9 (fun HT_ HW_=>?_)
   generalize wr.drew=w14 at HO_1 HO_7 BKa1 HB hHeld ⊢
   refine zp (i:=0) (N:=some 23) HT_ ?_
   refine zp (i:=1) (N:=some 24) HT_ ?_
   refine pure_ (i:=2) (N:=some 25) (v:=undef) (a':=?_) #[true,true,true,false,false,false,false,false,false,false,false,false,false,false,false] rfl rfl (any_of HT_.out (by kernel_rfl)) (fun _ _ _ h=>h) (Or.inr ⟨by rfl,rfl⟩) ?_ ?_
   rotate_left
   ·simp only[Act.put,List.setIfInBounds_toArray,List.set_cons_zero,List.set_cons_succ,i64_w,i32_w]
    rfl
   refine pure_ (i:=3) (N:=some 26) (v:=undef) (a':=?_) #[true,true,true,true,false,false,false,false,false,false,false,false,false,false,false] rfl rfl (any_of HT_.out (by kernel_rfl)) (fun _ _ _ h=>h) (Or.inr ⟨by rfl,rfl⟩) ?_ ?_
   rotate_left
   ·simp only[Act.put,List.setIfInBounds_toArray,List.set_cons_zero,List.set_cons_succ,i64_w,i32_w]
    rfl
   refine pure_ (i:=4) (N:=some 27) (v:=undef) (a':=?_) #[true,true,true,true,true,false,false,false,false,false,false,false,false,false,false] rfl rfl (any_of HT_.out (by kernel_rfl)) (fun _ _ _ h=>h) (Or.inr ⟨by rfl,rfl⟩) ?_ ?_
   rotate_left
   ·simp only[Act.put,List.setIfInBounds_toArray,List.set_cons_zero,List.set_cons_succ,i64_w,i32_w]
    rfl
   refine pure_ (i:=5) (N:=some 28) (v:=undef) (a':=?_) #[true,true,true,true,true,true,false,false,false,false,false,false,false,false,false] rfl rfl (any_of HT_.out (by kernel_rfl)) (fun _ _ _ h=>h) (Or.inr ⟨by rfl,rfl⟩) ?_ ?_
   rotate_left
   ·simp only[Act.put,List.setIfInBounds_toArray,List.set_cons_zero,List.set_cons_succ,i64_w,i32_w]
    rfl
   refine pure_ (i:=6) (N:=some 29) (v:=undef) (a':=?_) #[true,true,true,true,true,true,true,false,false,false,false,false,false,false,false] rfl rfl (any_of HT_.out (by kernel_rfl)) (fun _ _ _ h=>h) (Or.inr ⟨by rfl,rfl⟩) ?_ ?_
   rotate_left
   ·simp only[Act.put,List.setIfInBounds_toArray,List.set_cons_zero,List.set_cons_succ,i64_w,i32_w]
    rfl
   refine pure_ (i:=7) (N:=some 30) (v:=undef) (a':=?_) #[true,true,true,true,true,true,true,true,false,false,false,false,false,false,false] rfl rfl (any_of HT_.out (by kernel_rfl)) (fun _ _ _ h=>h) (Or.inr ⟨by rfl,rfl⟩) ?_ ?_
   rotate_left
   ·simp only[Act.put,List.setIfInBounds_toArray,List.set_cons_zero,List.set_cons_succ,i64_w,i32_w]
    rfl
   refine pure_ (i:=8) (N:=some 31) (v:=undef) (a':=?_) #[true,true,true,true,true,true,true,true,true,false,false,false,false,false,false] rfl rfl (any_of HT_.out (by kernel_rfl)) (fun _ _ _ h=>h) (Or.inr ⟨by rfl,rfl⟩) ?_ ?_
   rotate_left
   ·simp only[Act.put,List.setIfInBounds_toArray,List.set_cons_zero,List.set_cons_succ,i64_w,i32_w]
    rfl
   refine pure_ (i:=9) (N:=some 32) (v:=undef) (a':=?_) #[true,true,true,true,true,true,true,true,true,true,false,false,false,false,false] rfl rfl (any_of HT_.out (by kernel_rfl)) (fun _ _ _ h=>h) (Or.inr ⟨by rfl,rfl⟩) ?_ ?_
   rotate_left
   ·simp only[Act.put,List.setIfInBounds_toArray,List.set_cons_zero,List.set_cons_succ,i64_w,i32_w]
    rfl
   refine pure_ (i:=10) (N:=some 33) (v:=undef) (a':=?_) #[true,true,true,true,true,true,true,true,true,true,true,false,false,false,false] rfl rfl (any_of HT_.out (by kernel_rfl)) (fun _ _ _ h=>h) (Or.inr ⟨by rfl,rfl⟩) ?_ ?_
   rotate_left
   ·simp only[Act.put,List.setIfInBounds_toArray,List.set_cons_zero,List.set_cons_succ,i64_w,i32_w]
    rfl
   refine pure_ (i:=11) (N:=some 34) (v:=undef) (a':=?_) #[true,true,true,true,true,true,true,true,true,true,true,true,false,false,false] rfl rfl (any_of HT_.out (by kernel_rfl)) (fun _ _ _ h=>h) (Or.inr ⟨by rfl,rfl⟩) ?_ ?_
   rotate_left
   ·simp only[Act.put,List.setIfInBounds_toArray,List.set_cons_zero,List.set_cons_succ,i64_w,i32_w]
    rfl
   refine pure_ (i:=12) (N:=some 35) (v:=undef) (a':=?_) #[true,true,true,true,true,true,true,true,true,true,true,true,true,false,false] rfl rfl (any_of HT_.out (by kernel_rfl)) (fun _ _ _ h=>h) (Or.inr ⟨by rfl,rfl⟩) ?_ ?_
   rotate_left
   ·simp only[Act.put,List.setIfInBounds_toArray,List.set_cons_zero,List.set_cons_succ,i64_w,i32_w]
    rfl
   refine zp (i:=13) (N:=some 36) HT_ ?_
   refine zp (i:=14) (N:=some 9) HT_ ?_
   refine done_ (done_of HT_.out (by kernel_rfl)) ?_
   try go_wp2
   go_roundg k2
   case measure=>have:=HK1.out;have:=HK2.out;omega
   case rel=>exact⟨(false),(wrap64 (x10_2+1)),zF,zF,H',⟨zo2 HK1 HK2⟩,⟨zV HO_1.out⟩,⟨zN HO_7.out⟩,⟨zK BKa1.out⟩,⟨zB1 HB.out GEa1.out⟩⟩
  by_cases c15:x9_2=true
  ·subst c15
   rw[if_pos rfl] at H
   replace H:=zgd H
   obtain⟨c16b0,H⟩:=H
   replace H:=zgd H
   obtain⟨c17b0,H⟩:=H
   replace H:=zg H
   obtain⟨c18,H⟩:=H
   have LMc18:=zk c18
   clear c18
   obtain⟨ya6,hya6⟩:∃y_:List (List Int),y_=(x7_1++[rd_L1 l1 x8_1]):=⟨_,rfl⟩
   replace H:(r24_Orthogonal.l0 k2 l1 l2 ya6 (wrap64 (x8_1+1)) a0_0 a0_1 l0_2)=some r:=zY hya6 H
   have Nya6:=zk hya6
   clear hya6
   have H':=zk H
   clear H
   have pa5:0≤(x8_1:Int):=zd
   have qa5:x8_1<(l1.length:Int):=zd
   obtain⟨ada5,Aa5_0,ca5_0,ea5,hxa5_0,hla5_0,hia5_0⟩:=at_L1 (Kd.V_reads' HO_1.out).2.2 x8_1 pa5 qa5
   cases ea5
   obtain⟨cea5,hcea5,hMea5,hcca5⟩:=Kd.V_get HO_1.out [] x8_1 pa5 (by first|exact qa5|exact zd|(have e_:=(Kd.V_reads' HO_1.out).1;omega))
   obtain⟨uaa5_0,uca5_0,rfl,ula5_0,gea5_0⟩:=Kd.FK_slice_open hMea5
   have hva5_0:=hcca5 0 _ rfl
   rw[Nat.add_zero,show((Kd.slice 3 (Kd.int .i64))).sz=1 from rfl,Nat.mul_one] at hva5_0
   replace hva5_0:=Option.some.inj (hva5_0.symm.trans hxa5_0)
   injection hva5_0 with hva_ hvn_ hvc_
   rw[hva_] at gea5_0
   rw[hvc_] at ula5_0
   have HLa5_0:=zk (show Kd.V (Kd.int .i64) 3 _ w.heap.size _ _ (rd_L1 l1 x8_1) from Kd.V_mk ula5_0 gea5_0)
   clear hva_ hvn_ hvc_ gea5_0 ula5_0
   clear hcca5 hcea5
   have HRa5_0:=zk hia5_0
   have HCa5_0:=zk hla5_0
   clear hia5_0 hla5_0
   replace pa5:=eq_true pa5
   replace qa5:=eq_true qa5
   go_wp2_with (first|((with_reducible refine gate_builtin (b:= .append) (xs:= #[.tmp 38, .tmp 43]) rfl ?_);at_builtin;refine Kd.N_append (Kd.slice 3 (Kd.int .i64)) (w0:=w) w.heap.size rfl (.tmp 38) (.tmp 43) 25 22 (.slice none 0 0) 24 rfl Try.underlying25 info22 rfl (by decide) (by omega) u7 x7_1 (rd_L1 l1 x8_1) [.slice Aa5_0 (rd_L1 l1 x8_1).length ca5_0] (fun k_=>(P1_ k_∨w.heap.size≤k_)∧k_≠gba1) (fun k_=>((fun k_=>(P1_ k_∨w.heap.size≤k_)∧k_≠gba1)) k_∧some k_≠(u7:Value).ownBlock) rfl rfl ?aP (fun _ hk=>hk) ?aF ?aO ?aB ?aS ?aL ?_;(case aP=>exact(Kd.FK_slice_mk (Kd.V_reads' (Kd.V_mono (ok':=(fun k_=>((fun k_=>(P1_ k_∨w.heap.size≤k_)∧k_≠gba1)) k_∧some k_≠(u7:Value).ownBlock)) (HLa5_0.out) (fun k_ hk=>by exact⟨⟨hk.1,hk.2.2⟩,hk.2.1⟩))).2.1 (Kd.V_F (Kd.V_mono (ok':=(fun k_=>((fun k_=>(P1_ k_∨w.heap.size≤k_)∧k_≠gba1)) k_∧some k_≠(u7:Value).ownBlock)) (HLa5_0.out) (fun k_ hk=>by exact⟨⟨hk.1,hk.2.2⟩,hk.2.1⟩)))));(case aB=>exact(zB1 HB.out GEa1.out));(case aF=>exact(fun k_ hk=>⟨(.inr (Nat.le_trans (below_size (zB1 HB.out GEa1.out)) hk)),Kd.freshB (g:=gba1) (o:= .cells #[.int .i64 a0_0, .int .i64 a0_1, .slice A0_2 l0_2.length c0_2] 24 (0,0)) (zK BKa1.out) k_ hk⟩));(case aO=>exact(zN HO_7.out));(case aS=>exact(below_size (zB1 HB.out GEa1.out)));(case aL=>have:=LMc18.out;omega);intro va7 w19 ho hb hg hat;rw[←Nya6.out] at ho;replace HO_1:=zk (Kd.V_afterv (ok:=(fun k_=>(P1_ k_∨w.heap.size≤k_)∧k_≠gba1)) (by(with_reducible repeat(first|apply Kd.V_alloc|apply Kd.V_drewN|apply Kd.V_drew));exact Kd.V_mono HO_1.out (fun _ hk=>⟨⟨hk.1,hk.2.2⟩,hk.2.1⟩)) hg hat);replace BKa1:=zk (blk_grown (g:=gba1) (o:= .cells #[.int .i64 a0_0, .int .i64 a0_1, .slice A0_2 l0_2.length c0_2] 24 (0,0)) (zK BKa1.out) hg (Kd.N_ne HO_7.out BKa1.out (by decide)));replace HLa5_0:=zk (Kd.V_afterv (ok:=(fun k_=>(P1_ k_∨w.heap.size≤k_)∧k_≠gba1)) (by(with_reducible repeat(first|apply Kd.V_alloc|apply Kd.V_drewN|apply Kd.V_drew));exact Kd.V_mono HLa5_0.out (fun _ hk=>⟨⟨hk.1,hk.2.2⟩,hk.2.1⟩)) hg hat);replace HB:=zk (hb);have HOa8:=zk (ho);clear HO_7;clear ho hb hg hat))
   go_roundg k2
   case measure=>have:=HK1.out;have:=HK2.out;omega
   case rel=>exact⟨(ya6),(wrap64 (x8_1+1)),zF,H',⟨zo2 HK1 HK2⟩,⟨by(with_reducible repeat(first|apply Kd.V_alloc|apply Kd.V_drewN|apply Kd.V_drew));exact Kd.V_mono HO_1.out (fun _ hk=>⟨hk.1.1,⟨hk.2,hk.1.2⟩⟩)⟩,⟨zN HOa8.out⟩,⟨zK BKa1.out⟩,⟨zB1 HB.out GEa1.out⟩⟩
  replace c15:=Bool.eq_false_iff.mpr c15
  subst c15
  rw[if_neg Bool.false_ne_true] at H
  have H':=zk H
  clear H
  go_wp2
  go_roundg k2
  case measure=>have:=HK1.out;have:=HK2.out;omega
  case rel=>exact⟨(x7_1),(wrap64 (x8_1+1)),zF,H',⟨zo2 HK1 HK2⟩,⟨zV HO_1.out⟩,⟨zN HO_7.out⟩,⟨zK BKa1.out⟩,⟨zB1 HB.out GEa1.out⟩⟩
 obtain rfl:=Option.some.inj H
 go_wp2
 go_ret
 exact⟨_,zE,by(with_reducible repeat(first|apply Kd.N_alloc|apply Kd.N_drewN|apply Kd.N_drew));exact Kd.N_mono HO_7.out (fun _ hk=>hk.1),zB1 HB.out GEa1.out⟩
def w24_codes.T12:Bool×List (List Nat×List Nat):=(true,[([],[]),([],[]),([],[]),([],[]),([],[]),([3,4],[3,4]),([5],[5]),([1,2,6],[1,2,6]),([7],[7]),([0,8,7],[0,8]),([9,9,0,1,2,3,4,5,6,7,8,9],[0,9])])
def w24_codes.B12:List Nat:=[0,0,0,0,0,24,56,126,254,511,1023]
theorem w24_codes.tab12:rtab .any (opsOf Try.f19 12)=w24_codes.T12:=by kernel_rfl
theorem w24_codes.bits12:waitsOk w24_codes.T12.2 w24_codes.B12=true:=by kernel_rfl
set_option maxHeartbeats 8000000 in
set_option maxRecDepth 100000 in
theorem w24_codes.calls (k:Nat) (a0_0:Int) (a0_1:Int) (A0_2:Option Addr) (c0_2:Nat) (l0_2:List Int) (a1:Int) (A2:Option Addr) (c2:Nat) (l2:List (List Int)) (r1:Int) (r2:List (List Int)) (r3:List (List Int)) (r4:List (List Int)) (r5:Bool) (w:World) (hr0_2:Kd.C (Kd.int .i64) w A0_2 l0_2.length l0_2) (hc0_2:l0_2.length≤c0_2) (hr2:Kd.C (Kd.slice 3 (Kd.int .i64)) w A2 l2.length l2) (hc2:l2.length≤c2) (h:w24_codes.f k a0_0 a0_1 l0_2 a1 l2=some (r1,r2,r3,r4,r5)):
 Calls Try.prog 19 #[.agg #[.int .i64 a0_0, .int .i64 a0_1, .slice A0_2 l0_2.length c0_2], .int .u8 a1, .slice A2 l2.length c2] w fun e w'=>∃v1_ v2_ v3_:Value,e= .returned (.tuple #[.int .i64 r1,v1_,v2_,v3_, .bool r5])∧Kd.N (Kd.slice 3 (Kd.int .i64)) 22 w' w.heap.size (fun k_=>(w.heap.size≤k_)∧some k_≠(v2_:Value).ownBlock) v1_ r2∧Kd.N (Kd.slice 3 (Kd.int .i64)) 22 w' w.heap.size (fun k_=>(w.heap.size≤k_)∧some k_≠(v1_:Value).ownBlock) v2_ r3∧Kd.V (Kd.slice 3 (Kd.int .i64)) 22 w' w.heap.size (fun k_=>(w.heap.size≤k_)∧some k_≠(v1_:Value).ownBlock∧some k_≠(v2_:Value).ownBlock) v3_ r4∧Below w.heap.size w w':=by
 have hu24:=Try.underlying24
 have HR0_2:=zk hr0_2
 have HC0_2:=zk hc0_2
 clear hr0_2 hc0_2
 have HR2:=zk hr2
 have HC2:=zk hc2
 clear hr2 hc2
 have HB:=zk (Below.refl w.heap.size w)
 have H:=h
 clear h
 unfold w24_codes.f at H
 have HC4:=zk H
 clear H
 go_enter Try.func19,Try.ntmps19
 go_upto_region 2 with(first|((with_reducible refine gate_dst (N:=3) rfl ?_);(try(refine gate_guard (by rfl) ?_;dsimp only));refine box_event ?hg (N:=3) ?hd (cs:= #[.int .i64 a0_0, .int .i64 a0_1, .slice A0_2 l0_2.length c0_2]) (t:=24) ?hr ?_;(case hd=>rfl);(case hg=>rfl);(case hr=>first|(go_simp;done)|(go_simp;rfl));intro gba1 hg w5 hbox hb;have BKa1:=zk (hbox);have GWa1:=yg hg HB;have GEa1:=yg hg HB;replace HB:=yS HB hb;clear hb hbox hg))
 (try simp only[Act.put,List.setIfInBounds_toArray,List.set_cons_zero,List.set_cons_succ])
 go_cut [24] (fun v24 wc=>∃(kq:Nat) (x24_3:Bool),v24= .bool x24_3∧Aside0 (w24_codes.j0 kq l2 (wrap64 ((Int.tmod (wrap64 (a1)) 12)+1)) x24_3 a0_0 a0_1 l0_2=some (r1,r2,r3,r4,r5))∧Aside0 (kq≤k)∧Aside0 (wc.heap[gba1]?=some (.cells #[.int .i64 a0_0, .int .i64 a0_1,(.slice A0_2 l0_2.length c0_2)] 24 (0,0)))∧Aside0 (Below w.heap.size w wc))
 case first=>
  have H:=HC4.out
  clear HC4
  replace H:=zb H
  obtain⟨ta2,A6,H⟩:=H
  replace H:=zi H
  rcases H with⟨c7,H⟩|⟨c7,H⟩
  ·have c7b0:=beq_iff_eq.mpr c7
   have c7b1:=bne_eq_false_iff_eq.mpr c7
   clear c7
   (first|rw[c7b0]|(simp only[i64_w,i32_w];rw[c7b0])|rw[c7b1]|skip)
   have H':=zk H
   clear H
   obtain⟨hcz8_0,hcz8_1,hcz8_2,hfz8_0,hfz8_1,hfz8_2⟩:=zz3 BKa1
   go_wp2_with (first|((with_reducible refine gC 67 ?_);refine zG (some 18) Try.func67 #[.agg #[.int .i64 a0_0, .int .i64 a0_1, .slice A0_2 l0_2.length c0_2]] ?_;(with_reducible refine(r4_Check.calls k a0_0 a0_1 _ _ l0_2 ta2 _ ?side1 ?side2 A6.out).mono ?_);(case side1=>exact zC (Kd.C_below HR0_2.out HB.out));(case side2=>exact HC0_2.out);rintro e w9 ⟨rfl,hb⟩;refine⟨_,rfl,?_⟩;replace BKa1:=yK BKa1 hb;replace HB:=yS1 HB GEa1 hb;(try clear hb);(try clear hb2);(try clear hk);(try clear hi)))
   go_meet
   case rel=>exact⟨_,(decide ((l2.length:Int)>12)),zF,H',⟨zO⟩,⟨zK BKa1.out⟩,⟨zB1 HB.out GEa1.out⟩⟩
  have c7b0:=beq_eq_false_iff_ne.mpr c7
  have c7b1:=bne_iff_ne.mpr c7
  (first|rw[c7b0]|(simp only[i64_w,i32_w];rw[c7b0])|rw[c7b1]|skip)
  have H':=zk H
  clear H
  obtain⟨hcz10_0,hcz10_1,hcz10_2,hfz10_0,hfz10_1,hfz10_2⟩:=zz3 BKa1
  go_wp2_with (first|((with_reducible refine gC 67 ?_);refine zG (some 18) Try.func67 #[.agg #[.int .i64 a0_0, .int .i64 a0_1, .slice A0_2 l0_2.length c0_2]] ?_;(with_reducible refine(r4_Check.calls k a0_0 a0_1 _ _ l0_2 ta2 _ ?side1 ?side2 A6.out).mono ?_);(case side1=>exact zC (Kd.C_below HR0_2.out HB.out));(case side2=>exact HC0_2.out);rintro e w11 ⟨rfl,hb⟩;refine⟨_,rfl,?_⟩;replace BKa1:=yK BKa1 hb;replace HB:=yS1 HB GEa1 hb;(try clear hb);(try clear hb2);(try clear hk);(try clear hi)))
  go_meet
  case rel=>exact⟨_,(true),zF,H',⟨zO⟩,⟨zK BKa1.out⟩,⟨zB1 HB.out GEa1.out⟩⟩
 clear HC4
 (try clear c7);(try clear c7b0);(try clear c7b1);(try clear hcz10_0);(try clear hcz10_1);(try clear hcz10_2);(try clear hcz8_0);(try clear hcz8_1);(try clear hcz8_2);(try clear hfz10_0);(try clear hfz10_1);(try clear hfz10_2);(try clear hfz8_0);(try clear hfz8_1);(try clear hfz8_2)
 obtain⟨kq,x24_3,rfl,HA,HJ3,BKa1,HB⟩:=hcut
 cases kq with|zero=>exact absurd HA.out (by simp [w24_codes.j0])|succ kj3=>?_
 have H:=HA.out
 clear HA
 simp only[w24_codes.j0] at H
 by_cases c12:x24_3=true
 ·subst c12
  rw[if_pos rfl] at H
  simp only[Option.some.injEq,Prod.mk.injEq] at H
  obtain⟨rfl,rfl,rfl,rfl,rfl⟩:=H
  go_wp2
  refine bodyPost_ret (results_list (rs:=[.tmp 6, .tmp 7, .tmp 8, .tmp 9, .tmp 10]) rfl (by simp) (.tmp (.tmp (.tmp (.tmp (.tmp .nil)))))) rfl ?_
  exact⟨_,_,_,zE,by first|exact Kd.S_nil _ _ _ _ _|exact Kd.N_nil _ _ _ _ _|exact Kd.V_nil _ _ _ _ _|exact Kd.Q_nil _ _ _ _ _|exact Kd.R_nil _ _ _ _ _,by first|exact Kd.S_nil _ _ _ _ _|exact Kd.N_nil _ _ _ _ _|exact Kd.V_nil _ _ _ _ _|exact Kd.Q_nil _ _ _ _ _|exact Kd.R_nil _ _ _ _ _,by exact Kd.V_nil _ _ _ _ _,zB1 HB.out GEa1.out⟩
 replace c12:=Bool.eq_false_iff.mpr c12
 subst c12
 rw[if_neg Bool.false_ne_true] at H
 replace H:=zb H
 obtain⟨ta3,A13,H⟩:=H
 replace H:=zb H
 obtain⟨ta6,A14,H⟩:=H
 have HC15:=zk H
 clear H
 obtain⟨hcz16_0,hcz16_1,hcz16_2,hfz16_0,hfz16_1,hfz16_2⟩:=zz3 BKa1
 go_upto_region 6 with(first|((with_reducible refine gC 68 ?_);refine zG (some 28) Try.func68 #[.agg #[.int .i64 a0_0, .int .i64 a0_1, .slice A0_2 l0_2.length c0_2], .int .i64 (wrap64 ((Int.tmod (wrap64 (a1)) 12)+1)), .slice A2 l2.length c2, .int .i64 4096] ?_;(with_reducible refine(r24_Span.calls kj3 a0_0 a0_1 _ _ l0_2 (wrap64 ((Int.tmod (wrap64 (a1)) 12)+1)) _ _ l2 4096 ta3 _ ?side1 ?side2 ?side3 ?side4 A13.out).mono ?_);(case side1=>exact zC (Kd.C_below HR0_2.out HB.out));(case side2=>exact HC0_2.out);(case side3=>exact zC (Kd.C_below HR2.out HB.out));(case side4=>exact HC2.out);rintro e w17 ⟨va4,rfl,ho0,hb⟩;refine⟨_,rfl,?_⟩;have HOa5:=zk (Kd.N_lower (Kd.N_mono (ok':=fun k_=>(w.heap.size≤k_)∧k_≠gba1) ho0 (fun k_ hk_=>⟨(Nat.le_trans (below_size (zB1 HB.out GEa1.out)) hk_),(Kd.freshB (g:=gba1) (o:= .cells #[.int .i64 a0_0, .int .i64 a0_1, .slice A0_2 l0_2.length c0_2] 24 (0,0)) (zK BKa1.out) k_ hk_)⟩)) (below_size (zB1 HB.out GEa1.out)));replace BKa1:=yK BKa1 hb;replace HB:=yS1 HB GEa1 hb;(try clear hb ho0);obtain⟨hcz18_0,hcz18_1,hcz18_2,hfz18_0,hfz18_1,hfz18_2⟩:=zz3 BKa1)|((with_reducible refine gC 69 ?_);refine zG (some 31) Try.func69 #[.agg #[.int .i64 a0_0, .int .i64 a0_1, .slice A0_2 l0_2.length c0_2], .int .i64 (wrap64 ((Int.tmod (wrap64 (a1)) 12)+1)), .int .i64 4096] ?_;(with_reducible refine(r24_All.calls kj3 a0_0 a0_1 _ _ l0_2 (wrap64 ((Int.tmod (wrap64 (a1)) 12)+1)) 4096 ta6 _ ?side1 ?side2 A14.out).mono ?_);(case side1=>exact zC (Kd.C_below HR0_2.out HB.out));(case side2=>exact HC0_2.out);rintro e w19 ⟨va7,rfl,ho0,hb⟩;refine⟨_,rfl,?_⟩;have HOa8:=zk (Kd.N_lower (Kd.N_mono (ok':=fun k_=>(w.heap.size≤k_)∧some k_≠(va4:Value).ownBlock∧k_≠gba1) ho0 (fun k_ hk_=>⟨(Nat.le_trans (below_size (zB1 HB.out GEa1.out)) hk_),(Kd.fresh' (Kd.N_lt (zN HOa5.out)) k_ hk_),(Kd.freshB (g:=gba1) (o:= .cells #[.int .i64 a0_0, .int .i64 a0_1, .slice A0_2 l0_2.length c0_2] 24 (0,0)) (zK BKa1.out) k_ hk_)⟩)) (below_size (zB1 HB.out GEa1.out)));replace HOa5:=zk (Kd.N_elder' (zN HOa5.out) (Kd.N_base ho0) hb);replace BKa1:=yK BKa1 hb;replace HB:=yS1 HB GEa1 hb;(try clear hb ho0)))
 (try simp only[Act.put,List.setIfInBounds_toArray,List.set_cons_zero,List.set_cons_succ])
 go_cut [39] (fun v39 wc=>∃(kq:Nat) (x39_14:Bool),v39= .bool x39_14∧Aside0 (w24_codes.j1 kq l2 (wrap64 ((Int.tmod (wrap64 (a1)) 12)+1)) ta3 ta6 x39_14 a0_0 a0_1 l0_2=some (r1,r2,r3,r4,r5))∧Aside0 (kq≤kj3)∧Aside0 (Kd.N (Kd.slice 3 (Kd.int .i64)) 22 wc w.heap.size (fun k_=>(w.heap.size≤k_)∧some k_≠(va7:Value).ownBlock∧k_≠gba1) va4 ta3)∧Aside0 (Kd.N (Kd.slice 3 (Kd.int .i64)) 22 wc w.heap.size (fun k_=>(w.heap.size≤k_)∧some k_≠(va4:Value).ownBlock∧k_≠gba1) va7 ta6)∧Aside0 (wc.heap[gba1]?=some (.cells #[.int .i64 a0_0, .int .i64 a0_1,(.slice A0_2 l0_2.length c0_2)] 24 (0,0)))∧Aside0 (Below w.heap.size w wc))
 case first=>
  have H:=HC15.out
  clear HC15
  replace H:=zi H
  rcases H with⟨c20,H⟩|⟨c20,H⟩
  ·have c20b0:=beq_iff_eq.mpr c20
   have c20b1:=bne_eq_false_iff_eq.mpr c20
   clear c20
   (first|rw[c20b0]|(simp only[i64_w,i32_w];rw[c20b0])|rw[c20b1]|skip)
   have H':=zk H
   clear H
   obtain⟨Ao21,co21,rfl⟩:=Kd.N_slice HOa5.out
   go_wp2
   go_meet
   case rel=>exact⟨_,(true),zF,H',⟨by have:=HJ3.out;first|omega|exact Nat.le_refl _⟩,⟨by(with_reducible repeat(first|apply Kd.N_alloc|apply Kd.N_drewN|apply Kd.N_drew));exact Kd.N_mono HOa5.out (fun _ hk=>⟨hk.1.1,⟨hk.2,hk.1.2⟩⟩)⟩,⟨zN HOa8.out⟩,⟨zK BKa1.out⟩,⟨zB1 HB.out GEa1.out⟩⟩
  have c20b0:=beq_eq_false_iff_ne.mpr c20
  have c20b1:=bne_iff_ne.mpr c20
  have c20b2:¬(ta3=[]):=fun h_=>c20 (by rw[h_];rfl)
  (first|rw[c20b0]|(simp only[i64_w,i32_w];rw[c20b0])|rw[c20b1]|skip)
  have H':=zk H
  clear H
  obtain⟨Ao22,co22,rfl⟩:=Kd.N_slice HOa5.out
  obtain⟨Ao23,co23,rfl⟩:=Kd.N_slice HOa8.out
  go_wp2
  go_meet
  case rel=>exact⟨_,(((ta6.length:Int)==0)),zF,H',⟨by have:=HJ3.out;first|omega|exact Nat.le_refl _⟩,⟨by(with_reducible repeat(first|apply Kd.N_alloc|apply Kd.N_drewN|apply Kd.N_drew));exact Kd.N_mono HOa5.out (fun _ hk=>⟨hk.1.1,⟨hk.2,hk.1.2⟩⟩)⟩,⟨zN HOa8.out⟩,⟨zK BKa1.out⟩,⟨zB1 HB.out GEa1.out⟩⟩
 clear HC15
 (try clear c7);(try clear c7b0);(try clear c7b1);(try clear c12);(try clear c20);(try clear c20b0);(try clear c20b1);(try clear c20b2);(try clear hcz10_0);(try clear hcz10_1);(try clear hcz10_2);(try clear hcz16_0);(try clear hcz16_1);(try clear hcz16_2);(try clear hcz18_0);(try clear hcz18_1);(try clear hcz18_2);(try clear hcz8_0);(try clear hcz8_1);(try clear hcz8_2);(try clear hfz10_0);(try clear hfz10_1);(try clear hfz10_2);(try clear hfz16_0);(try clear hfz16_1);(try clear hfz16_2);(try clear hfz18_0);(try clear hfz18_1);(try clear hfz18_2);(try clear hfz8_0);(try clear hfz8_1);(try clear hfz8_2)
 obtain⟨kq,x39_14,rfl,HA,HJ14,HO_7,HO_9,BKa1,HB⟩:=hcut
 cases kq with|zero=>exact absurd HA.out (by simp [w24_codes.j1])|succ kj14=>?_
 have H:=HA.out
 clear HA
 simp only[w24_codes.j1] at H
 by_cases c24:x39_14=true
 ·subst c24
  rw[if_pos rfl] at H
  simp only[Option.some.injEq,Prod.mk.injEq] at H
  obtain⟨rfl,rfl,rfl,rfl,rfl⟩:=H
  go_wp2
  refine bodyPost_ret (results_list (rs:=[.tmp 6, .tmp 7, .tmp 8, .tmp 9, .tmp 10]) rfl (by simp) (.tmp (.tmp (.tmp (.tmp (.tmp .nil)))))) rfl ?_
  exact⟨_,_,_,zE,by first|exact Kd.S_nil _ _ _ _ _|exact Kd.N_nil _ _ _ _ _|exact Kd.V_nil _ _ _ _ _|exact Kd.Q_nil _ _ _ _ _|exact Kd.R_nil _ _ _ _ _,by first|exact Kd.S_nil _ _ _ _ _|exact Kd.N_nil _ _ _ _ _|exact Kd.V_nil _ _ _ _ _|exact Kd.Q_nil _ _ _ _ _|exact Kd.R_nil _ _ _ _ _,by exact Kd.V_nil _ _ _ _ _,zB1 HB.out GEa1.out⟩
 replace c24:=Bool.eq_false_iff.mpr c24
 subst c24
 rw[if_neg Bool.false_ne_true] at H
 have H':=zk H
 clear H
 go_wp2
 go_loopg [11,12] kj14 (fun kq v11 v12 w'=>∃(x11_3:List (List Int)) (x12_3:Int),v12= .int .i64 x12_3∧Aside0 (w24_codes.l0 kq l2 (wrap64 ((Int.tmod (wrap64 (a1)) 12)+1)) ta3 ta6 x11_3 x12_3 a0_0 a0_1 l0_2=some (r1,r2,r3,r4,r5))∧Aside0 (kq≤kj14)∧Aside0 (Kd.N (Kd.slice 3 (Kd.int .i64)) 22 w' w.heap.size (fun k_=>(w.heap.size≤k_)∧some k_≠(va7:Value).ownBlock∧some k_≠(v11:Value).ownBlock∧k_≠gba1) va4 ta3)∧Aside0 (Kd.N (Kd.slice 3 (Kd.int .i64)) 22 w' w.heap.size (fun k_=>(w.heap.size≤k_)∧some k_≠(va4:Value).ownBlock∧some k_≠(v11:Value).ownBlock∧k_≠gba1) va7 ta6)∧Aside0 (Kd.N (Kd.slice 3 (Kd.int .i64)) 22 w' w.heap.size (fun k_=>(w.heap.size≤k_)∧some k_≠(va4:Value).ownBlock∧some k_≠(va7:Value).ownBlock∧k_≠gba1) v11 x11_3)∧Aside0 (w'.heap[gba1]?=some (.cells #[.int .i64 a0_0, .int .i64 a0_1,(.slice A0_2 l0_2.length c0_2)] 24 (0,0)))∧Aside0 (Below w.heap.size w w'))
 case atStart=>exact⟨(([]:List (List Int))),(0),zF,H',⟨Nat.le_refl _⟩,⟨by(with_reducible repeat(first|apply Kd.N_alloc|apply Kd.N_drewN|apply Kd.N_drew));exact Kd.N_mono HO_7.out (fun _ hk=>⟨hk.1,⟨hk.2.1,⟨(by simp [Value.ownBlock]),hk.2.2⟩⟩⟩)⟩,⟨by(with_reducible repeat(first|apply Kd.N_alloc|apply Kd.N_drewN|apply Kd.N_drew));exact Kd.N_mono HO_9.out (fun _ hk=>⟨hk.1,⟨hk.2.1,⟨(by simp [Value.ownBlock]),hk.2.2⟩⟩⟩)⟩,⟨by first|exact Kd.S_nil _ _ _ _ _|exact Kd.N_nil _ _ _ _ _|exact Kd.V_nil _ _ _ _ _|exact Kd.Q_nil _ _ _ _ _|exact Kd.R_nil _ _ _ _ _⟩,⟨zK BKa1.out⟩,⟨zB1 HB.out GEa1.out⟩⟩
 clear H'
 (try clear c7);(try clear c7b0);(try clear c7b1);(try clear c12);(try clear c20);(try clear c20b0);(try clear c20b1);(try clear c20b2);(try clear c24);(try clear hcz10_0);(try clear hcz10_1);(try clear hcz10_2);(try clear hcz16_0);(try clear hcz16_1);(try clear hcz16_2);(try clear hcz18_0);(try clear hcz18_1);(try clear hcz18_2);(try clear hcz8_0);(try clear hcz8_1);(try clear hcz8_2);(try clear hfz10_0);(try clear hfz10_1);(try clear hfz10_2);(try clear hfz16_0);(try clear hfz16_1);(try clear hfz16_2);(try clear hfz18_0);(try clear hfz18_1);(try clear hfz18_2);(try clear hfz8_0);(try clear hfz8_1);(try clear hfz8_2)
 obtain⟨x11_3,x12_3,rfl,HA,HK3,HO_7,HO_9,HO_11,BKa1,HB⟩:=hrel
 cases gk with|zero=>exact absurd HA.out (by simp [w24_codes.l0])|succ k3=>?_
 have H:=HA.out
 clear HA
 simp only[w24_codes.l0] at H
 replace H:=zid H
 rcases H with⟨c25b0,H⟩|⟨c25b0,H⟩
 ·replace H:=zgd H
  obtain⟨c26b0,H⟩:=H
  replace H:=zb H
  obtain⟨tb0,A27,H⟩:=H
  replace H:=zg H
  obtain⟨c28,H⟩:=H
  have LMc28:=zk c28
  clear c28
  obtain⟨yb3,hyb3⟩:∃y_:List (List Int),y_=(x11_3++[tb0]):=⟨_,rfl⟩
  replace H:(w24_codes.l0 k3 l2 (wrap64 ((Int.tmod (wrap64 (a1)) 12)+1)) ta3 ta6 yb3 (wrap64 (x12_3+1)) a0_0 a0_1 l0_2)=some (r1,r2,r3,r4,r5):=zY hyb3 H
  have Nyb3:=zk hyb3
  clear hyb3
  have H':=zk H
  clear H
  try go_wp2
  replace HO_7:=zk (Kd.N_drew HO_7.out)
  replace HO_9:=zk (Kd.N_drew HO_9.out)
  replace HO_11:=zk (Kd.N_drew HO_11.out)
  replace BKa1:=zk (blk_drew BKa1.out)
  replace HB:=zk (below_drew1 HB.out)
  have pa9:0≤(x12_3:Int):=zd
  have qa9:x12_3<(l2.length:Int):=zd
  obtain⟨ada9,Aa9_0,ca9_0,ea9,hxa9_0,hla9_0,hia9_0⟩:=at_L1 HR2.out x12_3 pa9 qa9
  have hw109_0:=hxa9_0
  cases ea9
  replace hxa9_0:=(HB.out.cell (World.block_lt_of_cell? w _ hxa9_0)).trans hxa9_0
  have HRa9_0:=zk hia9_0
  have HCa9_0:=zk hla9_0
  clear hia9_0 hla9_0
  replace pa9:=eq_true pa9
  replace qa9:=eq_true qa9
  refine start_ (n:=11) (S:=fun w'=>w'.cell? ⟨gba1,0,none⟩=some (.int .i64 a0_0)∧w'.cell? ⟨gba1,1,none⟩=some (.int .i64 a0_1)∧w'.cell? ⟨gba1,2,none⟩=some (.slice A0_2 l0_2.length c0_2)∧w'.cell? (ada9.add (x12_3).toNat)=some (.slice Aa9_0 (rd_L1 l2 x12_3).length ca9_0)) (ds:=[]) #[false,false,false,false,false,false,false,false,false,false,false] (by kernel_rfl) rfl rfl ⟨(blk_cell BKa1.out 0).trans rfl,(blk_cell BKa1.out 1).trans rfl,(blk_cell BKa1.out 2).trans rfl,((HB.out.cell (World.block_lt_of_cell? w _ hw109_0)).trans hw109_0)⟩ (fun hHeld=>?_);refine with_tabW w24_codes.tab12 w24_codes.bits12 (fun HT_ HW_=>?_)
  first|(generalize wr.drew=w29 at HO_7 HO_9 HO_11 BKa1 HB HRa9_0 hxa9_0 hHeld ⊢)|(generalize wr.drew=w29 at HO_7 HO_9 HO_11 BKa1 HB HRa9_0 hHeld ⊢)
  refine zp (i:=0) (N:=some 46) HT_ ?_
  refine zp (i:=2) (N:=some 48) HT_ ?_
  refine zp (i:=3) (N:=some 49) HT_ ?_
  refine zp (i:=4) (N:=some 50) HT_ ?_
  refine zp (i:=5) (N:=some 51) HT_ ?_
  refine take_ (i:=1) (N:=some 47) (v:=?_) (a':=?_) #[true,true,true,true,true,true,false,false,false,false,false] rfl rfl (take_ofW HT_.out HW_.out (by kernel_rfl)) (fun _ _ _ h=>h) (Or.inl ⟨by rfl,?_⟩) hHeld ?_ ?_
  rotate_left
  ·rintro w' ⟨s0,s1,s2,s3⟩
   go_simp
   with_reducible rfl
  rotate_left
  ·simp only[Act.put,List.setIfInBounds_toArray,List.set_cons_zero,List.set_cons_succ,i64_w,i32_w]
   rfl
  refine take_ (i:=6) (N:=some 52) (v:=?_) (a':=?_) #[true,true,true,true,true,true,true,false,false,false,false] rfl rfl (take_ofW HT_.out HW_.out (by kernel_rfl)) (fun _ _ _ h=>h) (Or.inl ⟨by rfl,?_⟩) hHeld ?_ ?_
  rotate_left
  ·rintro w' ⟨s0,s1,s2,s3⟩
   go_simp
   with_reducible rfl
  rotate_left
  ·simp only[Act.put,List.setIfInBounds_toArray,List.set_cons_zero,List.set_cons_succ,i64_w,i32_w]
   rfl
  refine one_ (i:=7) (N:=some 53) #[true,true,true,true,true,true,true,true,false,false,false] rfl rfl (one_of HT_.out (by kernel_rfl)) (by decide) (fun K hK=>?_)
  refine goes_ Try.func60 (by kernel_rfl) rfl #[.agg #[.int .i64 a0_0, .int .i64 a0_1, .slice A0_2 l0_2.length c0_2], .int .i64 (wrap64 ((Int.tmod (wrap64 (a1)) 12)+1)), .slice Aa9_0 (rd_L1 l2 x12_3).length ca9_0] (by rfl) rfl rfl (by(try simp only[List.map_toArray,List.map_cons,List.map_nil]);first|done|rfl|(simp only[List.length_drop,List.length_take];rfl)) ?_
  with_reducible refine(r24_Row.calls k3 a0_0 a0_1 _ _ l0_2 (wrap64 ((Int.tmod (wrap64 (a1)) 12)+1)) _ _ (rd_L1 l2 x12_3) tb0 _ ?side1 ?side2 ?side3 ?side4 A27.out).mono ?_
  (case side1=>exact zC (Kd.C_below HR0_2.out HB.out))
  (case side2=>exact HC0_2.out)
  (case side3=>exact zC (Kd.C_below HRa9_0.out HB.out))
  (case side4=>exact HCa9_0.out)
  rintro e w30 ⟨vb1,rfl,ho0,hb⟩
  refine⟨_,rfl,?_⟩
  replace HO_7:=yNe HO_7 ho0 hb
  replace HO_9:=yNe HO_9 ho0 hb
  replace HO_11:=yNe HO_11 ho0 hb
  replace ho0:=Kd.R_newM (M:=fun k_=>(w.heap.size≤k_)) ho0 (below_size (zB1 HB.out GEa1.out)) (fun k_ h_=>h_)
  have HOb2:=yRl1 ho0 HB GEa1
  replace BKa1:=yK BKa1 hb
  replace HB:=yS1 HB GEa1 hb
  (try clear hb)
  (try clear ho0)
  obtain⟨Ao32,co32,eo32⟩:=Kd.R_slice HOb2.out
  (first|subst eo32|(injection eo32 with f1_ f2_ f3_;have f4_:=f1_.symm;have f5_:=f3_.symm;clear f1_ f2_ f3_;subst f4_;subst f5_))
  refine hK.out _ _ ⟨(blk_cell BKa1.out 0).trans rfl,(blk_cell BKa1.out 1).trans rfl,(blk_cell BKa1.out 2).trans rfl,((HB.out.cell (World.block_lt_of_cell? w _ hw109_0)).trans hw109_0)⟩ (fun hHeld=>?_)
  clear hK K
  refine norm_ (a':=?_) ?_ ?_
  rotate_left
  ·show Act.put _ (some 53) _=_
   simp only[Act.put,List.setIfInBounds_toArray,List.set_cons_zero,List.set_cons_succ,i64_w,i32_w]
   rfl
  refine one_ (i:=8) (N:=some 54) #[true,true,true,true,true,true,true,true,true,false,false] rfl rfl (one_of HT_.out (by kernel_rfl)) (by decide) (fun K hK=>?_)
  refine value_ (w1:=?_) (v:=?_) (by rfl) rfl ?_ ?_
  rotate_left 2
  ·go_simp
   constructor
   ·rfl
   rfl
  refine hK.out _ _ ⟨(blk_cell (blk_alloc BKa1.out _) 0).trans rfl,(blk_cell (blk_alloc BKa1.out _) 1).trans rfl,(blk_cell (blk_alloc BKa1.out _) 2).trans rfl,(World.cell?_alloc_lt _ _ _ (World.block_lt_of_cell? _ _ (((HB.out.cell (World.block_lt_of_cell? w _ hw109_0)).trans hw109_0)))).trans (((HB.out.cell (World.block_lt_of_cell? w _ hw109_0)).trans hw109_0))⟩ (fun hHeld=>?_)
  clear hK K
  refine norm_ (a':=?_) ?_ ?_
  rotate_left
  ·show Act.put _ (some 54) _=_
   simp only[Act.put,List.setIfInBounds_toArray,List.set_cons_zero,List.set_cons_succ,i64_w,i32_w]
   rfl
  refine one_ (i:=9) (N:=some 55) #[true,true,true,true,true,true,true,true,true,true,false] rfl rfl (one_of HT_.out (by kernel_rfl)) (by decide) (fun K hK=>?_)
  refine Kd.N_append_step (Kd.slice 3 (Kd.int .i64)) (w0:=w) w.heap.size (by rfl) (.tmp 46) (.tmp 54) 25 22 (.slice none 0 0) 24 rfl Try.underlying25 info22 rfl (by decide) (by omega) u11 x11_3 tb0 [.slice Ao32 tb0.length co32] (fun k_=>(w.heap.size≤k_)∧some k_≠(va4:Value).ownBlock∧some k_≠(va7:Value).ownBlock∧k_≠gba1) (fun k_=>((fun k_=>(w.heap.size≤k_)∧some k_≠(va4:Value).ownBlock∧some k_≠(va7:Value).ownBlock∧k_≠gba1)) k_∧some k_≠(u11:Value).ownBlock) rfl rfl ?aP (fun _ hk=>hk) ?aF ?aO ?aB ?aS ?aL ?_
  (case aP=>exact(Mw.FK_of_R (Kd.R_mono (ok':=(fun k_=>((fun k_=>(w.heap.size≤k_)∧some k_≠(va4:Value).ownBlock∧some k_≠(va7:Value).ownBlock∧k_≠gba1)) k_∧some k_≠(u11:Value).ownBlock)) (Kd.R_types (Kd.R_apart' (Kd.R_apart' (Kd.R_apart' (HOb2.out) (Kd.N_typed HO_7.out) (by decide)) (Kd.N_typed HO_9.out) (by decide)) (Kd.N_typed HO_11.out) (by decide)) BKa1.out (by decide)) (fun k_ hk=>by exact⟨⟨hk.1.1.1.1.1,⟨hk.1.1.1.2,⟨hk.1.1.2,hk.2⟩⟩⟩,hk.1.2⟩))))
  (case aB=>exact(zB1 HB.out GEa1.out))
  (case aF=>exact(fun k_ hk=>⟨(Nat.le_trans (below_size (zB1 HB.out GEa1.out)) hk),Kd.fresh' (Kd.N_lt (zN HO_7.out)) k_ hk,Kd.fresh' (Kd.N_lt (zN HO_9.out)) k_ hk,Kd.freshB (g:=gba1) (o:= .cells #[.int .i64 a0_0, .int .i64 a0_1, .slice A0_2 l0_2.length c0_2] 24 (0,0)) (zK BKa1.out) k_ hk⟩))
  (case aO=>exact(by(with_reducible repeat(first|apply Kd.N_alloc|apply Kd.N_drewN|apply Kd.N_drew));exact Kd.N_mono HO_11.out (fun _ hk=>⟨hk.1.1,⟨hk.1.2.1,⟨hk.1.2.2.1,hk.1.2.2.2⟩⟩⟩)))
  (case aS=>exact(below_size (zB1 HB.out GEa1.out)))
  (case aL=>have:=LMc28.out;omega)
  intro vb4 w31 ho hb hg hat
  rw[←Nyb3.out] at ho
  replace HO_7:=zk (Kd.N_afterv (ok:=(fun k_=>(w.heap.size≤k_)∧some k_≠(va7:Value).ownBlock∧some k_≠(.slice Ao32 tb0.length co32:Value).ownBlock∧k_≠gba1)) (by(with_reducible repeat(first|apply Kd.N_alloc|apply Kd.N_drewN|apply Kd.N_drew));exact Kd.N_mono HO_7.out (fun _ hk=>⟨⟨hk.1.1,⟨hk.1.2.1,⟨hk.2,hk.1.2.2.2⟩⟩⟩,hk.1.2.2.1⟩)) hg hat)
  replace HO_9:=zk (Kd.N_afterv (ok:=(fun k_=>(w.heap.size≤k_)∧some k_≠(va4:Value).ownBlock∧some k_≠(.slice Ao32 tb0.length co32:Value).ownBlock∧k_≠gba1)) (by(with_reducible repeat(first|apply Kd.N_alloc|apply Kd.N_drewN|apply Kd.N_drew));exact Kd.N_mono HO_9.out (fun _ hk=>⟨⟨hk.1.1,⟨hk.1.2.1,⟨hk.2,hk.1.2.2.2⟩⟩⟩,hk.1.2.2.1⟩)) hg hat)
  replace BKa1:=zk (blk_grown (g:=gba1) (o:= .cells #[.int .i64 a0_0, .int .i64 a0_1, .slice A0_2 l0_2.length c0_2] 24 (0,0)) (zK BKa1.out) hg (Kd.N_ne HO_11.out BKa1.out (by decide)))
  replace HB:=zk (hb)
  have HOb5:=zk (ho)
  clear HO_11 HOb2
  clear ho hb hg hat
  refine hK.out _ _ ⟨(blk_cell BKa1.out 0).trans rfl,(blk_cell BKa1.out 1).trans rfl,(blk_cell BKa1.out 2).trans rfl,((HB.out.cell (World.block_lt_of_cell? w _ hw109_0)).trans hw109_0)⟩ (fun hHeld=>?_)
  clear hK K
  refine norm_ (a':=?_) ?_ ?_
  rotate_left
  ·show Act.put _ (some 55) _=_
   simp only[Act.put,List.setIfInBounds_toArray,List.set_cons_zero,List.set_cons_succ,i64_w,i32_w]
   rfl
  refine zp (i:=10) (N:=some 11) HT_ ?_
  refine done_ (done_of HT_.out (by kernel_rfl)) ?_
  try go_wp2
  go_roundg k3
  case measure=>have:=HJ3.out;have:=HJ14.out;have:=HK3.out;omega
  case rel=>exact⟨(yb3),(wrap64 (x12_3+1)),zF,H',⟨by have:=HJ3.out;have:=HJ14.out;have:=HK3.out;omega⟩,⟨by(with_reducible repeat(first|apply Kd.N_alloc|apply Kd.N_drewN|apply Kd.N_drew));exact Kd.N_mono HO_7.out (fun _ hk=>⟨hk.1.1,⟨hk.1.2.1,⟨hk.2,hk.1.2.2.2⟩⟩⟩)⟩,⟨by(with_reducible repeat(first|apply Kd.N_alloc|apply Kd.N_drewN|apply Kd.N_drew));exact Kd.N_mono HO_9.out (fun _ hk=>⟨hk.1.1,⟨hk.1.2.1,⟨hk.2,hk.1.2.2.2⟩⟩⟩)⟩,⟨zN HOb5.out⟩,⟨zK BKa1.out⟩,⟨zB1 HB.out GEa1.out⟩⟩
 replace H:=zb H
 obtain⟨tb6,A33,H⟩:=H
 simp only[Option.some.injEq,Prod.mk.injEq] at H
 obtain⟨rfl,rfl,rfl,rfl,rfl⟩:=H
 obtain⟨hcz34_0,hcz34_1,hcz34_2,hfz34_0,hfz34_1,hfz34_2⟩:=zz3 BKa1
 obtain⟨Ao35,co35,rfl⟩:=Kd.N_slice HO_9.out
 obtain⟨Ao36,co36,rfl⟩:=Kd.N_slice HO_11.out
 go_wp2_with (first|((with_reducible refine gC 70 ?_);refine zG (some 61) Try.func70 #[.agg #[.int .i64 a0_0, .int .i64 a0_1, .slice A0_2 l0_2.length c0_2], .slice Ao35 ta6.length co35, .slice Ao36 x11_3.length co36] ?_;(with_reducible refine(r24_Orthogonal.calls k3 a0_0 a0_1 _ _ l0_2 (fun k_=>((w.heap.size≤k_)∧(some k_≠(va4:Value).ownBlock∧(some k_≠(.slice Ao36 x11_3.length co36:Value).ownBlock∧k_≠gba1)))) _ _ ta6 _ _ x11_3 tb6 _ ?side1 ?side2 ?side3 ?side4 ?side5 A33.out).mono ?_);(case side1=>exact zC (Kd.C_below HR0_2.out HB.out));(case side2=>exact HC0_2.out);(case side3=>exact Kd.N_V (HO_9.out));(case side4=>exact zC (Kd.N_reads' HO_11.out).2.2);(case side5=>exact(Kd.N_reads' HO_11.out).2.1);rintro e w37 ⟨vb7,rfl,ho0,hb⟩;refine⟨_,rfl,?_⟩;replace HO_9:=zk (Kd.N_elder' (zN HO_9.out) (Kd.N_base ho0) hb);have HOb8:=zk (Kd.N_lower (Kd.N_mono (ok':=fun k_=>(w.heap.size≤k_)∧some k_≠(va4:Value).ownBlock∧some k_≠(.slice Ao36 x11_3.length co36:Value).ownBlock∧k_≠gba1) ho0 (fun k_ hk_=>⟨Or.elim hk_ (fun hs_=>hs_.1) (fun hn_=>(Nat.le_trans (below_size (zB1 HB.out GEa1.out)) hn_)),Or.elim hk_ (fun hs_=>hs_.2.1) (fun hn_=>(Kd.fresh' (Kd.N_lt (zN HO_7.out)) k_ hn_)),Or.elim hk_ (fun hs_=>hs_.2.2.1) (fun hn_=>(Kd.fresh' (Kd.N_lt (zN HO_11.out)) k_ hn_)),Or.elim hk_ (fun hs_=>hs_.2.2.2) (fun hn_=>(Kd.freshB (g:=gba1) (o:= .cells #[.int .i64 a0_0, .int .i64 a0_1, .slice A0_2 l0_2.length c0_2] 24 (0,0)) (zK BKa1.out) k_ hn_))⟩)) (below_size (zB1 HB.out GEa1.out)));replace HO_7:=zk (Kd.N_elder' (zN HO_7.out) (Kd.N_base ho0) hb);replace HO_11:=zk (Kd.N_elder' (zN HO_11.out) (Kd.N_base ho0) hb);replace BKa1:=yK BKa1 hb;replace HB:=yS1 HB GEa1 hb;(try clear hb ho0)))
 refine bodyPost_ret (results_list (rs:=[.tmp 6, .tmp 7, .tmp 8, .tmp 9, .tmp 10]) rfl (by simp) (.tmp (.tmp (.tmp (.tmp (.tmp .nil)))))) rfl ?_
 exact⟨_,_,_,zE,by(with_reducible repeat(first|apply Kd.N_alloc|apply Kd.N_drewN|apply Kd.N_drew));exact Kd.N_mono HO_7.out (fun _ hk=>⟨hk.1.1,hk.2⟩),by(with_reducible repeat(first|apply Kd.N_alloc|apply Kd.N_drewN|apply Kd.N_drew));exact Kd.N_mono HOb8.out (fun _ hk=>⟨hk.1,hk.2.1⟩),Kd.N_V (by(with_reducible repeat(first|apply Kd.N_alloc|apply Kd.N_drewN|apply Kd.N_drew));exact Kd.N_mono HO_9.out (fun _ hk=>⟨hk.1.1,⟨hk.1.2.1,hk.2⟩⟩)),zB1 HB.out GEa1.out⟩
set_option maxHeartbeats 8000000 in
set_option maxRecDepth 100000 in
theorem r1_Trim.calls (k:Nat) (A0:Option Addr) (c0:Nat) (l0:List Int) (r:List Int) (w:World) (hr0:Kd.C (Kd.int .u32) w A0 l0.length l0) (hc0:l0.length≤c0) (h:r1_Trim.f k l0=some r):
 Calls Try.prog 75 #[.slice A0 l0.length c0] w fun e w'=>∃v0_:Value,e= .returned (v0_)∧Kd.R (Kd.int .u32) 97 w' w.heap.size (fun _=>True) v0_ r∧Below w.heap.size w w':=by
 have HR0:=zk hr0
 have HC0:=zk hc0
 clear hr0 hc0
 have HB:=zk (Below.refl w.heap.size w)
 have H:=h
 clear h
 unfold r1_Trim.f at H
 have H':=zk H
 clear H
 go_enter Try.func75,Try.ntmps75
 go_wp2
 go_loopg [3] k (fun kq v3 w'=>∃(x3_1:Int),v3= .int .i64 x3_1∧Aside0 (r1_Trim.l0 kq l0 x3_1=some r)∧Aside0 (kq≤k)∧Aside0 (Below w.heap.size w w'))
 case atStart=>exact⟨((l0.length:Int)),zF,H',⟨Nat.le_refl _⟩,⟨zB HB.out⟩⟩
 clear H'
 obtain⟨x3_1,rfl,HA,HK1,HB⟩:=hrel
 cases gk with|zero=>exact absurd HA.out (by simp [r1_Trim.l0])|succ k1=>?_
 have H:=HA.out
 clear HA
 simp only[r1_Trim.l0] at H
 replace H:=zi H
 rcases H with⟨c2,H⟩|⟨c2,H⟩
 ·have c2b0:decide (0<x3_1)=true:=decide_eq_true c2
  clear c2
  obtain⟨ji3,hji3⟩:∃j_:Int,(wrap64 (x3_1-1))=j_:=⟨_,rfl⟩
  replace H:(if 0≤(ji3) then(if(ji3)<(l0.length:Int) then(if(rd l0 (ji3))=0 then(r1_Trim.l0 k1 l0 ji3) else((some (([]:List Int):List Int)).bind fun ya2=>(if 0≤x3_1 then(if x3_1≤(l0.length:Int) then(if ya2.length+(l0.take (x3_1:Int).toNat).length<35184372088832 then(some (ya2++(l0.take (x3_1:Int).toNat))) else(none)) else(none)) else(none)))) else(none)) else(none))=some r:=by first|(rw[hji3] at H;exact H)|(simp only[hji3] at H ⊢;exact H)
  have hji3w:(IntKind.i64.wrap (x3_1-1))=ji3:=(i64_w _).trans hji3
  replace H:=zgd H
  obtain⟨c4b0,H⟩:=H
  replace H:=zgd H
  obtain⟨c5b0,H⟩:=H
  replace H:=zi H
  rcases H with⟨c6,H⟩|⟨c6,H⟩
  ·have c6b0:=beq_iff_eq.mpr c6
   have c6b1:=bne_eq_false_iff_eq.mpr c6
   clear c6
   have H':=zk H
   clear H
   have pa1:0≤((ji3):Int):=zd
   have qa1:(ji3)<(l0.length:Int):=zd
   obtain⟨ada1,ea1,hxa1_0⟩:=Kd.at_int HR0.out (ji3) pa1 qa1
   cases ea1
   replace hxa1_0:=(HB.out.cell (World.block_lt_of_cell? w _ hxa1_0)).trans hxa1_0
   replace pa1:=eq_true pa1
   replace qa1:=eq_true qa1
   go_wp2
   go_roundg k1
   case measure=>have:=HK1.out;omega
   case rel=>exact⟨(ji3),(by first|rfl|(simp;done)|(simp only[←hji3]<;>(first|rfl|simp))|(simp [*];done)),H',⟨zo1 HK1⟩,⟨zB HB.out⟩⟩
  have c6b0:=beq_eq_false_iff_ne.mpr c6
  have c6b1:=bne_iff_ne.mpr c6
  obtain⟨ya2,hya2⟩:∃y_:List Int,y_=(([]:List Int)):=⟨_,rfl⟩
  replace H:(if 0≤x3_1 then(if x3_1≤(l0.length:Int) then(if ya2.length+(l0.take (x3_1:Int).toNat).length<35184372088832 then(some (ya2++(l0.take (x3_1:Int).toNat))) else(none)) else(none)) else(none))=some r:=zY hya2 H
  have Nya2:=zk hya2
  clear hya2
  replace H:=zg H
  obtain⟨c7,H⟩:=H
  have c7b0:=eq_true c7
  have c7b1:=decide_eq_true c7
  clear c7
  replace H:=zg H
  obtain⟨c8,H⟩:=H
  have c8b0:=eq_true c8
  have c8b1:=decide_eq_true c8
  clear c8
  replace H:=zg H
  obtain⟨c9,H⟩:=H
  have LMc9:=zk c9
  clear c9
  obtain⟨ya6,hya6⟩:∃y_:List Int,y_=(ya2++(l0.take (x3_1:Int).toNat)):=⟨_,rfl⟩
  replace H:(some ya6)=some r:=zY hya6 H
  have Nya6:=zk hya6
  clear hya6
  obtain rfl:=Option.some.inj H
  have pa1:0≤((ji3):Int):=zd
  have qa1:(ji3)<(l0.length:Int):=zd
  obtain⟨ada1,ea1,hxa1_0⟩:=Kd.at_int HR0.out (ji3) pa1 qa1
  cases ea1
  replace hxa1_0:=(HB.out.cell (World.block_lt_of_cell? w _ hxa1_0)).trans hxa1_0
  replace pa1:=eq_true pa1
  replace qa1:=eq_true qa1
  go_wp2_with (first|((with_reducible refine gate_dst (N:=18) rfl ?_);refine Kd.R_lit (Kd.int .u32) _ 97 ?hg (N:=18) ?hd (xs:=([]:List Int)) (inner:=[]) (ok:=fun _=>True) (okp:=fun _=>True) ?hr ?hp (fun _ hk=>hk) trivial (Below.refl _ _) (Nat.le_refl _) (by simp) ?_;(case hd=>rfl);(case hg=>rfl);(case hr=>first|(go_simp;done)|(go_simp;rfl));(case hp=>exact(Reps.none _ _));intro va3 w10 ho11 hb hg_ hnew_;clear hg_ hnew_;(first|rw[←Nya2.out] at ho11|(simp only[Int.reduceToNat] at ho11;rw[←Nya2.out] at ho11));have HOa4:=yRl ho11 HB;replace HB:=yS HB hb;clear hb ho11;obtain⟨i012,hi012,_,hsz12,_⟩:=info_parts info97;obtain⟨hcut12,hA12,hC12⟩:=print_take_of (P:=Try.prog) (Value.int .u32) 0 29 97 .i64 Try.underlying29 hi012 hsz12 (some ada1) c0 l0 x3_1 zd zd HC0.out;have HRa5:=zk (Kd.C_of_reads (h1:=fun _=>rfl) (hA12 _ (Kd.reads_of_C HR0.out)));have HCa5:=zk hC12;clear hA12 hC12 hi012 hsz12)|((with_reducible refine gate_builtin (b:= .append) (xs:= #[.tmp 18, .tmp 21]) rfl ?_);at_builtin;refine Kd.R_append_rows (Kd.int .u32) (w0:=w) w.heap.size rfl (.tmp 18) (.tmp 21) 29 97 (.int .u32 0) 4 rfl Try.underlying29 info97 rfl (by decide) (by omega) va3 ya2 (l0.take (x3_1:Int).toNat) _ _ _ (fun _=>True) (fun _=>False) rfl rfl ?aO ?aR (fun _ _ h=>h) (fun _ h=>h.elim) ?aF ?aB ?aS ?aL ?_;(case aR=>first|(have hz_:(l0.take (x3_1:Int).toNat).length=x3_1.toNat:=(by rw[List.length_take];have h_:(x3_1:Int)≤(l0.length:Int):=zd;omega);refine Eq.mp (congrArg (fun n_=>Kd.C _ _ _ n_ _) hz_) ?_;repeat(first|exact(Kd.C_below HRa5.out HB.out)|(with_reducible refine Kd.C_alloc ?_ _)|(with_reducible refine Kd.C_drewN ?_ _)|(with_reducible refine Kd.C_drew ?_)))|(rw[←show(l0.take (x3_1:Int).toNat).length=x3_1.toNat from(by rw[List.length_take];have h_:(x3_1:Int)≤(l0.length:Int):=zd;omega)];repeat(first|exact(Kd.C_below HRa5.out HB.out)|(with_reducible refine Kd.C_alloc ?_ _)|(with_reducible refine Kd.C_drewN ?_ _)|(with_reducible refine Kd.C_drew ?_)))|(repeat(first|exact(Kd.C_below HRa5.out HB.out)|(with_reducible refine Kd.C_alloc ?_ _)|(with_reducible refine Kd.C_drewN ?_ _)|(with_reducible refine Kd.C_drew ?_))));(case aB=>exact(zB HB.out));(case aF=>exact(fun _ _=>trivial));(case aO=>exact(zR HOa4.out));(case aS=>exact(below_size (zB HB.out)));(case aL=>have:=LMc9.out;have hlx_:=(show(l0.take (x3_1:Int).toNat).length=x3_1.toNat from(by rw[List.length_take];have h_:(x3_1:Int)≤(l0.length:Int):=zd;omega));omega);intro va7 w13 ho hb hg hat;rw[←Nya6.out] at ho;replace HB:=zk (hb);have HOa8:=zk (ho);clear HOa4;clear ho hb hg hat))
  go_ret
  exact⟨_,by first|rfl|(simp [errW_none,errW_some]<;>rfl)|(simp only[←hji3];first|rfl|(simp [errW_none,errW_some]<;>rfl))|(simp [*,errW_none,errW_some]<;>rfl),zR HOa8.out,zB HB.out⟩
 have c2b0:decide (0<x3_1)=false:=decide_eq_false c2
 clear c2
 obtain⟨ya9,hya9⟩:∃y_:List Int,y_=(([]:List Int)):=⟨_,rfl⟩
 replace H:(if 0≤x3_1 then(if x3_1≤(l0.length:Int) then(if ya9.length+(l0.take (x3_1:Int).toNat).length<35184372088832 then(some (ya9++(l0.take (x3_1:Int).toNat))) else(none)) else(none)) else(none))=some r:=zY hya9 H
 have Nya9:=zk hya9
 clear hya9
 replace H:=zg H
 obtain⟨c14,H⟩:=H
 have c14b0:=eq_true c14
 have c14b1:=decide_eq_true c14
 clear c14
 replace H:=zg H
 obtain⟨c15,H⟩:=H
 have c15b0:=eq_true c15
 have c15b1:=decide_eq_true c15
 clear c15
 replace H:=zg H
 obtain⟨c16,H⟩:=H
 have LMc16:=zk c16
 clear c16
 obtain⟨yb3,hyb3⟩:∃y_:List Int,y_=(ya9++(l0.take (x3_1:Int).toNat)):=⟨_,rfl⟩
 replace H:(some yb3)=some r:=zY hyb3 H
 have Nyb3:=zk hyb3
 clear hyb3
 obtain rfl:=Option.some.inj H
 go_wp2_with (first|((with_reducible refine gate_dst (N:=18) rfl ?_);refine Kd.R_lit (Kd.int .u32) _ 97 ?hg (N:=18) ?hd (xs:=([]:List Int)) (inner:=[]) (ok:=fun _=>True) (okp:=fun _=>True) ?hr ?hp (fun _ hk=>hk) trivial (Below.refl _ _) (Nat.le_refl _) (by simp) ?_;(case hd=>rfl);(case hg=>rfl);(case hr=>first|(go_simp;done)|(go_simp;rfl));(case hp=>exact(Reps.none _ _));intro vb0 w17 ho18 hb hg_ hnew_;clear hg_ hnew_;(first|rw[←Nya9.out] at ho18|(simp only[Int.reduceToNat] at ho18;rw[←Nya9.out] at ho18));have HOb1:=yRl ho18 HB;replace HB:=yS HB hb;clear hb ho18;obtain⟨i019,hi019,_,hsz19,_⟩:=info_parts info97;obtain⟨hcut19,hA19,hC19⟩:=print_take_of (P:=Try.prog) (Value.int .u32) 0 29 97 .i64 Try.underlying29 hi019 hsz19 A0 c0 l0 x3_1 zd zd HC0.out;have HRb2:=zk (Kd.C_of_reads (h1:=fun _=>rfl) (hA19 _ (Kd.reads_of_C HR0.out)));have HCb2:=zk hC19;clear hA19 hC19 hi019 hsz19)|((with_reducible refine gate_builtin (b:= .append) (xs:= #[.tmp 18, .tmp 21]) rfl ?_);at_builtin;refine Kd.R_append_rows (Kd.int .u32) (w0:=w) w.heap.size rfl (.tmp 18) (.tmp 21) 29 97 (.int .u32 0) 4 rfl Try.underlying29 info97 rfl (by decide) (by omega) vb0 ya9 (l0.take (x3_1:Int).toNat) _ _ _ (fun _=>True) (fun _=>False) rfl rfl ?aO ?aR (fun _ _ h=>h) (fun _ h=>h.elim) ?aF ?aB ?aS ?aL ?_;(case aR=>first|(have hz_:(l0.take (x3_1:Int).toNat).length=x3_1.toNat:=(by rw[List.length_take];have h_:(x3_1:Int)≤(l0.length:Int):=zd;omega);refine Eq.mp (congrArg (fun n_=>Kd.C _ _ _ n_ _) hz_) ?_;repeat(first|exact(Kd.C_below HRb2.out HB.out)|(with_reducible refine Kd.C_alloc ?_ _)|(with_reducible refine Kd.C_drewN ?_ _)|(with_reducible refine Kd.C_drew ?_)))|(rw[←show(l0.take (x3_1:Int).toNat).length=x3_1.toNat from(by rw[List.length_take];have h_:(x3_1:Int)≤(l0.length:Int):=zd;omega)];repeat(first|exact(Kd.C_below HRb2.out HB.out)|(with_reducible refine Kd.C_alloc ?_ _)|(with_reducible refine Kd.C_drewN ?_ _)|(with_reducible refine Kd.C_drew ?_)))|(repeat(first|exact(Kd.C_below HRb2.out HB.out)|(with_reducible refine Kd.C_alloc ?_ _)|(with_reducible refine Kd.C_drewN ?_ _)|(with_reducible refine Kd.C_drew ?_))));(case aB=>exact(zB HB.out));(case aF=>exact(fun _ _=>trivial));(case aO=>exact(zR HOb1.out));(case aS=>exact(below_size (zB HB.out)));(case aL=>have:=LMc16.out;have hlx_:=(show(l0.take (x3_1:Int).toNat).length=x3_1.toNat from(by rw[List.length_take];have h_:(x3_1:Int)≤(l0.length:Int):=zd;omega));omega);intro vb4 w20 ho hb hg hat;rw[←Nyb3.out] at ho;replace HB:=zk (hb);have HOb5:=zk (ho);clear HOb1;clear ho hb hg hat))
 go_ret
 exact⟨_,zE,zR HOb5.out,zB HB.out⟩
set_option maxHeartbeats 8000000 in
set_option maxRecDepth 100000 in
theorem r1_Of.calls (k:Nat) (a0:Int) (r:List Int) (w:World) (h:r1_Of.f k a0=some r):
 Calls Try.prog 23 #[.int .u64 a0] w fun e w'=>∃v0_:Value,e= .returned (v0_)∧Kd.R (Kd.int .u32) 97 w' w.heap.size (fun _=>True) v0_ r∧Below w.heap.size w w':=by
 have HB:=zk (Below.refl w.heap.size w)
 have H:=h
 clear h
 unfold r1_Of.f at H
 obtain⟨ya1,hya1⟩:∃y_:List Int,y_=(([(Int.tmod a0 4294967296) % 4294967296,(IntKind.u64.wrap (Int.tdiv a0 4294967296)) % 4294967296]:List Int)):=⟨_,rfl⟩
 replace H:((r1_Trim.f k ya1).bind fun ta4=>(some ta4))=some r:=zY hya1 H
 have Nya1:=zk hya1
 clear hya1
 replace H:=zb H
 obtain⟨ta4,A2,H⟩:=H
 obtain rfl:=Option.some.inj H
 go_enter Try.func23,Try.ntmps23
 go_wp2_with (first|((with_reducible refine gate_dst (N:=9) rfl ?_);refine Kd.R_lit (Kd.int .u32) _ 97 ?hg (N:=9) ?hd (xs:=([(Int.tmod a0 4294967296) % 4294967296,(IntKind.u64.wrap (Int.tdiv a0 4294967296)) % 4294967296]:List Int)) (inner:=[.int .u32 ((Int.tmod a0 4294967296) % 4294967296), .int .u32 ((IntKind.u64.wrap (Int.tdiv a0 4294967296)) % 4294967296)]) (ok:=fun _=>True) (okp:=fun _=>True) ?hr ?hp (fun _ hk=>hk) trivial (Below.refl _ _) (Nat.le_refl _) (by simp) ?_;(case hd=>rfl);(case hg=>rfl);(case hr=>first|(go_simp;done)|(go_simp;rfl));(case hp=>exact(Reps.one (show Kd.M (Kd.int .u32) _ _ _ ((Int.tmod a0 4294967296) % 4294967296) [.int .u32 ((Int.tmod a0 4294967296) % 4294967296)] from rfl) (Reps.one (show Kd.M (Kd.int .u32) _ _ _ ((IntKind.u64.wrap (Int.tdiv a0 4294967296)) % 4294967296) [.int .u32 ((IntKind.u64.wrap (Int.tdiv a0 4294967296)) % 4294967296)] from rfl) (Reps.none _ _))));intro va2 w3 ho4 hb hg_ hnew_;clear hg_ hnew_;(first|rw[←Nya1.out] at ho4|(simp only[Int.reduceToNat] at ho4;rw[←Nya1.out] at ho4));have HOa3:=yRl ho4 HB;replace HB:=yS HB hb;clear hb ho4;obtain⟨Ao5,co5,rfl⟩:=Kd.R_slice HOa3.out)|((with_reducible refine gC 75 ?_);refine zG (some 10) Try.func75 #[.slice Ao5 ya1.length co5] ?_;(with_reducible refine(r1_Trim.calls k _ _ ya1 ta4 _ ?side1 ?side2 A2.out).mono ?_);(case side1=>exact zC (Kd.R_reads' HOa3.out).2.2);(case side2=>exact(Kd.R_reads' HOa3.out).2.1);rintro e w6 ⟨va5,rfl,ho0,hb⟩;refine⟨_,rfl,?_⟩;replace ho0:=yn ho0 HOa3;have HOa6:=yRl ho0 HB;replace HOa3:=yRe HOa3 ho0 hb;replace HB:=yS HB hb;(try clear hb ho0)))
 go_ret
 exact⟨_,zE,by(with_reducible repeat(first|apply Kd.R_alloc|apply Kd.R_drewN|apply Kd.R_drew));exact Kd.R_mono HOa6.out (fun _ hk=>trivial),zB HB.out⟩
set_option maxHeartbeats 8000000 in
set_option maxRecDepth 100000 in
theorem r24_Weights.calls (k:Nat) (a0:Int) (A1:Option Addr) (c1:Nat) (l1:List (List Int)) (r:List (List Int)) (w:World) (hr1:Kd.C (Kd.slice 3 (Kd.int .i64)) w A1 l1.length l1) (hc1:l1.length≤c1) (h:r24_Weights.f k a0 l1=some r):
 Calls Try.prog 21 #[.int .i64 a0, .slice A1 l1.length c1] w fun e w'=>∃v0_:Value,e= .returned (v0_)∧Kd.S (Kd.slice 97 (Kd.int .u32)) 29 w' w.heap.size (fun _=>True) v0_ r∧Below w.heap.size w w':=by
 have HR1:=zk hr1
 have HC1:=zk hc1
 clear hr1 hc1
 have HB:=zk (Below.refl w.heap.size w)
 have H:=h
 clear h
 unfold r24_Weights.f at H
 obtain⟨ji3,hji3⟩:∃j_:Int,(wrap64 (a0+1))=j_:=⟨_,rfl⟩
 replace H:(if 0≤(ji3) then(if(ji3:Int).toNat≤35184372088832 then(if 0≤a0 then(if(a0:Int).toNat≤35184372088832 then(r24_Weights.l0 k a0 l1 (List.replicate (ji3:Int).toNat 0) (List.replicate (a0:Int).toNat 0) 0) else(none)) else(none)) else(none)) else(none))=some r:=by first|(rw[hji3] at H;exact H)|(simp only[hji3] at H ⊢;exact H)
 have hji3w:(IntKind.i64.wrap (a0+1))=ji3:=(i64_w _).trans hji3
 replace H:=zg H
 obtain⟨c4,H⟩:=H
 have c4b0:=eq_true c4
 have c4b1:=decide_eq_true c4
 clear c4
 replace H:=zg H
 obtain⟨c5,H⟩:=H
 have c5b0:=eq_true c5
 have c5b1:=decide_eq_true c5
 clear c5
 obtain⟨ya1,hya1⟩:∃y_:List Int,y_=(List.replicate (ji3:Int).toNat 0):=⟨_,rfl⟩
 replace H:(if 0≤a0 then(if(a0:Int).toNat≤35184372088832 then(r24_Weights.l0 k a0 l1 ya1 (List.replicate (a0:Int).toNat 0) 0) else(none)) else(none))=some r:=zY hya1 H
 have Nya1:=zk hya1
 clear hya1
 replace H:=zg H
 obtain⟨c6,H⟩:=H
 have c6b0:=eq_true c6
 have c6b1:=decide_eq_true c6
 clear c6
 replace H:=zg H
 obtain⟨c7,H⟩:=H
 have c7b0:=eq_true c7
 have c7b1:=decide_eq_true c7
 clear c7
 obtain⟨ya4,hya4⟩:∃y_:List Int,y_=(List.replicate (a0:Int).toNat 0):=⟨_,rfl⟩
 replace H:(r24_Weights.l0 k a0 l1 ya1 ya4 0)=some r:=zY hya4 H
 have Nya4:=zk hya4
 clear hya4
 have H':=zk H
 clear H
 go_enter Try.func21,Try.ntmps21
 go_wp2_with (first|((with_reducible refine gate_dst (N:=12) rfl ?_);refine Kd.R_make (Kd.int .i64) _ 3 rfl (N:=12) rfl 22 _ _ rfl ji3 rfl rfl Try.underlying22 (.int .i64 0) 8 info3 rfl (by decide) (by omega) 0 (ok:=fun _=>True) (okp:=fun _=>True) rfl (fun _ hk=>hk) trivial zd (Nat.le_trans (Nat.mul_le_mul_right _ (zd:ji3.toNat≤35184372088832)) (by omega)) (Below.refl _ _) (Nat.le_refl _) ?_;intro va2 w8 ho9 hb hg_ hnew_;clear hg_ hnew_;(first|rw[←Nya1.out] at ho9|(simp only[Int.reduceToNat] at ho9;rw[←Nya1.out] at ho9));have HOa3:=yRl ho9 HB;replace HB:=yS HB hb;clear hb ho9)|((with_reducible refine gate_dst (N:=14) rfl ?_);refine Kd.R_make (Kd.int .i64) _ 3 rfl (N:=14) rfl 22 _ _ rfl a0 rfl rfl Try.underlying22 (.int .i64 0) 8 info3 rfl (by decide) (by omega) 0 (ok:=fun _=>True) (okp:=fun _=>True) rfl (fun _ hk=>hk) trivial zd (Nat.le_trans (Nat.mul_le_mul_right _ (zd:a0.toNat≤35184372088832)) (by omega)) (Below.refl _ _) (Nat.le_refl _) ?_;intro va5 w10 ho11 hb hg_ hnew_;clear hg_ hnew_;(first|rw[←Nya4.out] at ho11|(simp only[Int.reduceToNat] at ho11;rw[←Nya4.out] at ho11));replace ho11:=yn ho11 HOa3;have HOa6:=yRl ho11 HB;replace HOa3:=yRe HOa3 ho11 hb;replace HB:=yS HB hb;clear hb ho11))
 go_loopg [7] k (fun kq v7 w'=>∃(x5_1:List Int) (x7_1:Int),v7= .int .i64 x7_1∧Aside0 (r24_Weights.l0 kq a0 l1 x5_1 ya4 x7_1=some r)∧Aside0 (kq≤k)∧Aside0 (Kd.R (Kd.int .i64) 3 w' w.heap.size (fun k_=>some k_≠(va5:Value).ownBlock) va2 x5_1)∧Aside0 (Kd.R (Kd.int .i64) 3 w' w.heap.size (fun k_=>some k_≠(va2:Value).ownBlock) va5 ya4)∧Aside0 (Below w.heap.size w w'))
 case atStart=>exact⟨(ya1),(0),zF,H',⟨Nat.le_refl _⟩,⟨by(with_reducible repeat(first|apply Kd.R_alloc|apply Kd.R_drewN|apply Kd.R_drew));exact Kd.R_mono HOa3.out (fun _ hk=>hk.2)⟩,⟨by(with_reducible repeat(first|apply Kd.R_alloc|apply Kd.R_drewN|apply Kd.R_drew));exact Kd.R_mono HOa6.out (fun _ hk=>hk.2)⟩,⟨zB HB.out⟩⟩
 clear H'
 (try clear c4);(try clear c4b0);(try clear c4b1);(try clear c5);(try clear c5b0);(try clear c5b1);(try clear c6);(try clear c6b0);(try clear c6b1);(try clear c7);(try clear c7b0);(try clear c7b1)
 obtain⟨x5_1,x7_1,rfl,HA,HK1,HO_5,HO_6,HB⟩:=hrel
 cases gk with|zero=>exact absurd HA.out (by simp [r24_Weights.l0])|succ k1=>?_
 have H:=HA.out
 clear HA
 simp only[r24_Weights.l0] at H
 replace H:=zid H
 rcases H with⟨c12b0,H⟩|⟨c12b0,H⟩
 ·replace H:=zgd H
  obtain⟨c13b0,H⟩:=H
  replace H:=zb H
  obtain⟨ta8,A14,H⟩:=H
  replace H:=zgd H
  obtain⟨c15b0,H⟩:=H
  replace H:=zgd H
  obtain⟨c16b0,H⟩:=H
  obtain⟨yb0,hyb0⟩:∃y_:List Int,y_=(x5_1.set (ta8:Int).toNat (wrap64 ((rd x5_1 ta8)+1))):=⟨_,rfl⟩
  replace H:(r24_Weights.l0 k1 a0 l1 yb0 ya4 (wrap64 (x7_1+1)))=some r:=zY hyb0 H
  have Nyb0:=zk hyb0
  clear hyb0
  have H':=zk H
  clear H
  have pa7:0≤(x7_1:Int):=zd
  have qa7:x7_1<(l1.length:Int):=zd
  obtain⟨ada7,Aa7_0,ca7_0,ea7,hxa7_0,hla7_0,hia7_0⟩:=at_L1 HR1.out x7_1 pa7 qa7
  cases ea7
  replace hxa7_0:=(HB.out.cell (World.block_lt_of_cell? w _ hxa7_0)).trans hxa7_0
  have HRa7_0:=zk hia7_0
  have HCa7_0:=zk hla7_0
  clear hia7_0 hla7_0
  replace pa7:=eq_true pa7
  replace qa7:=eq_true qa7
  obtain⟨Ao18,co18,rfl⟩:=Kd.R_slice HO_6.out
  go_wp2_with (first|((with_reducible refine gC 61 ?_);refine zG (some 27) Try.func61 #[.slice Aa7_0 (rd_L1 l1 x7_1).length ca7_0, .slice Ao18 ya4.length co18] ?_;(with_reducible refine(r24_Distance.calls k1 _ _ (rd_L1 l1 x7_1) _ _ ya4 ta8 _ ?side1 ?side2 ?side3 ?side4 A14.out).mono ?_);(case side1=>exact zC (Kd.C_below HRa7_0.out HB.out));(case side2=>exact HCa7_0.out);(case side3=>exact zC (Kd.R_reads' HO_6.out).2.2);(case side4=>exact(Kd.R_reads' HO_6.out).2.1);rintro e w' ⟨rfl,⟨nd,rfl⟩⟩;refine⟨_,rfl,?_⟩;(try(rw[drewN_self wr];generalize hq_:World.drewN wr _=wr;have n0_:Aside0 (Kd.R (Kd.int .i64) 3 wr w.heap.size (fun k_=>some k_≠(.slice Ao18 ya4.length co18:Value).ownBlock) va2 x5_1):=⟨by rw[←hq_];exact(zR HO_5.out)⟩;have n1_:Aside0 (Kd.R (Kd.int .i64) 3 wr w.heap.size (fun k_=>some k_≠(va2:Value).ownBlock) (.slice Ao18 ya4.length co18) ya4):=⟨by rw[←hq_];exact(zR HO_6.out)⟩;have n2_:Aside0 (Below w.heap.size w wr):=⟨by rw[←hq_];exact(zB HB.out)⟩;clear HO_5 HO_6 HB hq_;have HO_5:=n0_;have HO_6:=n1_;have HB:=n2_;clear n0_ n1_ n2_));obtain⟨Ao19,co19,rfl⟩:=Kd.R_slice HO_5.out;have pa9:0≤(ta8:Int):=zd;have qa9:ta8<(x5_1.length:Int):=zd;obtain⟨ada9,ea9,hxa9_0⟩:=Kd.at_int (Kd.R_reads' HO_5.out).2.2 ta8 pa9 qa9;cases ea9;replace pa9:=eq_true pa9;replace qa9:=eq_true qa9;have p17:0≤(ta8:Int):=zd;have q17:(ta8:Int)<((x5_1.length:Int):Int):=zd;obtain⟨go17,co17,eo17,gb17,gl17,cl17,HG17⟩:=Kd.R_form HO_5.out (by omega);(first|cases eo17|(injection eo17 with ea_ en_ ec_;(first|subst ea_|(injection ea_ with ea_;subst ea_));subst ec_;clear en_));have GB17:=zk gb17;have GG17:=zk HG17;clear gb17 gl17 HG17;(first|simp only[add_plain] at hxa9_0|skip);obtain⟨hx17_0,hf17_0⟩:=Kd.R_celln 0 HO_5.out (ta8:Int) p17 q17;replace p17:=eq_true p17;replace q17:=eq_true q17;obtain⟨hy20_,hz20_⟩:=Kd.R_celln 0 HO_5.out (ta8:Int) zd zd;have HP20:=Kd.R_putg HO_5.out (ta8:Int) (wrap64 ((rd x5_1 ta8)+1)))|((with_reducible refine gate_store (t:=3) (p:=31) rfl ?_);refine store_event (t:=3) (p:=31) (v:=?vo_w21) (w1:=(wr.setCell ⟨go17,(ta8:Int).toNat,none⟩ (.int .i64 (wrap64 ((rd x5_1 ta8)+1))))) ?hg ?ho ?hn ?hr ?_;(case ho=>rfl);(case hg=>rfl);(case hn=>rfl);(case hr=>first|(go_simp;done)|(go_simp;rfl));intro w21 hw;have hg:wr.grownBy w21 (some go17):=(by rw[hw];exact HP20.2);have hp_:Kd.R (Kd.int .i64) 3 w21 w.heap.size (fun k_=>some k_≠(.slice Ao18 ya4.length co18:Value).ownBlock) (.slice (some ⟨go17,0,none⟩) x5_1.length co19) yb0:=(by rw[hw,Nyb0.out];exact HP20.1);clear HP20;replace HO_5:=zk (hp_);replace HO_6:=zk (Kd.R_after (v:=(.slice (some ⟨go17,0,none⟩) x5_1.length co19)) (v1:=(.slice (some ⟨go17,0,none⟩) x5_1.length co19)) (ok:=(fun _=>True)) (by(with_reducible repeat(first|apply Kd.R_alloc|apply Kd.R_drewN|apply Kd.R_drew));exact Kd.R_mono HO_6.out (fun _ hk=>⟨trivial,hk⟩)) hg (.inl rfl));replace HB:=zk ((by rw[hw];exact below_set (HB.out) GB17.out:Below w.heap.size w w21));clear hg hw hp_))
  go_roundg k1
  case measure=>have:=HK1.out;omega
  case rel=>exact⟨(yb0),(wrap64 (x7_1+1)),zF,H',⟨zo1 HK1⟩,⟨zR HO_5.out⟩,⟨by(with_reducible repeat(first|apply Kd.R_alloc|apply Kd.R_drewN|apply Kd.R_drew));exact Kd.R_mono HO_6.out (fun _ hk=>hk.2)⟩,⟨zB HB.out⟩⟩
 have H':=zk H
 clear H
 go_wp2
 go_loopg [8,9] k1 (fun kq v8 v9 w'=>∃(x8_2:List (List Int)) (x9_2:Int),v9= .int .i64 x9_2∧Aside0 (r24_Weights.l1 kq a0 x5_1 x8_2 x9_2=some r)∧Aside0 (kq≤k1)∧Aside0 (Kd.R (Kd.int .i64) 3 w' w.heap.size (fun _=>True) va2 x5_1)∧Aside0 (Kd.S (Kd.slice 97 (Kd.int .u32)) 29 w' w.heap.size (fun _=>True) v8 x8_2)∧Aside0 (Below w.heap.size w w'))
 case atStart=>exact⟨(([]:List (List Int))),(0),zF,H',⟨Nat.le_refl _⟩,⟨by(with_reducible repeat(first|apply Kd.R_alloc|apply Kd.R_drewN|apply Kd.R_drew));exact Kd.R_mono HO_5.out (fun _ hk=>trivial)⟩,⟨by first|exact Kd.S_nil _ _ _ _ _|exact Kd.N_nil _ _ _ _ _|exact Kd.V_nil _ _ _ _ _|exact Kd.Q_nil _ _ _ _ _|exact Kd.R_nil _ _ _ _ _⟩,⟨zB HB.out⟩⟩
 clear H'
 (try clear c4);(try clear c4b0);(try clear c4b1);(try clear c5);(try clear c5b0);(try clear c5b1);(try clear c6);(try clear c6b0);(try clear c6b1);(try clear c7);(try clear c7b0);(try clear c7b1);(try clear c12b0);(try clear c13b0);(try clear c15b0);(try clear c16b0);(try clear p17);(try clear q17);(try clear hxa7_0);(try clear hxa9_0);(try clear hx17_0);(try clear pa7);(try clear pa9);(try clear qa7);(try clear qa9)
 obtain⟨x8_2,x9_2,rfl,HA,HK2,HO_5,HO_8,HB⟩:=hrel
 cases gk with|zero=>exact absurd HA.out (by simp [r24_Weights.l1])|succ k2=>?_
 have H:=HA.out
 clear HA
 simp only[r24_Weights.l1] at H
 replace H:=zid H
 rcases H with⟨c22b0,H⟩|⟨c22b0,H⟩
 ·replace H:=zgd H
  obtain⟨c23b0,H⟩:=H
  replace H:=zgd H
  obtain⟨c24b0,H⟩:=H
  replace H:=zb H
  obtain⟨tb2,A25,H⟩:=H
  replace H:=zg H
  obtain⟨c26,H⟩:=H
  have LMc26:=zk c26
  clear c26
  obtain⟨yb5,hyb5⟩:∃y_:List (List Int),y_=(x8_2++[tb2]):=⟨_,rfl⟩
  replace H:(r24_Weights.l1 k2 a0 x5_1 yb5 (wrap64 (x9_2+1)))=some r:=zY hyb5 H
  have Nyb5:=zk hyb5
  clear hyb5
  have H':=zk H
  clear H
  obtain⟨Ao27,co27,rfl⟩:=Kd.R_slice HO_5.out
  have pb1:0≤(x9_2:Int):=zd
  have qb1:x9_2<(x5_1.length:Int):=zd
  obtain⟨adb1,eb1,hxb1_0⟩:=Kd.at_int (Kd.R_reads' HO_5.out).2.2 x9_2 pb1 qb1
  cases eb1
  replace pb1:=eq_true pb1
  replace qb1:=eq_true qb1
  go_wp2_with (first|((with_reducible refine gC 23 ?_);refine zG (some 43) Try.func23 #[.int .u64 (IntKind.u64.wrap (rd x5_1 x9_2))] ?_;(with_reducible refine(r1_Of.calls k2 (IntKind.u64.wrap (rd x5_1 x9_2)) tb2 _ A25.out).mono ?_);rintro e w28 ⟨vb3,rfl,ho0,hb⟩;refine⟨_,rfl,?_⟩;replace HO_5:=yRb HO_5 hb;replace HO_8:=zk (Kd.S_elder' (zS HO_8.out) (Kd.R_base ho0) hb);have HOb4:=yRl ho0 HB;replace HB:=yS HB hb;(try clear hb ho0);obtain⟨Ao30,co30,rfl⟩:=Kd.R_slice HOb4.out)|((with_reducible refine gate_builtin (b:= .append) (xs:= #[.tmp 37, .tmp 44]) rfl ?_);at_builtin;refine Kd.S_append (Kd.slice 97 (Kd.int .u32)) (w0:=w) w.heap.size rfl (.tmp 37) (.tmp 44) 33 29 (.slice none 0 0) 24 rfl Try.underlying33 info29 rfl (by decide) (by omega) u8 x8_2 tb2 [.slice Ao30 tb2.length co30] (fun _=>True) (fun k_=>some k_=(.slice Ao30 tb2.length co30:Value).ownBlock) rfl rfl ?aP (fun k_ hk_=>((Kd.R_mono (ok':=fun k_=>((fun _=>True)) k_∧some k_≠(u8:Value).ownBlock) (Kd.R_apart' (HOb4.out) (Kd.S_typed HO_8.out) (by decide)) (fun k_ hk=>⟨trivial,hk.2⟩))).1 k_ hk_.symm) ?aF ?aO ?aB ?aS ?aL ?_;(case aP=>exact Kd.M_row (Kd.R_mono (Kd.R_tight rfl (Kd.R_mono (ok':=fun k_=>((fun _=>True)) k_∧some k_≠(u8:Value).ownBlock) (Kd.R_apart' (HOb4.out) (Kd.S_typed HO_8.out) (by decide)) (fun k_ hk=>⟨trivial,hk.2⟩))) (fun _ h_=>h_)));(case aB=>exact(zB HB.out));(case aF=>exact(fun _ _=>trivial));(case aO=>exact(by(with_reducible repeat(first|apply Kd.S_alloc|apply Kd.S_drewN|apply Kd.S_drew));exact Kd.S_mono HO_8.out (fun k_ hk=>⟨trivial,fun e_=>hk.2 e_⟩)));(case aS=>exact(below_size (zB HB.out)));(case aL=>have:=LMc26.out;omega);intro vb6 w29 ho hb hg hat;rw[←Nyb5.out] at ho;replace HO_5:=zk (Kd.R_over' (zR HO_5.out) (Kd.S_typed (zS HO_8.out)) (by decide) hg);replace HB:=zk (hb);have HOb7:=zk (ho);clear HO_8 HOb4;clear ho hb hg hat))
  go_roundg k2
  case measure=>have:=HK1.out;have:=HK2.out;omega
  case rel=>exact⟨(yb5),(wrap64 (x9_2+1)),zF,H',⟨zo2 HK1 HK2⟩,⟨zR HO_5.out⟩,⟨zS HOb7.out⟩,⟨zB HB.out⟩⟩
 obtain rfl:=Option.some.inj H
 go_wp2
 go_ret
 exact⟨_,by first|rfl|(simp [errW_none,errW_some]<;>rfl)|(simp only[←hji3];first|rfl|(simp [errW_none,errW_some]<;>rfl))|(simp [*,errW_none,errW_some]<;>rfl),zS HO_8.out,zB HB.out⟩
set_option maxHeartbeats 8000000 in
set_option maxRecDepth 100000 in
theorem nat_short.calls (k:Nat) (P0_:Nat→Prop) (A0:Option Addr) (c0:Nat) (l0:List Int) (r:List Int) (w:World) (hs0:Kd.V (Kd.int .u32) 97 w w.heap.size (fun k_=>P0_ k_) (.slice A0 l0.length c0) l0) (h:nat_short.f k l0=some r):
 Calls Try.prog 118 #[.slice A0 l0.length c0] w fun e w'=>∃v0_:Value,e= .returned (v0_)∧Kd.V (Kd.int .u32) 97 w' w.heap.size (fun k_=>(P0_ k_∨w.heap.size≤k_)) v0_ r∧Below w.heap.size w w':=by
 have HO0:=zk (show Kd.V (Kd.int .u32) 97 w w.heap.size (fun k_=>(P0_ k_∨w.heap.size≤k_)) (.slice A0 l0.length c0) l0 from Kd.V_mono hs0 (fun k_ hk=> .inl hk))
 have HB:=zk (Below.refl w.heap.size w)
 have H:=h
 clear h
 unfold nat_short.f at H
 have H':=zk H
 clear H
 go_enter Try.func118,Try.ntmps118
 go_wp2
 go_loopg [3] k (fun kq v3 w'=>∃(x3_1:Int),v3= .int .i64 x3_1∧Aside0 (nat_short.l0 kq l0 x3_1=some r)∧Aside0 (kq≤k)∧Aside0 (Kd.V (Kd.int .u32) 97 w' w.heap.size (fun k_=>(P0_ k_∨w.heap.size≤k_)) (.slice A0 l0.length c0) l0)∧Aside0 (Below w.heap.size w w'))
 case atStart=>exact⟨((l0.length:Int)),zF,H',⟨Nat.le_refl _⟩,⟨zV HO0.out⟩,⟨zB HB.out⟩⟩
 clear H'
 obtain⟨x3_1,rfl,HA,HK1,HO_0,HB⟩:=hrel
 cases gk with|zero=>exact absurd HA.out (by simp [nat_short.l0])|succ k1=>?_
 have H:=HA.out
 clear HA
 simp only[nat_short.l0] at H
 replace H:=zi H
 rcases H with⟨c2,H⟩|⟨c2,H⟩
 ·have c2b0:decide (0<x3_1)=true:=decide_eq_true c2
  clear c2
  obtain⟨ji3,hji3⟩:∃j_:Int,(wrap64 (x3_1-1))=j_:=⟨_,rfl⟩
  replace H:(if 0≤(ji3) then(if(ji3)<(l0.length:Int) then(if(rd l0 (ji3))=0 then(nat_short.l0 k1 l0 ji3) else(if 0≤x3_1 then(if x3_1≤(l0.length:Int) then(some (l0.take (x3_1:Int).toNat)) else(none)) else(none))) else(none)) else(none))=some r:=by first|(rw[hji3] at H;exact H)|(simp only[hji3] at H ⊢;exact H)
  have hji3w:(IntKind.i64.wrap (x3_1-1))=ji3:=(i64_w _).trans hji3
  replace H:=zgd H
  obtain⟨c4b0,H⟩:=H
  replace H:=zgd H
  obtain⟨c5b0,H⟩:=H
  replace H:=zi H
  rcases H with⟨c6,H⟩|⟨c6,H⟩
  ·have c6b0:=beq_iff_eq.mpr c6
   have c6b1:=bne_eq_false_iff_eq.mpr c6
   clear c6
   have H':=zk H
   clear H
   have pa1:0≤((ji3):Int):=zd
   have qa1:(ji3)<(l0.length:Int):=zd
   obtain⟨ada1,ea1,hxa1_0⟩:=Kd.at_int (Kd.V_reads' HO_0.out).2.2 (ji3) pa1 qa1
   cases ea1
   replace pa1:=eq_true pa1
   replace qa1:=eq_true qa1
   go_wp2
   go_roundg k1
   case measure=>have:=HK1.out;omega
   case rel=>exact⟨(ji3),(by first|rfl|(simp;done)|(simp only[←hji3]<;>(first|rfl|simp))|(simp [*];done)),H',⟨zo1 HK1⟩,⟨zV HO_0.out⟩,⟨zB HB.out⟩⟩
  have c6b0:=beq_eq_false_iff_ne.mpr c6
  have c6b1:=bne_iff_ne.mpr c6
  replace H:=zg H
  obtain⟨c7,H⟩:=H
  have c7b0:=eq_true c7
  have c7b1:=decide_eq_true c7
  clear c7
  replace H:=zg H
  obtain⟨c8,H⟩:=H
  have c8b0:=eq_true c8
  have c8b1:=decide_eq_true c8
  clear c8
  obtain⟨ya2,hya2⟩:∃y_:List Int,y_=(l0.take (x3_1:Int).toNat):=⟨_,rfl⟩
  replace H:(some ya2)=some r:=zY hya2 H
  have Nya2:=zk hya2
  clear hya2
  obtain rfl:=Option.some.inj H
  have pa1:0≤((ji3):Int):=zd
  have qa1:(ji3)<(l0.length:Int):=zd
  obtain⟨ada1,ea1,hxa1_0⟩:=Kd.at_int (Kd.V_reads' HO_0.out).2.2 (ji3) pa1 qa1
  cases ea1
  replace pa1:=eq_true pa1
  replace qa1:=eq_true qa1
  have q9:(x3_1:Int)≤((l0.length:Int):Int):=zd
  obtain⟨i09,hi09,_,hsz9,_⟩:=info_parts info97
  have hroom9:l0.length≤c0:=(Kd.V_reads' HO_0.out).2.1
  have hC9:Kd.F (Kd.int .u32) _ _ (some ada1) l0.length l0:=(Kd.V_at (base:=w.heap.size) HO_0.out).2.2
  have hcut9:=Mw.cut_to_max (P:=Try.prog) 29 97 .i64 Try.underlying29 hi09 (some ada1) l0.length c0 x3_1 zd q9 hroom9
  have hr9:=Kd.F_take (m:=(x3_1:Int).toNat) hC9 (by omega)
  have hy9:ya2.length=(x3_1:Int).toNat:=(by rw[Nya2.out,List.length_take];omega)
  rw[←Nya2.out] at hr9
  rw[←hy9] at hcut9
  have HOa6:=zk (show Kd.V (Kd.int .u32) 97 _ w.heap.size _ (.slice (some ada1) ya2.length ya2.length) ya2 from Kd.V_mk (by omega) hr9)
  have HCa6:=zk (show ya2.length≤ya2.length from by omega)
  clear hr9 hC9 hroom9 hi09 hsz9
  have KY9:=zk hy9
  clear hy9
  replace q9:=eq_true q9
  go_wp2
  go_ret
  exact⟨_,by first|rfl|(simp [errW_none,errW_some]<;>rfl)|(simp only[←hji3];first|rfl|(simp [errW_none,errW_some]<;>rfl))|(simp [*,errW_none,errW_some]<;>rfl),zV HOa6.out,zB HB.out⟩
 have c2b0:decide (0<x3_1)=false:=decide_eq_false c2
 clear c2
 replace H:=zg H
 obtain⟨c10,H⟩:=H
 have c10b0:=eq_true c10
 have c10b1:=decide_eq_true c10
 clear c10
 replace H:=zg H
 obtain⟨c11,H⟩:=H
 have c11b0:=eq_true c11
 have c11b1:=decide_eq_true c11
 clear c11
 obtain⟨ya7,hya7⟩:∃y_:List Int,y_=(l0.take (x3_1:Int).toNat):=⟨_,rfl⟩
 replace H:(some ya7)=some r:=zY hya7 H
 have Nya7:=zk hya7
 clear hya7
 obtain rfl:=Option.some.inj H
 have q12:(x3_1:Int)≤((l0.length:Int):Int):=zd
 obtain⟨i012,hi012,_,hsz12,_⟩:=info_parts info97
 have hroom12:l0.length≤c0:=(Kd.V_reads' HO_0.out).2.1
 have hC12:Kd.F (Kd.int .u32) _ _ A0 l0.length l0:=(Kd.V_at (base:=w.heap.size) HO_0.out).2.2
 have hcut12:=Mw.cut_to_max (P:=Try.prog) 29 97 .i64 Try.underlying29 hi012 A0 l0.length c0 x3_1 zd q12 hroom12
 have hr12:=Kd.F_take (m:=(x3_1:Int).toNat) hC12 (by omega)
 have hy12:ya7.length=(x3_1:Int).toNat:=(by rw[Nya7.out,List.length_take];omega)
 rw[←Nya7.out] at hr12
 rw[←hy12] at hcut12
 have HOb1:=zk (show Kd.V (Kd.int .u32) 97 _ w.heap.size _ (.slice A0 ya7.length ya7.length) ya7 from Kd.V_mk (by omega) hr12)
 have HCb1:=zk (show ya7.length≤ya7.length from by omega)
 clear hr12 hC12 hroom12 hi012 hsz12
 have KY12:=zk hy12
 clear hy12
 replace q12:=eq_true q12
 go_wp2
 go_ret
 exact⟨_,zE,zV HOb1.out,zB HB.out⟩
set_option maxHeartbeats 8000000 in
set_option maxRecDepth 100000 in
theorem nat_Trim.calls (k:Nat) (A0:Option Addr) (c0:Nat) (l0:List Int) (r:List Int) (w:World) (hr0:Kd.C (Kd.int .u32) w A0 l0.length l0) (hc0:l0.length≤c0) (h:nat_Trim.f k l0=some r):
 Calls Try.prog 103 #[.slice A0 l0.length c0] w fun e w'=>∃v0_:Value,e= .returned (v0_)∧Kd.R (Kd.int .u32) 97 w' w.heap.size (fun _=>True) v0_ r∧Below w.heap.size w w':=by
 have HR0:=zk hr0
 have HC0:=zk hc0
 clear hr0 hc0
 have HB:=zk (Below.refl w.heap.size w)
 have H:=h
 clear h
 unfold nat_Trim.f at H
 replace H:=zb H
 obtain⟨ta1,A2,H⟩:=H
 replace H:=zg H
 obtain⟨c3,H⟩:=H
 have LMc3:=zk c3
 clear c3
 obtain⟨ya4,hya4⟩:∃y_:List Int,y_=(([]:List Int)++ta1):=⟨_,rfl⟩
 replace H:(some ya4)=some r:=zY hya4 H
 have Nya4:=zk hya4
 clear hya4
 obtain rfl:=Option.some.inj H
 go_enter Try.func103,Try.ntmps103
 go_wp2_with (first|((with_reducible refine gC 118 ?_);refine zG (some 4) Try.func118 #[.slice A0 l0.length c0] ?_;(with_reducible refine(nat_short.calls k (fun k_=>k_<w.heap.size) _ _ l0 ta1 _ ?side1 A2.out).mono ?_);(case side1=>exact Kd.V_mk HC0.out (Kd.F_below (Kd.C_F (Kd.heap_int .u32) HR0.out) (zB HB.out)));rintro e w4 ⟨va2,rfl,ho0,hb⟩;refine⟨_,rfl,?_⟩;have HOa3:=yVm ho0 HB;replace HB:=yS HB hb;(try clear hb ho0);obtain⟨Ao6,co6,rfl⟩:=Kd.V_slice HOa3.out)|((with_reducible refine gate_builtin (b:= .append) (xs:= #[.const (.slice none 0 0), .tmp 4]) rfl ?_);at_builtin;refine Kd.R_append_rows (Kd.int .u32) (w0:=w) w.heap.size rfl (.const (.slice none 0 0)) (.tmp 4) 29 97 (.int .u32 0) 4 rfl Try.underlying29 info97 rfl (by decide) (by omega) (.slice none 0 0) ([]:List Int) ta1 _ _ _ (fun _=>True) (fun _=>False) rfl rfl ?aO ?aR (fun _ _ h=>h) (fun _ h=>h.elim) ?aF ?aB ?aS ?aL ?_;(case aR=>repeat(first|exact(Kd.V_reads' HOa3.out).2.2|(with_reducible refine Kd.C_alloc ?_ _)|(with_reducible refine Kd.C_drewN ?_ _)|(with_reducible refine Kd.C_drew ?_)));(case aB=>exact(zB HB.out));(case aF=>exact(fun _ _=>trivial));(case aO=>exact((Kd.R_nil _ _ _ _ (fun _=>True))));(case aS=>exact(below_size (zB HB.out)));(case aL=>have:=LMc3.out;omega);intro va5 w5 ho hb hg hat;rw[←Nya4.out] at ho;replace HOa3:=zk (Kd.V_afterv (Kd.V_apart_nil (zV HOa3.out)) hg hat);replace HB:=zk (hb);have HOa6:=zk (ho);clear ho hb hg hat))
 go_ret
 exact⟨_,zE,zR HOa6.out,zB HB.out⟩
end Go.Proofs.Ytifkbghnmhineaa.PAll
