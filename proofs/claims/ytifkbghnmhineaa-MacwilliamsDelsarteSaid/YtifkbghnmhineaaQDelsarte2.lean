/- What functions of the program do and come to, for the statement MacwilliamsDelsarte, part 2. Conditions: as each theorem says. -/
import Derived.Test.YtifkbghnmhineaaQDelsarte1

namespace Go.Proofs.Ytifkbghnmhineaa.PAll
open Go.RowKit Go.Proofs.YtifkbghnmhineaaW.PrintWords Go.Proofs.YtifkbghnmhineaaW.PrintLast Go.Proofs.YtifkbghnmhineaaW.PrintMore
attribute [local go_sem] max2_int min2_int max_two min_two max_three min_three max_four min_four
set_option linter.unusedVariables false
set_option linter.unusedSimpArgs false
set_option maxHeartbeats 8000000 in
set_option maxRecDepth 100000 in
theorem nat_plus.calls (k:Nat) (P0_:Nat→Prop) (A0:Option Addr) (c0:Nat) (l0:List Int) (P1_:Nat→Prop) (A1:Option Addr) (c1:Nat) (l1:List Int) (r:List Int) (w:World) (hs0:Kd.V (Kd.int .u32) 97 w w.heap.size (fun k_=>P0_ k_) (.slice A0 l0.length c0) l0) (hs1:Kd.V (Kd.int .u32) 97 w w.heap.size (fun k_=>P1_ k_) (.slice A1 l1.length c1) l1) (h:nat_plus.f k l0 l1=some r):
 Calls Try.prog 117 #[.slice A0 l0.length c0, .slice A1 l1.length c1] w fun e w'=>∃v0_:Value,e= .returned (v0_)∧Kd.V (Kd.int .u32) 97 w' w.heap.size (fun k_=>((P0_ k_∨P1_ k_)∨w.heap.size≤k_)) v0_ r∧Below w.heap.size w w':=by
 have HO0:=zk (show Kd.V (Kd.int .u32) 97 w w.heap.size (fun k_=>((P0_ k_∨P1_ k_)∨w.heap.size≤k_)) (.slice A0 l0.length c0) l0 from Kd.V_mono hs0 (fun k_ hk=> .inl (.inl hk)))
 have HO1:=zk (show Kd.V (Kd.int .u32) 97 w w.heap.size (fun k_=>((P0_ k_∨P1_ k_)∨w.heap.size≤k_)) (.slice A1 l1.length c1) l1 from Kd.V_mono hs1 (fun k_ hk=> .inl (.inr hk)))
 have HB:=zk (Below.refl w.heap.size w)
 have H:=h
 clear h
 unfold nat_plus.f at H
 have HC3:=zk H
 clear H
 go_enter Try.func117,Try.ntmps117
 go_upto_if 13 with(fail)
 go_cut [0,1] (fun v0 v1 wc=>∃(kq:Nat) (x0_2:List Int) (x1_2:List Int),Aside0 (nat_plus.j0 kq x0_2 x1_2=some r)∧Aside0 (kq≤k)∧Aside0 (Kd.V (Kd.int .u32) 97 wc w.heap.size (fun k_=>((P0_ k_∨P1_ k_)∨w.heap.size≤k_)) v0 x0_2)∧Aside0 (Kd.V (Kd.int .u32) 97 wc w.heap.size (fun k_=>((P0_ k_∨P1_ k_)∨w.heap.size≤k_)) v1 x1_2)∧Aside0 (Below w.heap.size w wc))
 case first=>
  have H:=HC3.out
  clear HC3
  replace H:=zi H
  rcases H with⟨c4,H⟩|⟨c4,H⟩
  ·have c4b0:=decide_eq_true c4
   have c4b1:decide (l0.length<l1.length)=true:=decide_eq_true (Int.ofNat_lt.mp c4)
   clear c4
   (first|rw[c4b0]|(simp only[i64_w,i32_w];rw[c4b0])|rw[c4b1]|skip)
   have H':=zk H
   clear H
   go_wp2
   go_meet
   case rel=>exact⟨_,(l1),(l0),H',⟨zO⟩,⟨zV HO1.out⟩,⟨zV HO0.out⟩,⟨zB HB.out⟩⟩
  have c4b0:=decide_eq_false c4
  have c4b1:decide (l0.length<l1.length)=false:=decide_eq_false (fun h=>c4 (Int.ofNat_lt.mpr h))
  clear c4
  (first|rw[c4b0]|(simp only[i64_w,i32_w];rw[c4b0])|rw[c4b1]|skip)
  have H':=zk H
  clear H
  go_wp2
  go_meet
  case rel=>exact⟨_,(l0),(l1),H',⟨zO⟩,⟨zV HO0.out⟩,⟨zV HO1.out⟩,⟨zB HB.out⟩⟩
 clear HC3
 (try clear c4);(try clear c4b0);(try clear c4b1)
 obtain⟨kq,x0_2,x1_2,HA,HJ2,HO_0,HO_1,HB⟩:=hcut
 cases kq with|zero=>exact absurd HA.out (by simp [nat_plus.j0])|succ kj2=>?_
 have H:=HA.out
 clear HA
 simp only[nat_plus.j0] at H
 obtain⟨ji5,hji5⟩:∃j_:Int,(wrap64 ((x0_2.length:Int)+1))=j_:=⟨_,rfl⟩
 replace H:(if 0≤(ji5) then(if(ji5:Int).toNat≤70368744177664 then(nat_plus.l0 kj2 x0_2 x1_2 (List.replicate (ji5:Int).toNat 0) 0 (x0_2.length:Int) 0) else(none)) else(none))=some r:=by first|(rw[hji5] at H;exact H)|(simp only[hji5] at H ⊢;exact H)
 have hji5w:(IntKind.i64.wrap ((x0_2.length:Int)+1))=ji5:=(i64_w _).trans hji5
 replace H:=zg H
 obtain⟨c6,H⟩:=H
 have c6b0:=eq_true c6
 have c6b1:=decide_eq_true c6
 clear c6
 replace H:=zg H
 obtain⟨c7,H⟩:=H
 have c7b0:=eq_true c7
 have c7b1:=decide_eq_true c7
 clear c7
 obtain⟨ya1,hya1⟩:∃y_:List Int,y_=(List.replicate (ji5:Int).toNat 0):=⟨_,rfl⟩
 replace H:(nat_plus.l0 kj2 x0_2 x1_2 ya1 0 (x0_2.length:Int) 0)=some r:=zY hya1 H
 have Nya1:=zk hya1
 clear hya1
 have H':=zk H
 clear H
 obtain⟨Ao8,co8,rfl⟩:=Kd.V_slice HO_0.out
 go_wp2_with (first|((with_reducible refine gate_dst (N:=19) rfl ?_);refine Kd.R_make (Kd.int .u32) _ 97 rfl (N:=19) rfl 29 _ _ rfl ji5 rfl rfl Try.underlying29 (.int .u32 0) 4 info97 rfl (by decide) (by omega) 0 (ok:=fun _=>True) (okp:=fun _=>True) rfl (fun _ hk=>hk) trivial zd (Nat.le_trans (Nat.mul_le_mul_right _ (zd:ji5.toNat≤70368744177664)) (by omega)) (Below.refl _ _) (Nat.le_refl _) ?_;intro va2 w9 ho10 hb hg_ hnew_;clear hg_ hnew_;(first|rw[←Nya1.out] at ho10|(simp only[Int.reduceToNat] at ho10;rw[←Nya1.out] at ho10));replace HO_0:=yVe HO_0 ho10 hb;replace HO_1:=yVe HO_1 ho10 hb;replace ho10:=Kd.R_newM (M:=fun k_=>(w.heap.size≤k_)) ho10 (below_size (zB HB.out)) (fun k_ h_=>h_);have HOa3:=yRl ho10 HB;replace HB:=yS HB hb;clear hb ho10))
 go_loopg [6,22] kj2 (fun kq v6 v22 w'=>∃(x5_2:List Int) (x6_2:Int) (x22_2:Int),v6= .int .u64 x6_2∧v22= .int .i64 x22_2∧Aside0 (nat_plus.l0 kq x0_2 x1_2 x5_2 x6_2 (x0_2.length:Int) x22_2=some r)∧Aside0 (kq≤kj2)∧Aside0 (Kd.V (Kd.int .u32) 97 w' w.heap.size (fun k_=>((P0_ k_∨P1_ k_)∨w.heap.size≤k_)∧some k_≠(va2:Value).ownBlock) (.slice Ao8 x0_2.length co8) x0_2)∧Aside0 (Kd.V (Kd.int .u32) 97 w' w.heap.size (fun k_=>((P0_ k_∨P1_ k_)∨w.heap.size≤k_)∧some k_≠(va2:Value).ownBlock) u1 x1_2)∧Aside0 (Kd.R (Kd.int .u32) 97 w' w.heap.size (fun k_=>(w.heap.size≤k_)) va2 x5_2)∧Aside0 (Below w.heap.size w w'))
 case atStart=>exact⟨(ya1),(0),(0),zF,zF,H',⟨Nat.le_refl _⟩,⟨zV HO_0.out⟩,⟨zV HO_1.out⟩,⟨by(with_reducible repeat(first|apply Kd.R_alloc|apply Kd.R_drewN|apply Kd.R_drew));exact Kd.R_mono HOa3.out (fun _ hk=>hk.1)⟩,⟨zB HB.out⟩⟩
 clear H'
 (try clear c4);(try clear c4b0);(try clear c4b1);(try clear c6);(try clear c6b0);(try clear c6b1);(try clear c7);(try clear c7b0);(try clear c7b1)
 obtain⟨x5_2,x6_2,x22_2,rfl,rfl,HA,HK2,HO_0,HO_1,HO_5,HB⟩:=hrel
 cases gk with|zero=>exact absurd HA.out (by simp [nat_plus.l0])|succ k2=>?_
 have H:=HA.out
 clear HA
 simp only[nat_plus.l0] at H
 replace H:=zid H
 rcases H with⟨c11b0,H⟩|⟨c11b0,H⟩
 ·replace H:=zgd H
  obtain⟨c12b0,H⟩:=H
  replace H:=zgd H
  obtain⟨c13b0,H⟩:=H
  replace H:=zid H
  rcases H with⟨c14b0,H⟩|⟨c14b0,H⟩
  ·replace H:=zgd H
   obtain⟨c15b0,H⟩:=H
   obtain⟨ya6,hya6⟩:∃y_:List Int,y_=(x5_2.set (x22_2:Int).toNat ((IntKind.u64.wrap ((IntKind.u64.wrap ((IntKind.u64.wrap (rd x0_2 x22_2))+x6_2))+(IntKind.u64.wrap (rd x1_2 x22_2)))) % 4294967296)):=⟨_,rfl⟩
   replace H:(nat_plus.l0 k2 x0_2 x1_2 ya6 ((IntKind.u64.wrap ((IntKind.u64.wrap ((IntKind.u64.wrap (rd x0_2 x22_2))+x6_2))+(IntKind.u64.wrap (rd x1_2 x22_2)))) / 4294967296) (x0_2.length:Int) (wrap64 (x22_2+1)))=some r:=zY hya6 H
   have Nya6:=zk hya6
   clear hya6
   have H':=zk H
   clear H
   have pa4:0≤(x22_2:Int):=zd
   have qa4:x22_2<(x0_2.length:Int):=zd
   obtain⟨ada4,ea4,hxa4_0⟩:=Kd.at_int (Kd.V_reads' HO_0.out).2.2 x22_2 pa4 qa4
   cases ea4
   replace pa4:=eq_true pa4
   replace qa4:=eq_true qa4
   obtain⟨Ao17,co17,rfl⟩:=Kd.V_slice HO_1.out
   have pa5:0≤(x22_2:Int):=zd
   have qa5:x22_2<(x1_2.length:Int):=zd
   obtain⟨ada5,ea5,hxa5_0⟩:=Kd.at_int (Kd.V_reads' HO_1.out).2.2 x22_2 pa5 qa5
   cases ea5
   replace pa5:=eq_true pa5
   replace qa5:=eq_true qa5
   have p16:0≤(x22_2:Int):=zd
   have q16:(x22_2:Int)<((x5_2.length:Int):Int):=zd
   obtain⟨go16,co16,eo16,gb16,gl16,cl16,HG16⟩:=Kd.R_form HO_5.out (by omega)
   (first|cases eo16|(injection eo16 with ea_ en_ ec_;(first|subst ea_|(injection ea_ with ea_;subst ea_));subst ec_;clear en_))
   have GB16:=zk gb16
   have GG16:=zk HG16
   clear gb16 gl16 HG16
   obtain⟨hx16_0,hf16_0⟩:=Kd.R_celln 0 HO_5.out (x22_2:Int) p16 q16
   replace p16:=eq_true p16
   replace q16:=eq_true q16
   have HP18:=Kd.R_putg HO_5.out (x22_2:Int) ((IntKind.u64.wrap ((IntKind.u64.wrap ((IntKind.u64.wrap (rd x0_2 x22_2))+x6_2))+(IntKind.u64.wrap (rd x1_2 x22_2)))) % 4294967296)
   go_wp2_with (first|((with_reducible refine gate_store (t:=97) (p:=47) rfl ?_);refine store_event (t:=97) (p:=47) (v:=?vo_w19) (w1:=(wr.setCell ⟨go16,(x22_2:Int).toNat,none⟩ (.int .u32 ((IntKind.u64.wrap ((IntKind.u64.wrap ((IntKind.u64.wrap (rd x0_2 x22_2))+x6_2))+(IntKind.u64.wrap (rd x1_2 x22_2)))) % 4294967296)))) ?hg ?ho ?hn ?hr ?_;(case ho=>rfl);(case hg=>rfl);(case hn=>rfl);(case hr=>first|(go_simp;done)|(go_simp;rfl));intro w19 hw;have hg:wr.grownBy w19 (some go16):=(by rw[hw];exact HP18.2);have hp_:Kd.R (Kd.int .u32) 97 w19 w.heap.size (fun k_=>(w.heap.size≤k_)) (.slice (some ⟨go16,0,none⟩) x5_2.length co16) ya6:=(by rw[hw,Nya6.out];exact HP18.1);clear HP18;replace HO_0:=zk (Kd.V_afterv (v:=(.slice (some ⟨go16,0,none⟩) x5_2.length co16)) (v1:=(.slice (some ⟨go16,0,none⟩) x5_2.length co16)) (ok:=(fun k_=>((P0_ k_∨P1_ k_)∨w.heap.size≤k_))) (zV HO_0.out) hg (.inl rfl));replace HO_1:=zk (Kd.V_afterv (v:=(.slice (some ⟨go16,0,none⟩) x5_2.length co16)) (v1:=(.slice (some ⟨go16,0,none⟩) x5_2.length co16)) (ok:=(fun k_=>((P0_ k_∨P1_ k_)∨w.heap.size≤k_))) (zV HO_1.out) hg (.inl rfl));replace HO_5:=zk (hp_);replace HB:=zk ((by rw[hw];exact below_set (HB.out) GB16.out:Below w.heap.size w w19));clear hg hw hp_))
   go_roundg k2
   case measure=>have:=HJ2.out;have:=HK2.out;omega
   case rel=>exact⟨(ya6),((IntKind.u64.wrap ((IntKind.u64.wrap ((IntKind.u64.wrap (rd x0_2 x22_2))+x6_2))+(IntKind.u64.wrap (rd x1_2 x22_2)))) / 4294967296),(wrap64 (x22_2+1)),zF,zF,H',⟨zo2 HJ2 HK2⟩,⟨zV HO_0.out⟩,⟨zV HO_1.out⟩,⟨zR HO_5.out⟩,⟨zB HB.out⟩⟩
  replace H:=zgd H
  obtain⟨c20b0,H⟩:=H
  obtain⟨ya7,hya7⟩:∃y_:List Int,y_=(x5_2.set (x22_2:Int).toNat ((IntKind.u64.wrap ((IntKind.u64.wrap (rd x0_2 x22_2))+x6_2)) % 4294967296)):=⟨_,rfl⟩
  replace H:(nat_plus.l0 k2 x0_2 x1_2 ya7 ((IntKind.u64.wrap ((IntKind.u64.wrap (rd x0_2 x22_2))+x6_2)) / 4294967296) (x0_2.length:Int) (wrap64 (x22_2+1)))=some r:=zY hya7 H
  have Nya7:=zk hya7
  clear hya7
  have H':=zk H
  clear H
  have pa4:0≤(x22_2:Int):=zd
  have qa4:x22_2<(x0_2.length:Int):=zd
  obtain⟨ada4,ea4,hxa4_0⟩:=Kd.at_int (Kd.V_reads' HO_0.out).2.2 x22_2 pa4 qa4
  cases ea4
  replace pa4:=eq_true pa4
  replace qa4:=eq_true qa4
  obtain⟨Ao22,co22,rfl⟩:=Kd.V_slice HO_1.out
  have p21:0≤(x22_2:Int):=zd
  have q21:(x22_2:Int)<((x5_2.length:Int):Int):=zd
  obtain⟨go21,co21,eo21,gb21,gl21,cl21,HG21⟩:=Kd.R_form HO_5.out (by omega)
  (first|cases eo21|(injection eo21 with ea_ en_ ec_;(first|subst ea_|(injection ea_ with ea_;subst ea_));subst ec_;clear en_))
  have GB21:=zk gb21
  have GG21:=zk HG21
  clear gb21 gl21 HG21
  obtain⟨hx21_0,hf21_0⟩:=Kd.R_celln 0 HO_5.out (x22_2:Int) p21 q21
  replace p21:=eq_true p21
  replace q21:=eq_true q21
  have HP23:=Kd.R_putg HO_5.out (x22_2:Int) ((IntKind.u64.wrap ((IntKind.u64.wrap (rd x0_2 x22_2))+x6_2)) % 4294967296)
  go_wp2_with (first|((with_reducible refine gate_store (t:=97) (p:=47) rfl ?_);refine store_event (t:=97) (p:=47) (v:=?vo_w24) (w1:=(wr.setCell ⟨go21,(x22_2:Int).toNat,none⟩ (.int .u32 ((IntKind.u64.wrap ((IntKind.u64.wrap (rd x0_2 x22_2))+x6_2)) % 4294967296)))) ?hg ?ho ?hn ?hr ?_;(case ho=>rfl);(case hg=>rfl);(case hn=>rfl);(case hr=>first|(go_simp;done)|(go_simp;rfl));intro w24 hw;have hg:wr.grownBy w24 (some go21):=(by rw[hw];exact HP23.2);have hp_:Kd.R (Kd.int .u32) 97 w24 w.heap.size (fun k_=>(w.heap.size≤k_)) (.slice (some ⟨go21,0,none⟩) x5_2.length co21) ya7:=(by rw[hw,Nya7.out];exact HP23.1);clear HP23;replace HO_0:=zk (Kd.V_afterv (v:=(.slice (some ⟨go21,0,none⟩) x5_2.length co21)) (v1:=(.slice (some ⟨go21,0,none⟩) x5_2.length co21)) (ok:=(fun k_=>((P0_ k_∨P1_ k_)∨w.heap.size≤k_))) (zV HO_0.out) hg (.inl rfl));replace HO_1:=zk (Kd.V_afterv (v:=(.slice (some ⟨go21,0,none⟩) x5_2.length co21)) (v1:=(.slice (some ⟨go21,0,none⟩) x5_2.length co21)) (ok:=(fun k_=>((P0_ k_∨P1_ k_)∨w.heap.size≤k_))) (zV HO_1.out) hg (.inl rfl));replace HO_5:=zk (hp_);replace HB:=zk ((by rw[hw];exact below_set (HB.out) GB21.out:Below w.heap.size w w24));clear hg hw hp_))
  go_roundg k2
  case measure=>have:=HJ2.out;have:=HK2.out;omega
  case rel=>exact⟨(ya7),((IntKind.u64.wrap ((IntKind.u64.wrap (rd x0_2 x22_2))+x6_2)) / 4294967296),(wrap64 (x22_2+1)),zF,zF,H',⟨zo2 HJ2 HK2⟩,⟨zV HO_0.out⟩,⟨zV HO_1.out⟩,⟨zR HO_5.out⟩,⟨zB HB.out⟩⟩
 replace H:=zg H
 obtain⟨c25,H⟩:=H
 have c25b0:=decide_eq_true c25
 have c25b1:decide (0≤x0_2.length)=true:=decide_eq_true (by omega)
 clear c25
 replace H:=zg H
 obtain⟨c26,H⟩:=H
 have c26b0:=decide_eq_true c26
 have c26b1:decide (x0_2.length<x5_2.length)=true:=decide_eq_true (Int.ofNat_lt.mp c26)
 clear c26
 obtain⟨ya8,hya8⟩:∃y_:List Int,y_=(x5_2.set ((x0_2.length:Int):Int).toNat ((x6_2) % 4294967296)):=⟨_,rfl⟩
 replace H:((nat_short.f k2 ya8).bind fun ta9=>(some ta9))=some r:=zY hya8 H
 have Nya8:=zk hya8
 clear hya8
 replace H:=zb H
 obtain⟨ta9,A28,H⟩:=H
 obtain rfl:=Option.some.inj H
 have p27:0≤((x0_2.length:Int):Int):=zd
 have q27:((x0_2.length:Int):Int)<((x5_2.length:Int):Int):=zd
 obtain⟨go27,co27,eo27,gb27,gl27,cl27,HG27⟩:=Kd.R_form HO_5.out (by omega)
 (first|cases eo27|(injection eo27 with ea_ en_ ec_;(first|subst ea_|(injection ea_ with ea_;subst ea_));subst ec_;clear en_))
 have GB27:=zk gb27
 have GG27:=zk HG27
 clear gb27 gl27 HG27
 obtain⟨hx27_0,hf27_0⟩:=Kd.R_celln 0 HO_5.out ((x0_2.length:Int):Int) p27 q27
 replace p27:=eq_true p27
 replace q27:=eq_true q27
 obtain⟨hy29_,hz29_⟩:=Kd.R_celln 0 HO_5.out ((x0_2.length:Int):Int) zd zd
 (try simp only[Go.IntWalk.toNatUp] at hy29_ hz29_)
 have HP29:=Kd.R_putg HO_5.out ((x0_2.length:Int):Int) ((x6_2) % 4294967296)
 go_wp2_with (first|((with_reducible refine gate_store (t:=97) (p:=56) rfl ?_);refine store_event (t:=97) (p:=56) (v:=?vo_w30) (w1:=(wr.setCell ⟨go27,((x0_2.length:Int):Int).toNat,none⟩ (.int .u32 ((x6_2) % 4294967296)))) ?hg ?ho ?hn ?hr ?_;(case ho=>rfl);(case hg=>rfl);(case hn=>rfl);(case hr=>first|(go_simp;done)|(go_simp;rfl));intro w30 hw;have hg:wr.grownBy w30 (some go27):=(by rw[hw];exact HP29.2);have hp_:Kd.R (Kd.int .u32) 97 w30 w.heap.size (fun k_=>(w.heap.size≤k_)) (.slice (some ⟨go27,0,none⟩) x5_2.length co27) ya8:=(by rw[hw,Nya8.out];exact HP29.1);clear HP29;replace HO_0:=zk (Kd.V_afterv (v:=(.slice (some ⟨go27,0,none⟩) x5_2.length co27)) (v1:=(.slice (some ⟨go27,0,none⟩) x5_2.length co27)) (ok:=(fun k_=>((P0_ k_∨P1_ k_)∨w.heap.size≤k_))) (zV HO_0.out) hg (.inl rfl));replace HO_1:=zk (Kd.V_afterv (v:=(.slice (some ⟨go27,0,none⟩) x5_2.length co27)) (v1:=(.slice (some ⟨go27,0,none⟩) x5_2.length co27)) (ok:=(fun k_=>((P0_ k_∨P1_ k_)∨w.heap.size≤k_))) (zV HO_1.out) hg (.inl rfl));replace HO_5:=zk (hp_);replace HB:=zk ((by rw[hw];exact below_set (HB.out) GB27.out:Below w.heap.size w w30));clear hg hw hp_)|((with_reducible refine gC 118 ?_);refine goesL_ (some 58) rfl rfl Try.func118 (by kernel_rfl) rfl #[.slice (some ⟨go27,0,none⟩) ya8.length co27] rfl (by(try simp only[List.map_toArray,List.map_cons,List.map_nil]);first|done|(rw[show ya8.length=x5_2.length from(Kd.R_reads' HO_5.out).1.symm]<;>rfl)|rfl|(simp only[List.length_drop,List.length_take];rfl)) ?_;(with_reducible refine(nat_short.calls k2 (fun k_=>some k_=(.slice (some ⟨go27,0,none⟩) x5_2.length co27:Value).ownBlock) _ _ ya8 ta9 _ ?side1 A28.out).mono ?_);(case side1=>rw[show ya8.length=x5_2.length from(Kd.R_reads' HO_5.out).1.symm];exact Kd.R_V (Kd.R_tight rfl (HO_5.out)));rintro e w31 ⟨vb0,rfl,ho0,hb⟩;refine⟨_,rfl,?_⟩;replace HO_0:=yVb HO_0 hb;replace HO_1:=yVb HO_1 hb;have HOb1:=zk (Kd.V_lower (Kd.V_mono (ok':=fun k_=>((P0_ k_∨P1_ k_)∨w.heap.size≤k_)) ho0 (fun k_ hk_=>Or.elim hk_ (fun hs_=>(.inr (((HO_5.out).1 k_ hs_.symm)))) (fun hn_=>(.inr (Nat.le_trans (below_size (zB HB.out)) hn_))))) (below_size (zB HB.out)));replace HO_5:=yRb HO_5 hb;replace HB:=yS HB hb;(try clear hb ho0)))
 go_ret
 exact⟨_,by first|rfl|(simp [errW_none,errW_some]<;>rfl)|(simp only[←hji5];first|rfl|(simp [errW_none,errW_some]<;>rfl))|(simp [*,errW_none,errW_some]<;>rfl),zV HOb1.out,zB HB.out⟩
set_option maxHeartbeats 8000000 in
set_option maxRecDepth 100000 in
theorem nat_Add.calls (k:Nat) (A0:Option Addr) (c0:Nat) (l0:List (List Int)) (r:List Int) (w:World) (hr0:Kd.C (Kd.slice 97 (Kd.int .u32)) w A0 l0.length l0) (hc0:l0.length≤c0) (h:nat_Add.f k l0=some r):
 Calls Try.prog 73 #[.slice A0 l0.length c0] w fun e w'=>∃v0_:Value,e= .returned (v0_)∧Kd.R (Kd.int .u32) 97 w' w.heap.size (fun _=>True) v0_ r∧Below w.heap.size w w':=by
 have HR0:=zk hr0
 have HC0:=zk hc0
 clear hr0 hc0
 have HB:=zk (Below.refl w.heap.size w)
 have H:=h
 clear h
 unfold nat_Add.f at H
 have H':=zk H
 clear H
 go_enter Try.func73,Try.ntmps73
 go_wp2
 go_loopg [3,8] k (fun kq v3 v8 w'=>∃(x3_1:List Int) (x8_1:Int),v8= .int .i64 x8_1∧Aside0 (nat_Add.l0 kq x3_1 l0 (l0.length:Int) x8_1=some r)∧Aside0 (kq≤k)∧Aside0 (Kd.V (Kd.int .u32) 97 w' w.heap.size (fun _=>True) v3 x3_1)∧Aside0 (Below w.heap.size w w'))
 case atStart=>exact⟨(([]:List Int)),(0),zF,H',⟨Nat.le_refl _⟩,⟨by exact Kd.V_nil _ _ _ _ _⟩,⟨zB HB.out⟩⟩
 clear H'
 obtain⟨x3_1,x8_1,rfl,HA,HK1,HO_3,HB⟩:=hrel
 cases gk with|zero=>exact absurd HA.out (by simp [nat_Add.l0])|succ k1=>?_
 have H:=HA.out
 clear HA
 simp only[nat_Add.l0] at H
 replace H:=zid H
 rcases H with⟨c2b0,H⟩|⟨c2b0,H⟩
 ·replace H:=zgd H
  obtain⟨c3b0,H⟩:=H
  replace H:=zgd H
  obtain⟨c4b0,H⟩:=H
  replace H:=zb H
  obtain⟨ta2,A5,H⟩:=H
  replace H:=zb H
  obtain⟨ta5,A6,H⟩:=H
  have H':=zk H
  clear H
  have pa1:0≤(x8_1:Int):=zd
  have qa1:x8_1<(l0.length:Int):=zd
  obtain⟨ada1,Aa1_0,ca1_0,ea1,hxa1_0,hla1_0,hia1_0⟩:=at_L3 HR0.out x8_1 pa1 qa1
  cases ea1
  replace hxa1_0:=(HB.out.cell (World.block_lt_of_cell? w _ hxa1_0)).trans hxa1_0
  have HRa1_0:=zk hia1_0
  have HCa1_0:=zk hla1_0
  clear hia1_0 hla1_0
  replace pa1:=eq_true pa1
  replace qa1:=eq_true qa1
  go_wp2_with (first|((with_reducible refine gC 118 ?_);refine zG (some 14) Try.func118 #[.slice Aa1_0 (rd_L3 l0 x8_1).length ca1_0] ?_;(with_reducible refine(nat_short.calls k1 (fun k_=>k_<w.heap.size) _ _ (rd_L3 l0 x8_1) ta2 _ ?side1 A5.out).mono ?_);(case side1=>exact Kd.V_mk HCa1_0.out (Kd.F_below (Kd.C_F (Kd.heap_int .u32) HRa1_0.out) (zB HB.out)));rintro e w7 ⟨va3,rfl,ho0,hb⟩;refine⟨_,rfl,?_⟩;replace HO_3:=yVb HO_3 hb;have HOa4:=yVm ho0 HB;replace HB:=yS HB hb;(try clear hb ho0);obtain⟨Ao8,co8,rfl⟩:=Kd.V_slice HO_3.out;obtain⟨Ao9,co9,rfl⟩:=Kd.V_slice HOa4.out)|((with_reducible refine gC 117 ?_);refine zG (some 15) Try.func117 #[.slice Ao8 x3_1.length co8, .slice Ao9 ta2.length co9] ?_;(with_reducible refine(nat_plus.calls k1 (fun k_=>True) _ _ x3_1 (fun k_=>True) _ _ ta2 ta5 _ ?side1 ?side2 A6.out).mono ?_);(case side1=>exact HO_3.out);(case side2=>exact HOa4.out);rintro e w10 ⟨va6,rfl,ho0,hb⟩;refine⟨_,rfl,?_⟩;replace HO_3:=yVb HO_3 hb;replace HOa4:=yVb HOa4 hb;have HOa7:=yVm ho0 HB;replace HB:=yS HB hb;(try clear hb ho0)))
  go_roundg k1
  case measure=>have:=HK1.out;omega
  case rel=>exact⟨(ta5),(wrap64 (x8_1+1)),zF,H',⟨zo1 HK1⟩,⟨zV HOa7.out⟩,⟨zB HB.out⟩⟩
 replace H:=zb H
 obtain⟨ta8,A11,H⟩:=H
 obtain rfl:=Option.some.inj H
 obtain⟨Ao12,co12,rfl⟩:=Kd.V_slice HO_3.out
 go_wp2_with (first|((with_reducible refine gC 103 ?_);refine zG (some 18) Try.func103 #[.slice Ao12 x3_1.length co12] ?_;(with_reducible refine(nat_Trim.calls k1 _ _ x3_1 ta8 _ ?side1 ?side2 A11.out).mono ?_);(case side1=>exact zC (Kd.V_reads' HO_3.out).2.2);(case side2=>exact(Kd.V_reads' HO_3.out).2.1);rintro e w13 ⟨va9,rfl,ho0,hb⟩;refine⟨_,rfl,?_⟩;replace HO_3:=yVe HO_3 ho0 hb;have HOb0:=yRl ho0 HB;replace HB:=yS HB hb;(try clear hb ho0)))
 go_ret
 exact⟨_,zE,zR HOb0.out,zB HB.out⟩
set_option maxHeartbeats 8000000 in
set_option maxRecDepth 100000 in
theorem mw_shape.calls (a0:Int) (r:Int) (w:World) (h:mw_shape.f a0=some r):
 Calls Try.prog 71 #[.int .i64 a0] w fun e w'=>e= .returned (.int .i64 r)∧Drawn0 w w':=by
 have H:=h
 clear h
 unfold mw_shape.f at H
 replace H:=zid H
 rcases H with⟨c2b0,H⟩|⟨c2b0,H⟩
 ·obtain rfl:=Option.some.inj H
  go_enter Try.func71,Try.ntmps71
  go_wp2
  go_ret
  exact⟨zF,by repeat(first|exact Drawn0.refl _|apply Drawn0.step)⟩
 replace H:=zi H
 rcases H with⟨c3,H⟩|⟨c3,H⟩
 ·have c3b0:decide (65<a0)=true:=decide_eq_true c3
  clear c3
  obtain rfl:=Option.some.inj H
  go_enter Try.func71,Try.ntmps71
  go_wp2
  go_ret
  exact⟨zF,by repeat(first|exact Drawn0.refl _|apply Drawn0.step)⟩
 have c3b0:decide (65<a0)=false:=decide_eq_false c3
 clear c3
 obtain rfl:=Option.some.inj H
 go_enter Try.func71,Try.ntmps71
 go_wp2
 go_ret
 exact⟨zF,by repeat(first|exact Drawn0.refl _|apply Drawn0.step)⟩
set_option maxHeartbeats 8000000 in
set_option maxRecDepth 100000 in
theorem mw_wrong.calls (a0:Int) (a1:Int) (r:Int) (w:World) (h:mw_wrong.f a0 a1=some r):
 Calls Try.prog 102 #[.int .i64 a0, .int .i64 a1] w fun e w'=>e= .returned (.int .i64 r)∧Drawn0 w w':=by
 have H:=h
 clear h
 unfold mw_wrong.f at H
 replace H:=zid H
 rcases H with⟨c3b0,H⟩|⟨c3b0,H⟩
 ·obtain rfl:=Option.some.inj H
  go_enter Try.func102,Try.ntmps102
  go_wp2
  go_ret
  exact⟨zF,by repeat(first|exact Drawn0.refl _|apply Drawn0.step)⟩
 replace H:=zi H
 rcases H with⟨c4,H⟩|⟨c4,H⟩
 ·have c4b0:decide (256<a0)=true:=decide_eq_true c4
  clear c4
  obtain rfl:=Option.some.inj H
  go_enter Try.func102,Try.ntmps102
  go_wp2
  go_ret
  exact⟨zF,by repeat(first|exact Drawn0.refl _|apply Drawn0.step)⟩
 have c4b0:decide (256<a0)=false:=decide_eq_false c4
 clear c4
 replace H:=zb H
 obtain⟨ta1,A5,H⟩:=H
 obtain rfl:=Option.some.inj H
 go_enter Try.func102,Try.ntmps102
 go_wp2_with (first|((with_reducible refine gC 71 ?_);refine zG (some 12) Try.func71 #[.int .i64 a1] ?_;(with_reducible refine(mw_shape.calls a1 ta1 _ A5.out).mono ?_);rintro e w' ⟨rfl,⟨nd,rfl⟩⟩;refine⟨_,rfl,?_⟩))
 go_ret
 exact⟨zF,by repeat(first|exact Drawn0.refl _|apply Drawn0.step)⟩
set_option maxHeartbeats 8000000 in
set_option maxRecDepth 100000 in
theorem nat_Cmp.calls (k:Nat) (A0:Option Addr) (c0:Nat) (l0:List Int) (A1:Option Addr) (c1:Nat) (l1:List Int) (r:Int) (w:World) (hr0:Kd.C (Kd.int .u32) w A0 l0.length l0) (hc0:l0.length≤c0) (hr1:Kd.C (Kd.int .u32) w A1 l1.length l1) (hc1:l1.length≤c1) (h:nat_Cmp.f k l0 l1=some r):
 Calls Try.prog 79 #[.slice A0 l0.length c0, .slice A1 l1.length c1] w fun e w'=>e= .returned (.int .i64 r)∧Below w.heap.size w w':=by
 have HR0:=zk hr0
 have HC0:=zk hc0
 clear hr0 hc0
 have HR1:=zk hr1
 have HC1:=zk hc1
 clear hr1 hc1
 have HB:=zk (Below.refl w.heap.size w)
 have H:=h
 clear h
 unfold nat_Cmp.f at H
 replace H:=zb H
 obtain⟨ta1,A3,H⟩:=H
 replace H:=zb H
 obtain⟨ta4,A4,H⟩:=H
 replace H:=zi H
 rcases H with⟨c5,H⟩|⟨c5,H⟩
 ·have c5b0:=beq_iff_eq.mpr c5
  have c5b1:=bne_eq_false_iff_eq.mpr c5
  have c5b2:(ta1.length==ta4.length)=true:=by first|simpa using c5|(simp at c5 ⊢;omega)
  clear c5
  have H':=zk H
  clear H
  go_enter Try.func79,Try.ntmps79
  go_wp2_with (first|(go_at_call 118;(with_reducible refine(nat_short.calls k (fun k_=>k_<w.heap.size) _ _ l0 ta1 _ ?side1 A3.out).mono ?_);(case side1=>exact Kd.V_mk HC0.out (Kd.F_below (Kd.C_F (Kd.heap_int .u32) HR0.out) (zB HB.out)));rintro e w6 ⟨va2,rfl,ho0,hb⟩;have HOa3:=yVm ho0 HB;replace HB:=yS HB hb;(try clear hb ho0))|(go_at_call 118;(with_reducible refine(nat_short.calls k (fun k_=>k_<w.heap.size) _ _ l1 ta4 _ ?side1 A4.out).mono ?_);(case side1=>exact Kd.V_mk HC1.out (Kd.F_below (Kd.C_F (Kd.heap_int .u32) HR1.out) (zB HB.out)));rintro e w7 ⟨va5,rfl,ho0,hb⟩;replace HOa3:=yVb HOa3 hb;have HOa6:=yVm ho0 HB;replace HB:=yS HB hb;(try clear hb ho0);obtain⟨Ao8,co8,rfl⟩:=Kd.V_slice HOa3.out;obtain⟨Ao9,co9,rfl⟩:=Kd.V_slice HOa6.out))
  repeat(go_quiet (first|(go_at_call 118;(with_reducible refine(nat_short.calls k (fun k_=>k_<w.heap.size) _ _ l0 ta1 _ ?side1 A3.out).mono ?_);(case side1=>exact Kd.V_mk HC0.out (Kd.F_below (Kd.C_F (Kd.heap_int .u32) HR0.out) (zB HB.out)));rintro e w6 ⟨va2,rfl,ho0,hb⟩;have HOa3:=yVm ho0 HB;replace HB:=yS HB hb;(try clear hb ho0))|(go_at_call 118;(with_reducible refine(nat_short.calls k (fun k_=>k_<w.heap.size) _ _ l1 ta4 _ ?side1 A4.out).mono ?_);(case side1=>exact Kd.V_mk HC1.out (Kd.F_below (Kd.C_F (Kd.heap_int .u32) HR1.out) (zB HB.out)));rintro e w7 ⟨va5,rfl,ho0,hb⟩;replace HOa3:=yVb HOa3 hb;have HOa6:=yVm ho0 HB;replace HB:=yS HB hb;(try clear hb ho0);obtain⟨Ao8,co8,rfl⟩:=Kd.V_slice HOa3.out;obtain⟨Ao9,co9,rfl⟩:=Kd.V_slice HOa6.out));try go_wp2_with (first|(go_at_call 118;(with_reducible refine(nat_short.calls k (fun k_=>k_<w.heap.size) _ _ l0 ta1 _ ?side1 A3.out).mono ?_);(case side1=>exact Kd.V_mk HC0.out (Kd.F_below (Kd.C_F (Kd.heap_int .u32) HR0.out) (zB HB.out)));rintro e w6 ⟨va2,rfl,ho0,hb⟩;have n0_:=yVm ho0 HB;have n1_:=yS HB hb;clear HB;have HOa3:=n0_;have HB:=n1_;clear n0_ n1_;(try clear hb);(try clear hb2);(try clear hk);(try clear hi);(try clear ho0))|(go_at_call 118;(with_reducible refine(nat_short.calls k (fun k_=>k_<w.heap.size) _ _ l1 ta4 _ ?side1 A4.out).mono ?_);(case side1=>exact Kd.V_mk HC1.out (Kd.F_below (Kd.C_F (Kd.heap_int .u32) HR1.out) (zB HB.out)));rintro e w7 ⟨va5,rfl,ho0,hb⟩;have n0_:=yVb HOa3 hb;have n1_:=yVm ho0 HB;have n2_:=yS HB hb;clear HOa3;clear HB;have HOa3:=n0_;have HOa6:=n1_;have HB:=n2_;clear n0_ n1_ n2_;(try clear hb);(try clear hb2);(try clear hk);(try clear hi);(try clear ho0);obtain⟨Ao8,co8,eo8⟩:=Kd.V_slice HOa3.out;subst eo8;obtain⟨Ao9,co9,eo9⟩:=Kd.V_slice HOa6.out;subst eo9)))
  go_loopg [5] k (fun kq v5 w'=>∃(x5_1:Int),v5= .int .i64 x5_1∧Aside0 (nat_Cmp.l0 kq ta1 ta4 x5_1=some r)∧Aside0 (kq≤k)∧Aside0 (Kd.V (Kd.int .u32) 97 w' w.heap.size (fun _=>True) (.slice Ao8 ta1.length co8) ta1)∧Aside0 (Kd.V (Kd.int .u32) 97 w' w.heap.size (fun _=>True) (.slice Ao9 ta4.length co9) ta4)∧Aside0 (Below w.heap.size w w'))
  case atStart=>exact⟨(wrap64 ((ta1.length:Int)-1)),zF,H',⟨Nat.le_refl _⟩,⟨zV HOa3.out⟩,⟨zV HOa6.out⟩,⟨zB HB.out⟩⟩
  clear H'
  (try clear c5);(try clear c5b0);(try clear c5b1);(try clear c5b2)
  obtain⟨x5_1,rfl,HA,HK1,HO_0,HO_1,HB⟩:=hrel
  cases gk with|zero=>exact absurd HA.out (by simp [nat_Cmp.l0])|succ k1=>?_
  have H:=HA.out
  clear HA
  simp only[nat_Cmp.l0] at H
  replace H:=zi H
  rcases H with⟨c10,H⟩|⟨c10,H⟩
  ·have c10b0:decide (0≤x5_1)=true:=decide_eq_true c10
   clear c10
   replace H:=zgd H
   obtain⟨c11b0,H⟩:=H
   replace H:=zgd H
   obtain⟨c12b0,H⟩:=H
   replace H:=zgd H
   obtain⟨c13b0,H⟩:=H
   replace H:=zid H
   rcases H with⟨c14b0,H⟩|⟨c14b0,H⟩
   ·obtain rfl:=Option.some.inj H
    have pa7:0≤(x5_1:Int):=zd
    have qa7:x5_1<(ta1.length:Int):=zd
    obtain⟨ada7,ea7,hxa7_0⟩:=Kd.at_int (Kd.V_reads' HO_0.out).2.2 x5_1 pa7 qa7
    cases ea7
    replace pa7:=eq_true pa7
    replace qa7:=eq_true qa7
    have pa8:0≤(x5_1:Int):=zd
    have qa8:x5_1<(ta4.length:Int):=zd
    obtain⟨ada8,ea8,hxa8_0⟩:=Kd.at_int (Kd.V_reads' HO_1.out).2.2 x5_1 pa8 qa8
    cases ea8
    replace pa8:=eq_true pa8
    replace qa8:=eq_true qa8
    go_wp2
    repeat(go_quiet (fail);try go_wp2)
    go_ret
    exact⟨zE,zB HB.out⟩
   replace H:=zi H
   rcases H with⟨c15,H⟩|⟨c15,H⟩
   ·have c15b0:decide ((rd ta4 x5_1)<(rd ta1 x5_1))=true:=decide_eq_true c15
    clear c15
    obtain rfl:=Option.some.inj H
    have pa7:0≤(x5_1:Int):=zd
    have qa7:x5_1<(ta1.length:Int):=zd
    obtain⟨ada7,ea7,hxa7_0⟩:=Kd.at_int (Kd.V_reads' HO_0.out).2.2 x5_1 pa7 qa7
    cases ea7
    replace pa7:=eq_true pa7
    replace qa7:=eq_true qa7
    have pa8:0≤(x5_1:Int):=zd
    have qa8:x5_1<(ta4.length:Int):=zd
    obtain⟨ada8,ea8,hxa8_0⟩:=Kd.at_int (Kd.V_reads' HO_1.out).2.2 x5_1 pa8 qa8
    cases ea8
    replace pa8:=eq_true pa8
    replace qa8:=eq_true qa8
    have pa9:0≤(x5_1:Int):=zd
    have qa9:x5_1<(ta1.length:Int):=zd
    obtain⟨ada9,ea9,hxa9_0⟩:=Kd.at_int (Kd.V_reads' HO_0.out).2.2 x5_1 pa9 qa9
    obtain rfl:ada7=ada9:=(by injection ea9)
    replace pa9:=eq_true pa9
    replace qa9:=eq_true qa9
    have pb0:0≤(x5_1:Int):=zd
    have qb0:x5_1<(ta4.length:Int):=zd
    obtain⟨adb0,eb0,hxb0_0⟩:=Kd.at_int (Kd.V_reads' HO_1.out).2.2 x5_1 pb0 qb0
    obtain rfl:ada8=adb0:=(by injection eb0)
    replace pb0:=eq_true pb0
    replace qb0:=eq_true qb0
    go_wp2
    repeat(go_quiet (fail);try go_wp2)
    go_ret
    exact⟨zE,zB HB.out⟩
   have c15b0:decide ((rd ta4 x5_1)<(rd ta1 x5_1))=false:=decide_eq_false c15
   clear c15
   have H':=zk H
   clear H
   have pa7:0≤(x5_1:Int):=zd
   have qa7:x5_1<(ta1.length:Int):=zd
   obtain⟨ada7,ea7,hxa7_0⟩:=Kd.at_int (Kd.V_reads' HO_0.out).2.2 x5_1 pa7 qa7
   cases ea7
   replace pa7:=eq_true pa7
   replace qa7:=eq_true qa7
   have pa8:0≤(x5_1:Int):=zd
   have qa8:x5_1<(ta4.length:Int):=zd
   obtain⟨ada8,ea8,hxa8_0⟩:=Kd.at_int (Kd.V_reads' HO_1.out).2.2 x5_1 pa8 qa8
   cases ea8
   replace pa8:=eq_true pa8
   replace qa8:=eq_true qa8
   have pa9:0≤(x5_1:Int):=zd
   have qa9:x5_1<(ta1.length:Int):=zd
   obtain⟨ada9,ea9,hxa9_0⟩:=Kd.at_int (Kd.V_reads' HO_0.out).2.2 x5_1 pa9 qa9
   obtain rfl:ada7=ada9:=(by injection ea9)
   replace pa9:=eq_true pa9
   replace qa9:=eq_true qa9
   have pb0:0≤(x5_1:Int):=zd
   have qb0:x5_1<(ta4.length:Int):=zd
   obtain⟨adb0,eb0,hxb0_0⟩:=Kd.at_int (Kd.V_reads' HO_1.out).2.2 x5_1 pb0 qb0
   obtain rfl:ada8=adb0:=(by injection eb0)
   replace pb0:=eq_true pb0
   replace qb0:=eq_true qb0
   go_wp2
   repeat(go_quiet (fail);try go_wp2)
   go_roundg k1
   case measure=>have:=HK1.out;omega
   case rel=>exact⟨(wrap64 (x5_1-1)),zF,H',⟨zo1 HK1⟩,⟨zV HO_0.out⟩,⟨zV HO_1.out⟩,⟨zB HB.out⟩⟩
  have c10b0:decide (0≤x5_1)=false:=decide_eq_false c10
  clear c10
  obtain rfl:=Option.some.inj H
  go_wp2
  repeat(go_quiet (fail);try go_wp2)
  go_ret
  exact⟨zE,zB HB.out⟩
 have c5b0:=beq_eq_false_iff_ne.mpr c5
 have c5b1:=bne_iff_ne.mpr c5
 have c5b2:(ta1.length==ta4.length)=false:=by first|simpa using c5|(simp at c5 ⊢;omega)
 replace H:=zi H
 rcases H with⟨c16,H⟩|⟨c16,H⟩
 ·have c16b0:=decide_eq_true c16
  have c16b1:decide (ta1.length<ta4.length)=true:=decide_eq_true (Int.ofNat_lt.mp c16)
  clear c16
  obtain rfl:=Option.some.inj H
  go_enter Try.func79,Try.ntmps79
  go_wp2_with (first|(go_at_call 118;(with_reducible refine(nat_short.calls k (fun k_=>k_<w.heap.size) _ _ l0 ta1 _ ?side1 A3.out).mono ?_);(case side1=>exact Kd.V_mk HC0.out (Kd.F_below (Kd.C_F (Kd.heap_int .u32) HR0.out) (zB HB.out)));rintro e w17 ⟨va2,rfl,ho0,hb⟩;have HOa3:=yVm ho0 HB;replace HB:=yS HB hb;(try clear hb ho0))|(go_at_call 118;(with_reducible refine(nat_short.calls k (fun k_=>k_<w.heap.size) _ _ l1 ta4 _ ?side1 A4.out).mono ?_);(case side1=>exact Kd.V_mk HC1.out (Kd.F_below (Kd.C_F (Kd.heap_int .u32) HR1.out) (zB HB.out)));rintro e w18 ⟨va5,rfl,ho0,hb⟩;replace HOa3:=yVb HOa3 hb;have HOa6:=yVm ho0 HB;replace HB:=yS HB hb;(try clear hb ho0);obtain⟨Ao19,co19,rfl⟩:=Kd.V_slice HOa3.out;obtain⟨Ao20,co20,rfl⟩:=Kd.V_slice HOa6.out))
  repeat(go_quiet (first|(go_at_call 118;(with_reducible refine(nat_short.calls k (fun k_=>k_<w.heap.size) _ _ l0 ta1 _ ?side1 A3.out).mono ?_);(case side1=>exact Kd.V_mk HC0.out (Kd.F_below (Kd.C_F (Kd.heap_int .u32) HR0.out) (zB HB.out)));rintro e w17 ⟨va2,rfl,ho0,hb⟩;have HOa3:=yVm ho0 HB;replace HB:=yS HB hb;(try clear hb ho0))|(go_at_call 118;(with_reducible refine(nat_short.calls k (fun k_=>k_<w.heap.size) _ _ l1 ta4 _ ?side1 A4.out).mono ?_);(case side1=>exact Kd.V_mk HC1.out (Kd.F_below (Kd.C_F (Kd.heap_int .u32) HR1.out) (zB HB.out)));rintro e w18 ⟨va5,rfl,ho0,hb⟩;replace HOa3:=yVb HOa3 hb;have HOa6:=yVm ho0 HB;replace HB:=yS HB hb;(try clear hb ho0);obtain⟨Ao19,co19,rfl⟩:=Kd.V_slice HOa3.out;obtain⟨Ao20,co20,rfl⟩:=Kd.V_slice HOa6.out));try go_wp2_with (first|(go_at_call 118;(with_reducible refine(nat_short.calls k (fun k_=>k_<w.heap.size) _ _ l0 ta1 _ ?side1 A3.out).mono ?_);(case side1=>exact Kd.V_mk HC0.out (Kd.F_below (Kd.C_F (Kd.heap_int .u32) HR0.out) (zB HB.out)));rintro e w17 ⟨va2,rfl,ho0,hb⟩;have n0_:=yVm ho0 HB;have n1_:=yS HB hb;clear HB;have HOa3:=n0_;have HB:=n1_;clear n0_ n1_;(try clear hb);(try clear hb2);(try clear hk);(try clear hi);(try clear ho0))|(go_at_call 118;(with_reducible refine(nat_short.calls k (fun k_=>k_<w.heap.size) _ _ l1 ta4 _ ?side1 A4.out).mono ?_);(case side1=>exact Kd.V_mk HC1.out (Kd.F_below (Kd.C_F (Kd.heap_int .u32) HR1.out) (zB HB.out)));rintro e w18 ⟨va5,rfl,ho0,hb⟩;have n0_:=yVb HOa3 hb;have n1_:=yVm ho0 HB;have n2_:=yS HB hb;clear HOa3;clear HB;have HOa3:=n0_;have HOa6:=n1_;have HB:=n2_;clear n0_ n1_ n2_;(try clear hb);(try clear hb2);(try clear hk);(try clear hi);(try clear ho0);obtain⟨Ao19,co19,eo19⟩:=Kd.V_slice HOa3.out;subst eo19;obtain⟨Ao20,co20,eo20⟩:=Kd.V_slice HOa6.out;subst eo20)))
  go_ret
  exact⟨zE,zB HB.out⟩
 have c16b0:=decide_eq_false c16
 have c16b1:decide (ta1.length<ta4.length)=false:=decide_eq_false (fun h=>c16 (Int.ofNat_lt.mpr h))
 clear c16
 obtain rfl:=Option.some.inj H
 go_enter Try.func79,Try.ntmps79
 go_wp2_with (first|(go_at_call 118;(with_reducible refine(nat_short.calls k (fun k_=>k_<w.heap.size) _ _ l0 ta1 _ ?side1 A3.out).mono ?_);(case side1=>exact Kd.V_mk HC0.out (Kd.F_below (Kd.C_F (Kd.heap_int .u32) HR0.out) (zB HB.out)));rintro e w21 ⟨va2,rfl,ho0,hb⟩;have HOa3:=yVm ho0 HB;replace HB:=yS HB hb;(try clear hb ho0))|(go_at_call 118;(with_reducible refine(nat_short.calls k (fun k_=>k_<w.heap.size) _ _ l1 ta4 _ ?side1 A4.out).mono ?_);(case side1=>exact Kd.V_mk HC1.out (Kd.F_below (Kd.C_F (Kd.heap_int .u32) HR1.out) (zB HB.out)));rintro e w22 ⟨va5,rfl,ho0,hb⟩;replace HOa3:=yVb HOa3 hb;have HOa6:=yVm ho0 HB;replace HB:=yS HB hb;(try clear hb ho0);obtain⟨Ao23,co23,rfl⟩:=Kd.V_slice HOa3.out;obtain⟨Ao24,co24,rfl⟩:=Kd.V_slice HOa6.out))
 repeat(go_quiet (first|(go_at_call 118;(with_reducible refine(nat_short.calls k (fun k_=>k_<w.heap.size) _ _ l0 ta1 _ ?side1 A3.out).mono ?_);(case side1=>exact Kd.V_mk HC0.out (Kd.F_below (Kd.C_F (Kd.heap_int .u32) HR0.out) (zB HB.out)));rintro e w21 ⟨va2,rfl,ho0,hb⟩;have HOa3:=yVm ho0 HB;replace HB:=yS HB hb;(try clear hb ho0))|(go_at_call 118;(with_reducible refine(nat_short.calls k (fun k_=>k_<w.heap.size) _ _ l1 ta4 _ ?side1 A4.out).mono ?_);(case side1=>exact Kd.V_mk HC1.out (Kd.F_below (Kd.C_F (Kd.heap_int .u32) HR1.out) (zB HB.out)));rintro e w22 ⟨va5,rfl,ho0,hb⟩;replace HOa3:=yVb HOa3 hb;have HOa6:=yVm ho0 HB;replace HB:=yS HB hb;(try clear hb ho0);obtain⟨Ao23,co23,rfl⟩:=Kd.V_slice HOa3.out;obtain⟨Ao24,co24,rfl⟩:=Kd.V_slice HOa6.out));try go_wp2_with (first|(go_at_call 118;(with_reducible refine(nat_short.calls k (fun k_=>k_<w.heap.size) _ _ l0 ta1 _ ?side1 A3.out).mono ?_);(case side1=>exact Kd.V_mk HC0.out (Kd.F_below (Kd.C_F (Kd.heap_int .u32) HR0.out) (zB HB.out)));rintro e w21 ⟨va2,rfl,ho0,hb⟩;have n0_:=yVm ho0 HB;have n1_:=yS HB hb;clear HB;have HOa3:=n0_;have HB:=n1_;clear n0_ n1_;(try clear hb);(try clear hb2);(try clear hk);(try clear hi);(try clear ho0))|(go_at_call 118;(with_reducible refine(nat_short.calls k (fun k_=>k_<w.heap.size) _ _ l1 ta4 _ ?side1 A4.out).mono ?_);(case side1=>exact Kd.V_mk HC1.out (Kd.F_below (Kd.C_F (Kd.heap_int .u32) HR1.out) (zB HB.out)));rintro e w22 ⟨va5,rfl,ho0,hb⟩;have n0_:=yVb HOa3 hb;have n1_:=yVm ho0 HB;have n2_:=yS HB hb;clear HOa3;clear HB;have HOa3:=n0_;have HOa6:=n1_;have HB:=n2_;clear n0_ n1_ n2_;(try clear hb);(try clear hb2);(try clear hk);(try clear hi);(try clear ho0);obtain⟨Ao23,co23,eo23⟩:=Kd.V_slice HOa3.out;subst eo23;obtain⟨Ao24,co24,eo24⟩:=Kd.V_slice HOa6.out;subst eo24)))
 go_ret
 exact⟨zE,zB HB.out⟩
set_option maxHeartbeats 8000000 in
set_option maxRecDepth 100000 in
theorem nat_Sub.calls (k:Nat) (A0:Option Addr) (c0:Nat) (l0:List Int) (A1:Option Addr) (c1:Nat) (l1:List Int) (r1:List Int) (r2:Int) (w:World) (hr0:Kd.C (Kd.int .u32) w A0 l0.length l0) (hc0:l0.length≤c0) (hr1:Kd.C (Kd.int .u32) w A1 l1.length l1) (hc1:l1.length≤c1) (h:nat_Sub.f k l0 l1=some (r1,r2)):
 Calls Try.prog 137 #[.slice A0 l0.length c0, .slice A1 l1.length c1] w fun e w'=>∃v0_:Value,e= .returned (.tuple #[v0_, .int .i64 r2])∧Kd.V (Kd.int .u32) 97 w' w.heap.size (fun k_=>(w.heap.size≤k_)) v0_ r1∧Below w.heap.size w w':=by
 have HR0:=zk hr0
 have HC0:=zk hc0
 clear hr0 hc0
 have HR1:=zk hr1
 have HC1:=zk hc1
 clear hr1 hc1
 have HB:=zk (Below.refl w.heap.size w)
 have H:=h
 clear h
 unfold nat_Sub.f at H
 replace H:=zb H
 obtain⟨ta1,A3,H⟩:=H
 replace H:=zid H
 rcases H with⟨c4b0,H⟩|⟨c4b0,H⟩
 ·simp only[Option.some.injEq,Prod.mk.injEq] at H
  obtain⟨rfl,rfl⟩:=H
  go_enter Try.func137,Try.ntmps137
  go_wp2_with (first|((with_reducible refine gC 79 ?_);refine zG (some 12) Try.func79 #[.slice A0 l0.length c0, .slice A1 l1.length c1] ?_;(with_reducible refine(nat_Cmp.calls k _ _ l0 _ _ l1 ta1 _ ?side1 ?side2 ?side3 ?side4 A3.out).mono ?_);(case side1=>exact zC HR0.out);(case side2=>exact HC0.out);(case side3=>exact zC HR1.out);(case side4=>exact HC1.out);rintro e w5 ⟨rfl,hb⟩;refine⟨_,rfl,?_⟩;replace HB:=yS HB hb;(try clear hb);(try clear hb2);(try clear hk);(try clear hi)))
  go_ret2
  exact⟨_,zE,by exact Kd.V_nil _ _ _ _ _,zB HB.out⟩
 replace H:=zb H
 obtain⟨ta2,A6,H⟩:=H
 have H':=zk H
 clear H
 go_enter Try.func137,Try.ntmps137
 go_wp2_with (first|((with_reducible refine gC 79 ?_);refine zG (some 12) Try.func79 #[.slice A0 l0.length c0, .slice A1 l1.length c1] ?_;(with_reducible refine(nat_Cmp.calls k _ _ l0 _ _ l1 ta1 _ ?side1 ?side2 ?side3 ?side4 A3.out).mono ?_);(case side1=>exact zC HR0.out);(case side2=>exact HC0.out);(case side3=>exact zC HR1.out);(case side4=>exact HC1.out);rintro e w7 ⟨rfl,hb⟩;refine⟨_,rfl,?_⟩;replace HB:=yS HB hb;(try clear hb);(try clear hb2);(try clear hk);(try clear hi))|((with_reducible refine gC 103 ?_);refine zG (some 15) Try.func103 #[.slice A0 l0.length c0] ?_;(with_reducible refine(nat_Trim.calls k _ _ l0 ta2 _ ?side1 ?side2 A6.out).mono ?_);(case side1=>exact zC (Kd.C_below HR0.out HB.out));(case side2=>exact HC0.out);rintro e w8 ⟨va3,rfl,ho0,hb⟩;refine⟨_,rfl,?_⟩;replace ho0:=Kd.R_newM (M:=fun k_=>(w.heap.size≤k_)) ho0 (below_size (zB HB.out)) (fun k_ h_=>h_);have HOa4:=yRl ho0 HB;replace HB:=yS HB hb;(try clear hb ho0);obtain⟨Ao9,co9,rfl⟩:=Kd.R_slice HOa4.out))
 go_loopg [7,18] k (fun kq v7 v18 w'=>∃(x6_1:List Int) (x7_1:Int) (x18_1:Int),v7= .int .u64 x7_1∧v18= .int .i64 x18_1∧Aside0 (nat_Sub.l0 kq l1 x6_1 x7_1 (ta2.length:Int) x18_1=some (r1,r2))∧Aside0 (kq≤k)∧Aside0 (Kd.R (Kd.int .u32) 97 w' w.heap.size (fun k_=>(w.heap.size≤k_)) (.slice Ao9 ta2.length co9) x6_1)∧Aside0 (Below w.heap.size w w'))
 case atStart=>exact⟨(ta2),(0),(0),zF,zF,H',⟨Nat.le_refl _⟩,⟨by(with_reducible repeat(first|apply Kd.R_alloc|apply Kd.R_drewN|apply Kd.R_drew));exact Kd.R_mono HOa4.out (fun _ hk=>hk.1)⟩,⟨zB HB.out⟩⟩
 clear H'
 (try clear c4b0)
 obtain⟨x6_1,x7_1,x18_1,rfl,rfl,HA,HK1,HO_6,HB⟩:=hrel
 have hl6_1:=(Kd.R_reads' HO_6.out).1
 rw[hl6_1] at HO_6
 (try simp only[hl6_1])
 cases gk with|zero=>exact absurd HA.out (by simp [nat_Sub.l0])|succ k1=>?_
 have H:=HA.out
 clear HA
 simp only[nat_Sub.l0] at H
 replace H:=zi H
 rcases H with⟨c10,H⟩|⟨c10,H⟩
 ·have c10b0:=decide_eq_true c10
  (try(have c10h0:=c10b0;simp only[hl6_1] at c10h0))
  clear c10
  replace H:=zgd H
  obtain⟨c11b0,H⟩:=H
  replace H:=zg H
  obtain⟨c12,H⟩:=H
  have c12b0:=decide_eq_true c12
  (try(have c12h0:=c12b0;simp only[hl6_1] at c12h0))
  clear c12
  replace H:=zi H
  rcases H with⟨c13,H⟩|⟨c13,H⟩
  ·have c13b0:=decide_eq_true c13
   (try(have c13h0:=c13b0;simp only[hl6_1] at c13h0))
   clear c13
   obtain⟨ya7,hya7⟩:∃y_:List Int,y_=(x6_1.set (x18_1:Int).toNat ((IntKind.u64.wrap ((IntKind.u64.wrap ((IntKind.u64.wrap (rd x6_1 x18_1))-x7_1))-(IntKind.u64.wrap (rd l1 x18_1)))) % 4294967296)):=⟨_,rfl⟩
   replace H:(nat_Sub.l0 k1 l1 ya7 ((IntKind.u64.wrap ((IntKind.u64.wrap ((IntKind.u64.wrap (rd x6_1 x18_1))-x7_1))-(IntKind.u64.wrap (rd l1 x18_1)))) / 9223372036854775808) (ta2.length:Int) (wrap64 (x18_1+1)))=some (r1,r2):=zY hya7 H
   have Nya7:=zk hya7
   clear hya7
   have H':=zk H
   clear H
   have pa5:0≤(x18_1:Int):=zd
   have qa5:x18_1<(x6_1.length:Int):=zd
   obtain⟨ada5,ea5,hxa5_0⟩:=Kd.at_int (Kd.R_reads' HO_6.out).2.2 x18_1 pa5 qa5
   cases ea5
   replace pa5:=eq_true pa5
   replace qa5:=eq_true qa5
   have pa6:0≤(x18_1:Int):=zd
   have qa6:x18_1<(l1.length:Int):=zd
   obtain⟨ada6,ea6,hxa6_0⟩:=Kd.at_int HR1.out x18_1 pa6 qa6
   cases ea6
   replace hxa6_0:=(HB.out.cell (World.block_lt_of_cell? w _ hxa6_0)).trans hxa6_0
   replace pa6:=eq_true pa6
   replace qa6:=eq_true qa6
   have p14:0≤(x18_1:Int):=zd
   have q14:(x18_1:Int)<((x6_1.length:Int):Int):=zd
   obtain⟨go14,co14,eo14,gb14,gl14,cl14,HG14⟩:=Kd.R_form HO_6.out (by omega)
   (first|cases eo14|(injection eo14 with ea_ en_ ec_;(first|subst ea_|(injection ea_ with ea_;subst ea_));subst ec_;clear en_))
   have GB14:=zk gb14
   have GG14:=zk HG14
   clear gb14 gl14 HG14
   (first|simp only[add_plain] at hxa5_0|skip)
   obtain⟨hx14_0,hf14_0⟩:=Kd.R_celln 0 HO_6.out (x18_1:Int) p14 q14
   replace p14:=eq_true p14
   replace q14:=eq_true q14
   have HP15:=Kd.R_putg HO_6.out (x18_1:Int) ((IntKind.u64.wrap ((IntKind.u64.wrap ((IntKind.u64.wrap (rd x6_1 x18_1))-x7_1))-(IntKind.u64.wrap (rd l1 x18_1)))) % 4294967296)
   go_wp2_with (first|((with_reducible refine gate_store (t:=97) (p:=43) rfl ?_);refine store_event (t:=97) (p:=43) (v:=?vo_w16) (w1:=(wr.setCell ⟨go14,(x18_1:Int).toNat,none⟩ (.int .u32 ((IntKind.u64.wrap ((IntKind.u64.wrap ((IntKind.u64.wrap (rd x6_1 x18_1))-x7_1))-(IntKind.u64.wrap (rd l1 x18_1)))) % 4294967296)))) ?hg ?ho ?hn ?hr ?_;(case ho=>rfl);(case hg=>rfl);(case hn=>rfl);(case hr=>first|(go_simp;done)|(go_simp;rfl));intro w16 hw;have hg:wr.grownBy w16 (some go14):=(by rw[hw];exact HP15.2);have hp_:Kd.R (Kd.int .u32) 97 w16 w.heap.size (fun k_=>(w.heap.size≤k_)) (.slice (some ⟨go14,0,none⟩) x6_1.length co9) ya7:=(by rw[hw,Nya7.out];exact HP15.1);clear HP15;replace HO_6:=zk (hp_);replace HB:=zk ((by rw[hw];exact below_set (HB.out) GB14.out:Below w.heap.size w w16));clear hg hw hp_))
   (try simp only[←hl6_1])
   go_roundg k1
   case measure=>have:=HK1.out;omega
   case rel=>exact⟨(ya7),((IntKind.u64.wrap ((IntKind.u64.wrap ((IntKind.u64.wrap (rd x6_1 x18_1))-x7_1))-(IntKind.u64.wrap (rd l1 x18_1)))) / 9223372036854775808),(wrap64 (x18_1+1)),zF,zF,H',⟨zo1 HK1⟩,⟨by(try simp only[hl6_1]);(with_reducible repeat(first|apply Kd.R_alloc|apply Kd.R_drewN|apply Kd.R_drew));exact HO_6.out⟩,⟨zB HB.out⟩⟩
  have c13b0:=decide_eq_false c13
  (try(have c13h0:=c13b0;simp only[hl6_1] at c13h0))
  clear c13
  obtain⟨ya8,hya8⟩:∃y_:List Int,y_=(x6_1.set (x18_1:Int).toNat ((IntKind.u64.wrap ((IntKind.u64.wrap (rd x6_1 x18_1))-x7_1)) % 4294967296)):=⟨_,rfl⟩
  replace H:(nat_Sub.l0 k1 l1 ya8 ((IntKind.u64.wrap ((IntKind.u64.wrap (rd x6_1 x18_1))-x7_1)) / 9223372036854775808) (ta2.length:Int) (wrap64 (x18_1+1)))=some (r1,r2):=zY hya8 H
  have Nya8:=zk hya8
  clear hya8
  have H':=zk H
  clear H
  have pa5:0≤(x18_1:Int):=zd
  have qa5:x18_1<(x6_1.length:Int):=zd
  obtain⟨ada5,ea5,hxa5_0⟩:=Kd.at_int (Kd.R_reads' HO_6.out).2.2 x18_1 pa5 qa5
  cases ea5
  replace pa5:=eq_true pa5
  replace qa5:=eq_true qa5
  have p17:0≤(x18_1:Int):=zd
  have q17:(x18_1:Int)<((x6_1.length:Int):Int):=zd
  obtain⟨go17,co17,eo17,gb17,gl17,cl17,HG17⟩:=Kd.R_form HO_6.out (by omega)
  (first|cases eo17|(injection eo17 with ea_ en_ ec_;(first|subst ea_|(injection ea_ with ea_;subst ea_));subst ec_;clear en_))
  have GB17:=zk gb17
  have GG17:=zk HG17
  clear gb17 gl17 HG17
  (first|simp only[add_plain] at hxa5_0|skip)
  obtain⟨hx17_0,hf17_0⟩:=Kd.R_celln 0 HO_6.out (x18_1:Int) p17 q17
  replace p17:=eq_true p17
  replace q17:=eq_true q17
  have HP18:=Kd.R_putg HO_6.out (x18_1:Int) ((IntKind.u64.wrap ((IntKind.u64.wrap (rd x6_1 x18_1))-x7_1)) % 4294967296)
  go_wp2_with (first|((with_reducible refine gate_store (t:=97) (p:=43) rfl ?_);refine store_event (t:=97) (p:=43) (v:=?vo_w19) (w1:=(wr.setCell ⟨go17,(x18_1:Int).toNat,none⟩ (.int .u32 ((IntKind.u64.wrap ((IntKind.u64.wrap (rd x6_1 x18_1))-x7_1)) % 4294967296)))) ?hg ?ho ?hn ?hr ?_;(case ho=>rfl);(case hg=>rfl);(case hn=>rfl);(case hr=>first|(go_simp;done)|(go_simp;rfl));intro w19 hw;have hg:wr.grownBy w19 (some go17):=(by rw[hw];exact HP18.2);have hp_:Kd.R (Kd.int .u32) 97 w19 w.heap.size (fun k_=>(w.heap.size≤k_)) (.slice (some ⟨go17,0,none⟩) x6_1.length co9) ya8:=(by rw[hw,Nya8.out];exact HP18.1);clear HP18;replace HO_6:=zk (hp_);replace HB:=zk ((by rw[hw];exact below_set (HB.out) GB17.out:Below w.heap.size w w19));clear hg hw hp_))
  (try simp only[←hl6_1])
  go_roundg k1
  case measure=>have:=HK1.out;omega
  case rel=>exact⟨(ya8),((IntKind.u64.wrap ((IntKind.u64.wrap (rd x6_1 x18_1))-x7_1)) / 9223372036854775808),(wrap64 (x18_1+1)),zF,zF,H',⟨zo1 HK1⟩,⟨by(try simp only[hl6_1]);(with_reducible repeat(first|apply Kd.R_alloc|apply Kd.R_drewN|apply Kd.R_drew));exact HO_6.out⟩,⟨zB HB.out⟩⟩
 have c10b0:=decide_eq_false c10
 (try(have c10h0:=c10b0;simp only[hl6_1] at c10h0))
 clear c10
 replace H:=zb H
 obtain⟨ta9,A20,H⟩:=H
 simp only[Option.some.injEq,Prod.mk.injEq] at H
 obtain⟨rfl,rfl⟩:=H
 go_wp2_with (first|((with_reducible refine gC 118 ?_);refine zG (some 48) Try.func118 #[.slice Ao9 x6_1.length co9] ?_;(with_reducible refine(nat_short.calls k1 (fun k_=>some k_=(.slice Ao9 x6_1.length co9:Value).ownBlock) _ _ x6_1 ta9 _ ?side1 A20.out).mono ?_);(case side1=>exact Kd.R_V (Kd.R_tight rfl (HO_6.out)));rintro e w21 ⟨vb0,rfl,ho0,hb⟩;refine⟨_,rfl,?_⟩;have HOb1:=zk (Kd.V_lower (Kd.V_mono (ok':=fun k_=>(w.heap.size≤k_)) ho0 (fun k_ hk_=>Or.elim hk_ (fun hs_=>((HO_6.out).1 k_ hs_.symm)) (fun hn_=>(Nat.le_trans (below_size (zB HB.out)) hn_)))) (below_size (zB HB.out)));replace HO_6:=yRb HO_6 hb;replace HB:=yS HB hb;(try clear hb ho0)))
 go_ret2
 exact⟨_,zE,zV HOb1.out,zB HB.out⟩
def mw_plus.T2:Bool×List (List Nat×List Nat):=(true,[([],[]),([0],[0]),([],[]),([2],[2]),([],[]),([4],[4]),([3,5],[3,5]),([6],[6]),([1,7],[1,7]),([8,7,0,1,2,3,4,5,6,7,8],[8])])
def mw_plus.B2:List Nat:=[0,1,0,4,0,16,60,124,255,511]
theorem mw_plus.tab2:rtab .any (opsOf Try.f128 2)=mw_plus.T2:=by kernel_rfl
theorem mw_plus.bits2:waitsOk mw_plus.T2.2 mw_plus.B2=true:=by kernel_rfl
set_option maxHeartbeats 8000000 in
set_option maxRecDepth 100000 in
theorem mw_plus.calls (k:Nat) (a0_0:Bool) (P0_1_:Nat→Prop) (A0_1:Option Addr) (c0_1:Nat) (l0_1:List Int) (a1_0:Bool) (P1_1_:Nat→Prop) (A1_1:Option Addr) (c1_1:Nat) (l1_1:List Int) (r1:Bool) (r2:List Int) (w:World) (hs0_1:Kd.V (Kd.int .u32) 97 w w.heap.size (fun k_=>P0_1_ k_) (.slice A0_1 l0_1.length c0_1) l0_1) (hs1_1:Kd.V (Kd.int .u32) 97 w w.heap.size (fun k_=>P1_1_ k_) (.slice A1_1 l1_1.length c1_1) l1_1) (h:mw_plus.f k a0_0 l0_1 a1_0 l1_1=some (r1,r2)):
 Calls Try.prog 128 #[.agg #[.bool a0_0, .slice A0_1 l0_1.length c0_1], .agg #[.bool a1_0, .slice A1_1 l1_1.length c1_1]] w fun e w'=>∃v1_:Value,e= .returned (.agg #[.bool r1,v1_])∧Kd.V (Kd.int .u32) 97 w' w.heap.size (fun k_=>((P0_1_ k_∨P1_1_ k_)∨w.heap.size≤k_)) v1_ r2∧Below w.heap.size w w':=by
 have hu113:=Try.underlying113
 have HO0_1:=zk (show Kd.V (Kd.int .u32) 97 w w.heap.size (fun k_=>((P0_1_ k_∨P1_1_ k_)∨w.heap.size≤k_)) (.slice A0_1 l0_1.length c0_1) l0_1 from Kd.V_mono hs0_1 (fun k_ hk=> .inl (.inl hk)))
 have HO1_1:=zk (show Kd.V (Kd.int .u32) 97 w w.heap.size (fun k_=>((P0_1_ k_∨P1_1_ k_)∨w.heap.size≤k_)) (.slice A1_1 l1_1.length c1_1) l1_1 from Kd.V_mono hs1_1 (fun k_ hk=> .inl (.inr hk)))
 have HB:=zk (Below.refl w.heap.size w)
 have H:=h
 clear h
 unfold mw_plus.f at H
 replace H:=zi H
 rcases H with⟨c3,H⟩|⟨c3,H⟩
 ·have c3b0:(a0_0==a1_0)=true:=c3
  (try(have c3b1:decide (a0_0=a1_0)=true:=by simpa using c3))
  (try(have c3b2:(a0_0==a1_0)=true:=by simpa using c3))
  clear c3
  obtain⟨ya4,hya4⟩:∃y_:List (List Int),y_=(([l0_1,l1_1]:List (List Int))):=⟨_,rfl⟩
  replace H:((nat_Add.f k ya4).bind fun ta7=>(some (a0_0,ta7)))=some (r1,r2):=zY hya4 H
  have Nya4:=zk hya4
  clear hya4
  replace H:=zb H
  obtain⟨ta7,A4,H⟩:=H
  simp only[Option.some.injEq,Prod.mk.injEq] at H
  obtain⟨rfl,rfl⟩:=H
  go_enter Try.func128,Try.ntmps128
  try go_wp2_with (first|((with_reducible refine gate_dst (N:=2) rfl ?_);refine box_event ?hg (N:=2) ?hd (cs:= #[.bool a0_0, .slice A0_1 l0_1.length c0_1]) (t:=113) ?hr ?_;(case hd=>rfl);(case hg=>rfl);(case hr=>first|(go_simp;done)|(go_simp;rfl));intro gba1 hg w5 hbox hb;replace HO0_1:=yVB HO0_1 hg hb;replace HO1_1:=yVB HO1_1 hg hb;have BKa1:=zk (hbox);have GWa1:=yg hg HB;have GEa1:=yg hg HB;replace HB:=yS HB hb;clear hb hbox hg)|((with_reducible refine gate_dst (N:=3) rfl ?_);refine box_event ?hg (N:=3) ?hd (cs:= #[.bool a1_0, .slice A1_1 l1_1.length c1_1]) (t:=113) ?hr ?_;(case hd=>rfl);(case hg=>rfl);(case hr=>first|(go_simp;done)|(go_simp;rfl));intro gba2 hg w6 hbox hb;replace HO0_1:=yVB HO0_1 hg hb;replace HO1_1:=yVB HO1_1 hg hb;have BKa2:=zk (hbox);have GWa2:=yg1 hg HB GEa1;have GEa2:=yg1 hg HB GEa1;replace HB:=yS1 HB GEa1 hb;have NBa1_102:=ynl hg BKa1;have NBa2_101:=yng hg BKa1;replace BKa1:=yK BKa1 hb;clear hb hbox hg)|((with_reducible refine gate_dst (N:=4) rfl ?_);refine box_event ?hg (N:=4) ?hd (cs:= #[.bool false, .slice none 0 0]) (t:=113) ?hr ?_;(case hd=>rfl);(case hg=>rfl);(case hr=>first|(go_simp;done)|(go_simp;rfl));intro gba3 hg w7 hbox hb;replace HO0_1:=yVB HO0_1 hg hb;replace HO1_1:=yVB HO1_1 hg hb;have BKa3:=zk (hbox);have GWa3:=yg2 hg HB GEa1 GEa2;have GEa3:=yg2 hg HB GEa1 GEa2;replace HB:=yS2 HB GEa1 GEa2 hb;have NBa1_103:=ynl hg BKa1;have NBa3_101:=yng hg BKa1;replace BKa1:=yK BKa1 hb;have NBa2_103:=ynl hg BKa2;have NBa3_102:=yng hg BKa2;replace BKa2:=yK BKa2 hb;clear hb hbox hg;have hnb8:=NBa1_102.out;have hnc8:=NBa2_101.out;have hnb9:=NBa1_103.out;have hnc9:=NBa3_101.out;obtain⟨hcz10_0,hcz10_1,hfz10_0,hfz10_1⟩:=zz2 BKa1;have hnb11:=NBa2_103.out;have hnc11:=NBa3_102.out;obtain⟨hcz12_0,hcz12_1,hfz12_0,hfz12_1⟩:=zz2 BKa2))
  replace HO0_1:=zk (Kd.V_drew HO0_1.out)
  replace HO1_1:=zk (Kd.V_drew HO1_1.out)
  replace BKa1:=zk (blk_drew BKa1.out)
  replace BKa2:=zk (blk_drew BKa2.out)
  replace BKa3:=zk (blk_drew BKa3.out)
  replace HB:=zk (below_drew1 HB.out)
  refine start_ (n:=10) (S:=fun w'=>w'.cell? ⟨gba1,0,none⟩=some (.bool a0_0)∧w'.cell? ⟨gba1,1,none⟩=some (.slice A0_1 l0_1.length c0_1)∧w'.cell? ⟨gba2,0,none⟩=some (.bool a1_0)∧w'.cell? ⟨gba2,1,none⟩=some (.slice A1_1 l1_1.length c1_1)) (ds:=[]) #[false,false,false,false,false,false,false,false,false,false] (by kernel_rfl) rfl rfl ⟨(blk_cell BKa1.out 0).trans rfl,(blk_cell BKa1.out 1).trans rfl,(blk_cell BKa2.out 0).trans rfl,(blk_cell BKa2.out 1).trans rfl⟩ (fun hHeld=>?_);refine with_tabW mw_plus.tab2 mw_plus.bits2 (fun HT_ HW_=>?_)
  generalize w7.drew=w13 at HO0_1 HO1_1 BKa1 BKa2 BKa3 HB hHeld ⊢
  refine zp (i:=0) (N:=some 12) HT_ ?_
  refine zp (i:=2) (N:=some 14) HT_ ?_
  refine zp (i:=4) (N:=some 16) HT_ ?_
  refine take_ (i:=1) (N:=some 13) (v:=?_) (a':=?_) #[true,true,true,false,true,false,false,false,false,false] rfl rfl (take_ofW HT_.out HW_.out (by kernel_rfl)) (fun _ _ _ h=>h) (Or.inl ⟨by rfl,?_⟩) hHeld ?_ ?_
  rotate_left
  ·rintro w' ⟨s0,s1,s2,s3⟩
   go_simp
   with_reducible rfl
  rotate_left
  ·simp only[Act.put,List.setIfInBounds_toArray,List.set_cons_zero,List.set_cons_succ,i64_w,i32_w]
   rfl
  refine take_ (i:=3) (N:=some 15) (v:=?_) (a':=?_) #[true,true,true,true,true,false,false,false,false,false] rfl rfl (take_ofW HT_.out HW_.out (by kernel_rfl)) (fun _ _ _ h=>h) (Or.inl ⟨by rfl,?_⟩) hHeld ?_ ?_
  rotate_left
  ·rintro w' ⟨s0,s1,s2,s3⟩
   go_simp
   with_reducible rfl
  rotate_left
  ·simp only[Act.put,List.setIfInBounds_toArray,List.set_cons_zero,List.set_cons_succ,i64_w,i32_w]
   rfl
  refine take_ (i:=5) (N:=some 17) (v:=?_) (a':=?_) #[true,true,true,true,true,true,false,false,false,false] rfl rfl (take_ofW HT_.out HW_.out (by kernel_rfl)) (fun _ _ _ h=>h) (Or.inl ⟨by rfl,?_⟩) hHeld ?_ ?_
  rotate_left
  ·rintro w' ⟨s0,s1,s2,s3⟩
   go_simp
   with_reducible rfl
  rotate_left
  ·simp only[Act.put,List.setIfInBounds_toArray,List.set_cons_zero,List.set_cons_succ,i64_w,i32_w]
   rfl
  refine one_ (i:=6) (N:=some 18) #[true,true,true,true,true,true,true,false,false,false] rfl rfl (one_of HT_.out (by kernel_rfl)) (by decide) (fun K hK=>?_)
  refine Kd.N_lit_step (Kd.slice 97 (Kd.int .u32)) _ 29 ?hg (N':=18) ?hd (xs:=([l0_1,l1_1]:List (List Int))) (inner:=[.slice A0_1 l0_1.length c0_1, .slice A1_1 l1_1.length c1_1]) (ok:=(fun k_=>((P0_1_ k_∨P1_1_ k_)∨w.heap.size≤k_)∧k_≠gba1∧k_≠gba2∧k_≠gba3)) (okp:=(fun k_=>((P0_1_ k_∨P1_1_ k_)∨w.heap.size≤k_)∧k_≠gba1∧k_≠gba2∧k_≠gba3)) ?hr ?hp (fun _ hk=>hk) ((show ∀k_,w13.heap.size≤k_→(fun k_=>((P0_1_ k_∨P1_1_ k_)∨w.heap.size≤k_)∧k_≠gba1∧k_≠gba2∧k_≠gba3) k_ from fun k_ hk=>⟨(.inr (Nat.le_trans (below_size (zB3 HB.out GEa1.out GEa2.out GEa3.out)) hk)),Kd.freshB (g:=gba1) (o:= .cells #[.bool a0_0, .slice A0_1 l0_1.length c0_1] 113 (0,0)) (zK BKa1.out) k_ hk,Kd.freshB (g:=gba2) (o:= .cells #[.bool a1_0, .slice A1_1 l1_1.length c1_1] 113 (0,0)) (zK BKa2.out) k_ hk,Kd.freshB (g:=gba3) (o:= .cells #[.bool false, .slice none 0 0] 113 (0,0)) (zK BKa3.out) k_ hk⟩) _ (Nat.le_refl _)) (Below.refl _ _) (Nat.le_refl _) (by simp) ?_;(case hd=>rfl);(case hg=>rfl);(case hr=>first|(go_simp;done)|(go_simp;rfl));(case hp=>exact(Reps.one (show Kd.FK (Kd.slice 97 (Kd.int .u32)) _ _ l0_1 [.slice A0_1 l0_1.length c0_1] from(Kd.FK_slice_mk (Kd.V_reads' (Kd.V_mono (ok':=(fun k_=>((P0_1_ k_∨P1_1_ k_)∨w.heap.size≤k_)∧k_≠gba1∧k_≠gba2∧k_≠gba3)) (HO0_1.out) (fun k_ hk=>by exact⟨hk.1.1.1,⟨hk.1.1.2,⟨hk.1.2,hk.2⟩⟩⟩))).2.1 (Kd.V_F (Kd.V_mono (ok':=(fun k_=>((P0_1_ k_∨P1_1_ k_)∨w.heap.size≤k_)∧k_≠gba1∧k_≠gba2∧k_≠gba3)) (HO0_1.out) (fun k_ hk=>by exact⟨hk.1.1.1,⟨hk.1.1.2,⟨hk.1.2,hk.2⟩⟩⟩))))) (Reps.one (show Kd.FK (Kd.slice 97 (Kd.int .u32)) _ _ l1_1 [.slice A1_1 l1_1.length c1_1] from(Kd.FK_slice_mk (Kd.V_reads' (Kd.V_mono (ok':=(fun k_=>((P0_1_ k_∨P1_1_ k_)∨w.heap.size≤k_)∧k_≠gba1∧k_≠gba2∧k_≠gba3)) (HO1_1.out) (fun k_ hk=>by exact⟨hk.1.1.1,⟨hk.1.1.2,⟨hk.1.2,hk.2⟩⟩⟩))).2.1 (Kd.V_F (Kd.V_mono (ok':=(fun k_=>((P0_1_ k_∨P1_1_ k_)∨w.heap.size≤k_)∧k_≠gba1∧k_≠gba2∧k_≠gba3)) (HO1_1.out) (fun k_ hk=>by exact⟨hk.1.1.1,⟨hk.1.1.2,⟨hk.1.2,hk.2⟩⟩⟩))))) (Reps.none _ _))))
  intro va5 w14 ho15 hb hg_ hnew_
  clear hg_ hnew_
  (first|rw[←Nya4.out] at ho15|(simp only[Int.reduceToNat] at ho15;rw[←Nya4.out] at ho15))
  replace HO0_1:=zk (Kd.V_elder' (zV HO0_1.out) (Kd.N_base ho15) hb)
  replace HO1_1:=zk (Kd.V_elder' (zV HO1_1.out) (Kd.N_base ho15) hb)
  have HOa6:=zk (Kd.N_lower ho15 (below_size (zB3 HB.out GEa1.out GEa2.out GEa3.out)))
  replace BKa1:=yK BKa1 hb
  replace BKa2:=yK BKa2 hb
  replace BKa3:=yK BKa3 hb
  replace HB:=yS3 HB GEa1 GEa2 GEa3 hb
  clear hb ho15
  obtain⟨Ao16,co16,eo16⟩:=Kd.N_slice HOa6.out
  (first|subst eo16|(injection eo16 with f1_ f2_ f3_;have f4_:=f1_.symm;have f5_:=f3_.symm;clear f1_ f2_ f3_;subst f4_;subst f5_))
  refine hK.out _ _ ⟨(blk_cell BKa1.out 0).trans rfl,(blk_cell BKa1.out 1).trans rfl,(blk_cell BKa2.out 0).trans rfl,(blk_cell BKa2.out 1).trans rfl⟩ (fun hHeld=>?_)
  clear hK K
  refine norm_ (a':=?_) ?_ ?_
  rotate_left
  ·show Act.put _ (some 18) _=_
   simp only[Act.put,List.setIfInBounds_toArray,List.set_cons_zero,List.set_cons_succ,i64_w,i32_w]
   rfl
  refine one_ (i:=7) (N:=some 19) #[true,true,true,true,true,true,true,true,false,false] rfl rfl (one_of HT_.out (by kernel_rfl)) (by decide) (fun K hK=>?_)
  refine goes_ Try.func73 (by kernel_rfl) rfl #[.slice Ao16 ya4.length co16] (by rfl) rfl rfl (by(try simp only[List.map_toArray,List.map_cons,List.map_nil]);first|done|rfl|(simp only[List.length_drop,List.length_take];rfl)) ?_
  with_reducible refine(nat_Add.calls k _ _ ya4 ta7 _ ?side1 ?side2 A4.out).mono ?_
  (case side1=>exact zC (Kd.N_reads' HOa6.out).2.2)
  (case side2=>exact(Kd.N_reads' HOa6.out).2.1)
  rintro e w17 ⟨va8,rfl,ho0,hb⟩
  refine⟨_,rfl,?_⟩
  replace HO0_1:=yVe HO0_1 ho0 hb
  replace HO1_1:=yVe HO1_1 ho0 hb
  replace HOa6:=yNe HOa6 ho0 hb
  replace ho0:=Kd.R_newM (M:=fun k_=>(w.heap.size≤k_)) ho0 (below_size (zB3 HB.out GEa1.out GEa2.out GEa3.out)) (fun k_ h_=>h_)
  have HOa9:=yRl3 ho0 HB GEa1 GEa2 GEa3
  replace BKa1:=yK BKa1 hb
  replace BKa2:=yK BKa2 hb
  replace BKa3:=yK BKa3 hb
  replace HB:=yS3 HB GEa1 GEa2 GEa3 hb
  (try clear hb)
  (try clear ho0)
  obtain⟨Ao18,co18,eo18⟩:=Kd.R_slice HOa9.out
  (first|subst eo18|(injection eo18 with f1_ f2_ f3_;have f4_:=f1_.symm;have f5_:=f3_.symm;clear f1_ f2_ f3_;subst f4_;subst f5_))
  refine hK.out _ _ ⟨(blk_cell BKa1.out 0).trans rfl,(blk_cell BKa1.out 1).trans rfl,(blk_cell BKa2.out 0).trans rfl,(blk_cell BKa2.out 1).trans rfl⟩ (fun hHeld=>?_)
  clear hK K
  refine norm_ (a':=?_) ?_ ?_
  rotate_left
  ·show Act.put _ (some 19) _=_
   simp only[Act.put,List.setIfInBounds_toArray,List.set_cons_zero,List.set_cons_succ,i64_w,i32_w]
   rfl
  refine zp (i:=8) (N:=some 20) HT_ ?_
  refine one_ (i:=9) (N:=none) #[true,true,true,true,true,true,true,true,true,true] rfl rfl (one_of HT_.out (by kernel_rfl)) (by decide) (fun K hK=>?_)
  have hs19:w17.cell? ⟨gba3,0,none⟩=some (.bool false):=(blk_cell BKa3.out 0).trans rfl
  have hfs19:=blk_frozen BKa3.out 0
  have hns19_0:=NBa1_103.out
  have hns19_1:=NBa2_103.out
  have hms19_0:=NBa3_101.out
  have hms19_1:=NBa3_102.out
  have hs20:w17.cell? ⟨gba3,1,none⟩=some (.slice none 0 0):=(blk_cell BKa3.out 1).trans rfl
  have hfs20:=blk_frozen BKa3.out 1
  have hns20_0:=NBa1_103.out
  have hns20_1:=NBa2_103.out
  have hms20_0:=NBa3_101.out
  have hms20_1:=NBa3_102.out
  refine skip_ (w1:=?_) (by rfl) rfl ?_ ?_
  rotate_left
  ·go_simp
   rfl
  refine hK.out _ _ ⟨((cell_far (p:=⟨gba3,_,none⟩) NBa1_103.out _).trans (((cell_far (p:=⟨gba3,_,none⟩) NBa1_103.out _).trans (hHeld.1)))),((cell_far (p:=⟨gba3,_,none⟩) NBa1_103.out _).trans (((cell_far (p:=⟨gba3,_,none⟩) NBa1_103.out _).trans (hHeld.2.1)))),((cell_far (p:=⟨gba3,_,none⟩) NBa2_103.out _).trans (((cell_far (p:=⟨gba3,_,none⟩) NBa2_103.out _).trans (hHeld.2.2.1)))),((cell_far (p:=⟨gba3,_,none⟩) NBa2_103.out _).trans (((cell_far (p:=⟨gba3,_,none⟩) NBa2_103.out _).trans (hHeld.2.2.2))))⟩ (fun hHeld=>?_)
  clear hK K
  refine done_ (done_of HT_.out (by kernel_rfl)) ?_
  try go_wp2
  refine bodyPost_ret (results_cell_row rfl _ _ gba3 113 #[.bool a0_0, .slice Ao18 ta7.length co18] (0,0) _ rfl (zP2 BKa3.out) Try.underlying113 rfl (by kernel_rfl)) rfl ?_
  exact⟨_,zE,Kd.V_mono (Kd.R_V (by(with_reducible repeat(first|apply Kd.R_alloc|apply Kd.R_drewN|apply Kd.R_drew));exact Kd.R_mono (Kd.R_far (p:=⟨gba3,1,none⟩) (Kd.R_far (p:=⟨gba3,0,none⟩) (Kd.R_types HOa9.out BKa3.out (by decide)) (fun _ hk=>hk.2) (.bool a0_0)) (fun _ hk=>hk.2) (.slice Ao18 ta7.length co18)) (fun _ hk=>hk.1.1))) (fun k_ hk=>by first|exact⟨(.inr (hk.1)),hk.2⟩|exact(.inr (hk))),zB3 HB.out GEa1.out GEa2.out GEa3.out⟩
 have c3b0:(a0_0==a1_0)=false:=by simpa using c3
 (try(have c3b1:decide (a0_0=a1_0)=false:=by simpa using c3))
 (try(have c3b2:(a0_0==a1_0)=false:=by simpa using c3))
 (try(have c3b3:¬(a0_0=a1_0):=by simpa using c3))
 clear c3
 replace H:=zb H
 obtain⟨tb0,A21,H⟩:=H
 replace H:=zid H
 rcases H with⟨c22b0,H⟩|⟨c22b0,H⟩
 ·replace H:=zb H
  obtain⟨⟨tb1,tb4⟩,A23,H⟩:=H
  dsimp only at H
  simp only[Option.some.injEq,Prod.mk.injEq] at H
  obtain⟨rfl,rfl⟩:=H
  go_enter Try.func128,Try.ntmps128
  go_wp2_with (first|((with_reducible refine gate_dst (N:=2) rfl ?_);refine box_event ?hg (N:=2) ?hd (cs:= #[.bool a0_0, .slice A0_1 l0_1.length c0_1]) (t:=113) ?hr ?_;(case hd=>rfl);(case hg=>rfl);(case hr=>first|(go_simp;done)|(go_simp;rfl));intro gba1 hg w24 hbox hb;replace HO0_1:=yVB HO0_1 hg hb;replace HO1_1:=yVB HO1_1 hg hb;have BKa1:=zk (hbox);have GWa1:=yg hg HB;have GEa1:=yg hg HB;replace HB:=yS HB hb;clear hb hbox hg)|((with_reducible refine gate_dst (N:=3) rfl ?_);refine box_event ?hg (N:=3) ?hd (cs:= #[.bool a1_0, .slice A1_1 l1_1.length c1_1]) (t:=113) ?hr ?_;(case hd=>rfl);(case hg=>rfl);(case hr=>first|(go_simp;done)|(go_simp;rfl));intro gba2 hg w25 hbox hb;replace HO0_1:=yVB HO0_1 hg hb;replace HO1_1:=yVB HO1_1 hg hb;have BKa2:=zk (hbox);have GWa2:=yg1 hg HB GEa1;have GEa2:=yg1 hg HB GEa1;replace HB:=yS1 HB GEa1 hb;have NBa1_102:=ynl hg BKa1;have NBa2_101:=yng hg BKa1;replace BKa1:=yK BKa1 hb;clear hb hbox hg)|((with_reducible refine gate_dst (N:=4) rfl ?_);refine box_event ?hg (N:=4) ?hd (cs:= #[.bool false, .slice none 0 0]) (t:=113) ?hr ?_;(case hd=>rfl);(case hg=>rfl);(case hr=>first|(go_simp;done)|(go_simp;rfl));intro gba3 hg w26 hbox hb;replace HO0_1:=yVB HO0_1 hg hb;replace HO1_1:=yVB HO1_1 hg hb;have BKa3:=zk (hbox);have GWa3:=yg2 hg HB GEa1 GEa2;have GEa3:=yg2 hg HB GEa1 GEa2;replace HB:=yS2 HB GEa1 GEa2 hb;have NBa1_103:=ynl hg BKa1;have NBa3_101:=yng hg BKa1;replace BKa1:=yK BKa1 hb;have NBa2_103:=ynl hg BKa2;have NBa3_102:=yng hg BKa2;replace BKa2:=yK BKa2 hb;clear hb hbox hg;have hnb27:=NBa1_102.out;have hnc27:=NBa2_101.out;have hnb28:=NBa1_103.out;have hnc28:=NBa3_101.out;obtain⟨hcz29_0,hcz29_1,hfz29_0,hfz29_1⟩:=zz2 BKa1;have hnb30:=NBa2_103.out;have hnc30:=NBa3_102.out;obtain⟨hcz31_0,hcz31_1,hfz31_0,hfz31_1⟩:=zz2 BKa2)|((with_reducible refine gC 79 ?_);refine zG (some 25) Try.func79 #[.slice A0_1 l0_1.length c0_1, .slice A1_1 l1_1.length c1_1] ?_;(with_reducible refine(nat_Cmp.calls k _ _ l0_1 _ _ l1_1 tb0 _ ?side1 ?side2 ?side3 ?side4 A21.out).mono ?_);(case side1=>exact zC (Kd.V_reads' HO0_1.out).2.2);(case side2=>exact(Kd.V_reads' HO0_1.out).2.1);(case side3=>exact zC (Kd.V_reads' HO1_1.out).2.2);(case side4=>exact(Kd.V_reads' HO1_1.out).2.1);rintro e w32 ⟨rfl,hb⟩;refine⟨_,rfl,?_⟩;replace HO0_1:=yVb HO0_1 hb;replace HO1_1:=yVb HO1_1 hb;replace BKa1:=yK BKa1 hb;replace BKa2:=yK BKa2 hb;replace BKa3:=yK BKa3 hb;replace HB:=yS3 HB GEa1 GEa2 GEa3 hb;(try clear hb);(try clear hb2);(try clear hk);(try clear hi);obtain⟨hcz33_0,hcz33_1,hfz33_0,hfz33_1⟩:=zz2 BKa2;obtain⟨hcz34_0,hcz34_1,hfz34_0,hfz34_1⟩:=zz2 BKa1)|((with_reducible refine gC 137 ?_);refine zG (some 34) Try.func137 #[.slice A1_1 l1_1.length c1_1, .slice A0_1 l0_1.length c0_1] ?_;(with_reducible refine(nat_Sub.calls k _ _ l1_1 _ _ l0_1 tb1 tb4 _ ?side1 ?side2 ?side3 ?side4 A23.out).mono ?_);(case side1=>refine(Kd.V_reads' (e:=97) (base:=w.heap.size) (ok:=fun k_=>(((((P0_1_ k_∨P1_1_ k_)∨w.heap.size≤k_)∧k_≠gba1)∧k_≠gba2)∧k_≠gba3)) (n:=l1_1.length) (c:=c1_1) ?_).2.2;exact(by(with_reducible repeat(first|apply Kd.V_alloc|apply Kd.V_drewN|apply Kd.V_drew));exact(Kd.V_mono (Kd.V_mono (Kd.V_far (p:=⟨gba2,1,none⟩) (Kd.V_far (p:=⟨gba2,0,none⟩) (Kd.V_far (p:=⟨gba1,1,none⟩) (Kd.V_far (p:=⟨gba1,0,none⟩) (Kd.V_mono (Kd.V_mono HO1_1.out (fun k_ hk=>(⟨hk,hk.1.1.2⟩:_∧k_≠gba1))) (fun k_ hk=>(⟨hk,hk.1.1.2⟩:_∧k_≠gba2))) (fun _ hk=>hk.1.2) (.bool a1_0)) (fun _ hk=>hk.1.2) (.slice A1_1 l1_1.length c1_1)) (fun _ hk=>hk.2) (.bool a0_0)) (fun _ hk=>hk.2) (.slice A0_1 l0_1.length c0_1)) (fun _ h_=>h_.1)) (fun _ h_=>h_.1))));(case side2=>exact(Kd.V_reads' HO1_1.out).2.1);(case side3=>refine(Kd.V_reads' (e:=97) (base:=w.heap.size) (ok:=fun k_=>(((((P0_1_ k_∨P1_1_ k_)∨w.heap.size≤k_)∧k_≠gba1)∧k_≠gba2)∧k_≠gba3)) (n:=l0_1.length) (c:=c0_1) ?_).2.2;exact(by(with_reducible repeat(first|apply Kd.V_alloc|apply Kd.V_drewN|apply Kd.V_drew));exact(Kd.V_mono (Kd.V_mono (Kd.V_far (p:=⟨gba2,1,none⟩) (Kd.V_far (p:=⟨gba2,0,none⟩) (Kd.V_far (p:=⟨gba1,1,none⟩) (Kd.V_far (p:=⟨gba1,0,none⟩) (Kd.V_mono (Kd.V_mono HO0_1.out (fun k_ hk=>(⟨hk,hk.1.1.2⟩:_∧k_≠gba1))) (fun k_ hk=>(⟨hk,hk.1.1.2⟩:_∧k_≠gba2))) (fun _ hk=>hk.1.2) (.bool a1_0)) (fun _ hk=>hk.1.2) (.slice A1_1 l1_1.length c1_1)) (fun _ hk=>hk.2) (.bool a0_0)) (fun _ hk=>hk.2) (.slice A0_1 l0_1.length c0_1)) (fun _ h_=>h_.1)) (fun _ h_=>h_.1))));(case side4=>exact(Kd.V_reads' HO0_1.out).2.1);rintro e w35 ⟨vb2,rfl,ho0,hb⟩;refine⟨_,rfl,?_⟩;replace HO0_1:=zk (Kd.V_below (by(with_reducible repeat(first|apply Kd.V_alloc|apply Kd.V_drewN|apply Kd.V_drew));exact(Kd.V_mono (Kd.V_mono (Kd.V_far (p:=⟨gba2,1,none⟩) (Kd.V_far (p:=⟨gba2,0,none⟩) (Kd.V_far (p:=⟨gba1,1,none⟩) (Kd.V_far (p:=⟨gba1,0,none⟩) (Kd.V_mono (Kd.V_mono HO0_1.out (fun k_ hk=>(⟨hk,hk.1.1.2⟩:_∧k_≠gba1))) (fun k_ hk=>(⟨hk,hk.1.1.2⟩:_∧k_≠gba2))) (fun _ hk=>hk.1.2) (.bool a1_0)) (fun _ hk=>hk.1.2) (.slice A1_1 l1_1.length c1_1)) (fun _ hk=>hk.2) (.bool a0_0)) (fun _ hk=>hk.2) (.slice A0_1 l0_1.length c0_1)) (fun _ h_=>h_.1)) (fun _ h_=>h_.1))) hb);replace HO1_1:=zk (Kd.V_below (by(with_reducible repeat(first|apply Kd.V_alloc|apply Kd.V_drewN|apply Kd.V_drew));exact(Kd.V_mono (Kd.V_mono (Kd.V_far (p:=⟨gba2,1,none⟩) (Kd.V_far (p:=⟨gba2,0,none⟩) (Kd.V_far (p:=⟨gba1,1,none⟩) (Kd.V_far (p:=⟨gba1,0,none⟩) (Kd.V_mono (Kd.V_mono HO1_1.out (fun k_ hk=>(⟨hk,hk.1.1.2⟩:_∧k_≠gba1))) (fun k_ hk=>(⟨hk,hk.1.1.2⟩:_∧k_≠gba2))) (fun _ hk=>hk.1.2) (.bool a1_0)) (fun _ hk=>hk.1.2) (.slice A1_1 l1_1.length c1_1)) (fun _ hk=>hk.2) (.bool a0_0)) (fun _ hk=>hk.2) (.slice A0_1 l0_1.length c0_1)) (fun _ h_=>h_.1)) (fun _ h_=>h_.1))) hb);have HOb3:=zk (Kd.V_lower (Kd.V_mono (ok':=fun k_=>((P0_1_ k_∨P1_1_ k_)∨w.heap.size≤k_)∧k_≠gba1∧k_≠gba2∧k_≠gba3) ho0 (fun k_ hk_=>⟨(.inr (Nat.le_trans (below_size (zB3 HB.out GEa1.out GEa2.out GEa3.out)) hk_)),(Kd.freshB (g:=gba1) (o:= .cells #[.bool a1_0, .slice A1_1 l1_1.length c1_1] 113 (0,0)) (by(with_reducible repeat(first|refine blk_drewN ?_ _|refine blk_drew ?_|refine blk_alloc ?_ _));refine blk_far ?_ NBa1_102.out _;(with_reducible repeat(first|refine blk_drewN ?_ _|refine blk_drew ?_|refine blk_alloc ?_ _));refine blk_far ?_ NBa1_102.out _;(with_reducible repeat(first|refine blk_drewN ?_ _|refine blk_drew ?_|refine blk_alloc ?_ _));refine blk_put (cs:= #[.bool a1_0, .slice A0_1 l0_1.length c0_1]) ?_ 1 _ rfl;(with_reducible repeat(first|refine blk_drewN ?_ _|refine blk_drew ?_|refine blk_alloc ?_ _));refine blk_put (cs:= #[.bool a0_0, .slice A0_1 l0_1.length c0_1]) ?_ 0 _ rfl;(with_reducible repeat(first|refine blk_drewN ?_ _|refine blk_drew ?_|refine blk_alloc ?_ _));exact BKa1.out) k_ hk_),(Kd.freshB (g:=gba2) (o:= .cells #[.bool a0_0, .slice A0_1 l0_1.length c0_1] 113 (0,0)) (by(with_reducible repeat(first|refine blk_drewN ?_ _|refine blk_drew ?_|refine blk_alloc ?_ _));refine blk_put (cs:= #[.bool a0_0, .slice A1_1 l1_1.length c1_1]) ?_ 1 _ rfl;(with_reducible repeat(first|refine blk_drewN ?_ _|refine blk_drew ?_|refine blk_alloc ?_ _));refine blk_put (cs:= #[.bool a1_0, .slice A1_1 l1_1.length c1_1]) ?_ 0 _ rfl;(with_reducible repeat(first|refine blk_drewN ?_ _|refine blk_drew ?_|refine blk_alloc ?_ _));refine blk_far ?_ NBa2_101.out _;(with_reducible repeat(first|refine blk_drewN ?_ _|refine blk_drew ?_|refine blk_alloc ?_ _));refine blk_far ?_ NBa2_101.out _;(with_reducible repeat(first|refine blk_drewN ?_ _|refine blk_drew ?_|refine blk_alloc ?_ _));exact BKa2.out) k_ hk_),(Kd.freshB (g:=gba3) (o:= .cells #[.bool false, .slice none 0 0] 113 (0,0)) (by(with_reducible repeat(first|refine blk_drewN ?_ _|refine blk_drew ?_|refine blk_alloc ?_ _));refine blk_far ?_ NBa3_102.out _;(with_reducible repeat(first|refine blk_drewN ?_ _|refine blk_drew ?_|refine blk_alloc ?_ _));refine blk_far ?_ NBa3_102.out _;(with_reducible repeat(first|refine blk_drewN ?_ _|refine blk_drew ?_|refine blk_alloc ?_ _));refine blk_far ?_ NBa3_101.out _;(with_reducible repeat(first|refine blk_drewN ?_ _|refine blk_drew ?_|refine blk_alloc ?_ _));refine blk_far ?_ NBa3_101.out _;(with_reducible repeat(first|refine blk_drewN ?_ _|refine blk_drew ?_|refine blk_alloc ?_ _));exact BKa3.out) k_ hk_)⟩)) (below_size (zB3 HB.out GEa1.out GEa2.out GEa3.out)));replace BKa1:=zk (blk_below (g:=gba1) (o:= .cells #[.bool a1_0, .slice A1_1 l1_1.length c1_1] 113 (0,0)) (by(with_reducible repeat(first|refine blk_drewN ?_ _|refine blk_drew ?_|refine blk_alloc ?_ _));refine blk_far ?_ NBa1_102.out _;(with_reducible repeat(first|refine blk_drewN ?_ _|refine blk_drew ?_|refine blk_alloc ?_ _));refine blk_far ?_ NBa1_102.out _;(with_reducible repeat(first|refine blk_drewN ?_ _|refine blk_drew ?_|refine blk_alloc ?_ _));refine blk_put (cs:= #[.bool a1_0, .slice A0_1 l0_1.length c0_1]) ?_ 1 _ rfl;(with_reducible repeat(first|refine blk_drewN ?_ _|refine blk_drew ?_|refine blk_alloc ?_ _));refine blk_put (cs:= #[.bool a0_0, .slice A0_1 l0_1.length c0_1]) ?_ 0 _ rfl;(with_reducible repeat(first|refine blk_drewN ?_ _|refine blk_drew ?_|refine blk_alloc ?_ _));exact BKa1.out) hb);replace BKa2:=zk (blk_below (g:=gba2) (o:= .cells #[.bool a0_0, .slice A0_1 l0_1.length c0_1] 113 (0,0)) (by(with_reducible repeat(first|refine blk_drewN ?_ _|refine blk_drew ?_|refine blk_alloc ?_ _));refine blk_put (cs:= #[.bool a0_0, .slice A1_1 l1_1.length c1_1]) ?_ 1 _ rfl;(with_reducible repeat(first|refine blk_drewN ?_ _|refine blk_drew ?_|refine blk_alloc ?_ _));refine blk_put (cs:= #[.bool a1_0, .slice A1_1 l1_1.length c1_1]) ?_ 0 _ rfl;(with_reducible repeat(first|refine blk_drewN ?_ _|refine blk_drew ?_|refine blk_alloc ?_ _));refine blk_far ?_ NBa2_101.out _;(with_reducible repeat(first|refine blk_drewN ?_ _|refine blk_drew ?_|refine blk_alloc ?_ _));refine blk_far ?_ NBa2_101.out _;(with_reducible repeat(first|refine blk_drewN ?_ _|refine blk_drew ?_|refine blk_alloc ?_ _));exact BKa2.out) hb);replace BKa3:=zk (blk_below (g:=gba3) (o:= .cells #[.bool false, .slice none 0 0] 113 (0,0)) (by(with_reducible repeat(first|refine blk_drewN ?_ _|refine blk_drew ?_|refine blk_alloc ?_ _));refine blk_far ?_ NBa3_102.out _;(with_reducible repeat(first|refine blk_drewN ?_ _|refine blk_drew ?_|refine blk_alloc ?_ _));refine blk_far ?_ NBa3_102.out _;(with_reducible repeat(first|refine blk_drewN ?_ _|refine blk_drew ?_|refine blk_alloc ?_ _));refine blk_far ?_ NBa3_101.out _;(with_reducible repeat(first|refine blk_drewN ?_ _|refine blk_drew ?_|refine blk_alloc ?_ _));refine blk_far ?_ NBa3_101.out _;(with_reducible repeat(first|refine blk_drewN ?_ _|refine blk_drew ?_|refine blk_alloc ?_ _));exact BKa3.out) hb);replace HB:=yS3 HB GEa1 GEa2 GEa3 hb;(try clear hb ho0);obtain⟨hcz36_0,hcz36_1,hfz36_0,hfz36_1⟩:=zz2 BKa1;obtain⟨Ao37,co37,rfl⟩:=Kd.V_slice HOb3.out;obtain⟨hcz38_0,hcz38_1,hfz38_0,hfz38_1⟩:=zz2 BKa3))
  refine bodyPost_ret (results_cell_row rfl _ _ gba3 113 #[.bool a1_0, .slice Ao37 tb1.length co37] (0,0) _ rfl (zP2 BKa3.out) Try.underlying113 rfl (by kernel_rfl)) rfl ?_
  exact⟨_,zE,by(with_reducible repeat(first|apply Kd.V_alloc|apply Kd.V_drewN|apply Kd.V_drew));exact Kd.V_mono (Kd.V_far (p:=⟨gba3,1,none⟩) (Kd.V_far (p:=⟨gba3,0,none⟩) (Kd.V_mono HOb3.out (fun k_ hk=>(⟨hk,hk.2.2.2⟩:_∧k_≠gba3))) (fun _ hk=>hk.2) (.bool a1_0)) (fun _ hk=>hk.2) (.slice Ao37 tb1.length co37)) (fun _ hk=>hk.1.1),zB3 HB.out GEa1.out GEa2.out GEa3.out⟩
 replace H:=zb H
 obtain⟨⟨tb5,tb8⟩,A39,H⟩:=H
 dsimp only at H
 simp only[Option.some.injEq,Prod.mk.injEq] at H
 obtain⟨rfl,rfl⟩:=H
 go_enter Try.func128,Try.ntmps128
 go_wp2_with (first|((with_reducible refine gate_dst (N:=2) rfl ?_);refine box_event ?hg (N:=2) ?hd (cs:= #[.bool a0_0, .slice A0_1 l0_1.length c0_1]) (t:=113) ?hr ?_;(case hd=>rfl);(case hg=>rfl);(case hr=>first|(go_simp;done)|(go_simp;rfl));intro gba1 hg w40 hbox hb;replace HO0_1:=yVB HO0_1 hg hb;replace HO1_1:=yVB HO1_1 hg hb;have BKa1:=zk (hbox);have GWa1:=yg hg HB;have GEa1:=yg hg HB;replace HB:=yS HB hb;clear hb hbox hg)|((with_reducible refine gate_dst (N:=3) rfl ?_);refine box_event ?hg (N:=3) ?hd (cs:= #[.bool a1_0, .slice A1_1 l1_1.length c1_1]) (t:=113) ?hr ?_;(case hd=>rfl);(case hg=>rfl);(case hr=>first|(go_simp;done)|(go_simp;rfl));intro gba2 hg w41 hbox hb;replace HO0_1:=yVB HO0_1 hg hb;replace HO1_1:=yVB HO1_1 hg hb;have BKa2:=zk (hbox);have GWa2:=yg1 hg HB GEa1;have GEa2:=yg1 hg HB GEa1;replace HB:=yS1 HB GEa1 hb;have NBa1_102:=ynl hg BKa1;have NBa2_101:=yng hg BKa1;replace BKa1:=yK BKa1 hb;clear hb hbox hg)|((with_reducible refine gate_dst (N:=4) rfl ?_);refine box_event ?hg (N:=4) ?hd (cs:= #[.bool false, .slice none 0 0]) (t:=113) ?hr ?_;(case hd=>rfl);(case hg=>rfl);(case hr=>first|(go_simp;done)|(go_simp;rfl));intro gba3 hg w42 hbox hb;replace HO0_1:=yVB HO0_1 hg hb;replace HO1_1:=yVB HO1_1 hg hb;have BKa3:=zk (hbox);have GWa3:=yg2 hg HB GEa1 GEa2;have GEa3:=yg2 hg HB GEa1 GEa2;replace HB:=yS2 HB GEa1 GEa2 hb;have NBa1_103:=ynl hg BKa1;have NBa3_101:=yng hg BKa1;replace BKa1:=yK BKa1 hb;have NBa2_103:=ynl hg BKa2;have NBa3_102:=yng hg BKa2;replace BKa2:=yK BKa2 hb;clear hb hbox hg;have hnb43:=NBa1_102.out;have hnc43:=NBa2_101.out;have hnb44:=NBa1_103.out;have hnc44:=NBa3_101.out;obtain⟨hcz45_0,hcz45_1,hfz45_0,hfz45_1⟩:=zz2 BKa1;have hnb46:=NBa2_103.out;have hnc46:=NBa3_102.out;obtain⟨hcz47_0,hcz47_1,hfz47_0,hfz47_1⟩:=zz2 BKa2)|((with_reducible refine gC 79 ?_);refine zG (some 25) Try.func79 #[.slice A0_1 l0_1.length c0_1, .slice A1_1 l1_1.length c1_1] ?_;(with_reducible refine(nat_Cmp.calls k _ _ l0_1 _ _ l1_1 tb0 _ ?side1 ?side2 ?side3 ?side4 A21.out).mono ?_);(case side1=>exact zC (Kd.V_reads' HO0_1.out).2.2);(case side2=>exact(Kd.V_reads' HO0_1.out).2.1);(case side3=>exact zC (Kd.V_reads' HO1_1.out).2.2);(case side4=>exact(Kd.V_reads' HO1_1.out).2.1);rintro e w48 ⟨rfl,hb⟩;refine⟨_,rfl,?_⟩;replace HO0_1:=yVb HO0_1 hb;replace HO1_1:=yVb HO1_1 hb;replace BKa1:=yK BKa1 hb;replace BKa2:=yK BKa2 hb;replace BKa3:=yK BKa3 hb;replace HB:=yS3 HB GEa1 GEa2 GEa3 hb;(try clear hb);(try clear hb2);(try clear hk);(try clear hi);obtain⟨hcz49_0,hcz49_1,hfz49_0,hfz49_1⟩:=zz2 BKa1;obtain⟨hcz50_0,hcz50_1,hfz50_0,hfz50_1⟩:=zz2 BKa2)|((with_reducible refine gC 137 ?_);refine zG (some 34) Try.func137 #[.slice A0_1 l0_1.length c0_1, .slice A1_1 l1_1.length c1_1] ?_;(with_reducible refine(nat_Sub.calls k _ _ l0_1 _ _ l1_1 tb5 tb8 _ ?side1 ?side2 ?side3 ?side4 A39.out).mono ?_);(case side1=>exact zC (Kd.V_reads' HO0_1.out).2.2);(case side2=>exact(Kd.V_reads' HO0_1.out).2.1);(case side3=>exact zC (Kd.V_reads' HO1_1.out).2.2);(case side4=>exact(Kd.V_reads' HO1_1.out).2.1);rintro e w51 ⟨vb6,rfl,ho0,hb⟩;refine⟨_,rfl,?_⟩;replace HO0_1:=yVb HO0_1 hb;replace HO1_1:=yVb HO1_1 hb;have HOb7:=zk (Kd.V_lower (Kd.V_mono (ok':=fun k_=>((P0_1_ k_∨P1_1_ k_)∨w.heap.size≤k_)∧k_≠gba1∧k_≠gba2∧k_≠gba3) ho0 (fun k_ hk_=>⟨(.inr (Nat.le_trans (below_size (zB3 HB.out GEa1.out GEa2.out GEa3.out)) hk_)),(Kd.freshB (g:=gba1) (o:= .cells #[.bool a0_0, .slice A0_1 l0_1.length c0_1] 113 (0,0)) (zK BKa1.out) k_ hk_),(Kd.freshB (g:=gba2) (o:= .cells #[.bool a1_0, .slice A1_1 l1_1.length c1_1] 113 (0,0)) (zK BKa2.out) k_ hk_),(Kd.freshB (g:=gba3) (o:= .cells #[.bool false, .slice none 0 0] 113 (0,0)) (zK BKa3.out) k_ hk_)⟩)) (below_size (zB3 HB.out GEa1.out GEa2.out GEa3.out)));replace BKa1:=yK BKa1 hb;replace BKa2:=yK BKa2 hb;replace BKa3:=yK BKa3 hb;replace HB:=yS3 HB GEa1 GEa2 GEa3 hb;(try clear hb ho0);obtain⟨hcz52_0,hcz52_1,hfz52_0,hfz52_1⟩:=zz2 BKa1;obtain⟨Ao53,co53,rfl⟩:=Kd.V_slice HOb7.out;obtain⟨hcz54_0,hcz54_1,hfz54_0,hfz54_1⟩:=zz2 BKa3))
 refine bodyPost_ret (results_cell_row rfl _ _ gba3 113 #[.bool a0_0, .slice Ao53 tb5.length co53] (0,0) _ rfl (zP2 BKa3.out) Try.underlying113 rfl (by kernel_rfl)) rfl ?_
 exact⟨_,zE,by(with_reducible repeat(first|apply Kd.V_alloc|apply Kd.V_drewN|apply Kd.V_drew));exact Kd.V_mono (Kd.V_far (p:=⟨gba3,1,none⟩) (Kd.V_far (p:=⟨gba3,0,none⟩) (Kd.V_mono HOb7.out (fun k_ hk=>(⟨hk,hk.2.2.2⟩:_∧k_≠gba3))) (fun _ hk=>hk.2) (.bool a0_0)) (fun _ hk=>hk.2) (.slice Ao53 tb5.length co53)) (fun _ hk=>hk.1.1),zB3 HB.out GEa1.out GEa2.out GEa3.out⟩
set_option maxHeartbeats 8000000 in
set_option maxRecDepth 100000 in
theorem nat_times.calls (k:Nat) (A0:Option Addr) (c0:Nat) (l0:List Int) (A1:Option Addr) (c1:Nat) (l1:List Int) (r:List Int) (w:World) (hr0:Kd.C (Kd.int .u32) w A0 l0.length l0) (hc0:l0.length≤c0) (hr1:Kd.C (Kd.int .u32) w A1 l1.length l1) (hc1:l1.length≤c1) (h:nat_times.f k l0 l1=some r):
 Calls Try.prog 116 #[.slice A0 l0.length c0, .slice A1 l1.length c1] w fun e w'=>∃v0_:Value,e= .returned (v0_)∧Kd.V (Kd.int .u32) 97 w' w.heap.size (fun k_=>(w.heap.size≤k_)) v0_ r∧Below w.heap.size w w':=by
 have HR0:=zk hr0
 have HC0:=zk hc0
 clear hr0 hc0
 have HR1:=zk hr1
 have HC1:=zk hc1
 clear hr1 hc1
 have HB:=zk (Below.refl w.heap.size w)
 have H:=h
 clear h
 unfold nat_times.f at H
 obtain⟨ji3,hji3⟩:∃j_:Int,(wrap64 ((l0.length:Int)+(l1.length:Int)))=j_:=⟨_,rfl⟩
 replace H:(if 0≤(ji3) then(if(ji3:Int).toNat≤70368744177664 then(nat_times.l0 k l1 (List.replicate (ji3:Int).toNat 0) l0 (l0.length:Int) 0) else(none)) else(none))=some r:=by first|(rw[hji3] at H;exact H)|(simp only[hji3] at H ⊢;exact H)
 have hji3w:(IntKind.i64.wrap ((l0.length:Int)+(l1.length:Int)))=ji3:=(i64_w _).trans hji3
 replace H:=zg H
 obtain⟨c4,H⟩:=H
 have c4b0:=eq_true c4
 have c4b1:=decide_eq_true c4
 clear c4
 replace H:=zg H
 obtain⟨c5,H⟩:=H
 have c5b0:=eq_true c5
 have c5b1:=decide_eq_true c5
 clear c5
 obtain⟨ya1,hya1⟩:∃y_:List Int,y_=(List.replicate (ji3:Int).toNat 0):=⟨_,rfl⟩
 replace H:(nat_times.l0 k l1 ya1 l0 (l0.length:Int) 0)=some r:=zY hya1 H
 have Nya1:=zk hya1
 clear hya1
 have H':=zk H
 clear H
 go_enter Try.func116,Try.ntmps116
 go_wp2_with (first|((with_reducible refine gate_dst (N:=17) rfl ?_);refine Kd.R_make (Kd.int .u32) _ 97 rfl (N:=17) rfl 29 _ _ rfl ji3 rfl rfl Try.underlying29 (.int .u32 0) 4 info97 rfl (by decide) (by omega) 0 (ok:=fun _=>True) (okp:=fun _=>True) rfl (fun _ hk=>hk) trivial zd (Nat.le_trans (Nat.mul_le_mul_right _ (zd:ji3.toNat≤70368744177664)) (by omega)) (Below.refl _ _) (Nat.le_refl _) ?_;intro va2 w6 ho7 hb hg_ hnew_;clear hg_ hnew_;(first|rw[←Nya1.out] at ho7|(simp only[Int.reduceToNat] at ho7;rw[←Nya1.out] at ho7));replace ho7:=Kd.R_newM (M:=fun k_=>(w.heap.size≤k_)) ho7 (below_size (zB HB.out)) (fun k_ h_=>h_);have HOa3:=yRl ho7 HB;replace HB:=yS HB hb;clear hb ho7))
 go_loopg [20] k (fun kq v20 w'=>∃(x5_1:List Int) (x20_1:Int),v20= .int .i64 x20_1∧Aside0 (nat_times.l0 kq l1 x5_1 l0 (l0.length:Int) x20_1=some r)∧Aside0 (kq≤k)∧Aside0 (Kd.R (Kd.int .u32) 97 w' w.heap.size (fun k_=>(w.heap.size≤k_)) va2 x5_1)∧Aside0 (Below w.heap.size w w'))
 case atStart=>exact⟨(ya1),(0),zF,H',⟨Nat.le_refl _⟩,⟨by(with_reducible repeat(first|apply Kd.R_alloc|apply Kd.R_drewN|apply Kd.R_drew));exact Kd.R_mono HOa3.out (fun _ hk=>hk.1)⟩,⟨zB HB.out⟩⟩
 clear H'
 (try clear c4);(try clear c4b0);(try clear c4b1);(try clear c5);(try clear c5b0);(try clear c5b1)
 obtain⟨x5_1,x20_1,rfl,HA,HK1,HO_5,HB⟩:=hrel
 cases gk with|zero=>exact absurd HA.out (by simp [nat_times.l0])|succ k1=>?_
 have H:=HA.out
 clear HA
 simp only[nat_times.l0] at H
 replace H:=zid H
 rcases H with⟨c8b0,H⟩|⟨c8b0,H⟩
 ·replace H:=zgd H
  obtain⟨c9b0,H⟩:=H
  replace H:=zgd H
  obtain⟨c10b0,H⟩:=H
  have H':=zk H
  clear H
  have pa7:0≤(x20_1:Int):=zd
  have qa7:x20_1<(l0.length:Int):=zd
  obtain⟨ada7,ea7,hxa7_0⟩:=Kd.at_int HR0.out x20_1 pa7 qa7
  cases ea7
  replace hxa7_0:=(HB.out.cell (World.block_lt_of_cell? w _ hxa7_0)).trans hxa7_0
  replace pa7:=eq_true pa7
  replace qa7:=eq_true qa7
  go_wp2
  go_loopg [8,27] k1 (fun kq v8 v27 w'=>∃(x5_2:List Int) (x8_2:Int) (x27_2:Int),v8= .int .u64 x8_2∧v27= .int .i64 x27_2∧Aside0 (nat_times.l1 kq l1 x5_2 x20_1 (rd l0 x20_1) x8_2 l0 (l0.length:Int) x20_1 l1 (l1.length:Int) x27_2=some r)∧Aside0 (kq≤k1)∧Aside0 (Kd.R (Kd.int .u32) 97 w' w.heap.size (fun k_=>(w.heap.size≤k_)) va2 x5_2)∧Aside0 (Below w.heap.size w w'))
  case atStart=>exact⟨(x5_1),(0),(0),zF,zF,H',⟨Nat.le_refl _⟩,⟨zR HO_5.out⟩,⟨zB HB.out⟩⟩
  clear H'
  (try clear c4);(try clear c4b0);(try clear c4b1);(try clear c5);(try clear c5b0);(try clear c5b1);(try clear c8b0);(try clear c9b0);(try clear c10b0);(try clear hxa7_0);(try clear pa7);(try clear qa7)
  obtain⟨x5_2,x8_2,x27_2,rfl,rfl,HA,HK2,HO_5,HB⟩:=hrel
  cases gk with|zero=>exact absurd HA.out (by simp [nat_times.l1])|succ k2=>?_
  have H:=HA.out
  clear HA
  simp only[nat_times.l1] at H
  replace H:=zid H
  rcases H with⟨c11b0,H⟩|⟨c11b0,H⟩
  ·replace H:=zgd H
   obtain⟨c12b0,H⟩:=H
   replace H:=zgd H
   obtain⟨c13b0,H⟩:=H
   obtain⟨ji14,hji14⟩:∃j_:Int,(wrap64 (x20_1+x27_2))=j_:=⟨_,rfl⟩
   replace H:(if 0≤(ji14) then(if(ji14)<(x5_2.length:Int) then(nat_times.l1 k2 l1 (x5_2.set ((ji14):Int).toNat ((IntKind.u64.wrap ((IntKind.u64.wrap ((IntKind.u64.wrap ((IntKind.u64.wrap ((rd l0 x20_1)))*(IntKind.u64.wrap (rd l1 x27_2))))+(IntKind.u64.wrap (rd x5_2 (ji14)))))+x8_2)) % 4294967296)) x20_1 (rd l0 x20_1) ((IntKind.u64.wrap ((IntKind.u64.wrap ((IntKind.u64.wrap ((IntKind.u64.wrap ((rd l0 x20_1)))*(IntKind.u64.wrap (rd l1 x27_2))))+(IntKind.u64.wrap (rd x5_2 (ji14)))))+x8_2)) / 4294967296) l0 (l0.length:Int) x20_1 l1 (l1.length:Int) (wrap64 (x27_2+1))) else(none)) else(none))=some r:=by first|(rw[hji14] at H;exact H)|(simp only[hji14] at H ⊢;exact H)
   have hji14w:(IntKind.i64.wrap (x20_1+x27_2))=ji14:=(i64_w _).trans hji14
   replace H:=zgd H
   obtain⟨c15b0,H⟩:=H
   replace H:=zgd H
   obtain⟨c16b0,H⟩:=H
   obtain⟨yb0,hyb0⟩:∃y_:List Int,y_=(x5_2.set ((ji14):Int).toNat ((IntKind.u64.wrap ((IntKind.u64.wrap ((IntKind.u64.wrap ((IntKind.u64.wrap ((rd l0 x20_1)))*(IntKind.u64.wrap (rd l1 x27_2))))+(IntKind.u64.wrap (rd x5_2 (ji14)))))+x8_2)) % 4294967296)):=⟨_,rfl⟩
   replace H:(nat_times.l1 k2 l1 yb0 x20_1 (rd l0 x20_1) ((IntKind.u64.wrap ((IntKind.u64.wrap ((IntKind.u64.wrap ((IntKind.u64.wrap ((rd l0 x20_1)))*(IntKind.u64.wrap (rd l1 x27_2))))+(IntKind.u64.wrap (rd x5_2 (ji14)))))+x8_2)) / 4294967296) l0 (l0.length:Int) x20_1 l1 (l1.length:Int) (wrap64 (x27_2+1)))=some r:=zY hyb0 H
   have Nyb0:=zk hyb0
   clear hyb0
   have H':=zk H
   clear H
   have pa8:0≤(x27_2:Int):=zd
   have qa8:x27_2<(l1.length:Int):=zd
   obtain⟨ada8,ea8,hxa8_0⟩:=Kd.at_int HR1.out x27_2 pa8 qa8
   cases ea8
   replace hxa8_0:=(HB.out.cell (World.block_lt_of_cell? w _ hxa8_0)).trans hxa8_0
   replace pa8:=eq_true pa8
   replace qa8:=eq_true qa8
   obtain⟨Ao18,co18,rfl⟩:=Kd.R_slice HO_5.out
   have pa9:0≤((ji14):Int):=zd
   have qa9:(ji14)<(x5_2.length:Int):=zd
   obtain⟨ada9,ea9,hxa9_0⟩:=Kd.at_int (Kd.R_reads' HO_5.out).2.2 (ji14) pa9 qa9
   cases ea9
   replace pa9:=eq_true pa9
   replace qa9:=eq_true qa9
   have p17:0≤((ji14):Int):=zd
   have q17:((ji14):Int)<((x5_2.length:Int):Int):=zd
   obtain⟨go17,co17,eo17,gb17,gl17,cl17,HG17⟩:=Kd.R_form HO_5.out (by omega)
   (first|cases eo17|(injection eo17 with ea_ en_ ec_;(first|subst ea_|(injection ea_ with ea_;subst ea_));subst ec_;clear en_))
   have GB17:=zk gb17
   have GG17:=zk HG17
   clear gb17 gl17 HG17
   (first|simp only[add_plain] at hxa9_0|skip)
   obtain⟨hx17_0,hf17_0⟩:=Kd.R_celln 0 HO_5.out ((ji14):Int) p17 q17
   replace p17:=eq_true p17
   replace q17:=eq_true q17
   have HP19:=Kd.R_putg HO_5.out ((ji14):Int) ((IntKind.u64.wrap ((IntKind.u64.wrap ((IntKind.u64.wrap ((IntKind.u64.wrap ((rd l0 x20_1)))*(IntKind.u64.wrap (rd l1 x27_2))))+(IntKind.u64.wrap (rd x5_2 (ji14)))))+x8_2)) % 4294967296)
   go_wp2_with (first|((with_reducible refine gate_store (t:=97) (p:=53) rfl ?_);refine store_event (t:=97) (p:=53) (v:=?vo_w20) (w1:=(wr.setCell ⟨go17,((ji14):Int).toNat,none⟩ (.int .u32 ((IntKind.u64.wrap ((IntKind.u64.wrap ((IntKind.u64.wrap ((IntKind.u64.wrap ((rd l0 x20_1)))*(IntKind.u64.wrap (rd l1 x27_2))))+(IntKind.u64.wrap (rd x5_2 (ji14)))))+x8_2)) % 4294967296)))) ?hg ?ho ?hn ?hr ?_;(case ho=>rfl);(case hg=>rfl);(case hn=>rfl);(case hr=>first|(go_simp;done)|(go_simp;rfl));intro w20 hw;have hg:wr.grownBy w20 (some go17):=(by rw[hw];exact HP19.2);have hp_:Kd.R (Kd.int .u32) 97 w20 w.heap.size (fun k_=>(w.heap.size≤k_)) (.slice (some ⟨go17,0,none⟩) x5_2.length co18) yb0:=(by rw[hw,Nyb0.out];exact HP19.1);clear HP19;replace HO_5:=zk (hp_);replace HB:=zk ((by rw[hw];exact below_set (HB.out) GB17.out:Below w.heap.size w w20));clear hg hw hp_))
   go_roundg k2
   case measure=>have:=HK1.out;have:=HK2.out;omega
   case rel=>exact⟨(yb0),((IntKind.u64.wrap ((IntKind.u64.wrap ((IntKind.u64.wrap ((IntKind.u64.wrap ((rd l0 x20_1)))*(IntKind.u64.wrap (rd l1 x27_2))))+(IntKind.u64.wrap (rd x5_2 (ji14)))))+x8_2)) / 4294967296),(wrap64 (x27_2+1)),(by first|rfl|(simp;done)|(simp only[←hji14]<;>(first|rfl|simp))|(simp [*];done)),zF,H',⟨zo2 HK1 HK2⟩,⟨zR HO_5.out⟩,⟨zB HB.out⟩⟩
  obtain⟨ji21,hji21⟩:∃j_:Int,(wrap64 (x20_1+(l1.length:Int)))=j_:=⟨_,rfl⟩
  replace H:(if 0≤(ji21) then(if(ji21)<(x5_2.length:Int) then(nat_times.l0 k2 l1 (x5_2.set ((ji21):Int).toNat ((x8_2) % 4294967296)) l0 (l0.length:Int) (wrap64 (x20_1+1))) else(none)) else(none))=some r:=by first|(rw[hji21] at H;exact H)|(simp only[hji21] at H ⊢;exact H)
  have hji21w:(IntKind.i64.wrap (x20_1+(l1.length:Int)))=ji21:=(i64_w _).trans hji21
  replace H:=zgd H
  obtain⟨c22b0,H⟩:=H
  replace H:=zgd H
  obtain⟨c23b0,H⟩:=H
  obtain⟨yb1,hyb1⟩:∃y_:List Int,y_=(x5_2.set ((ji21):Int).toNat ((x8_2) % 4294967296)):=⟨_,rfl⟩
  replace H:(nat_times.l0 k2 l1 yb1 l0 (l0.length:Int) (wrap64 (x20_1+1)))=some r:=zY hyb1 H
  have Nyb1:=zk hyb1
  clear hyb1
  have H':=zk H
  clear H
  have p24:0≤((ji21):Int):=zd
  have q24:((ji21):Int)<((x5_2.length:Int):Int):=zd
  obtain⟨go24,co24,eo24,gb24,gl24,cl24,HG24⟩:=Kd.R_form HO_5.out (by omega)
  (first|cases eo24|(injection eo24 with ea_ en_ ec_;(first|subst ea_|(injection ea_ with ea_;subst ea_));subst ec_;clear en_))
  have GB24:=zk gb24
  have GG24:=zk HG24
  clear gb24 gl24 HG24
  obtain⟨hx24_0,hf24_0⟩:=Kd.R_celln 0 HO_5.out ((ji21):Int) p24 q24
  replace p24:=eq_true p24
  replace q24:=eq_true q24
  have HP25:=Kd.R_putg HO_5.out ((ji21):Int) ((x8_2) % 4294967296)
  go_wp2_with (first|((with_reducible refine gate_store (t:=97) (p:=64) rfl ?_);refine store_event (t:=97) (p:=64) (v:=?vo_w26) (w1:=(wr.setCell ⟨go24,((ji21):Int).toNat,none⟩ (.int .u32 ((x8_2) % 4294967296)))) ?hg ?ho ?hn ?hr ?_;(case ho=>rfl);(case hg=>rfl);(case hn=>rfl);(case hr=>first|(go_simp;done)|(go_simp;rfl));intro w26 hw;have hg:wr.grownBy w26 (some go24):=(by rw[hw];exact HP25.2);have hp_:Kd.R (Kd.int .u32) 97 w26 w.heap.size (fun k_=>(w.heap.size≤k_)) (.slice (some ⟨go24,0,none⟩) x5_2.length co24) yb1:=(by rw[hw,Nyb1.out];exact HP25.1);clear HP25;replace HO_5:=zk (hp_);replace HB:=zk ((by rw[hw];exact below_set (HB.out) GB24.out:Below w.heap.size w w26));clear hg hw hp_))
  go_roundg k2
  case measure=>have:=HK1.out;have:=HK2.out;omega
  case rel=>exact⟨(yb1),(wrap64 (x20_1+1)),zF,H',⟨zo2 HK1 HK2⟩,⟨zR HO_5.out⟩,⟨zB HB.out⟩⟩
 replace H:=zb H
 obtain⟨ta4,A27,H⟩:=H
 obtain rfl:=Option.some.inj H
 obtain⟨Ao28,co28,rfl⟩:=Kd.R_slice HO_5.out
 go_wp2_with (first|((with_reducible refine gC 118 ?_);refine zG (some 67) Try.func118 #[.slice Ao28 x5_1.length co28] ?_;(with_reducible refine(nat_short.calls k1 (fun k_=>some k_=(.slice Ao28 x5_1.length co28:Value).ownBlock) _ _ x5_1 ta4 _ ?side1 A27.out).mono ?_);(case side1=>exact Kd.R_V (Kd.R_tight rfl (HO_5.out)));rintro e w29 ⟨va5,rfl,ho0,hb⟩;refine⟨_,rfl,?_⟩;have HOa6:=zk (Kd.V_lower (Kd.V_mono (ok':=fun k_=>(w.heap.size≤k_)) ho0 (fun k_ hk_=>Or.elim hk_ (fun hs_=>((HO_5.out).1 k_ hs_.symm)) (fun hn_=>(Nat.le_trans (below_size (zB HB.out)) hn_)))) (below_size (zB HB.out)));replace HO_5:=yRb HO_5 hb;replace HB:=yS HB hb;(try clear hb ho0)))
 go_ret
 exact⟨_,by first|rfl|(simp [errW_none,errW_some]<;>rfl)|(simp only[←hji3];first|rfl|(simp [errW_none,errW_some]<;>rfl))|(simp [*,errW_none,errW_some]<;>rfl),zV HOa6.out,zB HB.out⟩
set_option maxHeartbeats 8000000 in
set_option maxRecDepth 100000 in
theorem nat_Mul.calls (k:Nat) (A0:Option Addr) (c0:Nat) (l0:List (List Int)) (r:List Int) (w:World) (hr0:Kd.C (Kd.slice 97 (Kd.int .u32)) w A0 l0.length l0) (hc0:l0.length≤c0) (h:nat_Mul.f k l0=some r):
 Calls Try.prog 74 #[.slice A0 l0.length c0] w fun e w'=>∃v0_:Value,e= .returned (v0_)∧Kd.R (Kd.int .u32) 97 w' w.heap.size (fun _=>True) v0_ r∧Below w.heap.size w w':=by
 have HR0:=zk hr0
 have HC0:=zk hc0
 clear hr0 hc0
 have HB:=zk (Below.refl w.heap.size w)
 have H:=h
 clear h
 unfold nat_Mul.f at H
 obtain⟨ya1,hya1⟩:∃y_:List Int,y_=(([1]:List Int)):=⟨_,rfl⟩
 replace H:(nat_Mul.l0 k ya1 l0 (l0.length:Int) 0)=some r:=zY hya1 H
 have Nya1:=zk hya1
 clear hya1
 have H':=zk H
 clear H
 go_enter Try.func74,Try.ntmps74
 go_wp2_with (first|((with_reducible refine gate_dst (N:=6) rfl ?_);refine Kd.R_lit (Kd.int .u32) _ 97 ?hg (N:=6) ?hd (xs:=([1]:List Int)) (inner:=[.int .u32 1]) (ok:=fun _=>True) (okp:=fun _=>True) ?hr ?hp (fun _ hk=>hk) trivial (Below.refl _ _) (Nat.le_refl _) (by simp) ?_;(case hd=>rfl);(case hg=>rfl);(case hr=>first|(go_simp;done)|(go_simp;rfl));(case hp=>exact(Reps.one (show Kd.M (Kd.int .u32) _ _ _ 1 [.int .u32 1] from rfl) (Reps.none _ _)));intro va2 w2 ho3 hb hg_ hnew_;clear hg_ hnew_;(first|rw[←Nya1.out] at ho3|(simp only[Int.reduceToNat] at ho3;rw[←Nya1.out] at ho3));have HOa3:=yRl ho3 HB;replace HB:=yS HB hb;clear hb ho3))
 go_loopg [3,9] k (fun kq v3 v9 w'=>∃(x3_1:List Int) (x9_1:Int),v9= .int .i64 x9_1∧Aside0 (nat_Mul.l0 kq x3_1 l0 (l0.length:Int) x9_1=some r)∧Aside0 (kq≤k)∧Aside0 (Kd.V (Kd.int .u32) 97 w' w.heap.size (fun _=>True) v3 x3_1)∧Aside0 (Below w.heap.size w w'))
 case atStart=>exact⟨(ya1),(0),zF,H',⟨Nat.le_refl _⟩,⟨Kd.R_V (zR HOa3.out)⟩,⟨zB HB.out⟩⟩
 clear H'
 obtain⟨x3_1,x9_1,rfl,HA,HK1,HO_3,HB⟩:=hrel
 cases gk with|zero=>exact absurd HA.out (by simp [nat_Mul.l0])|succ k1=>?_
 have H:=HA.out
 clear HA
 simp only[nat_Mul.l0] at H
 replace H:=zid H
 rcases H with⟨c4b0,H⟩|⟨c4b0,H⟩
 ·replace H:=zgd H
  obtain⟨c5b0,H⟩:=H
  replace H:=zgd H
  obtain⟨c6b0,H⟩:=H
  replace H:=zb H
  obtain⟨ta5,A7,H⟩:=H
  replace H:=zb H
  obtain⟨ta8,A8,H⟩:=H
  have H':=zk H
  clear H
  have pa4:0≤(x9_1:Int):=zd
  have qa4:x9_1<(l0.length:Int):=zd
  obtain⟨ada4,Aa4_0,ca4_0,ea4,hxa4_0,hla4_0,hia4_0⟩:=at_L3 HR0.out x9_1 pa4 qa4
  cases ea4
  replace hxa4_0:=(HB.out.cell (World.block_lt_of_cell? w _ hxa4_0)).trans hxa4_0
  have HRa4_0:=zk hia4_0
  have HCa4_0:=zk hla4_0
  clear hia4_0 hla4_0
  replace pa4:=eq_true pa4
  replace qa4:=eq_true qa4
  go_wp2_with (first|((with_reducible refine gC 118 ?_);refine zG (some 15) Try.func118 #[.slice Aa4_0 (rd_L3 l0 x9_1).length ca4_0] ?_;(with_reducible refine(nat_short.calls k1 (fun k_=>k_<w.heap.size) _ _ (rd_L3 l0 x9_1) ta5 _ ?side1 A7.out).mono ?_);(case side1=>exact Kd.V_mk HCa4_0.out (Kd.F_below (Kd.C_F (Kd.heap_int .u32) HRa4_0.out) (zB HB.out)));rintro e w9 ⟨va6,rfl,ho0,hb⟩;refine⟨_,rfl,?_⟩;replace HO_3:=yVb HO_3 hb;have HOa7:=yVm ho0 HB;replace HB:=yS HB hb;(try clear hb ho0);obtain⟨Ao10,co10,rfl⟩:=Kd.V_slice HO_3.out;obtain⟨Ao11,co11,rfl⟩:=Kd.V_slice HOa7.out)|((with_reducible refine gC 116 ?_);refine zG (some 16) Try.func116 #[.slice Ao10 x3_1.length co10, .slice Ao11 ta5.length co11] ?_;(with_reducible refine(nat_times.calls k1 _ _ x3_1 _ _ ta5 ta8 _ ?side1 ?side2 ?side3 ?side4 A8.out).mono ?_);(case side1=>exact zC (Kd.V_reads' HO_3.out).2.2);(case side2=>exact(Kd.V_reads' HO_3.out).2.1);(case side3=>exact zC (Kd.V_reads' HOa7.out).2.2);(case side4=>exact(Kd.V_reads' HOa7.out).2.1);rintro e w12 ⟨va9,rfl,ho0,hb⟩;refine⟨_,rfl,?_⟩;replace HO_3:=yVb HO_3 hb;replace HOa7:=yVb HOa7 hb;have HOb0:=yVm ho0 HB;replace HB:=yS HB hb;(try clear hb ho0)))
  go_roundg k1
  case measure=>have:=HK1.out;omega
  case rel=>exact⟨(ta8),(wrap64 (x9_1+1)),zF,H',⟨zo1 HK1⟩,⟨zV HOb0.out⟩,⟨zB HB.out⟩⟩
 replace H:=zb H
 obtain⟨tb1,A13,H⟩:=H
 obtain rfl:=Option.some.inj H
 obtain⟨Ao14,co14,rfl⟩:=Kd.V_slice HO_3.out
 go_wp2_with (first|((with_reducible refine gC 103 ?_);refine zG (some 19) Try.func103 #[.slice Ao14 x3_1.length co14] ?_;(with_reducible refine(nat_Trim.calls k1 _ _ x3_1 tb1 _ ?side1 ?side2 A13.out).mono ?_);(case side1=>exact zC (Kd.V_reads' HO_3.out).2.2);(case side2=>exact(Kd.V_reads' HO_3.out).2.1);rintro e w15 ⟨vb2,rfl,ho0,hb⟩;refine⟨_,rfl,?_⟩;replace HO_3:=yVe HO_3 ho0 hb;have HOb3:=yRl ho0 HB;replace HB:=yS HB hb;(try clear hb ho0)))
 go_ret
 exact⟨_,zE,zR HOb3.out,zB HB.out⟩
def mw_times.T1:Bool×List (List Nat×List Nat):=(true,[([],[]),([0],[0]),([],[]),([2],[2]),([1,3],[1,3]),([],[]),([5],[5]),([],[]),([7],[7]),([6,8],[6,8]),([9],[9]),([4,10],[4,10]),([11,10,0,1,2,3,4,5,6,7,8,9,10,11],[11])])
def mw_times.B1:List Nat:=[0,1,0,4,15,0,32,0,128,480,992,2047,4095]
theorem mw_times.tab1:rtab .any (opsOf Try.f126 1)=mw_times.T1:=by kernel_rfl
theorem mw_times.bits1:waitsOk mw_times.T1.2 mw_times.B1=true:=by kernel_rfl
set_option maxHeartbeats 8000000 in
set_option maxRecDepth 100000 in
theorem mw_times.calls (k:Nat) (a0_0:Bool) (P0_1_:Nat→Prop) (A0_1:Option Addr) (c0_1:Nat) (l0_1:List Int) (a1_0:Bool) (P1_1_:Nat→Prop) (A1_1:Option Addr) (c1_1:Nat) (l1_1:List Int) (r1:Bool) (r2:List Int) (w:World) (hs0_1:Kd.V (Kd.int .u32) 97 w w.heap.size (fun k_=>P0_1_ k_) (.slice A0_1 l0_1.length c0_1) l0_1) (hs1_1:Kd.V (Kd.int .u32) 97 w w.heap.size (fun k_=>P1_1_ k_) (.slice A1_1 l1_1.length c1_1) l1_1) (h:mw_times.f k a0_0 l0_1 a1_0 l1_1=some (r1,r2)):
 Calls Try.prog 126 #[.agg #[.bool a0_0, .slice A0_1 l0_1.length c0_1], .agg #[.bool a1_0, .slice A1_1 l1_1.length c1_1]] w fun e w'=>∃v1_:Value,e= .returned (.agg #[.bool r1,v1_])∧Kd.R (Kd.int .u32) 97 w' w.heap.size (fun k_=>(w.heap.size≤k_)) v1_ r2∧Below w.heap.size w w':=by
 have hu113:=Try.underlying113
 have HO0_1:=zk (show Kd.V (Kd.int .u32) 97 w w.heap.size (fun k_=>((P0_1_ k_∨P1_1_ k_)∨w.heap.size≤k_)) (.slice A0_1 l0_1.length c0_1) l0_1 from Kd.V_mono hs0_1 (fun k_ hk=> .inl (.inl hk)))
 have HO1_1:=zk (show Kd.V (Kd.int .u32) 97 w w.heap.size (fun k_=>((P0_1_ k_∨P1_1_ k_)∨w.heap.size≤k_)) (.slice A1_1 l1_1.length c1_1) l1_1 from Kd.V_mono hs1_1 (fun k_ hk=> .inl (.inr hk)))
 have HB:=zk (Below.refl w.heap.size w)
 have H:=h
 clear h
 unfold mw_times.f at H
 obtain⟨ya4,hya4⟩:∃y_:List (List Int),y_=(([l0_1,l1_1]:List (List Int))):=⟨_,rfl⟩
 replace H:((nat_Mul.f k ya4).bind fun ta7=>(some ((a0_0 != a1_0),ta7)))=some (r1,r2):=zY hya4 H
 have Nya4:=zk hya4
 clear hya4
 replace H:=zb H
 obtain⟨ta7,A3,H⟩:=H
 simp only[Option.some.injEq,Prod.mk.injEq] at H
 obtain⟨rfl,rfl⟩:=H
 go_enter Try.func126,Try.ntmps126
 try go_wp2_with (first|((with_reducible refine gate_dst (N:=2) rfl ?_);refine box_event ?hg (N:=2) ?hd (cs:= #[.bool a0_0, .slice A0_1 l0_1.length c0_1]) (t:=113) ?hr ?_;(case hd=>rfl);(case hg=>rfl);(case hr=>first|(go_simp;done)|(go_simp;rfl));intro gba1 hg w4 hbox hb;replace HO0_1:=yVB HO0_1 hg hb;replace HO1_1:=yVB HO1_1 hg hb;have BKa1:=zk (hbox);have GWa1:=yg hg HB;have GEa1:=yg hg HB;replace HB:=yS HB hb;clear hb hbox hg)|((with_reducible refine gate_dst (N:=3) rfl ?_);refine box_event ?hg (N:=3) ?hd (cs:= #[.bool a1_0, .slice A1_1 l1_1.length c1_1]) (t:=113) ?hr ?_;(case hd=>rfl);(case hg=>rfl);(case hr=>first|(go_simp;done)|(go_simp;rfl));intro gba2 hg w5 hbox hb;replace HO0_1:=yVB HO0_1 hg hb;replace HO1_1:=yVB HO1_1 hg hb;have BKa2:=zk (hbox);have GWa2:=yg1 hg HB GEa1;have GEa2:=yg1 hg HB GEa1;replace HB:=yS1 HB GEa1 hb;have NBa1_102:=ynl hg BKa1;have NBa2_101:=yng hg BKa1;replace BKa1:=yK BKa1 hb;clear hb hbox hg)|((with_reducible refine gate_dst (N:=4) rfl ?_);refine box_event ?hg (N:=4) ?hd (cs:= #[.bool false, .slice none 0 0]) (t:=113) ?hr ?_;(case hd=>rfl);(case hg=>rfl);(case hr=>first|(go_simp;done)|(go_simp;rfl));intro gba3 hg w6 hbox hb;replace HO0_1:=yVB HO0_1 hg hb;replace HO1_1:=yVB HO1_1 hg hb;have BKa3:=zk (hbox);have GWa3:=yg2 hg HB GEa1 GEa2;have GEa3:=yg2 hg HB GEa1 GEa2;replace HB:=yS2 HB GEa1 GEa2 hb;have NBa1_103:=ynl hg BKa1;have NBa3_101:=yng hg BKa1;replace BKa1:=yK BKa1 hb;have NBa2_103:=ynl hg BKa2;have NBa3_102:=yng hg BKa2;replace BKa2:=yK BKa2 hb;clear hb hbox hg))
 replace HO0_1:=zk (Kd.V_drew HO0_1.out)
 replace HO1_1:=zk (Kd.V_drew HO1_1.out)
 replace BKa1:=zk (blk_drew BKa1.out)
 replace BKa2:=zk (blk_drew BKa2.out)
 replace BKa3:=zk (blk_drew BKa3.out)
 replace HB:=zk (below_drew1 HB.out)
 refine start_ (n:=13) (S:=fun w'=>w'.cell? ⟨gba1,0,none⟩=some (.bool a0_0)∧w'.cell? ⟨gba1,1,none⟩=some (.slice A0_1 l0_1.length c0_1)∧w'.cell? ⟨gba2,0,none⟩=some (.bool a1_0)∧w'.cell? ⟨gba2,1,none⟩=some (.slice A1_1 l1_1.length c1_1)) (ds:=[]) #[false,false,false,false,false,false,false,false,false,false,false,false,false] (by kernel_rfl) rfl rfl ⟨(blk_cell BKa1.out 0).trans rfl,(blk_cell BKa1.out 1).trans rfl,(blk_cell BKa2.out 0).trans rfl,(blk_cell BKa2.out 1).trans rfl⟩ (fun hHeld=>?_);refine with_tabW mw_times.tab1 mw_times.bits1 (fun HT_ HW_=>?_)
 generalize w6.drew=w7 at HO0_1 HO1_1 BKa1 BKa2 BKa3 HB hHeld ⊢
 refine zp (i:=0) (N:=some 5) HT_ ?_
 refine zp (i:=2) (N:=some 7) HT_ ?_
 refine zp (i:=5) (N:=some 10) HT_ ?_
 refine zp (i:=7) (N:=some 12) HT_ ?_
 refine take_ (i:=1) (N:=some 6) (v:=?_) (a':=?_) #[true,true,true,false,false,true,false,true,false,false,false,false,false] rfl rfl (take_ofW HT_.out HW_.out (by kernel_rfl)) (fun _ _ _ h=>h) (Or.inl ⟨by rfl,?_⟩) hHeld ?_ ?_
 rotate_left
 ·rintro w' ⟨s0,s1,s2,s3⟩
  go_simp
  with_reducible rfl
 rotate_left
 ·simp only[Act.put,List.setIfInBounds_toArray,List.set_cons_zero,List.set_cons_succ,i64_w,i32_w]
  rfl
 refine take_ (i:=3) (N:=some 8) (v:=?_) (a':=?_) #[true,true,true,true,false,true,false,true,false,false,false,false,false] rfl rfl (take_ofW HT_.out HW_.out (by kernel_rfl)) (fun _ _ _ h=>h) (Or.inl ⟨by rfl,?_⟩) hHeld ?_ ?_
 rotate_left
 ·rintro w' ⟨s0,s1,s2,s3⟩
  go_simp
  with_reducible rfl
 rotate_left
 ·simp only[Act.put,List.setIfInBounds_toArray,List.set_cons_zero,List.set_cons_succ,i64_w,i32_w]
  rfl
 refine zp (i:=4) (N:=some 9) HT_ ?_
 refine take_ (i:=6) (N:=some 11) (v:=?_) (a':=?_) #[true,true,true,true,true,true,true,true,false,false,false,false,false] rfl rfl (take_ofW HT_.out HW_.out (by kernel_rfl)) (fun _ _ _ h=>h) (Or.inl ⟨by rfl,?_⟩) hHeld ?_ ?_
 rotate_left
 ·rintro w' ⟨s0,s1,s2,s3⟩
  go_simp
  with_reducible rfl
 rotate_left
 ·simp only[Act.put,List.setIfInBounds_toArray,List.set_cons_zero,List.set_cons_succ,i64_w,i32_w]
  rfl
 refine take_ (i:=8) (N:=some 13) (v:=?_) (a':=?_) #[true,true,true,true,true,true,true,true,true,false,false,false,false] rfl rfl (take_ofW HT_.out HW_.out (by kernel_rfl)) (fun _ _ _ h=>h) (Or.inl ⟨by rfl,?_⟩) hHeld ?_ ?_
 rotate_left
 ·rintro w' ⟨s0,s1,s2,s3⟩
  go_simp
  with_reducible rfl
 rotate_left
 ·simp only[Act.put,List.setIfInBounds_toArray,List.set_cons_zero,List.set_cons_succ,i64_w,i32_w]
  rfl
 refine one_ (i:=9) (N:=some 14) #[true,true,true,true,true,true,true,true,true,true,false,false,false] rfl rfl (one_of HT_.out (by kernel_rfl)) (by decide) (fun K hK=>?_)
 refine Kd.N_lit_step (Kd.slice 97 (Kd.int .u32)) _ 29 ?hg (N':=14) ?hd (xs:=([l0_1,l1_1]:List (List Int))) (inner:=[.slice A0_1 l0_1.length c0_1, .slice A1_1 l1_1.length c1_1]) (ok:=(fun k_=>((P0_1_ k_∨P1_1_ k_)∨w.heap.size≤k_)∧k_≠gba1∧k_≠gba2∧k_≠gba3)) (okp:=(fun k_=>((P0_1_ k_∨P1_1_ k_)∨w.heap.size≤k_)∧k_≠gba1∧k_≠gba2∧k_≠gba3)) ?hr ?hp (fun _ hk=>hk) ((show ∀k_,w7.heap.size≤k_→(fun k_=>((P0_1_ k_∨P1_1_ k_)∨w.heap.size≤k_)∧k_≠gba1∧k_≠gba2∧k_≠gba3) k_ from fun k_ hk=>⟨(.inr (Nat.le_trans (below_size (zB3 HB.out GEa1.out GEa2.out GEa3.out)) hk)),Kd.freshB (g:=gba1) (o:= .cells #[.bool a0_0, .slice A0_1 l0_1.length c0_1] 113 (0,0)) (zK BKa1.out) k_ hk,Kd.freshB (g:=gba2) (o:= .cells #[.bool a1_0, .slice A1_1 l1_1.length c1_1] 113 (0,0)) (zK BKa2.out) k_ hk,Kd.freshB (g:=gba3) (o:= .cells #[.bool false, .slice none 0 0] 113 (0,0)) (zK BKa3.out) k_ hk⟩) _ (Nat.le_refl _)) (Below.refl _ _) (Nat.le_refl _) (by simp) ?_;(case hd=>rfl);(case hg=>rfl);(case hr=>first|(go_simp;done)|(go_simp;rfl));(case hp=>exact(Reps.one (show Kd.FK (Kd.slice 97 (Kd.int .u32)) _ _ l0_1 [.slice A0_1 l0_1.length c0_1] from(Kd.FK_slice_mk (Kd.V_reads' (Kd.V_mono (ok':=(fun k_=>((P0_1_ k_∨P1_1_ k_)∨w.heap.size≤k_)∧k_≠gba1∧k_≠gba2∧k_≠gba3)) (HO0_1.out) (fun k_ hk=>by exact⟨hk.1.1.1,⟨hk.1.1.2,⟨hk.1.2,hk.2⟩⟩⟩))).2.1 (Kd.V_F (Kd.V_mono (ok':=(fun k_=>((P0_1_ k_∨P1_1_ k_)∨w.heap.size≤k_)∧k_≠gba1∧k_≠gba2∧k_≠gba3)) (HO0_1.out) (fun k_ hk=>by exact⟨hk.1.1.1,⟨hk.1.1.2,⟨hk.1.2,hk.2⟩⟩⟩))))) (Reps.one (show Kd.FK (Kd.slice 97 (Kd.int .u32)) _ _ l1_1 [.slice A1_1 l1_1.length c1_1] from(Kd.FK_slice_mk (Kd.V_reads' (Kd.V_mono (ok':=(fun k_=>((P0_1_ k_∨P1_1_ k_)∨w.heap.size≤k_)∧k_≠gba1∧k_≠gba2∧k_≠gba3)) (HO1_1.out) (fun k_ hk=>by exact⟨hk.1.1.1,⟨hk.1.1.2,⟨hk.1.2,hk.2⟩⟩⟩))).2.1 (Kd.V_F (Kd.V_mono (ok':=(fun k_=>((P0_1_ k_∨P1_1_ k_)∨w.heap.size≤k_)∧k_≠gba1∧k_≠gba2∧k_≠gba3)) (HO1_1.out) (fun k_ hk=>by exact⟨hk.1.1.1,⟨hk.1.1.2,⟨hk.1.2,hk.2⟩⟩⟩))))) (Reps.none _ _))))
 intro va5 w8 ho9 hb hg_ hnew_
 clear hg_ hnew_
 (first|rw[←Nya4.out] at ho9|(simp only[Int.reduceToNat] at ho9;rw[←Nya4.out] at ho9))
 replace HO0_1:=zk (Kd.V_elder' (zV HO0_1.out) (Kd.N_base ho9) hb)
 replace HO1_1:=zk (Kd.V_elder' (zV HO1_1.out) (Kd.N_base ho9) hb)
 have HOa6:=zk (Kd.N_lower ho9 (below_size (zB3 HB.out GEa1.out GEa2.out GEa3.out)))
 replace BKa1:=yK BKa1 hb
 replace BKa2:=yK BKa2 hb
 replace BKa3:=yK BKa3 hb
 replace HB:=yS3 HB GEa1 GEa2 GEa3 hb
 clear hb ho9
 obtain⟨Ao10,co10,eo10⟩:=Kd.N_slice HOa6.out
 (first|subst eo10|(injection eo10 with f1_ f2_ f3_;have f4_:=f1_.symm;have f5_:=f3_.symm;clear f1_ f2_ f3_;subst f4_;subst f5_))
 refine hK.out _ _ ⟨(blk_cell BKa1.out 0).trans rfl,(blk_cell BKa1.out 1).trans rfl,(blk_cell BKa2.out 0).trans rfl,(blk_cell BKa2.out 1).trans rfl⟩ (fun hHeld=>?_)
 clear hK K
 refine norm_ (a':=?_) ?_ ?_
 rotate_left
 ·show Act.put _ (some 14) _=_
  simp only[Act.put,List.setIfInBounds_toArray,List.set_cons_zero,List.set_cons_succ,i64_w,i32_w]
  rfl
 refine one_ (i:=10) (N:=some 15) #[true,true,true,true,true,true,true,true,true,true,true,false,false] rfl rfl (one_of HT_.out (by kernel_rfl)) (by decide) (fun K hK=>?_)
 refine goes_ Try.func74 (by kernel_rfl) rfl #[.slice Ao10 ya4.length co10] (by rfl) rfl rfl (by(try simp only[List.map_toArray,List.map_cons,List.map_nil]);first|done|rfl|(simp only[List.length_drop,List.length_take];rfl)) ?_
 with_reducible refine(nat_Mul.calls k _ _ ya4 ta7 _ ?side1 ?side2 A3.out).mono ?_
 (case side1=>exact zC (Kd.N_reads' HOa6.out).2.2)
 (case side2=>exact(Kd.N_reads' HOa6.out).2.1)
 rintro e w11 ⟨va8,rfl,ho0,hb⟩
 refine⟨_,rfl,?_⟩
 replace HO0_1:=yVe HO0_1 ho0 hb
 replace HO1_1:=yVe HO1_1 ho0 hb
 replace HOa6:=yNe HOa6 ho0 hb
 replace ho0:=Kd.R_newM (M:=fun k_=>(w.heap.size≤k_)) ho0 (below_size (zB3 HB.out GEa1.out GEa2.out GEa3.out)) (fun k_ h_=>h_)
 have HOa9:=yRl3 ho0 HB GEa1 GEa2 GEa3
 replace BKa1:=yK BKa1 hb
 replace BKa2:=yK BKa2 hb
 replace BKa3:=yK BKa3 hb
 replace HB:=yS3 HB GEa1 GEa2 GEa3 hb
 (try clear hb)
 (try clear ho0)
 obtain⟨Ao12,co12,eo12⟩:=Kd.R_slice HOa9.out
 (first|subst eo12|(injection eo12 with f1_ f2_ f3_;have f4_:=f1_.symm;have f5_:=f3_.symm;clear f1_ f2_ f3_;subst f4_;subst f5_))
 refine hK.out _ _ ⟨(blk_cell BKa1.out 0).trans rfl,(blk_cell BKa1.out 1).trans rfl,(blk_cell BKa2.out 0).trans rfl,(blk_cell BKa2.out 1).trans rfl⟩ (fun hHeld=>?_)
 clear hK K
 refine norm_ (a':=?_) ?_ ?_
 rotate_left
 ·show Act.put _ (some 15) _=_
  simp only[Act.put,List.setIfInBounds_toArray,List.set_cons_zero,List.set_cons_succ,i64_w,i32_w]
  rfl
 refine zp (i:=11) (N:=some 16) HT_ ?_
 refine one_ (i:=12) (N:=none) #[true,true,true,true,true,true,true,true,true,true,true,true,true] rfl rfl (one_of HT_.out (by kernel_rfl)) (by decide) (fun K hK=>?_)
 have hs13:w11.cell? ⟨gba3,0,none⟩=some (.bool false):=(blk_cell BKa3.out 0).trans rfl
 have hfs13:=blk_frozen BKa3.out 0
 have hns13_0:=NBa1_103.out
 have hns13_1:=NBa2_103.out
 have hms13_0:=NBa3_101.out
 have hms13_1:=NBa3_102.out
 have hs14:w11.cell? ⟨gba3,1,none⟩=some (.slice none 0 0):=(blk_cell BKa3.out 1).trans rfl
 have hfs14:=blk_frozen BKa3.out 1
 have hns14_0:=NBa1_103.out
 have hns14_1:=NBa2_103.out
 have hms14_0:=NBa3_101.out
 have hms14_1:=NBa3_102.out
 refine skip_ (w1:=?_) (by rfl) rfl ?_ ?_
 rotate_left
 ·go_simp
  rfl
 refine hK.out _ _ ⟨((cell_far (p:=⟨gba3,_,none⟩) NBa1_103.out _).trans (((cell_far (p:=⟨gba3,_,none⟩) NBa1_103.out _).trans (hHeld.1)))),((cell_far (p:=⟨gba3,_,none⟩) NBa1_103.out _).trans (((cell_far (p:=⟨gba3,_,none⟩) NBa1_103.out _).trans (hHeld.2.1)))),((cell_far (p:=⟨gba3,_,none⟩) NBa2_103.out _).trans (((cell_far (p:=⟨gba3,_,none⟩) NBa2_103.out _).trans (hHeld.2.2.1)))),((cell_far (p:=⟨gba3,_,none⟩) NBa2_103.out _).trans (((cell_far (p:=⟨gba3,_,none⟩) NBa2_103.out _).trans (hHeld.2.2.2))))⟩ (fun hHeld=>?_)
 clear hK K
 refine done_ (done_of HT_.out (by kernel_rfl)) ?_
 try go_wp2
 refine bodyPost_ret (results_cell_row rfl _ _ gba3 113 #[.bool (a0_0 != a1_0), .slice Ao12 ta7.length co12] (0,0) _ rfl (zP2 BKa3.out) Try.underlying113 rfl (by kernel_rfl)) rfl ?_
 exact⟨_,zE,by(with_reducible repeat(first|apply Kd.R_alloc|apply Kd.R_drewN|apply Kd.R_drew));exact Kd.R_mono (Kd.R_far (p:=⟨gba3,1,none⟩) (Kd.R_far (p:=⟨gba3,0,none⟩) (Kd.R_types HOa9.out BKa3.out (by decide)) (fun _ hk=>hk.2) (.bool (a0_0 != a1_0))) (fun _ hk=>hk.2) (.slice Ao12 ta7.length co12)) (fun _ hk=>hk.1.1),zB3 HB.out GEa1.out GEa2.out GEa3.out⟩
set_option maxHeartbeats 8000000 in
set_option maxRecDepth 100000 in
theorem nat_digit.calls (k:Nat) (A0:Option Addr) (c0:Nat) (l0:List Int) (a1:Int) (r1:List Int) (r2:Int) (w:World) (hr0:Kd.C (Kd.int .u32) w A0 l0.length l0) (hc0:l0.length≤c0) (h:nat_digit.f k l0 a1=some (r1,r2)):
 Calls Try.prog 115 #[.slice A0 l0.length c0, .int .u32 a1] w fun e w'=>∃v0_:Value,e= .returned (.tuple #[v0_, .int .u32 r2])∧Kd.V (Kd.int .u32) 97 w' w.heap.size (fun k_=>(w.heap.size≤k_)) v0_ r1∧Below w.heap.size w w':=by
 have HR0:=zk hr0
 have HC0:=zk hc0
 clear hr0 hc0
 have HB:=zk (Below.refl w.heap.size w)
 have H:=h
 clear h
 unfold nat_digit.f at H
 replace H:=zg H
 obtain⟨c3,H⟩:=H
 have c3b0:=eq_true c3
 have c3b1:=decide_eq_true c3
 clear c3
 replace H:=zg H
 obtain⟨c4,H⟩:=H
 have c4b0:=eq_true c4
 have c4b1:=decide_eq_true c4
 clear c4
 obtain⟨ya1,hya1⟩:∃y_:List Int,y_=(List.replicate ((l0.length:Int):Int).toNat 0):=⟨_,rfl⟩
 replace H:(nat_digit.l0 k l0 a1 ya1 0 (wrap64 ((l0.length:Int)-1)))=some (r1,r2):=zY hya1 H
 have Nya1:=zk hya1
 clear hya1
 have H':=zk H
 clear H
 go_enter Try.func115,Try.ntmps115
 go_wp2_with (first|((with_reducible refine gate_dst (N:=11) rfl ?_);refine Kd.R_make (Kd.int .u32) _ 97 rfl (N:=11) rfl 29 _ _ rfl (l0.length:Int) rfl rfl Try.underlying29 (.int .u32 0) 4 info97 rfl (by decide) (by omega) 0 (ok:=fun _=>True) (okp:=fun _=>True) rfl (fun _ hk=>hk) trivial zd (Nat.le_trans (Nat.mul_le_mul_right _ (zd:(l0.length:Int).toNat≤70368744177664)) (by omega)) (Below.refl _ _) (Nat.le_refl _) ?_;intro va2 w5 ho6 hb hg_ hnew_;clear hg_ hnew_;(first|rw[←Nya1.out] at ho6|(simp only[Int.reduceToNat] at ho6;rw[←Nya1.out] at ho6));replace ho6:=Kd.R_newM (M:=fun k_=>(w.heap.size≤k_)) ho6 (below_size (zB HB.out)) (fun k_ h_=>h_);have HOa3:=yRl ho6 HB;replace HB:=yS HB hb;clear hb ho6))
 go_loopg [7,8] k (fun kq v7 v8 w'=>∃(x6_1:List Int) (x7_1:Int) (x8_1:Int),v7= .int .u64 x7_1∧v8= .int .i64 x8_1∧Aside0 (nat_digit.l0 kq l0 a1 x6_1 x7_1 x8_1=some (r1,r2))∧Aside0 (kq≤k)∧Aside0 (Kd.R (Kd.int .u32) 97 w' w.heap.size (fun k_=>(w.heap.size≤k_)) va2 x6_1)∧Aside0 (Below w.heap.size w w'))
 case atStart=>exact⟨(ya1),(0),(wrap64 ((l0.length:Int)-1)),zF,zF,H',⟨Nat.le_refl _⟩,⟨by(with_reducible repeat(first|apply Kd.R_alloc|apply Kd.R_drewN|apply Kd.R_drew));exact Kd.R_mono HOa3.out (fun _ hk=>hk.1)⟩,⟨zB HB.out⟩⟩
 clear H'
 (try clear c3);(try clear c3b0);(try clear c3b1);(try clear c4);(try clear c4b0);(try clear c4b1)
 obtain⟨x6_1,x7_1,x8_1,rfl,rfl,HA,HK1,HO_6,HB⟩:=hrel
 cases gk with|zero=>exact absurd HA.out (by simp [nat_digit.l0])|succ k1=>?_
 have H:=HA.out
 clear HA
 simp only[nat_digit.l0] at H
 replace H:=zi H
 rcases H with⟨c7,H⟩|⟨c7,H⟩
 ·have c7b0:decide (0≤x8_1)=true:=decide_eq_true c7
  clear c7
  replace H:=zgd H
  obtain⟨c8b0,H⟩:=H
  replace H:=zgd H
  obtain⟨c9b0,H⟩:=H
  replace H:=zh H
  obtain⟨c10,H⟩:=H
  have c10b0:=beq_eq_false_iff_ne.mpr c10
  have c10b1:=bne_iff_ne.mpr c10
  replace H:=zgd H
  obtain⟨c11b0,H⟩:=H
  obtain⟨ya5,hya5⟩:∃y_:List Int,y_=(x6_1.set (x8_1:Int).toNat ((IntKind.u64.wrap (Int.tdiv (Go.bits .or .u64 (IntKind.u64.wrap (x7_1*4294967296)) (IntKind.u64.wrap (rd l0 x8_1))) (IntKind.u64.wrap (a1)))) % 4294967296)):=⟨_,rfl⟩
  replace H:(nat_digit.l0 k1 l0 a1 ya5 (Int.tmod (Go.bits .or .u64 (IntKind.u64.wrap (x7_1*4294967296)) (IntKind.u64.wrap (rd l0 x8_1))) (IntKind.u64.wrap (a1))) (wrap64 (x8_1-1)))=some (r1,r2):=zY hya5 H
  have Nya5:=zk hya5
  clear hya5
  have H':=zk H
  clear H
  have pa4:0≤(x8_1:Int):=zd
  have qa4:x8_1<(l0.length:Int):=zd
  obtain⟨ada4,ea4,hxa4_0⟩:=Kd.at_int HR0.out x8_1 pa4 qa4
  cases ea4
  replace hxa4_0:=(HB.out.cell (World.block_lt_of_cell? w _ hxa4_0)).trans hxa4_0
  replace pa4:=eq_true pa4
  replace qa4:=eq_true qa4
  have p12:0≤(x8_1:Int):=zd
  have q12:(x8_1:Int)<((x6_1.length:Int):Int):=zd
  obtain⟨go12,co12,eo12,gb12,gl12,cl12,HG12⟩:=Kd.R_form HO_6.out (by omega)
  (first|cases eo12|(injection eo12 with ea_ en_ ec_;(first|subst ea_|(injection ea_ with ea_;subst ea_));subst ec_;clear en_))
  have GB12:=zk gb12
  have GG12:=zk HG12
  clear gb12 gl12 HG12
  obtain⟨hx12_0,hf12_0⟩:=Kd.R_celln 0 HO_6.out (x8_1:Int) p12 q12
  replace p12:=eq_true p12
  replace q12:=eq_true q12
  have HP13:=Kd.R_putg HO_6.out (x8_1:Int) ((IntKind.u64.wrap (Int.tdiv (Go.bits .or .u64 (IntKind.u64.wrap (x7_1*4294967296)) (IntKind.u64.wrap (rd l0 x8_1))) (IntKind.u64.wrap (a1)))) % 4294967296)
  go_wp2_with (first|((with_reducible refine gate_store (t:=97) (p:=34) rfl ?_);refine store_event (t:=97) (p:=34) (v:=?vo_w14) (w1:=(wr.setCell ⟨go12,(x8_1:Int).toNat,none⟩ (.int .u32 ((IntKind.u64.wrap (Int.tdiv (Go.bits .or .u64 (IntKind.u64.wrap (x7_1*4294967296)) (IntKind.u64.wrap (rd l0 x8_1))) (IntKind.u64.wrap (a1)))) % 4294967296)))) ?hg ?ho ?hn ?hr ?_;(case ho=>rfl);(case hg=>rfl);(case hn=>rfl);(case hr=>first|(go_simp;done)|(go_simp;rfl));intro w14 hw;have hg:wr.grownBy w14 (some go12):=(by rw[hw];exact HP13.2);have hp_:Kd.R (Kd.int .u32) 97 w14 w.heap.size (fun k_=>(w.heap.size≤k_)) (.slice (some ⟨go12,0,none⟩) x6_1.length co12) ya5:=(by rw[hw,Nya5.out];exact HP13.1);clear HP13;replace HO_6:=zk (hp_);replace HB:=zk ((by rw[hw];exact below_set (HB.out) GB12.out:Below w.heap.size w w14));clear hg hw hp_))
  go_roundg k1
  case measure=>have:=HK1.out;omega
  case rel=>exact⟨(ya5),(Int.tmod (Go.bits .or .u64 (IntKind.u64.wrap (x7_1*4294967296)) (IntKind.u64.wrap (rd l0 x8_1))) (IntKind.u64.wrap (a1))),(wrap64 (x8_1-1)),zF,zF,H',⟨zo1 HK1⟩,⟨zR HO_6.out⟩,⟨zB HB.out⟩⟩
 have c7b0:decide (0≤x8_1)=false:=decide_eq_false c7
 clear c7
 replace H:=zb H
 obtain⟨ta6,A15,H⟩:=H
 simp only[Option.some.injEq,Prod.mk.injEq] at H
 obtain⟨rfl,rfl⟩:=H
 obtain⟨Ao16,co16,rfl⟩:=Kd.R_slice HO_6.out
 go_wp2_with (first|((with_reducible refine gC 118 ?_);refine zG (some 40) Try.func118 #[.slice Ao16 x6_1.length co16] ?_;(with_reducible refine(nat_short.calls k1 (fun k_=>some k_=(.slice Ao16 x6_1.length co16:Value).ownBlock) _ _ x6_1 ta6 _ ?side1 A15.out).mono ?_);(case side1=>exact Kd.R_V (Kd.R_tight rfl (HO_6.out)));rintro e w17 ⟨va7,rfl,ho0,hb⟩;refine⟨_,rfl,?_⟩;have HOa8:=zk (Kd.V_lower (Kd.V_mono (ok':=fun k_=>(w.heap.size≤k_)) ho0 (fun k_ hk_=>Or.elim hk_ (fun hs_=>((HO_6.out).1 k_ hs_.symm)) (fun hn_=>(Nat.le_trans (below_size (zB HB.out)) hn_)))) (below_size (zB HB.out)));replace HO_6:=yRb HO_6 hb;replace HB:=yS HB hb;(try clear hb ho0)))
 go_ret2
 exact⟨_,zE,zV HOa8.out,zB HB.out⟩
set_option maxHeartbeats 8000000 in
set_option maxRecDepth 100000 in
theorem nat_Binomial.calls (k:Nat) (a0:Int) (a1:Int) (r1:List Int) (r2:Int) (w:World) (h:nat_Binomial.f k a0 a1=some (r1,r2)):
 Calls Try.prog 72 #[.int .i64 a0, .int .i64 a1] w fun e w'=>∃v0_:Value,e= .returned (.tuple #[v0_, .int .i64 r2])∧Kd.R (Kd.int .u32) 97 w' w.heap.size (fun _=>True) v0_ r1∧Below w.heap.size w w':=by
 have HB:=zk (Below.refl w.heap.size w)
 have H:=h
 clear h
 unfold nat_Binomial.f at H
 have HC3:=zk H
 clear H
 go_enter Try.func72,Try.ntmps72
 go_upto_region 1 with(fail)
 go_cut [13] (fun v13 wc=>∃(kq:Nat) (x13_2:Bool),v13= .bool x13_2∧Aside0 (nat_Binomial.j0 kq a0 a1 x13_2=some (r1,r2))∧Aside0 (kq≤k)∧Aside0 (Below w.heap.size w wc))
 case first=>
  have H:=HC3.out
  clear HC3
  replace H:=zid H
  rcases H with⟨c4b0,H⟩|⟨c4b0,H⟩
  ·(first|rw[c4b0]|(simp only[i64_w,i32_w];rw[c4b0])|rw[c4b1]|skip)
   have H':=zk H
   clear H
   go_wp2
   go_meet
   case rel=>exact⟨_,(true),zF,H',⟨zO⟩,⟨zB HB.out⟩⟩
  (first|rw[c4b0]|(simp only[i64_w,i32_w];rw[c4b0])|rw[c4b1]|skip)
  have H':=zk H
  clear H
  go_wp2
  go_meet
  case rel=>exact⟨_,(decide (a0>4096)),zF,H',⟨zO⟩,⟨zB HB.out⟩⟩
 clear HC3
 (try clear c4b0)
 obtain⟨kq,x13_2,rfl,HA,HJ2,HB⟩:=hcut
 cases kq with|zero=>exact absurd HA.out (by simp [nat_Binomial.j0])|succ kj2=>?_
 have H:=HA.out
 clear HA
 simp only[nat_Binomial.j0] at H
 by_cases c5:x13_2=true
 ·subst c5
  rw[if_pos rfl] at H
  simp only[Option.some.injEq,Prod.mk.injEq] at H
  obtain⟨rfl,rfl⟩:=H
  go_wp2
  go_ret2
  exact⟨_,zE,z0,zB HB.out⟩
 replace c5:=Bool.eq_false_iff.mpr c5
 subst c5
 rw[if_neg Bool.false_ne_true] at H
 have HC6:=zk H
 clear H
 go_upto_region 3 with(fail)
 go_cut [20] (fun v20 wc=>∃(kq:Nat) (x20_5:Bool),v20= .bool x20_5∧Aside0 (nat_Binomial.j1 kq a0 a1 x20_5=some (r1,r2))∧Aside0 (kq≤kj2)∧Aside0 (Below w.heap.size w wc))
 case first=>
  have H:=HC6.out
  clear HC6
  replace H:=zid H
  rcases H with⟨c7b0,H⟩|⟨c7b0,H⟩
  ·(first|rw[c7b0]|(simp only[i64_w,i32_w];rw[c7b0])|rw[c7b1]|skip)
   have H':=zk H
   clear H
   go_wp2
   go_meet
   case rel=>exact⟨_,(true),zF,H',⟨by have:=HJ2.out;first|omega|exact Nat.le_refl _⟩,⟨zB HB.out⟩⟩
  (first|rw[c7b0]|(simp only[i64_w,i32_w];rw[c7b0])|rw[c7b1]|skip)
  have H':=zk H
  clear H
  go_wp2
  go_meet
  case rel=>exact⟨_,(decide (a1>a0)),zF,H',⟨by have:=HJ2.out;first|omega|exact Nat.le_refl _⟩,⟨zB HB.out⟩⟩
 clear HC6
 (try clear c4b0);(try clear c5);(try clear c7b0)
 obtain⟨kq,x20_5,rfl,HA,HJ5,HB⟩:=hcut
 cases kq with|zero=>exact absurd HA.out (by simp [nat_Binomial.j1])|succ kj5=>?_
 have H:=HA.out
 clear HA
 simp only[nat_Binomial.j1] at H
 by_cases c8:x20_5=true
 ·subst c8
  rw[if_pos rfl] at H
  simp only[Option.some.injEq,Prod.mk.injEq] at H
  obtain⟨rfl,rfl⟩:=H
  go_wp2
  go_ret2
  exact⟨_,zE,z0,zB HB.out⟩
 replace c8:=Bool.eq_false_iff.mpr c8
 subst c8
 rw[if_neg Bool.false_ne_true] at H
 obtain⟨ya1,hya1⟩:∃y_:List Int,y_=(([1]:List Int)):=⟨_,rfl⟩
 replace H:(nat_Binomial.l0 kj5 a0 ya1 (mn a1 (wrap64 (a0-a1))) 0)=some (r1,r2):=zY hya1 H
 have Nya1:=zk hya1
 clear hya1
 obtain⟨ji9,hji9⟩:∃j_:Int,(mn a1 (wrap64 (a0-a1)))=j_:=⟨_,rfl⟩
 replace H:(nat_Binomial.l0 kj5 a0 ya1 ji9 0)=some (r1,r2):=by first|(rw[hji9] at H;exact H)|(simp only[hji9] at H ⊢;exact H)
 have hji9_:(if(wrap64 (a0-a1))<a1 then(wrap64 (a0-a1)) else a1)=ji9:=hji9
 have H':=zk H
 clear H
 go_wp2_with (first|((with_reducible refine gate_dst (N:=21) rfl ?_);refine Kd.R_lit (Kd.int .u32) _ 97 ?hg (N:=21) ?hd (xs:=([1]:List Int)) (inner:=[.int .u32 1]) (ok:=fun _=>True) (okp:=fun _=>True) ?hr ?hp (fun _ hk=>hk) trivial (Below.refl _ _) (Nat.le_refl _) (by simp) ?_;(case hd=>rfl);(case hg=>rfl);(case hr=>first|(go_simp;done)|(go_simp;rfl));(case hp=>exact(Reps.one (show Kd.M (Kd.int .u32) _ _ _ 1 [.int .u32 1] from rfl) (Reps.none _ _)));intro va2 w10 ho11 hb hg_ hnew_;clear hg_ hnew_;(first|rw[←Nya1.out] at ho11|(simp only[Int.reduceToNat] at ho11;rw[←Nya1.out] at ho11));have HOa3:=yRl ho11 HB;replace HB:=yS HB hb;clear hb ho11))
 go_loopg [6,27] kj5 (fun kq v6 v27 w'=>∃(x6_3:List Int) (x27_3:Int),v27= .int .i64 x27_3∧Aside0 (nat_Binomial.l0 kq a0 x6_3 ji9 x27_3=some (r1,r2))∧Aside0 (kq≤kj5)∧Aside0 (Kd.V (Kd.int .u32) 97 w' w.heap.size (fun _=>True) v6 x6_3)∧Aside0 (Below w.heap.size w w'))
 case atStart=>exact⟨(ya1),(0),zF,H',⟨Nat.le_refl _⟩,⟨Kd.R_V (zR HOa3.out)⟩,⟨zB HB.out⟩⟩
 clear H'
 (try clear c4b0);(try clear c5);(try clear c7b0);(try clear c8)
 obtain⟨x6_3,x27_3,rfl,HA,HK3,HO_6,HB⟩:=hrel
 cases gk with|zero=>exact absurd HA.out (by simp [nat_Binomial.l0])|succ k3=>?_
 have H:=HA.out
 clear HA
 simp only[nat_Binomial.l0] at H
 replace H:=zid H
 rcases H with⟨c12b0,H⟩|⟨c12b0,H⟩
 ·obtain⟨ya4,hya4⟩:∃y_:List Int,y_=(([(wrap64 (a0-x27_3)) % 4294967296]:List Int)):=⟨_,rfl⟩
  replace H:((nat_times.f k3 x6_3 ya4).bind fun ta7=>((nat_digit.f k3 ta7 ((wrap64 (x27_3+1)) % 4294967296)).bind fun btb0=>(nat_Binomial.l0 k3 a0 btb0.1 ji9 (wrap64 (x27_3+1)))))=some (r1,r2):=zY hya4 H
  have Nya4:=zk hya4
  clear hya4
  replace H:=zb H
  obtain⟨ta7,A13,H⟩:=H
  replace H:=zb H
  obtain⟨⟨tb0,tb3⟩,A14,H⟩:=H
  dsimp only at H
  have H':=zk H
  clear H
  go_wp2_with (first|((with_reducible refine gate_dst (N:=36) rfl ?_);refine Kd.R_lit (Kd.int .u32) _ 97 ?hg (N:=36) ?hd (xs:=([(wrap64 (a0-x27_3)) % 4294967296]:List Int)) (inner:=[.int .u32 ((wrap64 (a0-x27_3)) % 4294967296)]) (ok:=fun _=>True) (okp:=fun _=>True) ?hr ?hp (fun _ hk=>hk) trivial (Below.refl _ _) (Nat.le_refl _) (by simp) ?_;(case hd=>rfl);(case hg=>rfl);(case hr=>first|(go_simp;done)|(go_simp;rfl));(case hp=>exact(Reps.one (show Kd.M (Kd.int .u32) _ _ _ ((wrap64 (a0-x27_3)) % 4294967296) [.int .u32 ((wrap64 (a0-x27_3)) % 4294967296)] from rfl) (Reps.none _ _)));intro va5 w15 ho16 hb hg_ hnew_;clear hg_ hnew_;(first|rw[←Nya4.out] at ho16|(simp only[Int.reduceToNat] at ho16;rw[←Nya4.out] at ho16));replace HO_6:=yVe HO_6 ho16 hb;have HOa6:=yRl ho16 HB;replace HB:=yS HB hb;clear hb ho16;obtain⟨Ao17,co17,rfl⟩:=Kd.V_slice HO_6.out;obtain⟨Ao18,co18,rfl⟩:=Kd.R_slice HOa6.out)|((with_reducible refine gC 116 ?_);refine zG (some 37) Try.func116 #[.slice Ao17 x6_3.length co17, .slice Ao18 ya4.length co18] ?_;(with_reducible refine(nat_times.calls k3 _ _ x6_3 _ _ ya4 ta7 _ ?side1 ?side2 ?side3 ?side4 A13.out).mono ?_);(case side1=>exact zC (Kd.V_reads' HO_6.out).2.2);(case side2=>exact(Kd.V_reads' HO_6.out).2.1);(case side3=>exact zC (Kd.R_reads' HOa6.out).2.2);(case side4=>exact(Kd.R_reads' HOa6.out).2.1);rintro e w19 ⟨va8,rfl,ho0,hb⟩;refine⟨_,rfl,?_⟩;replace HO_6:=yVb HO_6 hb;have HOa9:=zk (Kd.V_lower (Kd.V_mono (ok':=fun k_=>some k_≠(.slice Ao18 ya4.length co18:Value).ownBlock) ho0 (fun k_ hk_=>(Kd.fresh' (Kd.R_lt (zR HOa6.out)) k_ hk_))) (below_size (zB HB.out)));replace HOa6:=yRb HOa6 hb;replace HB:=yS HB hb;(try clear hb ho0);obtain⟨Ao20,co20,rfl⟩:=Kd.V_slice HOa9.out)|((with_reducible refine gC 115 ?_);refine zG (some 41) Try.func115 #[.slice Ao20 ta7.length co20, .int .u32 ((wrap64 (x27_3+1)) % 4294967296)] ?_;(with_reducible refine(nat_digit.calls k3 _ _ ta7 ((wrap64 (x27_3+1)) % 4294967296) tb0 tb3 _ ?side1 ?side2 A14.out).mono ?_);(case side1=>exact zC (Kd.V_reads' HOa9.out).2.2);(case side2=>exact(Kd.V_reads' HOa9.out).2.1);rintro e w21 ⟨vb1,rfl,ho0,hb⟩;refine⟨_,rfl,?_⟩;replace HO_6:=yVb HO_6 hb;replace HOa9:=yVb HOa9 hb;have HOb2:=zk (Kd.V_lower (Kd.V_mono (ok':=fun k_=>some k_≠(.slice Ao18 ya4.length co18:Value).ownBlock) ho0 (fun k_ hk_=>(Kd.fresh' (Kd.R_lt (zR HOa6.out)) k_ hk_))) (below_size (zB HB.out)));replace HOa6:=yRb HOa6 hb;replace HB:=yS HB hb;(try clear hb ho0)))
  go_roundg k3
  case measure=>have:=HJ2.out;have:=HJ5.out;have:=HK3.out;omega
  case rel=>exact⟨(tb0),(wrap64 (x27_3+1)),zF,H',⟨by have:=HJ2.out;have:=HJ5.out;have:=HK3.out;omega⟩,⟨by(with_reducible repeat(first|apply Kd.V_alloc|apply Kd.V_drewN|apply Kd.V_drew));exact Kd.V_mono HOb2.out (fun _ hk=>trivial)⟩,⟨zB HB.out⟩⟩
 replace H:=zb H
 obtain⟨tb4,A22,H⟩:=H
 simp only[Option.some.injEq,Prod.mk.injEq] at H
 obtain⟨rfl,rfl⟩:=H
 obtain⟨Ao23,co23,rfl⟩:=Kd.V_slice HO_6.out
 go_wp2_with (first|((with_reducible refine gC 103 ?_);refine zG (some 46) Try.func103 #[.slice Ao23 x6_3.length co23] ?_;(with_reducible refine(nat_Trim.calls k3 _ _ x6_3 tb4 _ ?side1 ?side2 A22.out).mono ?_);(case side1=>exact zC (Kd.V_reads' HO_6.out).2.2);(case side2=>exact(Kd.V_reads' HO_6.out).2.1);rintro e w24 ⟨vb5,rfl,ho0,hb⟩;refine⟨_,rfl,?_⟩;replace HO_6:=yVe HO_6 ho0 hb;have HOb6:=yRl ho0 HB;replace HB:=yS HB hb;(try clear hb ho0)))
 go_ret2
 exact⟨_,by first|rfl|(simp [errW_none,errW_some]<;>rfl)|(simp only[←hji9];first|rfl|(simp [errW_none,errW_some]<;>rfl))|(simp [*,errW_none,errW_some]<;>rfl),zR HOb6.out,zB HB.out⟩
set_option maxHeartbeats 8000000 in
set_option maxRecDepth 100000 in
theorem nat_Of.calls (k:Nat) (a0:Int) (r:List Int) (w:World) (h:nat_Of.f k a0=some r):
 Calls Try.prog 80 #[.int .u64 a0] w fun e w'=>∃v0_:Value,e= .returned (v0_)∧Kd.R (Kd.int .u32) 97 w' w.heap.size (fun _=>True) v0_ r∧Below w.heap.size w w':=by
 have HB:=zk (Below.refl w.heap.size w)
 have H:=h
 clear h
 unfold nat_Of.f at H
 obtain⟨ya1,hya1⟩:∃y_:List Int,y_=(([(a0) % 4294967296,(a0 / 4294967296) % 4294967296]:List Int)):=⟨_,rfl⟩
 replace H:((nat_Trim.f k ya1).bind fun ta4=>(some ta4))=some r:=zY hya1 H
 have Nya1:=zk hya1
 clear hya1
 replace H:=zb H
 obtain⟨ta4,A2,H⟩:=H
 obtain rfl:=Option.some.inj H
 go_enter Try.func80,Try.ntmps80
 go_wp2_with (first|((with_reducible refine gate_dst (N:=8) rfl ?_);refine Kd.R_lit (Kd.int .u32) _ 97 ?hg (N:=8) ?hd (xs:=([(a0) % 4294967296,(a0 / 4294967296) % 4294967296]:List Int)) (inner:=[.int .u32 ((a0) % 4294967296), .int .u32 ((a0 / 4294967296) % 4294967296)]) (ok:=fun _=>True) (okp:=fun _=>True) ?hr ?hp (fun _ hk=>hk) trivial (Below.refl _ _) (Nat.le_refl _) (by simp) ?_;(case hd=>rfl);(case hg=>rfl);(case hr=>first|(go_simp;done)|(go_simp;rfl));(case hp=>exact(Reps.one (show Kd.M (Kd.int .u32) _ _ _ ((a0) % 4294967296) [.int .u32 ((a0) % 4294967296)] from rfl) (Reps.one (show Kd.M (Kd.int .u32) _ _ _ ((a0 / 4294967296) % 4294967296) [.int .u32 ((a0 / 4294967296) % 4294967296)] from rfl) (Reps.none _ _))));intro va2 w3 ho4 hb hg_ hnew_;clear hg_ hnew_;(first|rw[←Nya1.out] at ho4|(simp only[Int.reduceToNat] at ho4;rw[←Nya1.out] at ho4));have HOa3:=yRl ho4 HB;replace HB:=yS HB hb;clear hb ho4;obtain⟨Ao5,co5,rfl⟩:=Kd.R_slice HOa3.out)|((with_reducible refine gC 103 ?_);refine zG (some 9) Try.func103 #[.slice Ao5 ya1.length co5] ?_;(with_reducible refine(nat_Trim.calls k _ _ ya1 ta4 _ ?side1 ?side2 A2.out).mono ?_);(case side1=>exact zC (Kd.R_reads' HOa3.out).2.2);(case side2=>exact(Kd.R_reads' HOa3.out).2.1);rintro e w6 ⟨va5,rfl,ho0,hb⟩;refine⟨_,rfl,?_⟩;replace ho0:=yn ho0 HOa3;have HOa6:=yRl ho0 HB;replace HOa3:=yRe HOa3 ho0 hb;replace HB:=yS HB hb;(try clear hb ho0)))
 go_ret
 exact⟨_,zE,by(with_reducible repeat(first|apply Kd.R_alloc|apply Kd.R_drewN|apply Kd.R_drew));exact Kd.R_mono HOa6.out (fun _ hk=>trivial),zB HB.out⟩
theorem bits_Len32.byte (i:Int) (h0:0≤i) (h1:i≤255) (h:i.toNat<Lib.len8tab.size):(((Lib.len8tab[i.toNat]'h).toNat:Nat):Int)=((Lib.bitLen i.toNat:Nat):Int):=by
 have e:=Lib.len8_of i h0 h1
 unfold Lib.len8 at e
 rw[show Lib.len8tab[i.toNat]?=some (Lib.len8tab[i.toNat]'h) from by simp [h]] at e
 simpa using e
theorem bits_Len32.small (i:Int) (h0:0≤i) (h1:i≤255):((Lib.bitLen i.toNat:Nat):Int)≤8:=by
 have:=Lib.bitLen_le8' i h0 h1
 omega
theorem bits_Len32.ret {a b:Int} (h:a=b):Ending.returned (.int .i64 a)= .returned (.int .i64 b):=by rw[h]
set_option maxHeartbeats 8000000 in
set_option maxRecDepth 100000 in
theorem bits_Len32.calls (a0:Int) (r:Int) (w:World) (h:bits_Len32.f a0=some r):
 Calls Try.prog 121 #[.int .u32 a0] w fun e w'=>e= .returned (.int .i64 r)∧Drawn0 w w':=by
 unfold bits_Len32.f at h
 by_cases h0:0≤a0
 ·rw[if_pos h0] at h
  by_cases h1:a0≤4294967295
  ·rw[if_pos h1] at h
   obtain rfl:=Option.some.inj h
   clear h
   go_enter Try.func121,Try.ntmps121
   go_wp2
   all_goals first
    |(
     exfalso
     rename_i hneg
     apply hneg
     rw[Lib.len8tab_size]
     omega)
    |(
     go_ret
     refine⟨bits_Len32.ret ?_,Drawn0.refl _⟩
     first
     |(
      rw[bits_Len32.byte (a0 / 65536 / 256) (by omega) (by omega)]
      have h2:=bits_Len32.small (a0 / 65536 / 256) (by omega) (by omega)
      have h3:=Lib.bitLen_shift16 a0.toNat (by omega) (by omega)
      have h4:=Lib.bitLen_shift8 (a0.toNat / 65536) (by omega) (by omega)
      rw[show a0.toNat / 65536 / 256=(a0 / 65536 / 256).toNat by omega] at h4
      rw[h3,h4]
      unfold wrap64
      omega)
     |(
      rw[bits_Len32.byte (a0 / 65536) (by omega) (by omega)]
      have h2:=bits_Len32.small (a0 / 65536) (by omega) (by omega)
      have h3:=Lib.bitLen_shift16 a0.toNat (by omega) (by omega)
      rw[show a0.toNat / 65536=(a0 / 65536).toNat by omega] at h3
      rw[h3]
      unfold wrap64
      omega)
     |(
      rw[bits_Len32.byte (a0 / 256) (by omega) (by omega)]
      have h2:=bits_Len32.small (a0 / 256) (by omega) (by omega)
      have h3:=Lib.bitLen_shift8 a0.toNat (by omega) (by omega)
      rw[show a0.toNat / 256=(a0 / 256).toNat by omega] at h3
      rw[h3]
      unfold wrap64
      omega)
     |(
      rw[bits_Len32.byte a0 (by omega) (by omega)]
      have h2:=bits_Len32.small a0 (by omega) (by omega)
      unfold wrap64
      omega))
  rw[if_neg h1] at h;exact absurd h (by simp)
 rw[if_neg h0] at h;exact absurd h (by simp)
set_option maxHeartbeats 8000000 in
set_option maxRecDepth 100000 in
theorem nat_Bits.calls (k:Nat) (A0:Option Addr) (c0:Nat) (l0:List Int) (r:Int) (w:World) (hr0:Kd.C (Kd.int .u32) w A0 l0.length l0) (hc0:l0.length≤c0) (h:nat_Bits.f k l0=some r):
 Calls Try.prog 87 #[.slice A0 l0.length c0] w fun e w'=>e= .returned (.int .i64 r)∧Below w.heap.size w w':=by
 have HR0:=zk hr0
 have HC0:=zk hc0
 clear hr0 hc0
 have HB:=zk (Below.refl w.heap.size w)
 have H:=h
 clear h
 unfold nat_Bits.f at H
 replace H:=zb H
 obtain⟨ta1,A2,H⟩:=H
 replace H:=zi H
 rcases H with⟨c3,H⟩|⟨c3,H⟩
 ·have c3b0:=beq_iff_eq.mpr c3
  have c3b1:=bne_eq_false_iff_eq.mpr c3
  clear c3
  obtain rfl:=Option.some.inj H
  go_enter Try.func87,Try.ntmps87
  go_wp2_with (first|((with_reducible refine gC 118 ?_);refine zG (some 4) Try.func118 #[.slice A0 l0.length c0] ?_;(with_reducible refine(nat_short.calls k (fun k_=>k_<w.heap.size) _ _ l0 ta1 _ ?side1 A2.out).mono ?_);(case side1=>exact Kd.V_mk HC0.out (Kd.F_below (Kd.C_F (Kd.heap_int .u32) HR0.out) (zB HB.out)));rintro e w4 ⟨va2,rfl,ho0,hb⟩;refine⟨_,rfl,?_⟩;have HOa3:=yVm ho0 HB;replace HB:=yS HB hb;(try clear hb ho0);obtain⟨Ao5,co5,rfl⟩:=Kd.V_slice HOa3.out))
  go_ret
  exact⟨zE,zB HB.out⟩
 have c3b0:=beq_eq_false_iff_ne.mpr c3
 have c3b1:=bne_iff_ne.mpr c3
 have c3b2:¬(ta1=[]):=fun h_=>c3 (by rw[h_];rfl)
 obtain⟨ji6,hji6⟩:∃j_:Int,(wrap64 ((ta1.length:Int)-1))=j_:=⟨_,rfl⟩
 replace H:(if 0≤(ji6) then(if(ji6)<(ta1.length:Int) then((bits_Len32.f (rd ta1 (ji6))).bind fun ta5=>(some (wrap64 ((wrap64 (32*(ji6)))+ta5)))) else(none)) else(none))=some r:=by first|(rw[hji6] at H;exact H)|(simp only[hji6] at H ⊢;exact H)
 (try rw[hji6] at A2)
 have hji6w:(IntKind.i64.wrap ((ta1.length:Int)-1))=ji6:=(i64_w _).trans hji6
 replace H:=zgd H
 obtain⟨c7b0,H⟩:=H
 replace H:=zgd H
 obtain⟨c8b0,H⟩:=H
 replace H:=zb H
 obtain⟨ta5,A9,H⟩:=H
 obtain rfl:=Option.some.inj H
 go_enter Try.func87,Try.ntmps87
 go_wp2_with (first|((with_reducible refine gC 118 ?_);refine zG (some 4) Try.func118 #[.slice A0 l0.length c0] ?_;(with_reducible refine(nat_short.calls k (fun k_=>k_<w.heap.size) _ _ l0 ta1 _ ?side1 A2.out).mono ?_);(case side1=>exact Kd.V_mk HC0.out (Kd.F_below (Kd.C_F (Kd.heap_int .u32) HR0.out) (zB HB.out)));rintro e w10 ⟨va2,rfl,ho0,hb⟩;refine⟨_,rfl,?_⟩;have HOa3:=yVm ho0 HB;replace HB:=yS HB hb;(try clear hb ho0);obtain⟨Ao11,co11,rfl⟩:=Kd.V_slice HOa3.out;have pa4:0≤((ji6):Int):=zd;have qa4:(ji6)<(ta1.length:Int):=zd;obtain⟨ada4,ea4,hxa4_0⟩:=Kd.at_int (Kd.V_reads' HOa3.out).2.2 (ji6) pa4 qa4;cases ea4;replace pa4:=eq_true pa4;replace qa4:=eq_true qa4)|((with_reducible refine gC 121 ?_);refine goesL_ (some 18) rfl rfl Try.func121 (by kernel_rfl) rfl #[.int .u32 (rd ta1 (ji6))] rfl (by(try simp only[List.map_toArray,List.map_cons,List.map_nil]);first|done|(simp only[hji6];rfl)|rfl|(simp only[List.length_drop,List.length_take];rfl)) ?_;(with_reducible refine(bits_Len32.calls (rd ta1 (ji6)) ta5 _ A9.out).mono ?_);rintro e w' ⟨rfl,⟨nd,rfl⟩⟩;refine⟨_,rfl,?_⟩))
 go_ret
 exact⟨by first|rfl|(simp [errW_none,errW_some]<;>rfl)|(simp only[←hji6];first|rfl|(simp [errW_none,errW_some]<;>rfl))|(simp [*,errW_none,errW_some]<;>rfl),zB HB.out⟩
set_option maxHeartbeats 8000000 in
set_option maxRecDepth 100000 in
theorem nat_Pow.calls (k:Nat) (A0:Option Addr) (c0:Nat) (l0:List Int) (a1:Int) (r1:List Int) (r2:Int) (w:World) (hr0:Kd.C (Kd.int .u32) w A0 l0.length l0) (hc0:l0.length≤c0) (h:nat_Pow.f k l0 a1=some (r1,r2)):
 Calls Try.prog 85 #[.slice A0 l0.length c0, .int .i64 a1] w fun e w'=>∃v0_:Value,e= .returned (.tuple #[v0_, .int .i64 r2])∧Kd.R (Kd.int .u32) 97 w' w.heap.size (fun _=>True) v0_ r1∧Below w.heap.size w w':=by
 have HR0:=zk hr0
 have HC0:=zk hc0
 clear hr0 hc0
 have HB:=zk (Below.refl w.heap.size w)
 have H:=h
 clear h
 unfold nat_Pow.f at H
 replace H:=zid H
 rcases H with⟨c3b0,H⟩|⟨c3b0,H⟩
 ·simp only[Option.some.injEq,Prod.mk.injEq] at H
  obtain⟨rfl,rfl⟩:=H
  go_enter Try.func85,Try.ntmps85
  go_wp2
  go_ret2
  exact⟨_,zE,z0,zB HB.out⟩
 replace H:=zb H
 obtain⟨ta1,A4,H⟩:=H
 have HC5:=zk H
 clear H
 go_enter Try.func85,Try.ntmps85
 go_upto_region 4 with(first|((with_reducible refine gC 87 ?_);refine zG (some 12) Try.func87 #[.slice A0 l0.length c0] ?_;(with_reducible refine(nat_Bits.calls k _ _ l0 ta1 _ ?side1 ?side2 A4.out).mono ?_);(case side1=>exact zC HR0.out);(case side2=>exact HC0.out);rintro e w6 ⟨rfl,hb⟩;refine⟨_,rfl,?_⟩;replace HB:=yS HB hb;(try clear hb);(try clear hb2);(try clear hk);(try clear hi)))
 (try simp only[Act.put,List.setIfInBounds_toArray,List.set_cons_zero,List.set_cons_succ])
 go_cut [13] (fun v13 wc=>∃(kq:Nat) (x13_4:Bool),v13= .bool x13_4∧Aside0 (nat_Pow.j0 kq l0 a1 ta1 x13_4=some (r1,r2))∧Aside0 (kq≤k)∧Aside0 (Below w.heap.size w wc))
 case first=>
  have H:=HC5.out
  clear HC5
  replace H:=zi H
  rcases H with⟨c7,H⟩|⟨c7,H⟩
  ·have c7b0:=beq_iff_eq.mpr c7
   have c7b1:=bne_eq_false_iff_eq.mpr c7
   clear c7
   (first|rw[c7b0]|(simp only[i64_w,i32_w];rw[c7b0])|rw[c7b1]|skip)
   have H':=zk H
   clear H
   go_wp2
   go_meet
   case rel=>exact⟨_,(true),zF,H',⟨zO⟩,⟨zB HB.out⟩⟩
  have c7b0:=beq_eq_false_iff_ne.mpr c7
  have c7b1:=bne_iff_ne.mpr c7
  (first|rw[c7b0]|(simp only[i64_w,i32_w];rw[c7b0])|rw[c7b1]|skip)
  have H':=zk H
  clear H
  go_wp2
  go_meet
  case rel=>exact⟨_,((ta1==1)),zF,H',⟨zO⟩,⟨zB HB.out⟩⟩
 clear HC5
 (try clear c3b0);(try clear c7);(try clear c7b0);(try clear c7b1)
 obtain⟨kq,x13_4,rfl,HA,HJ4,HB⟩:=hcut
 cases kq with|zero=>exact absurd HA.out (by simp [nat_Pow.j0])|succ kj4=>?_
 have H:=HA.out
 clear HA
 simp only[nat_Pow.j0] at H
 by_cases c8:x13_4=true
 ·subst c8
  rw[if_pos rfl] at H
  obtain⟨ya2,hya2⟩:∃y_:List Int,y_=(([1]:List Int)):=⟨_,rfl⟩
  replace H:(some (ya2,0))=some (r1,r2):=zY hya2 H
  have Nya2:=zk hya2
  clear hya2
  simp only[Option.some.injEq,Prod.mk.injEq] at H
  obtain⟨rfl,rfl⟩:=H
  go_wp2_with (first|((with_reducible refine gate_dst (N:=20) rfl ?_);refine Kd.R_lit (Kd.int .u32) _ 97 ?hg (N:=20) ?hd (xs:=([1]:List Int)) (inner:=[.int .u32 1]) (ok:=fun _=>True) (okp:=fun _=>True) ?hr ?hp (fun _ hk=>hk) trivial (Below.refl _ _) (Nat.le_refl _) (by simp) ?_;(case hd=>rfl);(case hg=>rfl);(case hr=>first|(go_simp;done)|(go_simp;rfl));(case hp=>exact(Reps.one (show Kd.M (Kd.int .u32) _ _ _ 1 [.int .u32 1] from rfl) (Reps.none _ _)));intro va3 w9 ho10 hb hg_ hnew_;clear hg_ hnew_;(first|rw[←Nya2.out] at ho10|(simp only[Int.reduceToNat] at ho10;rw[←Nya2.out] at ho10));have HOa4:=yRl ho10 HB;replace HB:=yS HB hb;clear hb ho10))
  go_ret2
  exact⟨_,zE,zR HOa4.out,zB HB.out⟩
 replace c8:=Bool.eq_false_iff.mpr c8
 subst c8
 rw[if_neg Bool.false_ne_true] at H
 replace H:=zi H
 rcases H with⟨c11,H⟩|⟨c11,H⟩
 ·have c11b0:=beq_iff_eq.mpr c11
  have c11b1:=bne_eq_false_iff_eq.mpr c11
  clear c11
  simp only[Option.some.injEq,Prod.mk.injEq] at H
  obtain⟨rfl,rfl⟩:=H
  go_wp2
  go_ret2
  exact⟨_,zE,z0,zB HB.out⟩
 have c11b0:=beq_eq_false_iff_ne.mpr c11
 have c11b1:=bne_iff_ne.mpr c11
 replace H:=zi H
 rcases H with⟨c12,H⟩|⟨c12,H⟩
 ·have c12b0:decide (131072<a1)=true:=decide_eq_true c12
  clear c12
  simp only[Option.some.injEq,Prod.mk.injEq] at H
  obtain⟨rfl,rfl⟩:=H
  go_wp2
  go_ret2
  exact⟨_,zE,z0,zB HB.out⟩
 have c12b0:decide (131072<a1)=false:=decide_eq_false c12
 clear c12
 replace H:=zi H
 rcases H with⟨c13,H⟩|⟨c13,H⟩
 ·have c13b0:decide (131072≤(wrap64 ((wrap64 (ta1-1))*a1)))=true:=decide_eq_true c13
  clear c13
  simp only[Option.some.injEq,Prod.mk.injEq] at H
  obtain⟨rfl,rfl⟩:=H
  go_wp2
  go_ret2
  exact⟨_,zE,z0,zB HB.out⟩
 have c13b0:decide (131072≤(wrap64 ((wrap64 (ta1-1))*a1)))=false:=decide_eq_false c13
 clear c13
 obtain⟨ya5,hya5⟩:∃y_:List Int,y_=(([1]:List Int)):=⟨_,rfl⟩
 replace H:((nat_short.f kj4 l0).bind fun ta8=>(nat_Pow.l0 kj4 a1 ya5 ta8))=some (r1,r2):=zY hya5 H
 have Nya5:=zk hya5
 clear hya5
 replace H:=zb H
 obtain⟨ta8,A14,H⟩:=H
 have H':=zk H
 clear H
 go_wp2_with (first|((with_reducible refine gate_dst (N:=34) rfl ?_);refine Kd.R_lit (Kd.int .u32) _ 97 ?hg (N:=34) ?hd (xs:=([1]:List Int)) (inner:=[.int .u32 1]) (ok:=fun _=>True) (okp:=fun _=>True) ?hr ?hp (fun _ hk=>hk) trivial (Below.refl _ _) (Nat.le_refl _) (by simp) ?_;(case hd=>rfl);(case hg=>rfl);(case hr=>first|(go_simp;done)|(go_simp;rfl));(case hp=>exact(Reps.one (show Kd.M (Kd.int .u32) _ _ _ 1 [.int .u32 1] from rfl) (Reps.none _ _)));intro va6 w15 ho16 hb hg_ hnew_;clear hg_ hnew_;(first|rw[←Nya5.out] at ho16|(simp only[Int.reduceToNat] at ho16;rw[←Nya5.out] at ho16));have HOa7:=yRl ho16 HB;replace HB:=yS HB hb;clear hb ho16)|((with_reducible refine gC 118 ?_);refine zG (some 36) Try.func118 #[.slice A0 l0.length c0] ?_;(with_reducible refine(nat_short.calls kj4 (fun k_=>k_<w.heap.size) _ _ l0 ta8 _ ?side1 A14.out).mono ?_);(case side1=>exact Kd.V_mk HC0.out (Kd.F_below (Kd.C_F (Kd.heap_int .u32) HR0.out) (zB HB.out)));rintro e w17 ⟨va9,rfl,ho0,hb⟩;refine⟨_,rfl,?_⟩;have HOb0:=zk (Kd.V_lower (Kd.V_mono (ok':=fun k_=>some k_≠(va6:Value).ownBlock) ho0 (fun k_ hk_=>Or.elim hk_ (fun hs_=>fun e_=>Nat.not_le.2 hs_ (Kd.R_base HOa7.out k_ e_.symm)) (fun hn_=>(Kd.fresh' (Kd.R_lt (zR HOa7.out)) k_ hn_)))) (below_size (zB HB.out)));replace HOa7:=yRb HOa7 hb;replace HB:=yS HB hb;(try clear hb ho0)))
 go_loopg [1,7,8] kj4 (fun kq v1 v7 v8 w'=>∃(x1_2:Int) (x7_2:List Int) (x8_2:List Int),v1= .int .i64 x1_2∧Aside0 (nat_Pow.l0 kq x1_2 x7_2 x8_2=some (r1,r2))∧Aside0 (kq≤kj4)∧Aside0 (Kd.V (Kd.int .u32) 97 w' w.heap.size (fun _=>True) v7 x7_2)∧Aside0 (Kd.V (Kd.int .u32) 97 w' w.heap.size (fun _=>True) v8 x8_2)∧Aside0 (Below w.heap.size w w'))
 case atStart=>exact⟨(a1),(ya5),(ta8),zF,H',⟨Nat.le_refl _⟩,⟨Kd.R_V (zR HOa7.out)⟩,⟨by(with_reducible repeat(first|apply Kd.V_alloc|apply Kd.V_drewN|apply Kd.V_drew));exact Kd.V_mono HOb0.out (fun _ hk=>trivial)⟩,⟨zB HB.out⟩⟩
 clear H'
 (try clear c3b0);(try clear c7);(try clear c7b0);(try clear c7b1);(try clear c8);(try clear c11);(try clear c11b0);(try clear c11b1);(try clear c12);(try clear c12b0);(try clear c13);(try clear c13b0)
 obtain⟨x1_2,x7_2,x8_2,rfl,HA,HK2,HO_7,HO_8,HB⟩:=hrel
 cases gk with|zero=>exact absurd HA.out (by simp [nat_Pow.l0])|succ k2=>?_
 have H:=HA.out
 clear HA
 simp only[nat_Pow.l0] at H
 replace H:=zi H
 rcases H with⟨c18,H⟩|⟨c18,H⟩
 ·have c18b0:=beq_iff_eq.mpr c18
  have c18b1:=bne_eq_false_iff_eq.mpr c18
  clear c18
  replace H:=zb H
  obtain⟨tb1,A19,H⟩:=H
  replace H:=zi H
  rcases H with⟨c20,H⟩|⟨c20,H⟩
  ·have c20b0:=beq_iff_eq.mpr c20
   have c20b1:=bne_eq_false_iff_eq.mpr c20
   clear c20
   replace H:=zi H
   rcases H with⟨c21,H⟩|⟨c21,H⟩
   ·have c21b0:decide (4096<(tb1.length:Int))=true:=decide_eq_true c21
    have c21b1:decide (4096<tb1.length)=true:=decide_eq_true (by omega)
    clear c21
    simp only[Option.some.injEq,Prod.mk.injEq] at H
    obtain⟨rfl,rfl⟩:=H
    obtain⟨Ao22,co22,rfl⟩:=Kd.V_slice HO_7.out
    obtain⟨Ao23,co23,rfl⟩:=Kd.V_slice HO_8.out
    go_wp2_with (first|((with_reducible refine gC 116 ?_);refine zG (some 42) Try.func116 #[.slice Ao22 x7_2.length co22, .slice Ao23 x8_2.length co23] ?_;(with_reducible refine(nat_times.calls k2 _ _ x7_2 _ _ x8_2 tb1 _ ?side1 ?side2 ?side3 ?side4 A19.out).mono ?_);(case side1=>exact zC (Kd.V_reads' HO_7.out).2.2);(case side2=>exact(Kd.V_reads' HO_7.out).2.1);(case side3=>exact zC (Kd.V_reads' HO_8.out).2.2);(case side4=>exact(Kd.V_reads' HO_8.out).2.1);rintro e w24 ⟨vb2,rfl,ho0,hb⟩;refine⟨_,rfl,?_⟩;replace HO_7:=yVb HO_7 hb;replace HO_8:=yVb HO_8 hb;have HOb3:=yVm ho0 HB;replace HB:=yS HB hb;(try clear hb ho0);obtain⟨Ao25,co25,rfl⟩:=Kd.V_slice HOb3.out))
    go_ret2
    exact⟨_,zE,z0,zB HB.out⟩
   have c21b0:decide (4096<(tb1.length:Int))=false:=decide_eq_false c21
   have c21b1:decide (4096<tb1.length)=false:=decide_eq_false (by omega)
   clear c21
   replace H:=zb H
   obtain⟨tb4,A26,H⟩:=H
   simp only[Option.some.injEq,Prod.mk.injEq] at H
   obtain⟨rfl,rfl⟩:=H
   obtain⟨Ao27,co27,rfl⟩:=Kd.V_slice HO_7.out
   obtain⟨Ao28,co28,rfl⟩:=Kd.V_slice HO_8.out
   go_wp2_with (first|((with_reducible refine gC 116 ?_);refine zG (some 42) Try.func116 #[.slice Ao27 x7_2.length co27, .slice Ao28 x8_2.length co28] ?_;(with_reducible refine(nat_times.calls k2 _ _ x7_2 _ _ x8_2 tb1 _ ?side1 ?side2 ?side3 ?side4 A19.out).mono ?_);(case side1=>exact zC (Kd.V_reads' HO_7.out).2.2);(case side2=>exact(Kd.V_reads' HO_7.out).2.1);(case side3=>exact zC (Kd.V_reads' HO_8.out).2.2);(case side4=>exact(Kd.V_reads' HO_8.out).2.1);rintro e w29 ⟨vb2,rfl,ho0,hb⟩;refine⟨_,rfl,?_⟩;replace HO_7:=yVb HO_7 hb;replace HO_8:=yVb HO_8 hb;have HOb3:=yVm ho0 HB;replace HB:=yS HB hb;(try clear hb ho0);obtain⟨Ao30,co30,rfl⟩:=Kd.V_slice HOb3.out)|((with_reducible refine gC 103 ?_);refine zG (some 54) Try.func103 #[.slice Ao30 tb1.length co30] ?_;(with_reducible refine(nat_Trim.calls k2 _ _ tb1 tb4 _ ?side1 ?side2 A26.out).mono ?_);(case side1=>exact zC (Kd.V_reads' HOb3.out).2.2);(case side2=>exact(Kd.V_reads' HOb3.out).2.1);rintro e w31 ⟨vb5,rfl,ho0,hb⟩;refine⟨_,rfl,?_⟩;replace HO_7:=yVe HO_7 ho0 hb;replace HO_8:=yVe HO_8 ho0 hb;replace HOb3:=yVe HOb3 ho0 hb;have HOb6:=yRl ho0 HB;replace HB:=yS HB hb;(try clear hb ho0)))
   go_ret2
   exact⟨_,zE,zR HOb6.out,zB HB.out⟩
  have c20b0:=beq_eq_false_iff_ne.mpr c20
  have c20b1:=bne_iff_ne.mpr c20
  replace H:=zb H
  obtain⟨tb7,A32,H⟩:=H
  have H':=zk H
  clear H
  obtain⟨Ao33,co33,rfl⟩:=Kd.V_slice HO_7.out
  obtain⟨Ao34,co34,rfl⟩:=Kd.V_slice HO_8.out
  go_wp2_with (first|((with_reducible refine gC 116 ?_);refine zG (some 42) Try.func116 #[.slice Ao33 x7_2.length co33, .slice Ao34 x8_2.length co34] ?_;(with_reducible refine(nat_times.calls k2 _ _ x7_2 _ _ x8_2 tb1 _ ?side1 ?side2 ?side3 ?side4 A19.out).mono ?_);(case side1=>exact zC (Kd.V_reads' HO_7.out).2.2);(case side2=>exact(Kd.V_reads' HO_7.out).2.1);(case side3=>exact zC (Kd.V_reads' HO_8.out).2.2);(case side4=>exact(Kd.V_reads' HO_8.out).2.1);rintro e w35 ⟨vb2,rfl,ho0,hb⟩;refine⟨_,rfl,?_⟩;replace HO_7:=yVb HO_7 hb;replace HO_8:=yVb HO_8 hb;have HOb3:=yVm ho0 HB;replace HB:=yS HB hb;(try clear hb ho0))|((with_reducible refine gC 116 ?_);refine zG (some 49) Try.func116 #[.slice Ao34 x8_2.length co34, .slice Ao34 x8_2.length co34] ?_;(with_reducible refine(nat_times.calls k2 _ _ x8_2 _ _ x8_2 tb7 _ ?side1 ?side2 ?side3 ?side4 A32.out).mono ?_);(case side1=>exact zC (Kd.V_reads' HO_8.out).2.2);(case side2=>exact(Kd.V_reads' HO_8.out).2.1);(case side3=>exact zC (Kd.V_reads' HO_8.out).2.2);(case side4=>exact(Kd.V_reads' HO_8.out).2.1);rintro e w36 ⟨vb8,rfl,ho0,hb⟩;refine⟨_,rfl,?_⟩;replace HO_7:=yVb HO_7 hb;replace HO_8:=yVb HO_8 hb;replace HOb3:=yVb HOb3 hb;have HOb9:=yVm ho0 HB;replace HB:=yS HB hb;(try clear hb ho0)))
  go_roundg k2
  case measure=>have:=HJ4.out;have:=HK2.out;omega
  case rel=>exact⟨(x1_2 / 2),(tb1),(tb7),zF,H',⟨zo2 HJ4 HK2⟩,⟨zV HOb3.out⟩,⟨zV HOb9.out⟩,⟨zB HB.out⟩⟩
 have c18b0:=beq_eq_false_iff_ne.mpr c18
 have c18b1:=bne_iff_ne.mpr c18
 replace H:=zi H
 rcases H with⟨c37,H⟩|⟨c37,H⟩
 ·have c37b0:=beq_iff_eq.mpr c37
  have c37b1:=bne_eq_false_iff_eq.mpr c37
  clear c37
  replace H:=zi H
  rcases H with⟨c38,H⟩|⟨c38,H⟩
  ·have c38b0:decide (4096<(x7_2.length:Int))=true:=decide_eq_true c38
   have c38b1:decide (4096<x7_2.length)=true:=decide_eq_true (by omega)
   clear c38
   simp only[Option.some.injEq,Prod.mk.injEq] at H
   obtain⟨rfl,rfl⟩:=H
   obtain⟨Ao39,co39,rfl⟩:=Kd.V_slice HO_7.out
   go_wp2
   go_ret2
   exact⟨_,zE,z0,zB HB.out⟩
  have c38b0:decide (4096<(x7_2.length:Int))=false:=decide_eq_false c38
  have c38b1:decide (4096<x7_2.length)=false:=decide_eq_false (by omega)
  clear c38
  replace H:=zb H
  obtain⟨tc0,A40,H⟩:=H
  simp only[Option.some.injEq,Prod.mk.injEq] at H
  obtain⟨rfl,rfl⟩:=H
  obtain⟨Ao41,co41,rfl⟩:=Kd.V_slice HO_7.out
  go_wp2_with (first|((with_reducible refine gC 103 ?_);refine zG (some 54) Try.func103 #[.slice Ao41 x7_2.length co41] ?_;(with_reducible refine(nat_Trim.calls k2 _ _ x7_2 tc0 _ ?side1 ?side2 A40.out).mono ?_);(case side1=>exact zC (Kd.V_reads' HO_7.out).2.2);(case side2=>exact(Kd.V_reads' HO_7.out).2.1);rintro e w42 ⟨vc1,rfl,ho0,hb⟩;refine⟨_,rfl,?_⟩;replace HO_7:=yVe HO_7 ho0 hb;replace HO_8:=yVe HO_8 ho0 hb;have HOc2:=yRl ho0 HB;replace HB:=yS HB hb;(try clear hb ho0)))
  go_ret2
  exact⟨_,zE,zR HOc2.out,zB HB.out⟩
 have c37b0:=beq_eq_false_iff_ne.mpr c37
 have c37b1:=bne_iff_ne.mpr c37
 replace H:=zb H
 obtain⟨tc3,A43,H⟩:=H
 have H':=zk H
 clear H
 obtain⟨Ao44,co44,rfl⟩:=Kd.V_slice HO_8.out
 go_wp2_with (first|((with_reducible refine gC 116 ?_);refine zG (some 49) Try.func116 #[.slice Ao44 x8_2.length co44, .slice Ao44 x8_2.length co44] ?_;(with_reducible refine(nat_times.calls k2 _ _ x8_2 _ _ x8_2 tc3 _ ?side1 ?side2 ?side3 ?side4 A43.out).mono ?_);(case side1=>exact zC (Kd.V_reads' HO_8.out).2.2);(case side2=>exact(Kd.V_reads' HO_8.out).2.1);(case side3=>exact zC (Kd.V_reads' HO_8.out).2.2);(case side4=>exact(Kd.V_reads' HO_8.out).2.1);rintro e w45 ⟨vc4,rfl,ho0,hb⟩;refine⟨_,rfl,?_⟩;replace HO_7:=yVb HO_7 hb;replace HO_8:=yVb HO_8 hb;have HOc5:=yVm ho0 HB;replace HB:=yS HB hb;(try clear hb ho0)))
 go_roundg k2
 case measure=>have:=HJ4.out;have:=HK2.out;omega
 case rel=>exact⟨(x1_2 / 2),(x7_2),(tc3),zF,H',⟨zo2 HJ4 HK2⟩,⟨zV HO_7.out⟩,⟨zV HOc5.out⟩,⟨zB HB.out⟩⟩
set_option maxHeartbeats 8000000 in
set_option maxRecDepth 100000 in
theorem mw_small.calls (k:Nat) (a0:Int) (r1:Bool) (r2:List Int) (w:World) (h:mw_small.f k a0=some (r1,r2)):
 Calls Try.prog 124 #[.int .i64 a0] w fun e w'=>∃v1_:Value,e= .returned (.agg #[.bool r1,v1_])∧Kd.R (Kd.int .u32) 97 w' w.heap.size (fun _=>True) v1_ r2∧Below w.heap.size w w':=by
 have hu113:=Try.underlying113
 have HB:=zk (Below.refl w.heap.size w)
 have H:=h
 clear h
 unfold mw_small.f at H
 replace H:=zb H
 obtain⟨ta2,A2,H⟩:=H
 simp only[Option.some.injEq,Prod.mk.injEq] at H
 obtain⟨rfl,rfl⟩:=H
 go_enter Try.func124,Try.ntmps124
 go_wp2_with (first|((with_reducible refine gate_dst (N:=2) rfl ?_);refine box_event ?hg (N:=2) ?hd (cs:= #[.bool false, .slice none 0 0]) (t:=113) ?hr ?_;(case hd=>rfl);(case hg=>rfl);(case hr=>first|(go_simp;done)|(go_simp;rfl));intro gba1 hg w3 hbox hb;have BKa1:=zk (hbox);have GWa1:=yg hg HB;have GEa1:=yg hg HB;replace HB:=yS HB hb;clear hb hbox hg)|((with_reducible refine gC 80 ?_);refine zG (some 5) Try.func80 #[.int .u64 (IntKind.u64.wrap (a0))] ?_;(with_reducible refine(nat_Of.calls k (IntKind.u64.wrap (a0)) ta2 _ A2.out).mono ?_);rintro e w4 ⟨va3,rfl,ho0,hb⟩;refine⟨_,rfl,?_⟩;have HOa4:=yRl1 ho0 HB GEa1;replace BKa1:=yK BKa1 hb;replace HB:=yS1 HB GEa1 hb;(try clear hb ho0);obtain⟨Ao5,co5,rfl⟩:=Kd.R_slice HOa4.out;obtain⟨hcz6_0,hcz6_1,hfz6_0,hfz6_1⟩:=zz2 BKa1))
 refine bodyPost_ret (results_cell_row rfl _ _ gba1 113 #[.bool false, .slice Ao5 ta2.length co5] (0,0) _ rfl (zP2 BKa1.out) Try.underlying113 rfl (by kernel_rfl)) rfl ?_
 exact⟨_,zE,by(with_reducible repeat(first|apply Kd.R_alloc|apply Kd.R_drewN|apply Kd.R_drew));exact Kd.R_mono (Kd.R_far (p:=⟨gba1,1,none⟩) (Kd.R_far (p:=⟨gba1,0,none⟩) (Kd.R_types HOa4.out BKa1.out (by decide)) (fun _ hk=>hk.2) (.bool false)) (fun _ hk=>hk.2) (.slice Ao5 ta2.length co5)) (fun _ hk=>trivial),zB1 HB.out GEa1.out⟩
set_option maxHeartbeats 8000000 in
set_option maxRecDepth 100000 in
theorem mw_minus.calls (k:Nat) (a0_0:Bool) (P0_1_:Nat→Prop) (A0_1:Option Addr) (c0_1:Nat) (l0_1:List Int) (a1_0:Bool) (P1_1_:Nat→Prop) (A1_1:Option Addr) (c1_1:Nat) (l1_1:List Int) (r1:Bool) (r2:List Int) (w:World) (hs0_1:Kd.V (Kd.int .u32) 97 w w.heap.size (fun k_=>P0_1_ k_) (.slice A0_1 l0_1.length c0_1) l0_1) (hs1_1:Kd.V (Kd.int .u32) 97 w w.heap.size (fun k_=>P1_1_ k_) (.slice A1_1 l1_1.length c1_1) l1_1) (h:mw_minus.f k a0_0 l0_1 a1_0 l1_1=some (r1,r2)):
 Calls Try.prog 125 #[.agg #[.bool a0_0, .slice A0_1 l0_1.length c0_1], .agg #[.bool a1_0, .slice A1_1 l1_1.length c1_1]] w fun e w'=>∃v1_:Value,e= .returned (.agg #[.bool r1,v1_])∧Kd.V (Kd.int .u32) 97 w' w.heap.size (fun k_=>((P0_1_ k_∨P1_1_ k_)∨w.heap.size≤k_)) v1_ r2∧Below w.heap.size w w':=by
 have hu113:=Try.underlying113
 have HO0_1:=zk (show Kd.V (Kd.int .u32) 97 w w.heap.size (fun k_=>((P0_1_ k_∨P1_1_ k_)∨w.heap.size≤k_)) (.slice A0_1 l0_1.length c0_1) l0_1 from Kd.V_mono hs0_1 (fun k_ hk=> .inl (.inl hk)))
 have HO1_1:=zk (show Kd.V (Kd.int .u32) 97 w w.heap.size (fun k_=>((P0_1_ k_∨P1_1_ k_)∨w.heap.size≤k_)) (.slice A1_1 l1_1.length c1_1) l1_1 from Kd.V_mono hs1_1 (fun k_ hk=> .inl (.inr hk)))
 have HB:=zk (Below.refl w.heap.size w)
 have H:=h
 clear h
 unfold mw_minus.f at H
 replace H:=zb H
 obtain⟨⟨ta4,ta5⟩,A3,H⟩:=H
 dsimp only at H
 simp only[Option.some.injEq,Prod.mk.injEq] at H
 obtain⟨rfl,rfl⟩:=H
 go_enter Try.func125,Try.ntmps125
 go_wp2_with (first|((with_reducible refine gate_dst (N:=2) rfl ?_);refine box_event ?hg (N:=2) ?hd (cs:= #[.bool a0_0, .slice A0_1 l0_1.length c0_1]) (t:=113) ?hr ?_;(case hd=>rfl);(case hg=>rfl);(case hr=>first|(go_simp;done)|(go_simp;rfl));intro gba1 hg w4 hbox hb;replace HO0_1:=yVB HO0_1 hg hb;replace HO1_1:=yVB HO1_1 hg hb;have BKa1:=zk (hbox);have GWa1:=yg hg HB;have GEa1:=yg hg HB;replace HB:=yS HB hb;clear hb hbox hg)|((with_reducible refine gate_dst (N:=3) rfl ?_);refine box_event ?hg (N:=3) ?hd (cs:= #[.bool a1_0, .slice A1_1 l1_1.length c1_1]) (t:=113) ?hr ?_;(case hd=>rfl);(case hg=>rfl);(case hr=>first|(go_simp;done)|(go_simp;rfl));intro gba2 hg w5 hbox hb;replace HO0_1:=yVB HO0_1 hg hb;replace HO1_1:=yVB HO1_1 hg hb;have BKa2:=zk (hbox);have GWa2:=yg1 hg HB GEa1;have GEa2:=yg1 hg HB GEa1;replace HB:=yS1 HB GEa1 hb;have NBa1_102:=ynl hg BKa1;have NBa2_101:=yng hg BKa1;replace BKa1:=yK BKa1 hb;clear hb hbox hg)|((with_reducible refine gate_dst (N:=4) rfl ?_);refine box_event ?hg (N:=4) ?hd (cs:= #[.bool false, .slice none 0 0]) (t:=113) ?hr ?_;(case hd=>rfl);(case hg=>rfl);(case hr=>first|(go_simp;done)|(go_simp;rfl));intro gba3 hg w6 hbox hb;replace HO0_1:=yVB HO0_1 hg hb;replace HO1_1:=yVB HO1_1 hg hb;have BKa3:=zk (hbox);have GWa3:=yg2 hg HB GEa1 GEa2;have GEa3:=yg2 hg HB GEa1 GEa2;replace HB:=yS2 HB GEa1 GEa2 hb;have NBa1_103:=ynl hg BKa1;have NBa3_101:=yng hg BKa1;replace BKa1:=yK BKa1 hb;have NBa2_103:=ynl hg BKa2;have NBa3_102:=yng hg BKa2;replace BKa2:=yK BKa2 hb;clear hb hbox hg;have hnb7:=NBa1_102.out;have hnc7:=NBa2_101.out;have hnb8:=NBa1_103.out;have hnc8:=NBa3_101.out;obtain⟨hcz9_0,hcz9_1,hfz9_0,hfz9_1⟩:=zz2 BKa1;have hnb10:=NBa2_103.out;have hnc10:=NBa3_102.out;obtain⟨hcz11_0,hcz11_1,hfz11_0,hfz11_1⟩:=zz2 BKa2)|((with_reducible refine gC 128 ?_);refine zG (some 12) Try.func128 #[.agg #[.bool a0_0, .slice A0_1 l0_1.length c0_1], .agg #[.bool (!a1_0), .slice A1_1 l1_1.length c1_1]] ?_;(with_reducible refine(mw_plus.calls k a0_0 (fun k_=>(((((P0_1_ k_∨P1_1_ k_)∨w.heap.size≤k_)∧k_≠gba1)∧k_≠gba2)∧k_≠gba3)) _ _ l0_1 (!a1_0) (fun k_=>(((((P0_1_ k_∨P1_1_ k_)∨w.heap.size≤k_)∧k_≠gba1)∧k_≠gba2)∧k_≠gba3)) _ _ l1_1 ta4 ta5 _ ?side1 ?side2 A3.out).mono ?_);(case side1=>exact HO0_1.out);(case side2=>exact HO1_1.out);rintro e w12 ⟨va6,rfl,ho0,hb⟩;refine⟨_,rfl,?_⟩;replace HO0_1:=yVb HO0_1 hb;replace HO1_1:=yVb HO1_1 hb;have HOa7:=zk (Kd.V_lower (Kd.V_mono (ok':=fun k_=>((P0_1_ k_∨P1_1_ k_)∨w.heap.size≤k_)∧k_≠gba1∧k_≠gba2∧k_≠gba3) ho0 (fun k_ hk_=>⟨Or.elim hk_ (fun hs_=>Or.elim hs_ (fun hs_=>hs_.1.1.1) (fun hs_=>hs_.1.1.1)) (fun hn_=>(.inr (Nat.le_trans (below_size (zB3 HB.out GEa1.out GEa2.out GEa3.out)) hn_))),Or.elim hk_ (fun hs_=>Or.elim hs_ (fun hs_=>hs_.1.1.2) (fun hs_=>hs_.1.1.2)) (fun hn_=>(Kd.freshB (g:=gba1) (o:= .cells #[.bool a0_0, .slice A0_1 l0_1.length c0_1] 113 (0,0)) (zK BKa1.out) k_ hn_)),Or.elim hk_ (fun hs_=>Or.elim hs_ (fun hs_=>hs_.1.2) (fun hs_=>hs_.1.2)) (fun hn_=>(Kd.freshB (g:=gba2) (o:= .cells #[.bool a1_0, .slice A1_1 l1_1.length c1_1] 113 (0,0)) (zK BKa2.out) k_ hn_)),Or.elim hk_ (fun hs_=>Or.elim hs_ (fun hs_=>hs_.2) (fun hs_=>hs_.2)) (fun hn_=>(Kd.freshB (g:=gba3) (o:= .cells #[.bool false, .slice none 0 0] 113 (0,0)) (zK BKa3.out) k_ hn_))⟩)) (below_size (zB3 HB.out GEa1.out GEa2.out GEa3.out)));replace BKa1:=yK BKa1 hb;replace BKa2:=yK BKa2 hb;replace BKa3:=yK BKa3 hb;replace HB:=yS3 HB GEa1 GEa2 GEa3 hb;(try clear hb ho0);obtain⟨hcz13_0,hcz13_1,hfz13_0,hfz13_1⟩:=zz2 BKa3;obtain⟨Ao14,co14,rfl⟩:=Kd.V_slice HOa7.out))
 refine bodyPost_ret (results_cell_row rfl _ _ gba3 113 #[.bool ta4, .slice Ao14 ta5.length co14] (0,0) _ rfl (zP2 BKa3.out) Try.underlying113 rfl (by kernel_rfl)) rfl ?_
 exact⟨_,zE,by(with_reducible repeat(first|apply Kd.V_alloc|apply Kd.V_drewN|apply Kd.V_drew));exact Kd.V_mono (Kd.V_far (p:=⟨gba3,1,none⟩) (Kd.V_far (p:=⟨gba3,0,none⟩) (Kd.V_mono HOa7.out (fun k_ hk=>(⟨hk,hk.2.2.2⟩:_∧k_≠gba3))) (fun _ hk=>hk.2) (.bool ta4)) (fun _ hk=>hk.2) (.slice Ao14 ta5.length co14)) (fun _ hk=>hk.1.1),zB3 HB.out GEa1.out GEa2.out GEa3.out⟩
def mw_table.T18:Bool×List (List Nat×List Nat):=(true,[([],[]),([],[]),([],[]),([1,2],[1,2]),([3],[3]),([],[]),([],[]),([6],[6]),([5,7],[5,7]),([8],[8]),([4,9],[4,9]),([],[]),([],[]),([],[]),([13],[13]),([12,14],[12,14]),([15],[15]),([11,16,10],[11,16]),([10,17,17],[10,17]),([18],[18]),([0,19,18],[0,19]),([20,20,0,1,2,3,4,5,6,7,8,9,10,11,12,13,14,15,16,17,18,19,20],[0,12,20])])
def mw_table.B18:List Nat:=[0,0,0,6,14,0,0,64,224,480,1022,0,0,0,8192,28672,61440,131070,262142,524286,1048575,2097151]
theorem mw_table.tab18:rtab .any (opsOf Try.f94 18)=mw_table.T18:=by kernel_rfl
theorem mw_table.bits18:waitsOk mw_table.T18.2 mw_table.B18=true:=by kernel_rfl
set_option maxHeartbeats 8000000 in
set_option maxRecDepth 100000 in
theorem mw_table.calls (k:Nat) (a0:Int) (a1:Int) (r:List (List (S113))) (w:World) (h:mw_table.f k a0 a1=some r):
 Calls Try.prog 94 #[.int .i64 a0, .int .i64 a1] w fun e w'=>∃v0_:Value,e= .returned (v0_)∧Kd.N (Kd.slice 113 k113) 114 w' w.heap.size (fun k_=>(w.heap.size≤k_)) v0_ r∧Below w.heap.size w w':=by
 have hu113:=Try.underlying113
 have HB:=zk (Below.refl w.heap.size w)
 have H:=h
 clear h
 unfold mw_table.f at H
 obtain⟨ji3,hji3⟩:∃j_:Int,(wrap64 (a1+1))=j_:=⟨_,rfl⟩
 replace H:(if 0≤(ji3) then(if(ji3:Int).toNat≤8796093022208 then((some (List.replicate (ji3:Int).toNat z113:List (S113))).bind fun ya1=>(mw_table.l0 k a0 a1 ya1 (ya1.length:Int) 0)) else(none)) else(none))=some r:=by first|(rw[hji3] at H;exact H)|(simp only[hji3] at H ⊢;exact H)
 have hji3w:(IntKind.i64.wrap (a1+1))=ji3:=(i64_w _).trans hji3
 replace H:=zg H
 obtain⟨c4,H⟩:=H
 have c4b0:=eq_true c4
 have c4b1:=decide_eq_true c4
 clear c4
 replace H:=zg H
 obtain⟨c5,H⟩:=H
 have c5b0:=eq_true c5
 have c5b1:=decide_eq_true c5
 clear c5
 obtain⟨ya1,hya1⟩:∃y_:List (S113),y_=(List.replicate (ji3:Int).toNat z113):=⟨_,rfl⟩
 replace H:(mw_table.l0 k a0 a1 ya1 (ya1.length:Int) 0)=some r:=zY hya1 H
 have Nya1:=zk hya1
 clear hya1
 have H':=zk H
 clear H
 go_enter Try.func94,Try.ntmps94
 go_wp2_with (first|((with_reducible refine gate_dst (N:=18) rfl ?_);refine Kd.N_make k113 _ 113 rfl (N':=18) rfl 114 _ _ rfl ji3 rfl rfl Try.underlying114 (.agg #[(.bool false),(.slice none 0 0)]) 32 info113 rfl (by decide) (by omega) z113 (ok:=fun k_=>w.heap.size≤k_) (okp:=fun _=>False) (k113_mkF _ _ z113 (Nat.le_refl _) (Kd.F_nil _ _ _)) (fun _ hk=>hk.elim) (Nat.le_refl _) zd (Nat.le_trans (Nat.mul_le_mul_right _ (zd:ji3.toNat≤8796093022208)) (by omega)) (Below.refl _ _) (Nat.le_refl _) ?_;intro va2 w6 ho7 hb hg_ hnew_;clear hg_ hnew_;(first|rw[←Nya1.out] at ho7|(simp only[Int.reduceToNat] at ho7;rw[←Nya1.out] at ho7));have HOa3:=zk (Kd.N_lower (Kd.N_mono (ok':=fun k_=>(w.heap.size≤k_)) ho7 (fun k_ hk_=>(Nat.le_trans (below_size (zB HB.out)) hk_))) (below_size (zB HB.out)));replace HB:=yS HB hb;clear hb ho7;obtain⟨Ao8,co8,rfl⟩:=Kd.N_slice HOa3.out))
 go_loopg [21] k (fun kq v21 w'=>∃(x5_1:List (S113)) (x21_1:Int),v21= .int .i64 x21_1∧Aside0 (mw_table.l0 kq a0 a1 x5_1 (ya1.length:Int) x21_1=some r)∧Aside0 (kq≤k)∧Aside0 (Kd.N k113 113 w' w.heap.size (fun k_=>(w.heap.size≤k_)) (.slice Ao8 ya1.length co8) x5_1)∧Aside0 (Below w.heap.size w w'))
 case atStart=>exact⟨(ya1),(0),zF,H',⟨Nat.le_refl _⟩,⟨zN HOa3.out⟩,⟨zB HB.out⟩⟩
 clear H'
 (try clear c4);(try clear c4b0);(try clear c4b1);(try clear c5);(try clear c5b0);(try clear c5b1)
 obtain⟨x5_1,x21_1,rfl,HA,HK1,HO_5,HB⟩:=hrel
 have hl5_1:=(Kd.N_reads' HO_5.out).1
 rw[hl5_1] at HO_5
 (try simp only[hl5_1])
 cases gk with|zero=>exact absurd HA.out (by simp [mw_table.l0])|succ k1=>?_
 have H:=HA.out
 clear HA
 simp only[mw_table.l0] at H
 replace H:=zi H
 rcases H with⟨c9,H⟩|⟨c9,H⟩
 ·have c9b0:=decide_eq_true c9
  (try(have c9h0:=c9b0;simp only[hl5_1] at c9h0))
  clear c9
  replace H:=zb H
  obtain⟨⟨ta4,ta5⟩,A10,H⟩:=H
  dsimp only at H
  replace H:=zb H
  obtain⟨ta8,A11,H⟩:=H
  replace H:=zb H
  obtain⟨⟨tb1,tb2⟩,A12,H⟩:=H
  dsimp only at H
  obtain⟨yb5,hyb5⟩:∃y_:List (List Int),y_=(([ta4,tb1]:List (List Int))):=⟨_,rfl⟩
  replace H:((nat_Mul.f k1 yb5).bind fun tb8=>(if 0≤x21_1 then(if x21_1<(x5_1.length:Int) then(mw_table.l0 k1 a0 a1 (x5_1.set (x21_1:Int).toNat (⟨false,tb8⟩:S113)) (ya1.length:Int) (wrap64 (x21_1+1))) else(none)) else(none)))=some r:=zY hyb5 H
  have Nyb5:=zk hyb5
  clear hyb5
  replace H:=zb H
  obtain⟨tb8,A13,H⟩:=H
  replace H:=zgd H
  obtain⟨c14b0,H⟩:=H
  replace H:=zg H
  obtain⟨c15,H⟩:=H
  have c15b0:=decide_eq_true c15
  (try(have c15h0:=c15b0;simp only[hl5_1] at c15h0))
  clear c15
  obtain⟨yc1,hyc1⟩:∃y_:List (S113),y_=(x5_1.set (x21_1:Int).toNat (⟨false,tb8⟩:S113)):=⟨_,rfl⟩
  replace H:(mw_table.l0 k1 a0 a1 yc1 (ya1.length:Int) (wrap64 (x21_1+1)))=some r:=zY hyc1 H
  have Nyc1:=zk hyc1
  clear hyc1
  have H':=zk H
  clear H
  go_wp2_with (first|((with_reducible refine gC 72 ?_);refine zG (some 27) Try.func72 #[.int .i64 a1, .int .i64 x21_1] ?_;(with_reducible refine(nat_Binomial.calls k1 a1 x21_1 ta4 ta5 _ A10.out).mono ?_);rintro e w17 ⟨va6,rfl,ho0,hb⟩;refine⟨_,rfl,?_⟩;replace HO_5:=yNe HO_5 ho0 hb;replace ho0:=Kd.R_newM (M:=fun k_=>(w.heap.size≤k_)) ho0 (below_size (zB HB.out)) (fun k_ h_=>h_);have HOa7:=yRl ho0 HB;replace HB:=yS HB hb;(try clear hb ho0))|((with_reducible refine gC 80 ?_);refine zG (some 34) Try.func80 #[.int .u64 (IntKind.u64.wrap (wrap64 (a0-1)))] ?_;(with_reducible refine(nat_Of.calls k1 (IntKind.u64.wrap (wrap64 (a0-1))) ta8 _ A11.out).mono ?_);rintro e w18 ⟨va9,rfl,ho0,hb⟩;refine⟨_,rfl,?_⟩;replace HO_5:=yNe HO_5 ho0 hb;replace ho0:=Kd.R_newM (M:=fun k_=>(w.heap.size≤k_)) ho0 (below_size (zB HB.out)) (fun k_ h_=>h_);replace ho0:=yn ho0 HOa7;have HOb0:=yRl ho0 HB;replace HOa7:=yRe HOa7 ho0 hb;replace HB:=yS HB hb;(try clear hb ho0);obtain⟨Ao19,co19,rfl⟩:=Kd.R_slice HOb0.out)|((with_reducible refine gC 85 ?_);refine zG (some 36) Try.func85 #[.slice Ao19 ta8.length co19, .int .i64 x21_1] ?_;(with_reducible refine(nat_Pow.calls k1 _ _ ta8 x21_1 tb1 tb2 _ ?side1 ?side2 A12.out).mono ?_);(case side1=>exact zC (Kd.R_reads' HOb0.out).2.2);(case side2=>exact(Kd.R_reads' HOb0.out).2.1);rintro e w20 ⟨vb3,rfl,ho0,hb⟩;refine⟨_,rfl,?_⟩;replace HO_5:=yNe HO_5 ho0 hb;replace ho0:=Kd.R_newM (M:=fun k_=>(w.heap.size≤k_)) ho0 (below_size (zB HB.out)) (fun k_ h_=>h_);replace ho0:=yn ho0 HOa7;replace ho0:=yn ho0 HOb0;have HOb4:=yRl ho0 HB;replace HOa7:=yRe HOa7 ho0 hb;replace HOb0:=yRe HOb0 ho0 hb;replace HB:=yS HB hb;(try clear hb ho0);obtain⟨Ao21,co21,rfl⟩:=Kd.R_slice HOa7.out;obtain⟨Ao22,co22,rfl⟩:=Kd.R_slice HOb4.out)|((with_reducible refine gate_dst (N:=43) rfl ?_);refine Kd.N_lit (Kd.slice 97 (Kd.int .u32)) _ 29 ?hg (N':=43) ?hd (xs:=([ta4,tb1]:List (List Int))) (inner:=[.slice Ao21 ta4.length co21, .slice Ao22 tb1.length co22]) (ok:=(fun k_=>(w.heap.size≤k_)∧some k_≠(.slice Ao8 x5_1.length co8:Value).ownBlock∧some k_≠(.slice Ao19 ta8.length co19:Value).ownBlock)) (okp:=(fun k_=>(w.heap.size≤k_)∧some k_≠(.slice Ao8 x5_1.length co8:Value).ownBlock∧some k_≠(.slice Ao19 ta8.length co19:Value).ownBlock)) ?hr ?hp (fun _ hk=>hk) ((show ∀k_,w20.heap.size≤k_→(fun k_=>(w.heap.size≤k_)∧some k_≠(.slice Ao8 x5_1.length co8:Value).ownBlock∧some k_≠(.slice Ao19 ta8.length co19:Value).ownBlock) k_ from fun k_ hk=>⟨(Nat.le_trans (below_size (zB HB.out)) hk),Kd.fresh' (Kd.N_lt (zN HO_5.out)) k_ hk,Kd.fresh' (Kd.R_lt (zR HOb0.out)) k_ hk⟩) _ (Nat.le_refl _)) (Below.refl _ _) (Nat.le_refl _) (by simp) ?_;(case hd=>rfl);(case hg=>rfl);(case hr=>first|(go_simp;done)|(go_simp;rfl));(case hp=>exact(Reps.one (show Kd.FK (Kd.slice 97 (Kd.int .u32)) _ _ ta4 [.slice Ao21 ta4.length co21] from(Mw.FK_of_R (Kd.R_mono (ok':=(fun k_=>(w.heap.size≤k_)∧some k_≠(.slice Ao8 x5_1.length co8:Value).ownBlock∧some k_≠(.slice Ao19 ta8.length co19:Value).ownBlock)) (Kd.R_apart' (HOa7.out) (Kd.N_typed HO_5.out) (by decide)) (fun k_ hk=>by exact⟨hk.1.1.1.1,⟨hk.2,hk.1.1.2⟩⟩)))) (Reps.one (show Kd.FK (Kd.slice 97 (Kd.int .u32)) _ _ tb1 [.slice Ao22 tb1.length co22] from(Mw.FK_of_R (Kd.R_mono (ok':=(fun k_=>(w.heap.size≤k_)∧some k_≠(.slice Ao8 x5_1.length co8:Value).ownBlock∧some k_≠(.slice Ao19 ta8.length co19:Value).ownBlock)) (Kd.R_apart' (HOb4.out) (Kd.N_typed HO_5.out) (by decide)) (fun k_ hk=>by exact⟨hk.1.1.1.1,⟨hk.2,hk.1.2⟩⟩)))) (Reps.none _ _))));intro vb6 w23 ho24 hb hg_ hnew_;clear hg_ hnew_;(first|rw[←Nyb5.out] at ho24|(simp only[Int.reduceToNat] at ho24;rw[←Nyb5.out] at ho24));replace HO_5:=zk (Kd.N_elder' (zN HO_5.out) (Kd.N_base ho24) hb);replace HOb0:=yRb HOb0 hb;have HOb7:=zk (Kd.N_lower ho24 (below_size (zB HB.out)));replace HB:=yS HB hb;clear HOa7 HOb4;clear hb ho24;obtain⟨Ao25,co25,rfl⟩:=Kd.N_slice HOb7.out)|((with_reducible refine gC 74 ?_);refine zG (some 44) Try.func74 #[.slice Ao25 yb5.length co25] ?_;(with_reducible refine(nat_Mul.calls k1 _ _ yb5 tb8 _ ?side1 ?side2 A13.out).mono ?_);(case side1=>exact zC (Kd.N_reads' HOb7.out).2.2);(case side2=>exact(Kd.N_reads' HOb7.out).2.1);rintro e w26 ⟨vb9,rfl,ho0,hb⟩;refine⟨_,rfl,?_⟩;replace HO_5:=yNe HO_5 ho0 hb;replace HOb7:=yNe HOb7 ho0 hb;replace ho0:=Kd.R_newM (M:=fun k_=>(w.heap.size≤k_)) ho0 (below_size (zB HB.out)) (fun k_ h_=>h_);replace ho0:=yn ho0 HOb0;have HOc0:=yRl ho0 HB;replace HOb0:=yRe HOb0 ho0 hb;replace HB:=yS HB hb;(try clear hb ho0);obtain⟨Ao27,co27,rfl⟩:=Kd.R_slice HOc0.out;have p16:0≤(x21_1:Int):=zd;have q16:(x21_1:Int)<((x5_1.length:Int):Int):=zd;obtain⟨go16,co16,eo16,gb16,gl16,cl16,HG16⟩:=Kd.N_form HO_5.out (by omega);(first|cases eo16|(injection eo16 with ea_ en_ ec_;(first|subst ea_|(injection ea_ with ea_;subst ea_));subst ec_;clear en_));have GB16:=zk gb16;have GG16:=zk HG16;clear gb16 gl16 HG16;obtain⟨ce16,hcl16,hM16,hcc16,hfr16⟩:=Kd.N_elem HO_5.out z113 (x21_1:Int) p16 q16;obtain⟨ua16_1,uc16_1,rfl,ul16_1,ge16_1⟩:=k113_openF hM16;have hx16_0:w26.cell? ⟨go16,(x21_1:Int).toNat*2,none⟩=some (.bool ((rd_T113 x5_1 x21_1).f0)):=hcc16 0 _ rfl;have hx16_1:w26.cell? ⟨go16,(x21_1:Int).toNat*2+1,none⟩=some (.slice ua16_1 ((rd_T113 x5_1 x21_1).f1).length uc16_1):=hcc16 1 _ rfl;have hf16_0:w26.frozen? ⟨go16,(x21_1:Int).toNat*2,none⟩=false:=hfr16 0;have hf16_1:w26.frozen? ⟨go16,(x21_1:Int).toNat*2+1,none⟩=false:=hfr16 1;clear hcl16 hcc16 hfr16 hM16;replace p16:=eq_true p16;replace q16:=eq_true q16;have n_:=zk (Kd.N_mono (ok':=(fun k_=>(w.heap.size≤k_)∧some k_≠(.slice Ao19 ta8.length co19:Value).ownBlock∧some k_≠(.slice Ao25 yb5.length co25:Value).ownBlock∧some k_≠(.slice Ao27 tb8.length co27:Value).ownBlock)) HO_5.out (fun k_ hk=>⟨hk.1.1.1.1.1,⟨hk.1.1.1.2,⟨hk.1.2,hk.2⟩⟩⟩));clear HO_5;have HO_5:=n_;clear n_;have HX28:=zk (show Kd.N k113 113 w26 w.heap.size (fun k_=>(w.heap.size≤k_)∧some k_≠(.slice Ao19 ta8.length co19:Value).ownBlock∧some k_≠(.slice Ao25 yb5.length co25:Value).ownBlock) (.slice (some ⟨go16,0,none⟩) x5_1.length co8) x5_1 from(by(with_reducible repeat(first|apply Kd.N_alloc|apply Kd.N_drewN|apply Kd.N_drew));exact Kd.N_mono HO_5.out (fun _ hk=>⟨hk.1,⟨hk.2.1,hk.2.2.1⟩⟩)));obtain⟨ce28,hcl28,hM28,hcc28,hfr28⟩:=Kd.N_elem HX28.out z113 (x21_1:Int) zd (by have h_:(x21_1:Int)<((x5_1.length:Int):Int):=zd;first|exact h_|(have e_:=(Kd.N_reads' HO_5.out).1;omega)|simpa using h_);obtain⟨ua28_1,uc28_1,rfl,ul28_1,ge28_1⟩:=k113_openF hM28;have HP28:=Kd.N_seg HX28.out (x21_1:Int) zd (by have h_:(x21_1:Int)<((x5_1.length:Int):Int):=zd;first|exact h_|(have e_:=(Kd.N_reads' HO_5.out).1;omega)|simpa using h_) (seg:=[.bool false, .slice Ao27 tb8.length co27]) (j:=0) hcl28 hcc28 (show 2≤2 from by decide) (x':=(⟨false,tb8⟩:S113)) (k113_mkF _ _ (⟨false,tb8⟩:S113) (Kd.R_reads' (Kd.R_mono (ok':=(fun k_=>((fun k_=>(w.heap.size≤k_)∧some k_≠(.slice Ao19 ta8.length co19:Value).ownBlock∧some k_≠(.slice Ao25 yb5.length co25:Value).ownBlock)) k_∧k_≠go16)) (Kd.R_apart' (Kd.R_apart' (HOc0.out) (Kd.N_typed HOb7.out) (by decide)) (Kd.N_typed HO_5.out) (by decide)) (fun k_ hk=>by exact⟨⟨hk.1.1.1.1,⟨hk.1.1.2,hk.1.2⟩⟩,fun e_=>(hk.2) (by rw[e_];rfl)⟩))).2.1 (Kd.R_F (Kd.R_mono (ok':=(fun k_=>((fun k_=>(w.heap.size≤k_)∧some k_≠(.slice Ao19 ta8.length co19:Value).ownBlock∧some k_≠(.slice Ao25 yb5.length co25:Value).ownBlock)) k_∧k_≠go16)) (Kd.R_apart' (Kd.R_apart' (HOc0.out) (Kd.N_typed HOb7.out) (by decide)) (Kd.N_typed HO_5.out) (by decide)) (fun k_ hk=>by exact⟨⟨hk.1.1.1.1,⟨hk.1.1.2,hk.1.2⟩⟩,fun e_=>(hk.2) (by rw[e_];rfl)⟩)))) (fun _ hk=>hk);have hx28_0:=hcc28 0 _ rfl;(try simp only[show(k113).sz=2 from rfl,Nat.mul_one,Nat.add_zero] at hx28_0);have hf28_0:=hfr28 0;(try simp only[show(k113).sz=2 from rfl,Nat.mul_one,Nat.add_zero] at hf28_0);have hx28_1:=hcc28 1 _ rfl;(try simp only[show(k113).sz=2 from rfl,Nat.mul_one,Nat.add_zero] at hx28_1);have hf28_1:=hfr28 1;(try simp only[show(k113).sz=2 from rfl,Nat.mul_one,Nat.add_zero] at hf28_1);clear hcl28 hcc28 hfr28 hM28)|((with_reducible refine gate_store (t:=113) (p:=46) rfl ?_);refine store_event (t:=113) (p:=46) (v:=?vo_w29) (w1:=((w26.setCell ⟨go16,(x21_1:Int).toNat*2,none⟩ (.bool false)).setCell ⟨go16,(x21_1:Int).toNat*2+1,none⟩ (.slice Ao27 tb8.length co27))) ?hg ?ho ?hn ?hr ?_;(case ho=>rfl);(case hg=>rfl);(case hn=>rfl);(case hr=>first|(go_simp;done)|(go_simp;rfl));intro w29 hw;have hg:w26.grownBy w29 (some go16):=(by rw[hw];exact HP28.2);have hp_:Kd.N k113 113 w29 w.heap.size (fun k_=>(w.heap.size≤k_)∧some k_≠(.slice Ao19 ta8.length co19:Value).ownBlock∧some k_≠(.slice Ao25 yb5.length co25:Value).ownBlock) (.slice (some ⟨go16,0,none⟩) x5_1.length co8) yc1:=(by rw[hw,Nyc1.out];exact HP28.1);clear HP28;replace HOb0:=zk (Kd.R_over' (v:=(.slice (some ⟨go16,0,none⟩) x5_1.length co8)) (zR HOb0.out) (Kd.N_typed HO_5.out) (by decide) hg);replace HO_5:=zk (hp_);replace HOb7:=zk (Kd.N_afterv (v:=(.slice (some ⟨go16,0,none⟩) x5_1.length co8)) (v1:=(.slice (some ⟨go16,0,none⟩) x5_1.length co8)) (ok:=(fun k_=>(w.heap.size≤k_)∧some k_≠(.slice Ao19 ta8.length co19:Value).ownBlock∧some k_≠(.slice Ao27 tb8.length co27:Value).ownBlock)) (by(with_reducible repeat(first|apply Kd.N_alloc|apply Kd.N_drewN|apply Kd.N_drew));exact Kd.N_mono HOb7.out (fun _ hk=>⟨⟨hk.1.1,⟨hk.1.2.2,hk.2⟩⟩,hk.1.2.1⟩)) hg (.inl rfl));replace HB:=zk ((by rw[hw];exact below_set (below_set (HB.out) GB16.out) GB16.out:Below w.heap.size w w29));clear HOc0;clear hg hw hp_))
  (try simp only[←hl5_1])
  go_roundg k1
  case measure=>have:=HK1.out;omega
  case rel=>exact⟨(yc1),(wrap64 (x21_1+1)),zF,H',⟨zo1 HK1⟩,⟨by(try simp only[hl5_1]);(with_reducible repeat(first|apply Kd.N_alloc|apply Kd.N_drewN|apply Kd.N_drew));exact Kd.N_mono HO_5.out (fun _ hk=>hk.1)⟩,⟨zB HB.out⟩⟩
 have c9b0:=decide_eq_false c9
 (try(have c9h0:=c9b0;simp only[hl5_1] at c9h0))
 clear c9
 obtain⟨yc2,hyc2⟩:∃y_:List (List (S113)),y_=(([x5_1]:List (List (S113)))):=⟨_,rfl⟩
 replace H:((mw_small.f k1 (wrap64 (a0-1))).bind fun btc5=>(mw_table.l1 k1 a1 yc2 a1 0 btc5.1 btc5.2))=some r:=zY hyc2 H
 have Nyc2:=zk hyc2
 clear hyc2
 replace H:=zb H
 obtain⟨⟨tc5,tc6⟩,A30,H⟩:=H
 dsimp only at H
 have H':=zk H
 clear H
 go_wp2_with (first|((with_reducible refine gate_dst (N:=49) rfl ?_);refine Kd.N_lit (Kd.slice 113 k113) _ 114 ?hg (N':=49) ?hd (xs:=([x5_1]:List (List (S113)))) (inner:=[.slice Ao8 x5_1.length co8]) (ok:=(fun k_=>(w.heap.size≤k_))) (okp:=(fun k_=>(w.heap.size≤k_))) ?hr ?hp (fun _ hk=>hk) ((show ∀k_,wr.heap.size≤k_→(fun k_=>(w.heap.size≤k_)) k_ from fun k_ hk=>(Nat.le_trans (below_size (zB HB.out)) hk)) _ (Nat.le_refl _)) (Below.refl _ _) (Nat.le_refl _) (by simp) ?_;(case hd=>rfl);(case hg=>rfl);(case hr=>first|(go_simp;done)|(go_simp;rfl));(case hp=>exact(Reps.one (show Kd.FK (Kd.slice 113 k113) _ _ x5_1 [.slice Ao8 x5_1.length co8] from(Kd.FK_slice_mk (Kd.N_reads' (Kd.N_mono (ok':=(fun k_=>(w.heap.size≤k_))) (HO_5.out) (fun k_ hk=>by exact hk))).2.1 (Kd.N_F (Kd.N_mono (ok':=(fun k_=>(w.heap.size≤k_))) (HO_5.out) (fun k_ hk=>by exact hk))))) (Reps.none _ _)));intro vc3 w31 ho32 hb hg_ hnew_;clear hg_ hnew_;(first|rw[←Nyc2.out] at ho32|(simp only[Int.reduceToNat] at ho32;rw[←Nyc2.out] at ho32));have HOc4:=zk (Kd.N_lower ho32 (below_size (zB HB.out)));replace HB:=yS HB hb;clear HO_5;clear hb ho32)|((with_reducible refine gC 124 ?_);refine zG (some 52) Try.func124 #[.int .i64 (wrap64 (a0-1))] ?_;(with_reducible refine(mw_small.calls k1 (wrap64 (a0-1)) tc5 tc6 _ A30.out).mono ?_);rintro e w33 ⟨vc7,rfl,ho0,hb⟩;refine⟨_,rfl,?_⟩;replace HOc4:=yNe HOc4 ho0 hb;replace ho0:=Kd.R_newM (M:=fun k_=>(w.heap.size≤k_)) ho0 (below_size (zB HB.out)) (fun k_ h_=>h_);have HOc8:=yRl ho0 HB;replace HB:=yS HB hb;(try clear hb ho0))|((with_reducible refine gate_dst (N:=12) rfl ?_);refine box_event ?hg (N:=12) ?hd (cs:= #[.bool false, .slice none 0 0]) (t:=113) ?hr ?_;(case hd=>rfl);(case hg=>rfl);(case hr=>first|(go_simp;done)|(go_simp;rfl));intro gbc9 hg w34 hbox hb;replace HOc4:=zk (Kd.N_below (Kd.N_elderB (zN HOc4.out) gbc9 (Nat.le_of_eq hg.symm)) hb);replace HOc8:=yRb HOc8 hb;have BKc9:=zk (hbox);have GWc9:=yg hg HB;have GEc9:=yg hg HB;replace HB:=yS HB hb;clear hb hbox hg;obtain⟨hcz35_0,hcz35_1,hfz35_0,hfz35_1⟩:=zz2 BKc9;obtain⟨Ao36,co36,rfl⟩:=Kd.R_slice HOc8.out))
 go_loopg [11,54] k1 (fun kq v11 v54 w'=>∃(x11_2:List (List (S113))) (x54_2:Int),v54= .int .i64 x54_2∧Aside0 (mw_table.l1 kq a1 x11_2 a1 x54_2 tc5 tc6=some r)∧Aside0 (kq≤k1)∧Aside0 (Kd.N (Kd.slice 113 k113) 114 w' w.heap.size (fun k_=>(w.heap.size≤k_)∧some k_≠((.slice Ao36 tc6.length co36):Value).ownBlock∧k_≠gbc9) v11 x11_2)∧Aside0 (Kd.R (Kd.int .u32) 97 w' w.heap.size (fun k_=>(w.heap.size≤k_)) (.slice Ao36 tc6.length co36) tc6)∧Aside0 (w'.heap[gbc9]?=some (.cells #[.bool tc5,(.slice Ao36 tc6.length co36)] 113 (0,0)))∧Aside0 (Below w.heap.size w w'))
 case atStart=>exact⟨(yc2),(0),zF,H',⟨Nat.le_refl _⟩,⟨by(try simp only[hl5_1]);(with_reducible repeat(first|apply Kd.N_alloc|apply Kd.N_drewN|apply Kd.N_drew));exact Kd.N_mono (Kd.N_far (p:=⟨gbc9,1,none⟩) (Kd.N_far (p:=⟨gbc9,0,none⟩) (Kd.N_mono HOc4.out (fun k_ hk=>(⟨hk,hk.2⟩:_∧k_≠gbc9))) (fun _ hk=>hk.2) (.bool tc5)) (fun _ hk=>hk.2) (.slice Ao36 tc6.length co36)) (fun _ hk=>⟨hk.1.1.1,⟨hk.1.1.2,hk.1.2⟩⟩)⟩,⟨by(try simp only[hl5_1]);(with_reducible repeat(first|apply Kd.R_alloc|apply Kd.R_drewN|apply Kd.R_drew));exact Kd.R_mono (Kd.R_far (p:=⟨gbc9,1,none⟩) (Kd.R_far (p:=⟨gbc9,0,none⟩) (Kd.R_types HOc8.out BKc9.out (by decide)) (fun _ hk=>hk.2) (.bool tc5)) (fun _ hk=>hk.2) (.slice Ao36 tc6.length co36)) (fun _ hk=>hk.1.1)⟩,⟨by(try simp only[hl5_1]);(with_reducible repeat(first|refine blk_drewN ?_ _|refine blk_drew ?_|refine blk_alloc ?_ _));refine blk_put (cs:= #[.bool tc5, .slice none 0 0]) ?_ 1 _ rfl;(with_reducible repeat(first|refine blk_drewN ?_ _|refine blk_drew ?_|refine blk_alloc ?_ _));refine blk_put (cs:= #[.bool false, .slice none 0 0]) ?_ 0 _ rfl;(with_reducible repeat(first|refine blk_drewN ?_ _|refine blk_drew ?_|refine blk_alloc ?_ _));exact BKc9.out⟩,⟨zB1 HB.out GEc9.out⟩⟩
 clear H'
 (try clear c4);(try clear c4b0);(try clear c4b1);(try clear c5);(try clear c5b0);(try clear c5b1);(try clear c9);(try clear c9b0);(try clear c14b0);(try clear c15);(try clear c15b0);(try clear p16);(try clear q16);(try clear hcz35_0);(try clear hcz35_1);(try clear hfz35_0);(try clear hfz35_1);(try clear hx16_0);(try clear hx16_1);(try clear hx28_0);(try clear hx28_1)
 obtain⟨x11_2,x54_2,rfl,HA,HK2,HO_11,HO_130001,BKc9,HB⟩:=hrel
 cases gk with|zero=>exact absurd HA.out (by simp [mw_table.l1])|succ k2=>?_
 have H:=HA.out
 clear HA
 simp only[mw_table.l1] at H
 replace H:=zid H
 rcases H with⟨c37b0,H⟩|⟨c37b0,H⟩
 ·obtain⟨ji38,hji38⟩:∃j_:Int,(wrap64 ((x11_2.length:Int)-1))=j_:=⟨_,rfl⟩
  replace H:(if 0≤(ji38) then(if(ji38)<(x11_2.length:Int) then(if 0<((rd_L6 x11_2 (ji38)).length:Int) then(mw_table.l2 k2 a1 x11_2 (rd_L6 x11_2 (ji38)) (([(⟨(rd_T113 (rd_L6 x11_2 (ji38)) 0).f0,(rd_T113 (rd_L6 x11_2 (ji38)) 0).f1⟩:S113)]:List (S113))) 1 a1 x54_2 tc5 tc6) else(none)) else(none)) else(none))=some r:=by first|(rw[hji38] at H;exact H)|(simp only[hji38] at H ⊢;exact H)
  have hji38w:(IntKind.i64.wrap ((x11_2.length:Int)-1))=ji38:=(i64_w _).trans hji38
  replace H:=zgd H
  obtain⟨c39b0,H⟩:=H
  replace H:=zg H
  obtain⟨c40,H⟩:=H
  have c40b0:=decide_eq_true c40
  (try(have c40h0:=c40b0;simp only[hl5_1] at c40h0))
  clear c40
  replace H:=zg H
  obtain⟨c41,H⟩:=H
  have c41b0:=decide_eq_true c41
  (try(have c41h0:=c41b0;simp only[hl5_1] at c41h0))
  have c41b1:decide (0<(rd_L6 x11_2 (ji38)).length)=true:=decide_eq_true (by omega)
  (try(have c41h1:=c41b1;simp only[hl5_1] at c41h1))
  clear c41
  obtain⟨yd2,hyd2⟩:∃y_:List (S113),y_=(([(⟨(rd_T113 (rd_L6 x11_2 (ji38)) 0).f0,(rd_T113 (rd_L6 x11_2 (ji38)) 0).f1⟩:S113)]:List (S113))):=⟨_,rfl⟩
  replace H:(mw_table.l2 k2 a1 x11_2 (rd_L6 x11_2 (ji38)) yd2 1 a1 x54_2 tc5 tc6)=some r:=zY hyd2 H
  have Nyd2:=zk hyd2
  clear hyd2
  have H':=zk H
  clear H
  obtain⟨Ao42,co42,rfl⟩:=Kd.N_slice HO_11.out
  have pd0:0≤((ji38):Int):=zd
  have qd0:(ji38)<(x11_2.length:Int):=zd
  obtain⟨add0,Ad0_0,cd0_0,ed0,hxd0_0,hld0_0,hid0_0⟩:=at_L6 (Kd.N_reads' HO_11.out).2.2 (ji38) pd0 qd0
  cases ed0
  obtain⟨ced0,hced0,hMed0,hccd0⟩:=Kd.N_get HO_11.out [] (ji38) pd0 (by first|exact qd0|exact zd|(have e_:=(Kd.N_reads' HO_11.out).1;omega))
  obtain⟨uad0_0,ucd0_0,rfl,uld0_0,ged0_0⟩:=Kd.FK_slice_open hMed0
  have hvd0_0:=hccd0 0 _ rfl
  rw[Nat.add_zero,show((Kd.slice 113 k113)).sz=1 from rfl,Nat.mul_one] at hvd0_0
  replace hvd0_0:=Option.some.inj (hvd0_0.symm.trans hxd0_0)
  injection hvd0_0 with hva_ hvn_ hvc_
  rw[hva_] at ged0_0
  rw[hvc_] at uld0_0
  have HLd0_0:=zk (show Kd.V k113 113 _ w.heap.size _ _ (rd_L6 x11_2 (ji38)) from Kd.V_mk uld0_0 ged0_0)
  clear hva_ hvn_ hvc_ ged0_0 uld0_0
  clear hccd0 hced0
  have HRd0_0:=zk hid0_0
  have HCd0_0:=zk hld0_0
  clear hid0_0 hld0_0
  replace pd0:=eq_true pd0
  replace qd0:=eq_true qd0
  have pd1:0≤(0:Int):=(by omega)
  have qd1:0<((rd_L6 x11_2 (ji38)).length:Int):=zd
  obtain⟨add1,Ad1_1,cd1_1,ed1,hxd1_0,hxd1_1,hld1_1,hid1_1⟩:=at_T113 (zCr HRd0_0.out) 0 pd1 qd1
  cases ed1
  obtain⟨ced1,hced1,hMed1,hccd1⟩:=Kd.V_get HLd0_0.out z113 0 pd1 (by first|exact qd1|exact zd|(have e_:=(Kd.V_reads' HLd0_0.out).1;omega))
  obtain⟨uad1_1,ucd1_1,rfl,uld1_1,ged1_1⟩:=k113_openF hMed1
  have hvd1_1:=hccd1 1 _ rfl
  rw[add_field _ _ 1 (by omega)] at hvd1_1
  replace hvd1_1:=Option.some.inj (hvd1_1.symm.trans hxd1_1)
  injection hvd1_1 with hva_ hvn_ hvc_
  rw[hva_] at ged1_1
  rw[hvc_] at uld1_1
  have HLd1_1:=zk (show Kd.V (Kd.int .u32) 97 _ w.heap.size _ _ ((rd_T113 (rd_L6 x11_2 (ji38)) 0).f1) from Kd.V_mk uld1_1 ged1_1)
  clear hva_ hvn_ hvc_ ged1_1 uld1_1
  clear hccd1 hced1
  have qi131:(0<(rd_L6 x11_2 (ji38)).length)=True:=eq_true (by omega)
  (try rw[show((0:Int)).toNat=0 from rfl] at hxd1_0)
  (try rw[show 0*2=0 from rfl] at hxd1_0)
  (try rw[Addr.add_zero'] at hxd1_0)
  (try rw[show((0:Int)).toNat=0 from rfl] at hxd1_1)
  (try rw[show 0*2=0 from rfl] at hxd1_1)
  (try rw[Addr.add_zero'] at hxd1_1)
  have HRd1_1:=zk hid1_1
  have HCd1_1:=zk hld1_1
  clear hid1_1 hld1_1
  replace pd1:=eq_true pd1
  replace qd1:=eq_true qd1
  go_wp2_with (first|((with_reducible refine gate_dst (N:=65) rfl ?_);refine Kd.N_lit k113 _ 113 ?hg (N':=65) ?hd (xs:=([(⟨(rd_T113 (rd_L6 x11_2 (ji38)) 0).f0,(rd_T113 (rd_L6 x11_2 (ji38)) 0).f1⟩:S113)]:List (S113))) (inner:=[.bool ((rd_T113 (rd_L6 x11_2 (ji38)) 0).f0), .slice Ad1_1 ((rd_T113 (rd_L6 x11_2 (ji38)) 0).f1).length cd1_1]) (ok:=(fun k_=>(w.heap.size≤k_)∧some k_≠(.slice (some add0) x11_2.length co42:Value).ownBlock∧some k_≠(.slice Ao36 tc6.length co36:Value).ownBlock∧k_≠gbc9)) (okp:=(fun k_=>(w.heap.size≤k_)∧some k_≠(.slice (some add0) x11_2.length co42:Value).ownBlock∧some k_≠(.slice Ao36 tc6.length co36:Value).ownBlock∧k_≠gbc9)) ?hr ?hp (fun _ hk=>hk) ((show ∀k_,wr.heap.size≤k_→(fun k_=>(w.heap.size≤k_)∧some k_≠(.slice (some add0) x11_2.length co42:Value).ownBlock∧some k_≠(.slice Ao36 tc6.length co36:Value).ownBlock∧k_≠gbc9) k_ from fun k_ hk=>⟨(Nat.le_trans (below_size (zB1 HB.out GEc9.out)) hk),Kd.fresh' (Kd.N_lt (zN HO_11.out)) k_ hk,Kd.fresh' (Kd.R_lt (zR HO_130001.out)) k_ hk,Kd.freshB (g:=gbc9) (o:= .cells #[.bool tc5, .slice Ao36 tc6.length co36] 113 (0,0)) (zK BKc9.out) k_ hk⟩) _ (Nat.le_refl _)) (Below.refl _ _) (Nat.le_refl _) (by simp) ?_;(case hd=>rfl);(case hg=>rfl);(case hr=>first|(go_simp;done)|(go_simp;rfl));(case hp=>exact(Reps.c2 (show Kd.FK k113 _ _ (⟨(rd_T113 (rd_L6 x11_2 (ji38)) 0).f0,(rd_T113 (rd_L6 x11_2 (ji38)) 0).f1⟩:S113) [.bool ((rd_T113 (rd_L6 x11_2 (ji38)) 0).f0), .slice Ad1_1 ((rd_T113 (rd_L6 x11_2 (ji38)) 0).f1).length cd1_1] from(k113_mkF _ _ (⟨(rd_T113 (rd_L6 x11_2 (ji38)) 0).f0,(rd_T113 (rd_L6 x11_2 (ji38)) 0).f1⟩:S113) (Kd.V_reads' (Kd.V_mono (ok':=(fun k_=>(w.heap.size≤k_)∧some k_≠(.slice (some add0) x11_2.length co42:Value).ownBlock∧some k_≠(.slice Ao36 tc6.length co36:Value).ownBlock∧k_≠gbc9)) (HLd1_1.out) (fun k_ hk=>by exact⟨hk.1.1,⟨hk.2,⟨hk.1.2.1,hk.1.2.2⟩⟩⟩))).2.1 (Kd.V_F (Kd.V_mono (ok':=(fun k_=>(w.heap.size≤k_)∧some k_≠(.slice (some add0) x11_2.length co42:Value).ownBlock∧some k_≠(.slice Ao36 tc6.length co36:Value).ownBlock∧k_≠gbc9)) (HLd1_1.out) (fun k_ hk=>by exact⟨hk.1.1,⟨hk.2,⟨hk.1.2.1,hk.1.2.2⟩⟩⟩))))) (Reps.none _ _)));intro vd3 w43 ho44 hb hg_ hnew_;clear hg_ hnew_;(first|rw[←Nyd2.out] at ho44|(simp only[Int.reduceToNat] at ho44;rw[←Nyd2.out] at ho44));replace HO_11:=zk (Kd.N_elder' (zN HO_11.out) (Kd.N_base ho44) hb);replace HO_130001:=yRb HO_130001 hb;replace HLd0_0:=zk (Kd.V_elder' (zV HLd0_0.out) (Kd.N_base ho44) hb);replace HLd1_1:=zk (Kd.V_elder' (zV HLd1_1.out) (Kd.N_base ho44) hb);have HOd4:=zk (Kd.N_lower ho44 (below_size (zB1 HB.out GEc9.out)));replace BKc9:=yK BKc9 hb;(try replace HRd0_0:=yCb HRd0_0 hb);(try replace HRd1_1:=yCb HRd1_1 hb);replace HB:=yS1 HB GEc9 hb;clear hb ho44))
  go_loopg [14,15] k2 (fun kq v14 v15 w'=>∃(x14_3:List (S113)) (x15_3:Int),v15= .int .i64 x15_3∧Aside0 (mw_table.l2 kq a1 x11_2 (rd_L6 x11_2 (ji38)) x14_3 x15_3 a1 x54_2 tc5 tc6=some r)∧Aside0 (kq≤k2)∧Aside0 (Kd.N (Kd.slice 113 k113) 114 w' w.heap.size (fun k_=>(w.heap.size≤k_)∧some k_≠(v14:Value).ownBlock∧some k_≠((.slice Ao36 tc6.length co36):Value).ownBlock∧k_≠gbc9) (.slice (some add0) x11_2.length co42) x11_2)∧Aside0 (Kd.V k113 113 w' w.heap.size (fun k_=>(w.heap.size≤k_)∧some k_≠((.slice (some add0) x11_2.length co42):Value).ownBlock∧some k_≠(v14:Value).ownBlock∧some k_≠((.slice Ao36 tc6.length co36):Value).ownBlock∧k_≠gbc9) (.slice (some add1) (rd_L6 x11_2 (ji38)).length cd0_0) (rd_L6 x11_2 (ji38)))∧Aside0 (Kd.N k113 113 w' w.heap.size (fun k_=>(w.heap.size≤k_)∧some k_≠((.slice (some add0) x11_2.length co42):Value).ownBlock∧some k_≠((.slice Ao36 tc6.length co36):Value).ownBlock∧k_≠gbc9) v14 x14_3)∧Aside0 (Kd.R (Kd.int .u32) 97 w' w.heap.size (fun k_=>(w.heap.size≤k_)) (.slice Ao36 tc6.length co36) tc6)∧Aside0 (w'.heap[gbc9]?=some (.cells #[.bool tc5,(.slice Ao36 tc6.length co36)] 113 (0,0)))∧Aside0 (Below w.heap.size w w'))
  case atStart=>exact⟨(yd2),(1),zF,H',⟨Nat.le_refl _⟩,⟨by(try simp only[hl5_1]);(with_reducible repeat(first|apply Kd.N_alloc|apply Kd.N_drewN|apply Kd.N_drew));exact Kd.N_mono HO_11.out (fun _ hk=>⟨hk.1.1,⟨hk.2,⟨hk.1.2.1,hk.1.2.2⟩⟩⟩)⟩,⟨by(try simp only[hl5_1]);(with_reducible repeat(first|apply Kd.V_alloc|apply Kd.V_drewN|apply Kd.V_drew));exact Kd.V_mono HLd0_0.out (fun _ hk=>⟨hk.1.1.1,⟨hk.1.2,⟨hk.2,⟨hk.1.1.2.1,hk.1.1.2.2⟩⟩⟩⟩)⟩,⟨by(try simp only[hl5_1]);(with_reducible repeat(first|apply Kd.N_alloc|apply Kd.N_drewN|apply Kd.N_drew));exact HOd4.out⟩,⟨by(try simp only[hl5_1]);(with_reducible repeat(first|apply Kd.R_alloc|apply Kd.R_drewN|apply Kd.R_drew));exact HO_130001.out⟩,⟨by(try simp only[hl5_1]);(with_reducible repeat(first|refine blk_drewN ?_ _|refine blk_drew ?_|refine blk_alloc ?_ _));exact BKc9.out⟩,⟨zB1 HB.out GEc9.out⟩⟩
  clear H'
  (try clear c4);(try clear c4b0);(try clear c4b1);(try clear c5);(try clear c5b0);(try clear c5b1);(try clear c9);(try clear c9b0);(try clear c14b0);(try clear c15);(try clear c15b0);(try clear p16);(try clear q16);(try clear c37b0);(try clear c39b0);(try clear c40);(try clear c40b0);(try clear c41);(try clear c41b0);(try clear c41b1);(try clear hcz35_0);(try clear hcz35_1);(try clear hfz35_0);(try clear hfz35_1);(try clear hxd0_0);(try clear hxd1_0);(try clear hxd1_1);(try clear hx16_0);(try clear hx16_1);(try clear hx28_0);(try clear hx28_1);(try clear pd0);(try clear pd1);(try clear qd0);(try clear qd1)
  obtain⟨x14_3,x15_3,rfl,HA,HK3,HO_11,HO_13,HO_14,HO_130001,BKc9,HB⟩:=hrel
  cases gk with|zero=>exact absurd HA.out (by simp [mw_table.l2])|succ k3=>?_
  have H:=HA.out
  clear HA
  simp only[mw_table.l2] at H
  replace H:=zid H
  rcases H with⟨c45b0,H⟩|⟨c45b0,H⟩
  ·replace H:=zgd H
   obtain⟨c46b0,H⟩:=H
   replace H:=zg H
   obtain⟨c47,H⟩:=H
   have c47b0:=decide_eq_true c47
   (try(have c47h0:=c47b0;simp only[hl5_1] at c47h0))
   clear c47
   obtain⟨ji48,hji48⟩:∃j_:Int,(wrap64 (x15_3-1))=j_:=⟨_,rfl⟩
   replace H:(if 0≤(ji48) then(if(ji48)<((rd_L6 x11_2 (ji38)).length:Int) then((mw_minus.f k3 ((rd_T113 (rd_L6 x11_2 (ji38)) x15_3).f0) ((rd_T113 (rd_L6 x11_2 (ji38)) x15_3).f1) ((rd_T113 (rd_L6 x11_2 (ji38)) (ji48)).f0) ((rd_T113 (rd_L6 x11_2 (ji38)) (ji48)).f1)).bind fun btd7=>(if(ji48)<(x14_3.length:Int) then((mw_times.f k3 tc5 tc6 ((rd_T113 x14_3 (ji48)).f0) ((rd_T113 x14_3 (ji48)).f1)).bind fun bte2=>((mw_minus.f k3 btd7.1 btd7.2 bte2.1 bte2.2).bind fun bte6=>(if x14_3.length<4398046511104 then(mw_table.l2 k3 a1 x11_2 (rd_L6 x11_2 (ji38)) (x14_3++[(⟨bte6.1,bte6.2⟩:S113)]) (wrap64 (x15_3+1)) a1 x54_2 tc5 tc6) else(none)))) else(none))) else(none)) else(none))=some r:=by first|(rw[hji48] at H;exact H)|(simp only[hji48] at H ⊢;exact H)
   have hji48w:(IntKind.i64.wrap (x15_3-1))=ji48:=(i64_w _).trans hji48
   replace H:=zgd H
   obtain⟨c49b0,H⟩:=H
   replace H:=zg H
   obtain⟨c50,H⟩:=H
   have c50b0:=decide_eq_true c50
   (try(have c50h0:=c50b0;simp only[hl5_1] at c50h0))
   clear c50
   replace H:=zb H
   obtain⟨⟨td7,td8⟩,A51,H⟩:=H
   dsimp only at H
   replace H:=zg H
   obtain⟨c52,H⟩:=H
   have c52b0:=decide_eq_true c52
   (try(have c52h0:=c52b0;simp only[hl5_1] at c52h0))
   clear c52
   replace H:=zb H
   obtain⟨⟨te2,te3⟩,A53,H⟩:=H
   dsimp only at H
   replace H:=zb H
   obtain⟨⟨te6,te7⟩,A54,H⟩:=H
   dsimp only at H
   replace H:=zg H
   obtain⟨c55,H⟩:=H
   have LMc55:=zk c55
   clear c55
   obtain⟨yf0,hyf0⟩:∃y_:List (S113),y_=(x14_3++[(⟨te6,te7⟩:S113)]):=⟨_,rfl⟩
   replace H:(mw_table.l2 k3 a1 x11_2 (rd_L6 x11_2 (ji38)) yf0 (wrap64 (x15_3+1)) a1 x54_2 tc5 tc6)=some r:=zY hyf0 H
   have Nyf0:=zk hyf0
   clear hyf0
   have H':=zk H
   clear H
   try go_wp2
   replace HO_11:=zk (Kd.N_drew HO_11.out)
   replace HO_13:=zk (Kd.V_drew HO_13.out)
   replace HO_14:=zk (Kd.N_drew HO_14.out)
   replace HO_130001:=zk (Kd.R_drew HO_130001.out)
   replace BKc9:=zk (blk_drew BKc9.out)
   replace HB:=zk (below_drew1 HB.out)
   have pd5:0≤(x15_3:Int):=zd
   have qd5:x15_3<((rd_L6 x11_2 (ji38)).length:Int):=zd
   obtain⟨add5,Ad5_1,cd5_1,ed5,hxd5_0,hxd5_1,hld5_1,hid5_1⟩:=at_T113 (Kd.V_reads' HO_13.out).2.2 x15_3 pd5 qd5
   obtain rfl:add1=add5:=(by injection ed5)
   obtain⟨ced5,hced5,hMed5,hccd5⟩:=Kd.V_get HO_13.out z113 x15_3 pd5 (by first|exact qd5|exact zd|(have e_:=(Kd.V_reads' HO_13.out).1;omega))
   obtain⟨uad5_1,ucd5_1,rfl,uld5_1,ged5_1⟩:=k113_openF hMed5
   have hvd5_1:=hccd5 1 _ rfl
   rw[add_field _ _ 1 (by omega)] at hvd5_1
   replace hvd5_1:=Option.some.inj (hvd5_1.symm.trans hxd5_1)
   injection hvd5_1 with hva_ hvn_ hvc_
   rw[hva_] at ged5_1
   rw[hvc_] at uld5_1
   have HLd5_1:=zk (show Kd.V (Kd.int .u32) 97 _ w.heap.size _ _ ((rd_T113 (rd_L6 x11_2 (ji38)) x15_3).f1) from Kd.V_mk uld5_1 ged5_1)
   clear hva_ hvn_ hvc_ ged5_1 uld5_1
   clear hccd5 hced5
   have HRd5_1:=zk hid5_1
   have HCd5_1:=zk hld5_1
   clear hid5_1 hld5_1
   replace pd5:=eq_true pd5
   replace qd5:=eq_true qd5
   have pd6:0≤((ji48):Int):=zd
   have qd6:(ji48)<((rd_L6 x11_2 (ji38)).length:Int):=zd
   obtain⟨add6,Ad6_1,cd6_1,ed6,hxd6_0,hxd6_1,hld6_1,hid6_1⟩:=at_T113 (Kd.V_reads' HO_13.out).2.2 (ji48) pd6 qd6
   obtain rfl:add1=add6:=(by injection ed6)
   obtain⟨ced6,hced6,hMed6,hccd6⟩:=Kd.V_get HO_13.out z113 (ji48) pd6 (by first|exact qd6|exact zd|(have e_:=(Kd.V_reads' HO_13.out).1;omega))
   obtain⟨uad6_1,ucd6_1,rfl,uld6_1,ged6_1⟩:=k113_openF hMed6
   have hvd6_1:=hccd6 1 _ rfl
   rw[add_field _ _ 1 (by omega)] at hvd6_1
   replace hvd6_1:=Option.some.inj (hvd6_1.symm.trans hxd6_1)
   injection hvd6_1 with hva_ hvn_ hvc_
   rw[hva_] at ged6_1
   rw[hvc_] at uld6_1
   have HLd6_1:=zk (show Kd.V (Kd.int .u32) 97 _ w.heap.size _ _ ((rd_T113 (rd_L6 x11_2 (ji38)) (ji48)).f1) from Kd.V_mk uld6_1 ged6_1)
   clear hva_ hvn_ hvc_ ged6_1 uld6_1
   clear hccd6 hced6
   have HRd6_1:=zk hid6_1
   have HCd6_1:=zk hld6_1
   clear hid6_1 hld6_1
   replace pd6:=eq_true pd6
   replace qd6:=eq_true qd6
   obtain⟨Ao57,co57,eo57⟩:=Kd.N_slice HO_14.out
   (first|subst eo57|(injection eo57 with f1_ f2_ f3_;have f4_:=f1_.symm;have f5_:=f3_.symm;clear f1_ f2_ f3_;subst f4_;subst f5_))
   have pe1:0≤((ji48):Int):=zd
   have qe1:(ji48)<(x14_3.length:Int):=zd
   obtain⟨ade1,Ae1_1,ce1_1,ee1,hxe1_0,hxe1_1,hle1_1,hie1_1⟩:=at_T113 (Kd.N_reads' HO_14.out).2.2 (ji48) pe1 qe1
   cases ee1
   obtain⟨cee1,hcee1,hMee1,hcce1⟩:=Kd.N_get HO_14.out z113 (ji48) pe1 (by first|exact qe1|exact zd|(have e_:=(Kd.N_reads' HO_14.out).1;omega))
   obtain⟨uae1_1,uce1_1,rfl,ule1_1,gee1_1⟩:=k113_openF hMee1
   have hve1_1:=hcce1 1 _ rfl
   rw[add_field _ _ 1 (by omega)] at hve1_1
   replace hve1_1:=Option.some.inj (hve1_1.symm.trans hxe1_1)
   injection hve1_1 with hva_ hvn_ hvc_
   rw[hva_] at gee1_1
   rw[hvc_] at ule1_1
   have HLe1_1:=zk (show Kd.V (Kd.int .u32) 97 _ w.heap.size _ _ ((rd_T113 x14_3 (ji48)).f1) from Kd.V_mk ule1_1 gee1_1)
   clear hva_ hvn_ hvc_ gee1_1 ule1_1
   clear hcce1 hcee1
   have HRe1_1:=zk hie1_1
   have HCe1_1:=zk hle1_1
   clear hie1_1 hle1_1
   replace pe1:=eq_true pe1
   replace qe1:=eq_true qe1
   refine start_ (n:=22) (S:=fun w'=>w'.cell? ⟨gbc9,0,none⟩=some (.bool tc5)∧w'.cell? ⟨gbc9,1,none⟩=some (.slice Ao36 tc6.length co36)∧w'.cell? (add1.add ((x15_3).toNat*2))=some (.bool ((rd_T113 (rd_L6 x11_2 (ji38)) x15_3).f0))∧w'.cell? ⟨(add1.add ((x15_3).toNat*2)).block,(add1.add ((x15_3).toNat*2)).off+1,none⟩=some (.slice Ad5_1 ((rd_T113 (rd_L6 x11_2 (ji38)) x15_3).f1).length cd5_1)∧w'.cell? (add1.add (((ji48)).toNat*2))=some (.bool ((rd_T113 (rd_L6 x11_2 (ji38)) (ji48)).f0))∧w'.cell? ⟨(add1.add (((ji48)).toNat*2)).block,(add1.add (((ji48)).toNat*2)).off+1,none⟩=some (.slice Ad6_1 ((rd_T113 (rd_L6 x11_2 (ji38)) (ji48)).f1).length cd6_1)∧w'.cell? (ade1.add (((ji48)).toNat*2))=some (.bool ((rd_T113 x14_3 (ji48)).f0))∧w'.cell? ⟨(ade1.add (((ji48)).toNat*2)).block,(ade1.add (((ji48)).toNat*2)).off+1,none⟩=some (.slice Ae1_1 ((rd_T113 x14_3 (ji48)).f1).length ce1_1)) (ds:=[19,20]) #[false,false,false,false,false,false,false,false,false,false,false,false,false,false,false,false,false,false,false,false,false,false] (by kernel_rfl) rfl rfl ⟨(blk_cell BKc9.out 0).trans rfl,(blk_cell BKc9.out 1).trans rfl,hxd5_0,hxd5_1,hxd6_0,hxd6_1,hxe1_0,hxe1_1⟩ (fun hHeld=>?_);refine with_tabW mw_table.tab18 mw_table.bits18 (fun HT_ HW_=>?_)
   generalize wr.drew=w56 at HO_11 HO_13 HO_14 HO_130001 BKc9 HB HLd5_1 HLd6_1 HLe1_1 HRd5_1 HRd6_1 HRe1_1 hxd5_0 hxd5_1 hxd6_0 hxd6_1 hxe1_0 hxe1_1 hHeld ⊢
   refine zp (i:=0) (N:=some 71) HT_ ?_
   refine zp (i:=1) (N:=some 72) HT_ ?_
   refine zp (i:=2) (N:=some 73) HT_ ?_
   refine zp (i:=3) (N:=some 74) HT_ ?_
   refine zp (i:=5) (N:=some 76) HT_ ?_
   refine zp (i:=6) (N:=some 77) HT_ ?_
   refine zp (i:=7) (N:=some 78) HT_ ?_
   refine zp (i:=8) (N:=some 79) HT_ ?_
   refine zp (i:=12) (N:=some 83) HT_ ?_
   refine zp (i:=13) (N:=some 84) HT_ ?_
   refine zp (i:=14) (N:=some 85) HT_ ?_
   refine zp (i:=15) (N:=some 86) HT_ ?_
   refine take_ (i:=4) (N:=some 75) (v:=?_) (a':=?_) #[true,true,true,true,true,true,true,true,true,false,false,false,true,true,true,true,false,false,false,false,false,false] rfl rfl (take_ofW HT_.out HW_.out (by kernel_rfl)) (fun _ _ _ h=>h) (Or.inl ⟨by rfl,?_⟩) hHeld ?_ ?_
   rotate_left
   ·rintro w' ⟨s0,s1,s2,s3,s4,s5,s6,s7⟩
    go_simp
    with_reducible rfl
   rotate_left
   ·simp only[Act.put,List.setIfInBounds_toArray,List.set_cons_zero,List.set_cons_succ,i64_w,i32_w]
    rfl
   refine take_ (i:=9) (N:=some 80) (v:=?_) (a':=?_) #[true,true,true,true,true,true,true,true,true,true,false,false,true,true,true,true,false,false,false,false,false,false] rfl rfl (take_ofW HT_.out HW_.out (by kernel_rfl)) (fun _ _ _ h=>h) (Or.inl ⟨by rfl,?_⟩) hHeld ?_ ?_
   rotate_left
   ·rintro w' ⟨s0,s1,s2,s3,s4,s5,s6,s7⟩
    go_simp
    with_reducible rfl
   rotate_left
   ·simp only[Act.put,List.setIfInBounds_toArray,List.set_cons_zero,List.set_cons_succ,i64_w,i32_w]
    rfl
   refine take_ (i:=11) (N:=some 82) (v:=?_) (a':=?_) #[true,true,true,true,true,true,true,true,true,true,false,true,true,true,true,true,false,false,false,false,false,false] rfl rfl (take_ofW HT_.out HW_.out (by kernel_rfl)) (fun _ _ _ h=>h) (Or.inl ⟨by rfl,?_⟩) hHeld ?_ ?_
   rotate_left
   ·rintro w' ⟨s0,s1,s2,s3,s4,s5,s6,s7⟩
    go_simp
    with_reducible rfl
   rotate_left
   ·simp only[Act.put,List.setIfInBounds_toArray,List.set_cons_zero,List.set_cons_succ,i64_w,i32_w]
    rfl
   refine take_ (i:=16) (N:=some 87) (v:=?_) (a':=?_) #[true,true,true,true,true,true,true,true,true,true,false,true,true,true,true,true,true,false,false,false,false,false] rfl rfl (take_ofW HT_.out HW_.out (by kernel_rfl)) (fun _ _ _ h=>h) (Or.inl ⟨by rfl,?_⟩) hHeld ?_ ?_
   rotate_left
   ·rintro w' ⟨s0,s1,s2,s3,s4,s5,s6,s7⟩
    go_simp
    with_reducible rfl
   rotate_left
   ·simp only[Act.put,List.setIfInBounds_toArray,List.set_cons_zero,List.set_cons_succ,i64_w,i32_w]
    rfl
   refine one_ (i:=10) (N:=some 81) #[true,true,true,true,true,true,true,true,true,true,true,true,true,true,true,true,true,false,false,false,false,false] rfl rfl (one_of HT_.out (by kernel_rfl)) (by decide) (fun K hK=>?_)
   refine goes_ Try.func125 (by kernel_rfl) rfl #[.agg #[.bool ((rd_T113 (rd_L6 x11_2 (ji38)) x15_3).f0), .slice Ad5_1 ((rd_T113 (rd_L6 x11_2 (ji38)) x15_3).f1).length cd5_1], .agg #[.bool ((rd_T113 (rd_L6 x11_2 (ji38)) (ji48)).f0), .slice Ad6_1 ((rd_T113 (rd_L6 x11_2 (ji38)) (ji48)).f1).length cd6_1]] (by rfl) rfl rfl (by(try simp only[List.map_toArray,List.map_cons,List.map_nil]);first|done|(simp only[hji38,hji48];rfl)|rfl|(simp only[List.length_drop,List.length_take];rfl)) ?_
   with_reducible refine(mw_minus.calls k3 ((rd_T113 (rd_L6 x11_2 (ji38)) x15_3).f0) (fun k_=>((w.heap.size≤k_)∧(some k_≠(.slice (some add0) x11_2.length co42:Value).ownBlock∧(some k_≠(.slice (some ade1) x14_3.length co57:Value).ownBlock∧(some k_≠(.slice Ao36 tc6.length co36:Value).ownBlock∧k_≠gbc9))))) _ _ ((rd_T113 (rd_L6 x11_2 (ji38)) x15_3).f1) ((rd_T113 (rd_L6 x11_2 (ji38)) (ji48)).f0) (fun k_=>((w.heap.size≤k_)∧(some k_≠(.slice (some add0) x11_2.length co42:Value).ownBlock∧(some k_≠(.slice (some ade1) x14_3.length co57:Value).ownBlock∧(some k_≠(.slice Ao36 tc6.length co36:Value).ownBlock∧k_≠gbc9))))) _ _ ((rd_T113 (rd_L6 x11_2 (ji38)) (ji48)).f1) td7 td8 _ ?side1 ?side2 A51.out).mono ?_
   (case side1=>exact HLd5_1.out)
   (case side2=>exact HLd6_1.out)
   rintro e w58 ⟨vd9,rfl,ho0,hb⟩
   have HS2_:=(hb.cell (World.block_lt_of_cell? _ _ (hHeld.2.2.1))).trans (hHeld.2.2.1)
   have HS3_:=(hb.cell (World.block_lt_of_cell? _ _ (hHeld.2.2.2.1))).trans (hHeld.2.2.2.1)
   have HS4_:=(hb.cell (World.block_lt_of_cell? _ _ (hHeld.2.2.2.2.1))).trans (hHeld.2.2.2.2.1)
   have HS5_:=(hb.cell (World.block_lt_of_cell? _ _ (hHeld.2.2.2.2.2.1))).trans (hHeld.2.2.2.2.2.1)
   have HS6_:=(hb.cell (World.block_lt_of_cell? _ _ (hHeld.2.2.2.2.2.2.1))).trans (hHeld.2.2.2.2.2.2.1)
   have HS7_:=(hb.cell (World.block_lt_of_cell? _ _ (hHeld.2.2.2.2.2.2.2))).trans (hHeld.2.2.2.2.2.2.2)
   refine⟨_,rfl,?_⟩
   replace HO_13:=yVb HO_13 hb
   replace HLd5_1:=yVb HLd5_1 hb
   replace HLd6_1:=yVb HLd6_1 hb
   replace HLe1_1:=yVb HLe1_1 hb
   have HOe0:=zk (Kd.V_lower (Kd.V_mono (ok':=fun k_=>(w.heap.size≤k_)∧some k_≠(.slice (some add0) x11_2.length co42:Value).ownBlock∧some k_≠(.slice (some ade1) x14_3.length co57:Value).ownBlock∧some k_≠(.slice Ao36 tc6.length co36:Value).ownBlock∧k_≠gbc9) ho0 (fun k_ hk_=>⟨Or.elim hk_ (fun hs_=>Or.elim hs_ (fun hs_=>hs_.1) (fun hs_=>hs_.1)) (fun hn_=>(Nat.le_trans (below_size (zB1 HB.out GEc9.out)) hn_)),Or.elim hk_ (fun hs_=>Or.elim hs_ (fun hs_=>hs_.2.1) (fun hs_=>hs_.2.1)) (fun hn_=>(Kd.fresh' (Kd.N_lt (zN HO_11.out)) k_ hn_)),Or.elim hk_ (fun hs_=>Or.elim hs_ (fun hs_=>hs_.2.2.1) (fun hs_=>hs_.2.2.1)) (fun hn_=>(Kd.fresh' (Kd.N_lt (zN HO_14.out)) k_ hn_)),Or.elim hk_ (fun hs_=>Or.elim hs_ (fun hs_=>hs_.2.2.2.1) (fun hs_=>hs_.2.2.2.1)) (fun hn_=>(Kd.fresh' (Kd.R_lt (zR HO_130001.out)) k_ hn_)),Or.elim hk_ (fun hs_=>Or.elim hs_ (fun hs_=>hs_.2.2.2.2) (fun hs_=>hs_.2.2.2.2)) (fun hn_=>(Kd.freshB (g:=gbc9) (o:= .cells #[.bool tc5, .slice Ao36 tc6.length co36] 113 (0,0)) (zK BKc9.out) k_ hn_))⟩)) (below_size (zB1 HB.out GEc9.out)))
   replace HO_11:=yNb HO_11 hb
   replace HO_14:=yNb HO_14 hb
   replace HO_130001:=yRb HO_130001 hb
   replace BKc9:=yK BKc9 hb
   (try replace HRd5_1:=yCb HRd5_1 hb)
   (try replace HRd6_1:=yCb HRd6_1 hb)
   (try replace HRe1_1:=yCb HRe1_1 hb)
   replace HB:=yS1 HB GEc9 hb
   (try clear hb)
   (try clear ho0)
   refine hK.out _ _ ⟨(blk_cell BKc9.out 0).trans rfl,(blk_cell BKc9.out 1).trans rfl,HS2_,HS3_,HS4_,HS5_,HS6_,HS7_⟩ (fun hHeld=>?_)
   clear hK K
   refine norm_ (a':=?_) ?_ ?_
   rotate_left
   ·show Act.put _ (some 81) _=_
    simp only[Act.put,List.setIfInBounds_toArray,List.set_cons_zero,List.set_cons_succ,i64_w,i32_w]
    rfl
   refine one_ (i:=17) (N:=some 88) #[true,true,true,true,true,true,true,true,true,true,true,true,true,true,true,true,true,true,false,false,false,false] rfl rfl (one_of HT_.out (by kernel_rfl)) (by decide) (fun K hK=>?_)
   refine goes_ Try.func126 (by kernel_rfl) rfl #[.agg #[.bool tc5, .slice Ao36 tc6.length co36], .agg #[.bool ((rd_T113 x14_3 (ji48)).f0), .slice Ae1_1 ((rd_T113 x14_3 (ji48)).f1).length ce1_1]] (by rfl) rfl rfl (by(try simp only[List.map_toArray,List.map_cons,List.map_nil]);first|done|(simp only[hji48];rfl)|rfl|(simp only[List.length_drop,List.length_take];rfl)) ?_
   with_reducible refine(mw_times.calls k3 tc5 (fun k_=>some k_=(.slice Ao36 tc6.length co36:Value).ownBlock) _ _ tc6 ((rd_T113 x14_3 (ji48)).f0) (fun k_=>(((w.heap.size≤k_)∧(some k_≠(.slice (some add0) x11_2.length co42:Value).ownBlock∧(some k_≠(.slice Ao36 tc6.length co36:Value).ownBlock∧k_≠gbc9)))∧some k_≠(.slice (some ade1) x14_3.length co57:Value).ownBlock)) _ _ ((rd_T113 x14_3 (ji48)).f1) te2 te3 _ ?side1 ?side2 A53.out).mono ?_
   (case side1=>exact Kd.R_V (Kd.R_tight rfl (Kd.R_types (Kd.R_apart' (Kd.R_apart' (HO_130001.out) (Kd.N_typed HO_11.out) (by decide)) (Kd.N_typed HO_14.out) (by decide)) BKc9.out (by decide))))
   (case side2=>exact HLe1_1.out)
   rintro e w59 ⟨ve4,rfl,ho0,hb⟩
   have HS2_:=(hb.cell (World.block_lt_of_cell? _ _ (hHeld.2.2.1))).trans (hHeld.2.2.1)
   have HS3_:=(hb.cell (World.block_lt_of_cell? _ _ (hHeld.2.2.2.1))).trans (hHeld.2.2.2.1)
   have HS4_:=(hb.cell (World.block_lt_of_cell? _ _ (hHeld.2.2.2.2.1))).trans (hHeld.2.2.2.2.1)
   have HS5_:=(hb.cell (World.block_lt_of_cell? _ _ (hHeld.2.2.2.2.2.1))).trans (hHeld.2.2.2.2.2.1)
   have HS6_:=(hb.cell (World.block_lt_of_cell? _ _ (hHeld.2.2.2.2.2.2.1))).trans (hHeld.2.2.2.2.2.2.1)
   have HS7_:=(hb.cell (World.block_lt_of_cell? _ _ (hHeld.2.2.2.2.2.2.2))).trans (hHeld.2.2.2.2.2.2.2)
   refine⟨_,rfl,?_⟩
   replace HO_11:=yNe HO_11 ho0 hb
   replace HO_13:=yVe HO_13 ho0 hb
   replace HO_14:=yNe HO_14 ho0 hb
   replace HLd5_1:=yVe HLd5_1 ho0 hb
   replace HLd6_1:=yVe HLd6_1 ho0 hb
   replace HLe1_1:=yVe HLe1_1 ho0 hb
   replace HOe0:=yVe HOe0 ho0 hb
   replace ho0:=Kd.R_newM (M:=fun k_=>(w.heap.size≤k_)) (yt ho0) (below_size (zB1 HB.out GEc9.out)) (fun k_ h_=>h_)
   replace ho0:=yn ho0 HO_130001
   have HOe5:=yRl1 ho0 HB GEc9
   replace HO_130001:=yRe HO_130001 ho0 hb
   replace BKc9:=yK BKc9 hb
   (try replace HRd5_1:=yCb HRd5_1 hb)
   (try replace HRd6_1:=yCb HRd6_1 hb)
   (try replace HRe1_1:=yCb HRe1_1 hb)
   replace HB:=yS1 HB GEc9 hb
   (try clear hb)
   (try clear ho0)
   obtain⟨Ao60,co60,eo60⟩:=Kd.V_slice HOe0.out
   (first|subst eo60|(injection eo60 with f1_ f2_ f3_;have f4_:=f1_.symm;have f5_:=f3_.symm;clear f1_ f2_ f3_;subst f4_;subst f5_))
   obtain⟨Ao61,co61,eo61⟩:=Kd.R_slice HOe5.out
   (first|subst eo61|(injection eo61 with f1_ f2_ f3_;have f4_:=f1_.symm;have f5_:=f3_.symm;clear f1_ f2_ f3_;subst f4_;subst f5_))
   refine hK.out _ _ ⟨(blk_cell BKc9.out 0).trans rfl,(blk_cell BKc9.out 1).trans rfl,HS2_,HS3_,HS4_,HS5_,HS6_,HS7_⟩ (fun hHeld=>?_)
   clear hK K
   refine norm_ (a':=?_) ?_ ?_
   rotate_left
   ·show Act.put _ (some 88) _=_
    simp only[Act.put,List.setIfInBounds_toArray,List.set_cons_zero,List.set_cons_succ,i64_w,i32_w]
    rfl
   refine one_ (i:=18) (N:=some 89) #[true,true,true,true,true,true,true,true,true,true,true,true,true,true,true,true,true,true,true,false,false,false] rfl rfl (one_of HT_.out (by kernel_rfl)) (by decide) (fun K hK=>?_)
   refine goes_ Try.func125 (by kernel_rfl) rfl #[.agg #[.bool td7, .slice Ao60 td8.length co60], .agg #[.bool te2, .slice Ao61 te3.length co61]] (by rfl) rfl rfl (by(try simp only[List.map_toArray,List.map_cons,List.map_nil]);first|done|rfl|(simp only[List.length_drop,List.length_take];rfl)) ?_
   with_reducible refine(mw_minus.calls k3 td7 (fun k_=>(((w.heap.size≤k_)∧(some k_≠(.slice (some add0) x11_2.length co42:Value).ownBlock∧(some k_≠(.slice (some ade1) x14_3.length co57:Value).ownBlock∧(some k_≠(.slice Ao36 tc6.length co36:Value).ownBlock∧k_≠gbc9))))∧some k_≠(.slice Ao61 te3.length co61:Value).ownBlock)) _ _ td8 te2 (fun k_=>some k_=(.slice Ao61 te3.length co61:Value).ownBlock) _ _ te3 te6 te7 _ ?side1 ?side2 A54.out).mono ?_
   (case side1=>exact HOe0.out)
   (case side2=>exact Kd.R_V (Kd.R_tight rfl (Kd.R_types (Kd.R_apart' (Kd.R_apart' (HOe5.out) (Kd.N_typed HO_11.out) (by decide)) (Kd.N_typed HO_14.out) (by decide)) BKc9.out (by decide))))
   rintro e w62 ⟨ve8,rfl,ho0,hb⟩
   have HS2_:=(hb.cell (World.block_lt_of_cell? _ _ (hHeld.2.2.1))).trans (hHeld.2.2.1)
   have HS3_:=(hb.cell (World.block_lt_of_cell? _ _ (hHeld.2.2.2.1))).trans (hHeld.2.2.2.1)
   have HS4_:=(hb.cell (World.block_lt_of_cell? _ _ (hHeld.2.2.2.2.1))).trans (hHeld.2.2.2.2.1)
   have HS5_:=(hb.cell (World.block_lt_of_cell? _ _ (hHeld.2.2.2.2.2.1))).trans (hHeld.2.2.2.2.2.1)
   have HS6_:=(hb.cell (World.block_lt_of_cell? _ _ (hHeld.2.2.2.2.2.2.1))).trans (hHeld.2.2.2.2.2.2.1)
   have HS7_:=(hb.cell (World.block_lt_of_cell? _ _ (hHeld.2.2.2.2.2.2.2))).trans (hHeld.2.2.2.2.2.2.2)
   refine⟨_,rfl,?_⟩
   replace HO_13:=yVb HO_13 hb
   replace HLd5_1:=yVb HLd5_1 hb
   replace HLd6_1:=yVb HLd6_1 hb
   replace HLe1_1:=yVb HLe1_1 hb
   replace HOe0:=yVb HOe0 hb
   have HOe9:=zk (Kd.V_lower (Kd.V_mono (ok':=fun k_=>(w.heap.size≤k_)∧some k_≠(.slice (some add0) x11_2.length co42:Value).ownBlock∧some k_≠(.slice (some ade1) x14_3.length co57:Value).ownBlock∧some k_≠(.slice Ao36 tc6.length co36:Value).ownBlock∧k_≠gbc9) ho0 (fun k_ hk_=>⟨Or.elim hk_ (fun hs_=>Or.elim hs_ (fun hs_=>hs_.1.1) (fun hs_=>((Kd.R_types (Kd.R_apart' (Kd.R_apart' (HOe5.out) (Kd.N_typed HO_11.out) (by decide)) (Kd.N_typed HO_14.out) (by decide)) BKc9.out (by decide)).1 k_ hs_.symm).1.1.1.1.1)) (fun hn_=>(Nat.le_trans (below_size (zB1 HB.out GEc9.out)) hn_)),Or.elim hk_ (fun hs_=>Or.elim hs_ (fun hs_=>hs_.1.2.1) (fun hs_=>((Kd.R_types (Kd.R_apart' (Kd.R_apart' (HOe5.out) (Kd.N_typed HO_11.out) (by decide)) (Kd.N_typed HO_14.out) (by decide)) BKc9.out (by decide)).1 k_ hs_.symm).1.1.2)) (fun hn_=>(Kd.fresh' (Kd.N_lt (zN HO_11.out)) k_ hn_)),Or.elim hk_ (fun hs_=>Or.elim hs_ (fun hs_=>hs_.1.2.2.1) (fun hs_=>((Kd.R_types (Kd.R_apart' (Kd.R_apart' (HOe5.out) (Kd.N_typed HO_11.out) (by decide)) (Kd.N_typed HO_14.out) (by decide)) BKc9.out (by decide)).1 k_ hs_.symm).1.2)) (fun hn_=>(Kd.fresh' (Kd.N_lt (zN HO_14.out)) k_ hn_)),Or.elim hk_ (fun hs_=>Or.elim hs_ (fun hs_=>hs_.1.2.2.2.1) (fun hs_=>((Kd.R_types (Kd.R_apart' (Kd.R_apart' (HOe5.out) (Kd.N_typed HO_11.out) (by decide)) (Kd.N_typed HO_14.out) (by decide)) BKc9.out (by decide)).1 k_ hs_.symm).1.1.1.2)) (fun hn_=>(Kd.fresh' (Kd.R_lt (zR HO_130001.out)) k_ hn_)),Or.elim hk_ (fun hs_=>Or.elim hs_ (fun hs_=>hs_.1.2.2.2.2) (fun hs_=>((Kd.R_types (Kd.R_apart' (Kd.R_apart' (HOe5.out) (Kd.N_typed HO_11.out) (by decide)) (Kd.N_typed HO_14.out) (by decide)) BKc9.out (by decide)).1 k_ hs_.symm).2)) (fun hn_=>(Kd.freshB (g:=gbc9) (o:= .cells #[.bool tc5, .slice Ao36 tc6.length co36] 113 (0,0)) (zK BKc9.out) k_ hn_))⟩)) (below_size (zB1 HB.out GEc9.out)))
   replace HO_11:=yNb HO_11 hb
   replace HO_14:=yNb HO_14 hb
   replace HO_130001:=yRb HO_130001 hb
   replace HOe5:=yRb HOe5 hb
   replace BKc9:=yK BKc9 hb
   (try replace HRd5_1:=yCb HRd5_1 hb)
   (try replace HRd6_1:=yCb HRd6_1 hb)
   (try replace HRe1_1:=yCb HRe1_1 hb)
   replace HB:=yS1 HB GEc9 hb
   (try clear hb)
   (try clear ho0)
   obtain⟨Ao64,co64,eo64⟩:=Kd.V_slice HOe9.out
   (first|subst eo64|(injection eo64 with f1_ f2_ f3_;have f4_:=f1_.symm;have f5_:=f3_.symm;clear f1_ f2_ f3_;subst f4_;subst f5_))
   refine hK.out _ _ ⟨(blk_cell BKc9.out 0).trans rfl,(blk_cell BKc9.out 1).trans rfl,HS2_,HS3_,HS4_,HS5_,HS6_,HS7_⟩ (fun hHeld=>?_)
   clear hK K
   refine norm_ (a':=?_) ?_ ?_
   rotate_left
   ·show Act.put _ (some 89) _=_
    simp only[Act.put,List.setIfInBounds_toArray,List.set_cons_zero,List.set_cons_succ,i64_w,i32_w]
    rfl
   refine last_ (i:=19) (N:=some 90) #[true,true,true,true,true,true,true,true,true,true,true,true,true,true,true,true,true,true,true,true,false,false] rfl rfl (one_of HT_.out (by kernel_rfl)) (by decide) (fun K hK=>?_)
   refine value_ (w1:=?_) (v:=?_) (by rfl) rfl ?_ ?_
   rotate_left 2
   ·go_simp
    constructor
    ·rfl
    rfl
   refine hK.out _ _ ?_
   clear hK K
   refine norm_ (a':=?_) ?_ ?_
   rotate_left
   ·show Act.put _ (some 90) _=_
    simp only[Act.put,List.setIfInBounds_toArray,List.set_cons_zero,List.set_cons_succ,i64_w,i32_w]
    rfl
   refine last_ (i:=20) (N:=some 91) #[true,true,true,true,true,true,true,true,true,true,true,true,true,true,true,true,true,true,true,true,true,false] rfl rfl (one_of HT_.out (by kernel_rfl)) (by decide) (fun K hK=>?_)
   refine Kd.N_append_step k113 (w0:=w) w.heap.size (by rfl) (.tmp 71) (.tmp 90) 114 113 (.agg #[(.bool false),(.slice none 0 0)]) 32 rfl Try.underlying114 info113 rfl (by decide) (by omega) (.slice (some ade1) x14_3.length co57) x14_3 (⟨te6,te7⟩:S113) [.bool te6, .slice Ao64 te7.length co64] (fun k_=>(w.heap.size≤k_)∧some k_≠(.slice (some add0) x11_2.length co42:Value).ownBlock∧some k_≠(.slice Ao36 tc6.length co36:Value).ownBlock∧k_≠gbc9) (fun k_=>((fun k_=>(w.heap.size≤k_)∧some k_≠(.slice (some add0) x11_2.length co42:Value).ownBlock∧some k_≠(.slice Ao36 tc6.length co36:Value).ownBlock∧k_≠gbc9)) k_∧some k_≠(.slice (some ade1) x14_3.length co57:Value).ownBlock) rfl rfl ?aP (fun _ hk=>hk) ?aF ?aO ?aB ?aS ?aL ?_
   (case aP=>exact(k113_mkF _ _ (⟨te6,te7⟩:S113) (Kd.V_reads' (Kd.V_mono (ok':=(fun k_=>((fun k_=>(w.heap.size≤k_)∧some k_≠(.slice (some add0) x11_2.length co42:Value).ownBlock∧some k_≠(.slice Ao36 tc6.length co36:Value).ownBlock∧k_≠gbc9)) k_∧some k_≠(.slice (some ade1) x14_3.length co57:Value).ownBlock)) (HOe9.out) (fun k_ hk=>by exact⟨⟨hk.1,⟨hk.2.1,⟨hk.2.2.2.1,hk.2.2.2.2⟩⟩⟩,hk.2.2.1⟩))).2.1 (Kd.V_F (Kd.V_mono (ok':=(fun k_=>((fun k_=>(w.heap.size≤k_)∧some k_≠(.slice (some add0) x11_2.length co42:Value).ownBlock∧some k_≠(.slice Ao36 tc6.length co36:Value).ownBlock∧k_≠gbc9)) k_∧some k_≠(.slice (some ade1) x14_3.length co57:Value).ownBlock)) (HOe9.out) (fun k_ hk=>by exact⟨⟨hk.1,⟨hk.2.1,⟨hk.2.2.2.1,hk.2.2.2.2⟩⟩⟩,hk.2.2.1⟩)))))
   (case aB=>exact(zB1 HB.out GEc9.out))
   (case aF=>exact(fun k_ hk=>⟨(Nat.le_trans (below_size (zB1 HB.out GEc9.out)) hk),Kd.fresh' (Kd.N_lt (zN HO_11.out)) k_ hk,Kd.fresh' (Kd.R_lt (zR HO_130001.out)) k_ hk,Kd.freshB (g:=gbc9) (o:= .cells #[.bool tc5, .slice Ao36 tc6.length co36] 113 (0,0)) (zK BKc9.out) k_ hk⟩))
   (case aO=>exact(by(with_reducible repeat(first|apply Kd.N_alloc|apply Kd.N_drewN|apply Kd.N_drew));exact Kd.N_mono HO_14.out (fun _ hk=>⟨hk.1.1,⟨hk.1.2.1,⟨hk.1.2.2.1,hk.1.2.2.2⟩⟩⟩)))
   (case aS=>exact(below_size (zB1 HB.out GEc9.out)))
   (case aL=>have:=LMc55.out;omega)
   intro vf1 w63 ho hb hg hat
   rw[←Nyf0.out] at ho
   replace HO_11:=zk (Kd.N_afterv (ok:=(fun k_=>(w.heap.size≤k_)∧some k_≠(.slice Ao36 tc6.length co36:Value).ownBlock∧some k_≠(.slice Ao61 te3.length co61:Value).ownBlock∧k_≠gbc9)) (by(with_reducible repeat(first|apply Kd.N_alloc|apply Kd.N_drewN|apply Kd.N_drew));exact Kd.N_mono HO_11.out (fun _ hk=>⟨⟨hk.1.1,⟨hk.1.2.2.1,⟨hk.2,hk.1.2.2.2⟩⟩⟩,hk.1.2.1⟩)) hg hat)
   replace HO_13:=zk (Kd.V_afterv (ok:=(fun k_=>(w.heap.size≤k_)∧some k_≠(.slice (some add0) x11_2.length co42:Value).ownBlock∧some k_≠(.slice Ao36 tc6.length co36:Value).ownBlock∧some k_≠(.slice Ao61 te3.length co61:Value).ownBlock∧k_≠gbc9)) (by(with_reducible repeat(first|apply Kd.V_alloc|apply Kd.V_drewN|apply Kd.V_drew));exact Kd.V_mono HO_13.out (fun _ hk=>⟨⟨hk.1.1,⟨hk.1.2.1,⟨hk.1.2.2.2.1,⟨hk.2,hk.1.2.2.2.2⟩⟩⟩⟩,hk.1.2.2.1⟩)) hg hat)
   replace HO_130001:=zk (Kd.R_over' (zR HO_130001.out) (Kd.N_typed (zN HO_14.out)) (by decide) hg)
   replace BKc9:=zk (blk_grown (g:=gbc9) (o:= .cells #[.bool tc5, .slice Ao36 tc6.length co36] 113 (0,0)) (zK BKc9.out) hg (Kd.N_away HO_14.out (fun _ hk=>hk.1.2.2.2)))
   replace HLd5_1:=zk (Kd.V_afterv (ok:=(fun k_=>(w.heap.size≤k_)∧some k_≠(.slice (some add0) x11_2.length co42:Value).ownBlock∧some k_≠(.slice Ao36 tc6.length co36:Value).ownBlock∧some k_≠(.slice Ao61 te3.length co61:Value).ownBlock∧k_≠gbc9)) (by(with_reducible repeat(first|apply Kd.V_alloc|apply Kd.V_drewN|apply Kd.V_drew));exact Kd.V_mono HLd5_1.out (fun _ hk=>⟨⟨hk.1.1,⟨hk.1.2.1,⟨hk.1.2.2.2.1,⟨hk.2,hk.1.2.2.2.2⟩⟩⟩⟩,hk.1.2.2.1⟩)) hg hat)
   replace HLd6_1:=zk (Kd.V_afterv (ok:=(fun k_=>(w.heap.size≤k_)∧some k_≠(.slice (some add0) x11_2.length co42:Value).ownBlock∧some k_≠(.slice Ao36 tc6.length co36:Value).ownBlock∧some k_≠(.slice Ao61 te3.length co61:Value).ownBlock∧k_≠gbc9)) (by(with_reducible repeat(first|apply Kd.V_alloc|apply Kd.V_drewN|apply Kd.V_drew));exact Kd.V_mono HLd6_1.out (fun _ hk=>⟨⟨hk.1.1,⟨hk.1.2.1,⟨hk.1.2.2.2.1,⟨hk.2,hk.1.2.2.2.2⟩⟩⟩⟩,hk.1.2.2.1⟩)) hg hat)
   replace HLe1_1:=zk (Kd.V_afterv (ok:=(fun k_=>(w.heap.size≤k_)∧some k_≠(.slice (some add0) x11_2.length co42:Value).ownBlock∧some k_≠(.slice Ao36 tc6.length co36:Value).ownBlock∧some k_≠(.slice Ao61 te3.length co61:Value).ownBlock∧k_≠gbc9)) (by(with_reducible repeat(first|apply Kd.V_alloc|apply Kd.V_drewN|apply Kd.V_drew));exact Kd.V_mono HLe1_1.out (fun _ hk=>⟨⟨hk.1.1.1,⟨hk.1.1.2.1,⟨hk.1.1.2.2.1,⟨hk.2,hk.1.1.2.2.2⟩⟩⟩⟩,hk.1.2⟩)) hg hat)
   replace HOe0:=zk (Kd.V_afterv (ok:=(fun k_=>(w.heap.size≤k_)∧some k_≠(.slice (some add0) x11_2.length co42:Value).ownBlock∧some k_≠(.slice Ao36 tc6.length co36:Value).ownBlock∧some k_≠(.slice Ao61 te3.length co61:Value).ownBlock∧k_≠gbc9)) (by(with_reducible repeat(first|apply Kd.V_alloc|apply Kd.V_drewN|apply Kd.V_drew));exact Kd.V_mono HOe0.out (fun _ hk=>⟨⟨hk.1.1,⟨hk.1.2.1,⟨hk.1.2.2.2.1,⟨hk.2,hk.1.2.2.2.2⟩⟩⟩⟩,hk.1.2.2.1⟩)) hg hat)
   replace HOe5:=zk (Kd.R_over' (zR HOe5.out) (Kd.N_typed (zN HO_14.out)) (by decide) hg)
   replace HOe9:=zk (Kd.V_afterv (ok:=(fun k_=>(w.heap.size≤k_)∧some k_≠(.slice (some add0) x11_2.length co42:Value).ownBlock∧some k_≠(.slice Ao36 tc6.length co36:Value).ownBlock∧k_≠gbc9)) (by(with_reducible repeat(first|apply Kd.V_alloc|apply Kd.V_drewN|apply Kd.V_drew));exact Kd.V_mono HOe9.out (fun _ hk=>⟨⟨hk.1,⟨hk.2.1,⟨hk.2.2.2.1,hk.2.2.2.2⟩⟩⟩,hk.2.2.1⟩)) hg hat)
   replace HB:=zk (hb)
   have HOf2:=zk (ho)
   clear HO_14
   clear ho hb hg hat
   refine hK.out _ _ ?_
   clear hK K
   refine norm_ (a':=?_) ?_ ?_
   rotate_left
   ·show Act.put _ (some 91) _=_
    simp only[Act.put,List.setIfInBounds_toArray,List.set_cons_zero,List.set_cons_succ,i64_w,i32_w]
    rfl
   refine zp (i:=21) (N:=some 14) HT_ ?_
   refine done_ (done_of HT_.out (by kernel_rfl)) ?_
   try go_wp2
   go_roundg k3
   case measure=>have:=HK1.out;have:=HK2.out;have:=HK3.out;omega
   case rel=>exact⟨(yf0),(wrap64 (x15_3+1)),zF,H',⟨by have:=HK1.out;have:=HK2.out;have:=HK3.out;omega⟩,⟨by(try simp only[hl5_1]);(with_reducible repeat(first|apply Kd.N_alloc|apply Kd.N_drewN|apply Kd.N_drew));exact Kd.N_mono HO_11.out (fun _ hk=>⟨hk.1.1,⟨hk.2,⟨hk.1.2.1,hk.1.2.2.2⟩⟩⟩)⟩,⟨by(try simp only[hl5_1]);(with_reducible repeat(first|apply Kd.V_alloc|apply Kd.V_drewN|apply Kd.V_drew));exact Kd.V_mono HO_13.out (fun _ hk=>⟨hk.1.1,⟨hk.1.2.1,⟨hk.2,⟨hk.1.2.2.1,hk.1.2.2.2.2⟩⟩⟩⟩)⟩,⟨by(try simp only[hl5_1]);(with_reducible repeat(first|apply Kd.N_alloc|apply Kd.N_drewN|apply Kd.N_drew));exact HOf2.out⟩,⟨by(try simp only[hl5_1]);(with_reducible repeat(first|apply Kd.R_alloc|apply Kd.R_drewN|apply Kd.R_drew));exact Kd.R_mono HO_130001.out (fun _ hk=>hk.1)⟩,⟨by(try simp only[hl5_1]);(with_reducible repeat(first|refine blk_drewN ?_ _|refine blk_drew ?_|refine blk_alloc ?_ _));exact BKc9.out⟩,⟨zB1 HB.out GEc9.out⟩⟩
  replace H:=zg H
  obtain⟨c65,H⟩:=H
  have LMc65:=zk c65
  clear c65
  obtain⟨yf3,hyf3⟩:∃y_:List (List (S113)),y_=(x11_2++[x14_3]):=⟨_,rfl⟩
  replace H:(mw_table.l1 k3 a1 yf3 a1 (wrap64 (x54_2+1)) tc5 tc6)=some r:=zY hyf3 H
  have Nyf3:=zk hyf3
  clear hyf3
  have H':=zk H
  clear H
  obtain⟨Ao67,co67,rfl⟩:=Kd.N_slice HO_14.out
  go_wp2_with (first|((with_reducible refine gate_builtin (b:= .append) (xs:= #[.tmp 92, .tmp 94]) rfl ?_);at_builtin;refine Kd.N_append (Kd.slice 113 k113) (w0:=w) w.heap.size rfl (.tmp 92) (.tmp 94) 115 114 (.slice none 0 0) 24 rfl Try.underlying115 info114 rfl (by decide) (by omega) (.slice (some add0) x11_2.length co42) x11_2 x14_3 [.slice Ao67 x14_3.length co67] (fun k_=>(w.heap.size≤k_)∧some k_≠(.slice Ao36 tc6.length co36:Value).ownBlock∧k_≠gbc9) (fun k_=>((fun k_=>(w.heap.size≤k_)∧some k_≠(.slice Ao36 tc6.length co36:Value).ownBlock∧k_≠gbc9)) k_∧some k_≠(.slice (some add0) x11_2.length co42:Value).ownBlock) rfl rfl ?aP (fun _ hk=>hk) ?aF ?aO ?aB ?aS ?aL ?_;(case aP=>exact(Kd.FK_slice_mk (Kd.N_reads' (Kd.N_mono (ok':=(fun k_=>((fun k_=>(w.heap.size≤k_)∧some k_≠(.slice Ao36 tc6.length co36:Value).ownBlock∧k_≠gbc9)) k_∧some k_≠(.slice (some add0) x11_2.length co42:Value).ownBlock)) (HO_14.out) (fun k_ hk=>by exact⟨⟨hk.1,⟨hk.2.2.1,hk.2.2.2⟩⟩,hk.2.1⟩))).2.1 (Kd.N_F (Kd.N_mono (ok':=(fun k_=>((fun k_=>(w.heap.size≤k_)∧some k_≠(.slice Ao36 tc6.length co36:Value).ownBlock∧k_≠gbc9)) k_∧some k_≠(.slice (some add0) x11_2.length co42:Value).ownBlock)) (HO_14.out) (fun k_ hk=>by exact⟨⟨hk.1,⟨hk.2.2.1,hk.2.2.2⟩⟩,hk.2.1⟩)))));(case aB=>exact(zB1 HB.out GEc9.out));(case aF=>exact(fun k_ hk=>⟨(Nat.le_trans (below_size (zB1 HB.out GEc9.out)) hk),Kd.fresh' (Kd.R_lt (zR HO_130001.out)) k_ hk,Kd.freshB (g:=gbc9) (o:= .cells #[.bool tc5, .slice Ao36 tc6.length co36] 113 (0,0)) (zK BKc9.out) k_ hk⟩));(case aO=>exact(by(with_reducible repeat(first|apply Kd.N_alloc|apply Kd.N_drewN|apply Kd.N_drew));exact Kd.N_mono HO_11.out (fun _ hk=>⟨hk.1,⟨hk.2.2.1,hk.2.2.2⟩⟩)));(case aS=>exact(below_size (zB1 HB.out GEc9.out)));(case aL=>have:=LMc65.out;omega);intro vf4 w66 ho hb hg hat;rw[←Nyf3.out] at ho;replace HO_13:=zk (Kd.V_afterv (ok:=(fun k_=>(w.heap.size≤k_)∧some k_≠(.slice Ao67 x14_3.length co67:Value).ownBlock∧some k_≠(.slice Ao36 tc6.length co36:Value).ownBlock∧k_≠gbc9)) (by(with_reducible repeat(first|apply Kd.V_alloc|apply Kd.V_drewN|apply Kd.V_drew));exact Kd.V_mono HO_13.out (fun _ hk=>⟨⟨hk.1,⟨hk.2.2.1,⟨hk.2.2.2.1,hk.2.2.2.2⟩⟩⟩,hk.2.1⟩)) hg hat);replace HO_130001:=zk (Kd.R_over' (zR HO_130001.out) (Kd.N_typed (zN HO_11.out)) (by decide) hg);replace BKc9:=zk (blk_grown (g:=gbc9) (o:= .cells #[.bool tc5, .slice Ao36 tc6.length co36] 113 (0,0)) (zK BKc9.out) hg (Kd.N_ne HO_11.out BKc9.out (by decide)));replace HB:=zk (hb);have HOf5:=zk (ho);clear HO_11 HO_14;clear ho hb hg hat))
  go_roundg k3
  case measure=>have:=HK1.out;have:=HK2.out;have:=HK3.out;omega
  case rel=>exact⟨(yf3),(wrap64 (x54_2+1)),zF,H',⟨by have:=HK1.out;have:=HK2.out;have:=HK3.out;omega⟩,⟨by(try simp only[hl5_1]);(with_reducible repeat(first|apply Kd.N_alloc|apply Kd.N_drewN|apply Kd.N_drew));exact HOf5.out⟩,⟨by(try simp only[hl5_1]);(with_reducible repeat(first|apply Kd.R_alloc|apply Kd.R_drewN|apply Kd.R_drew));exact HO_130001.out⟩,⟨by(try simp only[hl5_1]);(with_reducible repeat(first|refine blk_drewN ?_ _|refine blk_drew ?_|refine blk_alloc ?_ _));exact BKc9.out⟩,⟨zB1 HB.out GEc9.out⟩⟩
 obtain rfl:=Option.some.inj H
 go_wp2
 go_ret
 exact⟨_,by first|rfl|(simp [errW_none,errW_some]<;>rfl)|(simp only[←hji3];first|rfl|(simp [errW_none,errW_some]<;>rfl))|(simp [*,errW_none,errW_some]<;>rfl),by(with_reducible repeat(first|apply Kd.N_alloc|apply Kd.N_drewN|apply Kd.N_drew));exact Kd.N_mono HO_11.out (fun _ hk=>hk.1),zB1 HB.out GEc9.out⟩
def mw_sums.T10:Bool×List (List Nat×List Nat):=(true,[([],[]),([],[]),([],[]),([],[]),([2,3],[2,3]),([4],[4]),([],[]),([],[]),([],[]),([7,8],[7,8]),([9],[9]),([],[]),([10,11],[10,11]),([12],[12]),([6,13],[6,13]),([5,14,14],[5,14]),([0,1,0,1,2,3,4,5,6,7,8,9,10,11,12,13,14,15],[0,1]),([16,15,15,0,1,2,3,4,5,6,7,8,9,10,11,12,13,14,15],[15,16])])
def mw_sums.B10:List Nat:=[0,0,0,0,12,28,0,0,0,384,896,0,3968,8064,16320,32764,65535,131071]
theorem mw_sums.tab10:rtab .any (opsOf Try.f104 10)=mw_sums.T10:=by kernel_rfl
theorem mw_sums.bits10:waitsOk mw_sums.T10.2 mw_sums.B10=true:=by kernel_rfl
set_option maxHeartbeats 8000000 in
set_option maxRecDepth 100000 in
theorem mw_sums.calls (k:Nat) (a0:Int) (A1:Option Addr) (c1:Nat) (l1:List (S113)) (r:List (S113)) (w:World) (hr1:Kd.C k113 w A1 l1.length l1) (hc1:l1.length≤c1) (h:mw_sums.f k a0 l1=some r):
 Calls Try.prog 104 #[.int .i64 a0, .slice A1 l1.length c1] w fun e w'=>∃v0_:Value,e= .returned (v0_)∧Kd.N k113 113 w' w.heap.size (fun k_=>(w.heap.size≤k_)) v0_ r∧Below w.heap.size w w':=by
 have hu113:=Try.underlying113
 have HR1:=zk hr1
 have HC1:=zk hc1
 clear hr1 hc1
 have HB:=zk (Below.refl w.heap.size w)
 have H:=h
 clear h
 unfold mw_sums.f at H
 replace H:=zb H
 obtain⟨ta1,A3,H⟩:=H
 replace H:=zg H
 obtain⟨c4,H⟩:=H
 have c4b0:=eq_true c4
 have c4b1:=decide_eq_true c4
 clear c4
 replace H:=zg H
 obtain⟨c5,H⟩:=H
 have c5b0:=eq_true c5
 have c5b1:=decide_eq_true c5
 clear c5
 obtain⟨ya4,hya4⟩:∃y_:List (S113),y_=(List.replicate ((l1.length:Int):Int).toNat z113):=⟨_,rfl⟩
 replace H:(mw_sums.l0 k l1 ta1 ya4 (ya4.length:Int) 0)=some r:=zY hya4 H
 have Nya4:=zk hya4
 clear hya4
 have H':=zk H
 clear H
 go_enter Try.func104,Try.ntmps104
 go_wp2_with (first|((with_reducible refine gC 94 ?_);refine zG (some 14) Try.func94 #[.int .i64 a0, .int .i64 (wrap64 ((l1.length:Int)-1))] ?_;(with_reducible refine(mw_table.calls k a0 (wrap64 ((l1.length:Int)-1)) ta1 _ A3.out).mono ?_);rintro e w6 ⟨va2,rfl,ho0,hb⟩;refine⟨_,rfl,?_⟩;have HOa3:=zk (Kd.N_lower (Kd.N_mono (ok':=fun k_=>(w.heap.size≤k_)) ho0 (fun k_ hk_=>(Nat.le_trans (below_size (zB HB.out)) hk_))) (below_size (zB HB.out)));replace HB:=yS HB hb;(try clear hb ho0))|((with_reducible refine gate_dst (N:=17) rfl ?_);refine Kd.N_make k113 _ 113 rfl (N':=17) rfl 114 _ _ rfl (l1.length:Int) rfl rfl Try.underlying114 (.agg #[(.bool false),(.slice none 0 0)]) 32 info113 rfl (by decide) (by omega) z113 (ok:=fun k_=>w6.heap.size≤k_) (okp:=fun _=>False) (k113_mkF _ _ z113 (Nat.le_refl _) (Kd.F_nil _ _ _)) (fun _ hk=>hk.elim) (Nat.le_refl _) zd (Nat.le_trans (Nat.mul_le_mul_right _ (zd:(l1.length:Int).toNat≤8796093022208)) (by omega)) (Below.refl _ _) (Nat.le_refl _) ?_;intro va5 w7 ho8 hb hg_ hnew_;clear hg_ hnew_;(first|rw[←Nya4.out] at ho8|(simp only[Int.reduceToNat] at ho8;rw[←Nya4.out] at ho8));have HOa6:=zk (Kd.N_lower (Kd.N_mono (ok':=fun k_=>(w.heap.size≤k_)∧some k_≠(va2:Value).ownBlock) ho8 (fun k_ hk_=>⟨(Nat.le_trans (below_size (zB HB.out)) hk_),(Kd.fresh' (Kd.N_lt (zN HOa3.out)) k_ hk_)⟩)) (below_size (zB HB.out)));replace HOa3:=zk (Kd.N_elder' (zN HOa3.out) (Kd.N_base ho8) hb);replace HB:=yS HB hb;clear hb ho8;obtain⟨Ao9,co9,rfl⟩:=Kd.N_slice HOa6.out))
 go_loopg [20] k (fun kq v20 w'=>∃(x6_1:List (S113)) (x20_1:Int),v20= .int .i64 x20_1∧Aside0 (mw_sums.l0 kq l1 ta1 x6_1 (ya4.length:Int) x20_1=some r)∧Aside0 (kq≤k)∧Aside0 (Kd.N (Kd.slice 113 k113) 114 w' w.heap.size (fun k_=>(w.heap.size≤k_)∧some k_≠((.slice Ao9 ya4.length co9):Value).ownBlock) va2 ta1)∧Aside0 (Kd.N k113 113 w' w.heap.size (fun k_=>(w.heap.size≤k_)∧some k_≠(va2:Value).ownBlock) (.slice Ao9 ya4.length co9) x6_1)∧Aside0 (Below w.heap.size w w'))
 case atStart=>exact⟨(ya4),(0),zF,H',⟨Nat.le_refl _⟩,⟨zN HOa3.out⟩,⟨zN HOa6.out⟩,⟨zB HB.out⟩⟩
 clear H'
 (try clear c4);(try clear c4b0);(try clear c4b1);(try clear c5);(try clear c5b0);(try clear c5b1)
 obtain⟨x6_1,x20_1,rfl,HA,HK1,HO_5,HO_6,HB⟩:=hrel
 have hl6_1:=(Kd.N_reads' HO_6.out).1
 rw[hl6_1] at HO_6
 (try simp only[hl6_1])
 (try simp only[hl6_1] at HO_5)
 cases gk with|zero=>exact absurd HA.out (by simp [mw_sums.l0])|succ k1=>?_
 have H:=HA.out
 clear HA
 simp only[mw_sums.l0] at H
 replace H:=zi H
 rcases H with⟨c10,H⟩|⟨c10,H⟩
 ·have c10b0:=decide_eq_true c10
  (try(have c10h0:=c10b0;simp only[hl6_1] at c10h0))
  clear c10
  have H':=zk H
  clear H
  go_wp2
  go_loopg [25] k1 (fun kq v25 w'=>∃(x6_2:List (S113)) (x25_2:Int),v25= .int .i64 x25_2∧Aside0 (mw_sums.l1 kq l1 ta1 x6_2 x20_1 (ya4.length:Int) x20_1 l1 (l1.length:Int) x25_2=some r)∧Aside0 (kq≤k1)∧Aside0 (Kd.N (Kd.slice 113 k113) 114 w' w.heap.size (fun k_=>(w.heap.size≤k_)∧some k_≠((.slice Ao9 x6_1.length co9):Value).ownBlock) va2 ta1)∧Aside0 (Kd.N k113 113 w' w.heap.size (fun k_=>(w.heap.size≤k_)∧some k_≠(va2:Value).ownBlock) (.slice Ao9 x6_1.length co9) x6_2)∧Aside0 (Below w.heap.size w w'))
  case atStart=>exact⟨(x6_1),(0),zF,H',⟨Nat.le_refl _⟩,⟨by(try simp only[hl6_1]);(with_reducible repeat(first|apply Kd.N_alloc|apply Kd.N_drewN|apply Kd.N_drew));exact HO_5.out⟩,⟨by(try simp only[hl6_1]);(with_reducible repeat(first|apply Kd.N_alloc|apply Kd.N_drewN|apply Kd.N_drew));exact HO_6.out⟩,⟨zB HB.out⟩⟩
  clear H'
  (try clear c4);(try clear c4b0);(try clear c4b1);(try clear c5);(try clear c5b0);(try clear c5b1);(try clear c10);(try clear c10b0)
  obtain⟨x6_2,x25_2,rfl,HA,HK2,HO_5,HO_6,HB⟩:=hrel
  have hl6_2:=(Kd.N_reads' HO_6.out).1
  rw[hl6_2] at HO_6
  (try simp only[hl6_2])
  (try simp only[hl6_2] at HO_5)
  cases gk with|zero=>exact absurd HA.out (by simp [mw_sums.l1])|succ k2=>?_
  have H:=HA.out
  clear HA
  simp only[mw_sums.l1] at H
  replace H:=zi H
  rcases H with⟨c11,H⟩|⟨c11,H⟩
  ·have c11b0:=decide_eq_true c11
   (try(have c11h0:=c11b0;simp only[hl6_1,hl6_2] at c11h0))
   clear c11
   replace H:=zgd H
   obtain⟨c12b0,H⟩:=H
   replace H:=zg H
   obtain⟨c13,H⟩:=H
   have c13b0:=decide_eq_true c13
   (try(have c13h0:=c13b0;simp only[hl6_1,hl6_2] at c13h0))
   clear c13
   replace H:=zi H
   rcases H with⟨c14,H⟩|⟨c14,H⟩
   ·have c14b0:decide (0<(((rd_T113 l1 x25_2).f1).length:Int))=true:=decide_eq_true c14
    (try(have c14h0:=c14b0;simp only[hl6_1,hl6_2] at c14h0))
    have c14b1:decide (0<((rd_T113 l1 x25_2).f1).length)=true:=decide_eq_true (by omega)
    (try(have c14h1:=c14b1;simp only[hl6_1,hl6_2] at c14h1))
    clear c14
    replace H:=zgd H
    obtain⟨c15b0,H⟩:=H
    replace H:=zg H
    obtain⟨c16,H⟩:=H
    have c16b0:=decide_eq_true c16
    (try(have c16h0:=c16b0;simp only[hl6_1,hl6_2] at c16h0))
    clear c16
    replace H:=zg H
    obtain⟨c17,H⟩:=H
    have c17b0:=decide_eq_true c17
    (try(have c17h0:=c17b0;simp only[hl6_1,hl6_2] at c17h0))
    clear c17
    replace H:=zg H
    obtain⟨c18,H⟩:=H
    have c18b0:=decide_eq_true c18
    (try(have c18h0:=c18b0;simp only[hl6_1,hl6_2] at c18h0))
    clear c18
    replace H:=zb H
    obtain⟨⟨tb2,tb3⟩,A19,H⟩:=H
    dsimp only at H
    replace H:=zb H
    obtain⟨⟨tb6,tb7⟩,A20,H⟩:=H
    dsimp only at H
    obtain⟨yc0,hyc0⟩:∃y_:List (S113),y_=(x6_2.set (x20_1:Int).toNat (⟨tb6,tb7⟩:S113)):=⟨_,rfl⟩
    replace H:(mw_sums.l1 k2 l1 ta1 yc0 x20_1 (ya4.length:Int) x20_1 l1 (l1.length:Int) (wrap64 (x25_2+1)))=some r:=zY hyc0 H
    have Nyc0:=zk hyc0
    clear hyc0
    have H':=zk H
    clear H
    have pa7:0≤(x25_2:Int):=zd
    have qa7:x25_2<(l1.length:Int):=zd
    obtain⟨ada7,Aa7_1,ca7_1,ea7,hxa7_0,hxa7_1,hla7_1,hia7_1⟩:=at_T113 HR1.out x25_2 pa7 qa7
    cases ea7
    replace hxa7_0:=(HB.out.cell (World.block_lt_of_cell? w _ hxa7_0)).trans hxa7_0
    replace hxa7_1:=(HB.out.cell (World.block_lt_of_cell? w _ hxa7_1)).trans hxa7_1
    have HRa7_1:=zk hia7_1
    have HCa7_1:=zk hla7_1
    clear hia7_1 hla7_1
    replace pa7:=eq_true pa7
    replace qa7:=eq_true qa7
    try go_wp2_with (first|((with_reducible refine gate_dst (N:=9) rfl ?_);refine box_event ?hg (N:=9) ?hd (cs:= #[.bool false, .slice none 0 0]) (t:=113) ?hr ?_;(case hd=>rfl);(case hg=>rfl);(case hr=>first|(go_simp;done)|(go_simp;rfl));intro gba8 hg w22 hbox hb;replace HO_5:=zk (Kd.N_below (Kd.N_elderB (zN HO_5.out) gba8 (Nat.le_of_eq hg.symm)) hb);replace HO_6:=zk (Kd.N_below (Kd.N_elderB (zN HO_6.out) gba8 (Nat.le_of_eq hg.symm)) hb);have BKa8:=zk (hbox);have GWa8:=yg hg HB;have GEa8:=yg hg HB;replace HB:=yS HB hb;clear hb hbox hg;obtain⟨hcz23_0,hcz23_1,hfz23_0,hfz23_1⟩:=zz2 BKa8))
    have n0_:Aside0 (Kd.N (Kd.slice 113 k113) 114 ((w22.setCell ⟨gba8,0,none⟩ (.bool ((rd_T113 l1 x25_2).f0))).setCell ⟨gba8,1,none⟩ (.slice Aa7_1 ((rd_T113 l1 x25_2).f1).length ca7_1)) w.heap.size (fun k_=>(w.heap.size≤k_)∧some k_≠(.slice Ao9 x6_2.length co9:Value).ownBlock∧k_≠gba8) va2 ta1):=⟨by(with_reducible repeat(first|apply Kd.N_alloc|apply Kd.N_drewN|apply Kd.N_drew));exact Kd.N_mono (Kd.N_far (p:=⟨gba8,1,none⟩) (Kd.N_far (p:=⟨gba8,0,none⟩) (Kd.N_mono HO_5.out (fun k_ hk=>(⟨hk,hk.2⟩:_∧k_≠gba8))) (fun _ hk=>hk.2) (.bool ((rd_T113 l1 x25_2).f0))) (fun _ hk=>hk.2) (.slice Aa7_1 ((rd_T113 l1 x25_2).f1).length ca7_1)) (fun _ hk=>⟨hk.1.1.1,⟨hk.1.1.2,hk.1.2⟩⟩)⟩
    have n1_:Aside0 (Kd.N k113 113 ((w22.setCell ⟨gba8,0,none⟩ (.bool ((rd_T113 l1 x25_2).f0))).setCell ⟨gba8,1,none⟩ (.slice Aa7_1 ((rd_T113 l1 x25_2).f1).length ca7_1)) w.heap.size (fun k_=>(w.heap.size≤k_)∧some k_≠(va2:Value).ownBlock∧k_≠gba8) (.slice Ao9 x6_2.length co9) x6_2):=⟨by(with_reducible repeat(first|apply Kd.N_alloc|apply Kd.N_drewN|apply Kd.N_drew));exact Kd.N_mono (Kd.N_far (p:=⟨gba8,1,none⟩) (Kd.N_far (p:=⟨gba8,0,none⟩) (Kd.N_mono HO_6.out (fun k_ hk=>(⟨hk,hk.2⟩:_∧k_≠gba8))) (fun _ hk=>hk.2) (.bool ((rd_T113 l1 x25_2).f0))) (fun _ hk=>hk.2) (.slice Aa7_1 ((rd_T113 l1 x25_2).f1).length ca7_1)) (fun _ hk=>⟨hk.1.1.1,⟨hk.1.1.2,hk.1.2⟩⟩)⟩
    have n2_:Aside0 (((w22.setCell ⟨gba8,0,none⟩ (.bool ((rd_T113 l1 x25_2).f0))).setCell ⟨gba8,1,none⟩ (.slice Aa7_1 ((rd_T113 l1 x25_2).f1).length ca7_1)).heap[gba8]?=some (.cells #[.bool ((rd_T113 l1 x25_2).f0), .slice Aa7_1 ((rd_T113 l1 x25_2).f1).length ca7_1] 113 (0,0))):=⟨zP2 BKa8.out⟩
    have n3_:Aside0 (Below w.heap.size w ((w22.setCell ⟨gba8,0,none⟩ (.bool ((rd_T113 l1 x25_2).f0))).setCell ⟨gba8,1,none⟩ (.slice Aa7_1 ((rd_T113 l1 x25_2).f1).length ca7_1))):=⟨zB1 HB.out GEa8.out⟩
    (try clear HO_5)
    (try clear HO_6)
    (try clear BKa8)
    (try clear HB)
    generalize ((w22.setCell ⟨gba8,0,none⟩ (.bool ((rd_T113 l1 x25_2).f0))).setCell ⟨gba8,1,none⟩ (.slice Aa7_1 ((rd_T113 l1 x25_2).f1).length ca7_1))=w24 at n0_ n1_ n2_ n3_ ⊢
    have HO_5:=n0_
    have HO_6:=n1_
    have BKa8:=n2_
    have HB:=n3_
    clear n0_ n1_ n2_ n3_
    replace HO_5:=zk (Kd.N_drew HO_5.out)
    replace HO_6:=zk (Kd.N_drew HO_6.out)
    replace BKa8:=zk (blk_drew BKa8.out)
    replace HB:=zk (below_drew1 HB.out)
    have pa9:0≤(x20_1:Int):=zd
    have qa9:x20_1<(x6_2.length:Int):=zd
    obtain⟨ada9,Aa9_1,ca9_1,ea9,hxa9_0,hxa9_1,hla9_1,hia9_1⟩:=at_T113 (Kd.N_reads' HO_6.out).2.2 x20_1 pa9 qa9
    cases ea9
    obtain⟨cea9,hcea9,hMea9,hcca9⟩:=Kd.N_get HO_6.out z113 x20_1 pa9 (by first|exact qa9|exact zd|(have e_:=(Kd.N_reads' HO_6.out).1;omega))
    obtain⟨uaa9_1,uca9_1,rfl,ula9_1,gea9_1⟩:=k113_openF hMea9
    have hva9_1:=hcca9 1 _ rfl
    rw[add_field _ _ 1 (by omega)] at hva9_1
    replace hva9_1:=Option.some.inj (hva9_1.symm.trans hxa9_1)
    injection hva9_1 with hva_ hvn_ hvc_
    rw[hva_] at gea9_1
    rw[hvc_] at ula9_1
    have HLa9_1:=zk (show Kd.V (Kd.int .u32) 97 _ w.heap.size _ _ ((rd_T113 x6_2 x20_1).f1) from Kd.V_mk ula9_1 gea9_1)
    clear hva_ hvn_ hvc_ gea9_1 ula9_1
    clear hcca9 hcea9
    have HRa9_1:=zk hia9_1
    have HCa9_1:=zk hla9_1
    clear hia9_1 hla9_1
    replace pa9:=eq_true pa9
    replace qa9:=eq_true qa9
    obtain⟨Ao26,co26,eo26⟩:=Kd.N_slice HO_5.out
    (first|subst eo26|(injection eo26 with f1_ f2_ f3_;have f4_:=f1_.symm;have f5_:=f3_.symm;clear f1_ f2_ f3_;subst f4_;subst f5_))
    have pb0:0≤(x25_2:Int):=zd
    have qb0:x25_2<(ta1.length:Int):=zd
    obtain⟨adb0,Ab0_0,cb0_0,eb0,hxb0_0,hlb0_0,hib0_0⟩:=at_L6 (Kd.N_reads' HO_5.out).2.2 x25_2 pb0 qb0
    cases eb0
    obtain⟨ceb0,hceb0,hMeb0,hccb0⟩:=Kd.N_get HO_5.out [] x25_2 pb0 (by first|exact qb0|exact zd|(have e_:=(Kd.N_reads' HO_5.out).1;omega))
    obtain⟨uab0_0,ucb0_0,rfl,ulb0_0,geb0_0⟩:=Kd.FK_slice_open hMeb0
    have hvb0_0:=hccb0 0 _ rfl
    rw[Nat.add_zero,show((Kd.slice 113 k113)).sz=1 from rfl,Nat.mul_one] at hvb0_0
    replace hvb0_0:=Option.some.inj (hvb0_0.symm.trans hxb0_0)
    injection hvb0_0 with hva_ hvn_ hvc_
    rw[hva_] at geb0_0
    rw[hvc_] at ulb0_0
    have HLb0_0:=zk (show Kd.V k113 113 _ w.heap.size _ _ (rd_L6 ta1 x25_2) from Kd.V_mk ulb0_0 geb0_0)
    clear hva_ hvn_ hvc_ geb0_0 ulb0_0
    clear hccb0 hceb0
    have HRb0_0:=zk hib0_0
    have HCb0_0:=zk hlb0_0
    clear hib0_0 hlb0_0
    replace pb0:=eq_true pb0
    replace qb0:=eq_true qb0
    have pb1:0≤(x20_1:Int):=zd
    have qb1:x20_1<((rd_L6 ta1 x25_2).length:Int):=zd
    obtain⟨adb1,Ab1_1,cb1_1,eb1,hxb1_0,hxb1_1,hlb1_1,hib1_1⟩:=at_T113 (zCr HRb0_0.out) x20_1 pb1 qb1
    cases eb1
    obtain⟨ceb1,hceb1,hMeb1,hccb1⟩:=Kd.V_get HLb0_0.out z113 x20_1 pb1 (by first|exact qb1|exact zd|(have e_:=(Kd.V_reads' HLb0_0.out).1;omega))
    obtain⟨uab1_1,ucb1_1,rfl,ulb1_1,geb1_1⟩:=k113_openF hMeb1
    have hvb1_1:=hccb1 1 _ rfl
    rw[add_field _ _ 1 (by omega)] at hvb1_1
    replace hvb1_1:=Option.some.inj (hvb1_1.symm.trans hxb1_1)
    injection hvb1_1 with hva_ hvn_ hvc_
    rw[hva_] at geb1_1
    rw[hvc_] at ulb1_1
    have HLb1_1:=zk (show Kd.V (Kd.int .u32) 97 _ w.heap.size _ _ ((rd_T113 (rd_L6 ta1 x25_2) x20_1).f1) from Kd.V_mk ulb1_1 geb1_1)
    clear hva_ hvn_ hvc_ geb1_1 ulb1_1
    clear hccb1 hceb1
    have HRb1_1:=zk hib1_1
    have HCb1_1:=zk hlb1_1
    clear hib1_1 hlb1_1
    replace pb1:=eq_true pb1
    replace qb1:=eq_true qb1
    refine start_ (n:=18) (S:=fun w'=>w'.cell? ⟨gba8,0,none⟩=some (.bool ((rd_T113 l1 x25_2).f0))∧w'.cell? ⟨gba8,1,none⟩=some (.slice Aa7_1 ((rd_T113 l1 x25_2).f1).length ca7_1)∧w'.cell? (ada9.add ((x20_1).toNat*2))=some (.bool ((rd_T113 x6_2 x20_1).f0))∧w'.cell? ⟨(ada9.add ((x20_1).toNat*2)).block,(ada9.add ((x20_1).toNat*2)).off+1,none⟩=some (.slice Aa9_1 ((rd_T113 x6_2 x20_1).f1).length ca9_1)∧w'.cell? (adb0.add (x25_2).toNat)=some (.slice (some adb1) (rd_L6 ta1 x25_2).length cb0_0)∧w'.cell? (adb1.add ((x20_1).toNat*2))=some (.bool ((rd_T113 (rd_L6 ta1 x25_2) x20_1).f0))∧w'.cell? ⟨(adb1.add ((x20_1).toNat*2)).block,(adb1.add ((x20_1).toNat*2)).off+1,none⟩=some (.slice Ab1_1 ((rd_T113 (rd_L6 ta1 x25_2) x20_1).f1).length cb1_1)) (ds:=[17]) #[false,false,false,false,false,false,false,false,false,false,false,false,false,false,false,false,false,false] (by kernel_rfl) rfl rfl ⟨(blk_cell BKa8.out 0).trans rfl,(blk_cell BKa8.out 1).trans rfl,hxa9_0,hxa9_1,hxb0_0,hxb1_0,hxb1_1⟩ (fun hHeld=>?_);refine with_tabW mw_sums.tab10 mw_sums.bits10 (fun HT_ HW_=>?_)
    first|(generalize w24.drew=w25 at HO_5 HO_6 BKa8 HB HLa9_1 HLb0_0 HLb1_1 HRa9_1 HRb0_0 HRb1_1 hxa9_0 hxa9_1 hxb0_0 hxb1_0 hxb1_1 hHeld ⊢)|(generalize w24.drew=w25 at HO_5 HO_6 BKa8 HB HLa9_1 HLb0_0 HLb1_1 HRa9_1 HRb0_0 HRb1_1 hxa9_1 hxb0_0 hxb1_0 hxb1_1 hHeld ⊢)|(generalize w24.drew=w25 at HO_5 HO_6 BKa8 HB HLa9_1 HLb0_0 HLb1_1 HRa9_1 HRb0_0 HRb1_1 hxa9_0 hxb0_0 hxb1_0 hxb1_1 hHeld ⊢)|(generalize w24.drew=w25 at HO_5 HO_6 BKa8 HB HLa9_1 HLb0_0 HLb1_1 HRa9_1 HRb0_0 HRb1_1 hxa9_0 hxa9_1 hxb1_0 hxb1_1 hHeld ⊢)|(generalize w24.drew=w25 at HO_5 HO_6 BKa8 HB HLa9_1 HLb0_0 HLb1_1 HRa9_1 HRb0_0 HRb1_1 hxa9_0 hxa9_1 hxb0_0 hxb1_1 hHeld ⊢)|(generalize w24.drew=w25 at HO_5 HO_6 BKa8 HB HLa9_1 HLb0_0 HLb1_1 HRa9_1 HRb0_0 HRb1_1 hxa9_0 hxa9_1 hxb0_0 hxb1_0 hHeld ⊢)|(generalize w24.drew=w25 at HO_5 HO_6 BKa8 HB HLa9_1 HLb0_0 HLb1_1 HRa9_1 HRb0_0 HRb1_1 hxb0_0 hxb1_0 hxb1_1 hHeld ⊢)|(generalize w24.drew=w25 at HO_5 HO_6 BKa8 HB HLa9_1 HLb0_0 HLb1_1 HRa9_1 HRb0_0 HRb1_1 hxa9_1 hxb1_0 hxb1_1 hHeld ⊢)|(generalize w24.drew=w25 at HO_5 HO_6 BKa8 HB HLa9_1 HLb0_0 HLb1_1 HRa9_1 HRb0_0 HRb1_1 hxa9_1 hxb0_0 hxb1_1 hHeld ⊢)|(generalize w24.drew=w25 at HO_5 HO_6 BKa8 HB HLa9_1 HLb0_0 HLb1_1 HRa9_1 HRb0_0 HRb1_1 hxa9_1 hxb0_0 hxb1_0 hHeld ⊢)|(generalize w24.drew=w25 at HO_5 HO_6 BKa8 HB HLa9_1 HLb0_0 HLb1_1 HRa9_1 HRb0_0 HRb1_1 hxa9_0 hxb1_0 hxb1_1 hHeld ⊢)|(generalize w24.drew=w25 at HO_5 HO_6 BKa8 HB HLa9_1 HLb0_0 HLb1_1 HRa9_1 HRb0_0 HRb1_1 hxa9_0 hxb0_0 hxb1_1 hHeld ⊢)|(generalize w24.drew=w25 at HO_5 HO_6 BKa8 HB HLa9_1 HLb0_0 HLb1_1 HRa9_1 HRb0_0 HRb1_1 hxa9_0 hxb0_0 hxb1_0 hHeld ⊢)|(generalize w24.drew=w25 at HO_5 HO_6 BKa8 HB HLa9_1 HLb0_0 HLb1_1 HRa9_1 HRb0_0 HRb1_1 hxa9_0 hxa9_1 hxb1_1 hHeld ⊢)|(generalize w24.drew=w25 at HO_5 HO_6 BKa8 HB HLa9_1 HLb0_0 HLb1_1 HRa9_1 HRb0_0 HRb1_1 hxa9_0 hxa9_1 hxb1_0 hHeld ⊢)|(generalize w24.drew=w25 at HO_5 HO_6 BKa8 HB HLa9_1 HLb0_0 HLb1_1 HRa9_1 HRb0_0 HRb1_1 hxa9_0 hxa9_1 hxb0_0 hHeld ⊢)|(generalize w24.drew=w25 at HO_5 HO_6 BKa8 HB HLa9_1 HLb0_0 HLb1_1 HRa9_1 HRb0_0 HRb1_1 hxb1_0 hxb1_1 hHeld ⊢)|(generalize w24.drew=w25 at HO_5 HO_6 BKa8 HB HLa9_1 HLb0_0 HLb1_1 HRa9_1 HRb0_0 HRb1_1 hxb0_0 hxb1_1 hHeld ⊢)|(generalize w24.drew=w25 at HO_5 HO_6 BKa8 HB HLa9_1 HLb0_0 HLb1_1 HRa9_1 HRb0_0 HRb1_1 hxb0_0 hxb1_0 hHeld ⊢)|(generalize w24.drew=w25 at HO_5 HO_6 BKa8 HB HLa9_1 HLb0_0 HLb1_1 HRa9_1 HRb0_0 HRb1_1 hxa9_1 hxb1_1 hHeld ⊢)|(generalize w24.drew=w25 at HO_5 HO_6 BKa8 HB HLa9_1 HLb0_0 HLb1_1 HRa9_1 HRb0_0 HRb1_1 hxa9_1 hxb1_0 hHeld ⊢)|(generalize w24.drew=w25 at HO_5 HO_6 BKa8 HB HLa9_1 HLb0_0 HLb1_1 HRa9_1 HRb0_0 HRb1_1 hxa9_1 hxb0_0 hHeld ⊢)|(generalize w24.drew=w25 at HO_5 HO_6 BKa8 HB HLa9_1 HLb0_0 HLb1_1 HRa9_1 HRb0_0 HRb1_1 hxa9_0 hxb1_1 hHeld ⊢)|(generalize w24.drew=w25 at HO_5 HO_6 BKa8 HB HLa9_1 HLb0_0 HLb1_1 HRa9_1 HRb0_0 HRb1_1 hxa9_0 hxb1_0 hHeld ⊢)|(generalize w24.drew=w25 at HO_5 HO_6 BKa8 HB HLa9_1 HLb0_0 HLb1_1 HRa9_1 HRb0_0 HRb1_1 hxa9_0 hxb0_0 hHeld ⊢)|(generalize w24.drew=w25 at HO_5 HO_6 BKa8 HB HLa9_1 HLb0_0 HLb1_1 HRa9_1 HRb0_0 HRb1_1 hxa9_0 hxa9_1 hHeld ⊢)|(generalize w24.drew=w25 at HO_5 HO_6 BKa8 HB HLa9_1 HLb0_0 HLb1_1 HRa9_1 HRb0_0 HRb1_1 hxb1_1 hHeld ⊢)|(generalize w24.drew=w25 at HO_5 HO_6 BKa8 HB HLa9_1 HLb0_0 HLb1_1 HRa9_1 HRb0_0 HRb1_1 hxb1_0 hHeld ⊢)|(generalize w24.drew=w25 at HO_5 HO_6 BKa8 HB HLa9_1 HLb0_0 HLb1_1 HRa9_1 HRb0_0 HRb1_1 hxb0_0 hHeld ⊢)|(generalize w24.drew=w25 at HO_5 HO_6 BKa8 HB HLa9_1 HLb0_0 HLb1_1 HRa9_1 HRb0_0 HRb1_1 hxa9_1 hHeld ⊢)|(generalize w24.drew=w25 at HO_5 HO_6 BKa8 HB HLa9_1 HLb0_0 HLb1_1 HRa9_1 HRb0_0 HRb1_1 hxa9_0 hHeld ⊢)|(generalize w24.drew=w25 at HO_5 HO_6 BKa8 HB HLa9_1 HLb0_0 HLb1_1 HRa9_1 HRb0_0 HRb1_1 hHeld ⊢)
    refine zp (i:=0) (N:=some 34) HT_ ?_
    refine zp (i:=1) (N:=some 35) HT_ ?_
    refine zp (i:=2) (N:=some 36) HT_ ?_
    refine zp (i:=3) (N:=some 37) HT_ ?_
    refine zp (i:=4) (N:=some 38) HT_ ?_
    refine zp (i:=7) (N:=some 41) HT_ ?_
    refine zp (i:=8) (N:=some 42) HT_ ?_
    refine zp (i:=9) (N:=some 43) HT_ ?_
    refine zp (i:=11) (N:=some 45) HT_ ?_
    refine take_ (i:=5) (N:=some 39) (v:=?_) (a':=?_) #[true,true,true,true,true,true,false,true,true,true,false,true,false,false,false,false,false,false] rfl rfl (take_ofW HT_.out HW_.out (by kernel_rfl)) (fun _ _ _ h=>h) (Or.inl ⟨by rfl,?_⟩) hHeld ?_ ?_
    rotate_left
    ·rintro w' ⟨s0,s1,s2,s3,s4,s5,s6⟩
     go_simp
     with_reducible rfl
    rotate_left
    ·simp only[Act.put,List.setIfInBounds_toArray,List.set_cons_zero,List.set_cons_succ,i64_w,i32_w]
     rfl
    refine take_ (i:=6) (N:=some 40) (v:=?_) (a':=?_) #[true,true,true,true,true,true,true,true,true,true,false,true,false,false,false,false,false,false] rfl rfl (take_ofW HT_.out HW_.out (by kernel_rfl)) (fun _ _ _ h=>h) (Or.inl ⟨by rfl,?_⟩) hHeld ?_ ?_
    rotate_left
    ·rintro w' ⟨s0,s1,s2,s3,s4,s5,s6⟩
     go_simp
     with_reducible rfl
    rotate_left
    ·simp only[Act.put,List.setIfInBounds_toArray,List.set_cons_zero,List.set_cons_succ,i64_w,i32_w]
     rfl
    refine take_ (i:=10) (N:=some 44) (v:=?_) (a':=?_) #[true,true,true,true,true,true,true,true,true,true,true,true,false,false,false,false,false,false] rfl rfl (take_ofW HT_.out HW_.out (by kernel_rfl)) (fun _ _ _ h=>h) (Or.inl ⟨by rfl,?_⟩) hHeld ?_ ?_
    rotate_left
    ·rintro w' ⟨s0,s1,s2,s3,s4,s5,s6⟩
     go_simp
     with_reducible rfl
    rotate_left
    ·simp only[Act.put,List.setIfInBounds_toArray,List.set_cons_zero,List.set_cons_succ,i64_w,i32_w]
     rfl
    refine zp (i:=12) (N:=some 46) HT_ ?_
    refine take_ (i:=13) (N:=some 47) (v:=?_) (a':=?_) #[true,true,true,true,true,true,true,true,true,true,true,true,true,true,false,false,false,false] rfl rfl (take_ofW HT_.out HW_.out (by kernel_rfl)) (fun _ _ _ h=>h) (Or.inl ⟨by rfl,?_⟩) hHeld ?_ ?_
    rotate_left
    ·rintro w' ⟨s0,s1,s2,s3,s4,s5,s6⟩
     go_simp
     with_reducible rfl
    rotate_left
    ·simp only[Act.put,List.setIfInBounds_toArray,List.set_cons_zero,List.set_cons_succ,i64_w,i32_w]
     rfl
    refine one_ (i:=14) (N:=some 48) #[true,true,true,true,true,true,true,true,true,true,true,true,true,true,true,false,false,false] rfl rfl (one_of HT_.out (by kernel_rfl)) (by decide) (fun K hK=>?_)
    refine goes_ Try.func126 (by kernel_rfl) rfl #[.agg #[.bool ((rd_T113 l1 x25_2).f0), .slice Aa7_1 ((rd_T113 l1 x25_2).f1).length ca7_1], .agg #[.bool ((rd_T113 (rd_L6 ta1 x25_2) x20_1).f0), .slice Ab1_1 ((rd_T113 (rd_L6 ta1 x25_2) x20_1).f1).length cb1_1]] (by rfl) rfl rfl (by(try simp only[List.map_toArray,List.map_cons,List.map_nil]);first|done|rfl|(simp only[List.length_drop,List.length_take];rfl)) ?_
    with_reducible refine(mw_times.calls k2 ((rd_T113 l1 x25_2).f0) (fun k_=>k_<w.heap.size) _ _ ((rd_T113 l1 x25_2).f1) ((rd_T113 (rd_L6 ta1 x25_2) x20_1).f0) (fun k_=>(((w.heap.size≤k_)∧(some k_≠(.slice (some ada9) x6_2.length co9:Value).ownBlock∧k_≠gba8))∧some k_≠(.slice (some adb0) ta1.length co26:Value).ownBlock)) _ _ ((rd_T113 (rd_L6 ta1 x25_2) x20_1).f1) tb2 tb3 _ ?side1 ?side2 A19.out).mono ?_
    (case side1=>exact Kd.V_mk HCa7_1.out (Kd.F_below (Kd.C_F (Kd.heap_int .u32) HRa7_1.out) (zB1 HB.out GEa8.out)))
    (case side2=>exact HLb1_1.out)
    rintro e w27 ⟨vb4,rfl,ho0,hb⟩
    have HS2_:=(hb.cell (World.block_lt_of_cell? _ _ (hHeld.2.2.1))).trans (hHeld.2.2.1)
    have HS3_:=(hb.cell (World.block_lt_of_cell? _ _ (hHeld.2.2.2.1))).trans (hHeld.2.2.2.1)
    have HS4_:=(hb.cell (World.block_lt_of_cell? _ _ (hHeld.2.2.2.2.1))).trans (hHeld.2.2.2.2.1)
    have HS5_:=(hb.cell (World.block_lt_of_cell? _ _ (hHeld.2.2.2.2.2.1))).trans (hHeld.2.2.2.2.2.1)
    have HS6_:=(hb.cell (World.block_lt_of_cell? _ _ (hHeld.2.2.2.2.2.2))).trans (hHeld.2.2.2.2.2.2)
    refine⟨_,rfl,?_⟩
    replace HO_5:=yNe HO_5 ho0 hb
    replace HO_6:=yNe HO_6 ho0 hb
    replace HLa9_1:=yVe HLa9_1 ho0 hb
    replace HLb0_0:=yVe HLb0_0 ho0 hb
    replace HLb1_1:=yVe HLb1_1 ho0 hb
    replace ho0:=Kd.R_newM (M:=fun k_=>(w.heap.size≤k_)) (yt ho0) (below_size (zB1 HB.out GEa8.out)) (fun k_ h_=>h_)
    have HOb5:=yRl1 ho0 HB GEa8
    replace BKa8:=yK BKa8 hb
    (try replace HRa9_1:=yCb HRa9_1 hb)
    (try replace HRb0_0:=yCb HRb0_0 hb)
    (try replace HRb1_1:=yCb HRb1_1 hb)
    replace HB:=yS1 HB GEa8 hb
    (try clear hb)
    (try clear ho0)
    obtain⟨Ao28,co28,eo28⟩:=Kd.R_slice HOb5.out
    (first|subst eo28|(injection eo28 with f1_ f2_ f3_;have f4_:=f1_.symm;have f5_:=f3_.symm;clear f1_ f2_ f3_;subst f4_;subst f5_))
    refine hK.out _ _ ⟨(blk_cell BKa8.out 0).trans rfl,(blk_cell BKa8.out 1).trans rfl,HS2_,HS3_,HS4_,HS5_,HS6_⟩ (fun hHeld=>?_)
    clear hK K
    refine norm_ (a':=?_) ?_ ?_
    rotate_left
    ·show Act.put _ (some 48) _=_
     simp only[Act.put,List.setIfInBounds_toArray,List.set_cons_zero,List.set_cons_succ,i64_w,i32_w]
     rfl
    refine one_ (i:=15) (N:=some 49) #[true,true,true,true,true,true,true,true,true,true,true,true,true,true,true,true,false,false] rfl rfl (one_of HT_.out (by kernel_rfl)) (by decide) (fun K hK=>?_)
    refine goes_ Try.func128 (by kernel_rfl) rfl #[.agg #[.bool ((rd_T113 x6_2 x20_1).f0), .slice Aa9_1 ((rd_T113 x6_2 x20_1).f1).length ca9_1], .agg #[.bool tb2, .slice Ao28 tb3.length co28]] (by rfl) rfl rfl (by(try simp only[List.map_toArray,List.map_cons,List.map_nil]);first|done|rfl|(simp only[List.length_drop,List.length_take];rfl)) ?_
    with_reducible refine(mw_plus.calls k2 ((rd_T113 x6_2 x20_1).f0) (fun k_=>((((w.heap.size≤k_)∧(some k_≠(.slice (some adb0) ta1.length co26:Value).ownBlock∧k_≠gba8))∧some k_≠(.slice (some ada9) x6_2.length co9:Value).ownBlock)∧some k_≠(.slice Ao28 tb3.length co28:Value).ownBlock)) _ _ ((rd_T113 x6_2 x20_1).f1) tb2 (fun k_=>some k_=(.slice Ao28 tb3.length co28:Value).ownBlock) _ _ tb3 tb6 tb7 _ ?side1 ?side2 A20.out).mono ?_
    (case side1=>exact HLa9_1.out)
    (case side2=>exact Kd.R_V (Kd.R_tight rfl (Kd.R_types (Kd.R_apart' (Kd.R_apart' (HOb5.out) (Kd.N_typed HO_5.out) (by decide)) (Kd.N_typed HO_6.out) (by decide)) BKa8.out (by decide))))
    rintro e w29 ⟨vb8,rfl,ho0,hb⟩
    have HS2_:=(hb.cell (World.block_lt_of_cell? _ _ (hHeld.2.2.1))).trans (hHeld.2.2.1)
    have HS3_:=(hb.cell (World.block_lt_of_cell? _ _ (hHeld.2.2.2.1))).trans (hHeld.2.2.2.1)
    have HS4_:=(hb.cell (World.block_lt_of_cell? _ _ (hHeld.2.2.2.2.1))).trans (hHeld.2.2.2.2.1)
    have HS5_:=(hb.cell (World.block_lt_of_cell? _ _ (hHeld.2.2.2.2.2.1))).trans (hHeld.2.2.2.2.2.1)
    have HS6_:=(hb.cell (World.block_lt_of_cell? _ _ (hHeld.2.2.2.2.2.2))).trans (hHeld.2.2.2.2.2.2)
    refine⟨_,rfl,?_⟩
    replace HLa9_1:=yVb HLa9_1 hb
    replace HLb0_0:=yVb HLb0_0 hb
    replace HLb1_1:=yVb HLb1_1 hb
    have HOb9:=zk (Kd.V_lower (Kd.V_mono (ok':=fun k_=>(w.heap.size≤k_)∧some k_≠(.slice (some adb0) ta1.length co26:Value).ownBlock∧some k_≠(.slice (some ada9) x6_2.length co9:Value).ownBlock∧k_≠gba8) ho0 (fun k_ hk_=>⟨Or.elim hk_ (fun hs_=>Or.elim hs_ (fun hs_=>hs_.1.1.1) (fun hs_=>((Kd.R_types (Kd.R_apart' (Kd.R_apart' (HOb5.out) (Kd.N_typed HO_5.out) (by decide)) (Kd.N_typed HO_6.out) (by decide)) BKa8.out (by decide)).1 k_ hs_.symm).1.1.1.1)) (fun hn_=>(Nat.le_trans (below_size (zB1 HB.out GEa8.out)) hn_)),Or.elim hk_ (fun hs_=>Or.elim hs_ (fun hs_=>hs_.1.1.2.1) (fun hs_=>((Kd.R_types (Kd.R_apart' (Kd.R_apart' (HOb5.out) (Kd.N_typed HO_5.out) (by decide)) (Kd.N_typed HO_6.out) (by decide)) BKa8.out (by decide)).1 k_ hs_.symm).1.1.2)) (fun hn_=>(Kd.fresh' (Kd.N_lt (zN HO_5.out)) k_ hn_)),Or.elim hk_ (fun hs_=>Or.elim hs_ (fun hs_=>hs_.1.2) (fun hs_=>((Kd.R_types (Kd.R_apart' (Kd.R_apart' (HOb5.out) (Kd.N_typed HO_5.out) (by decide)) (Kd.N_typed HO_6.out) (by decide)) BKa8.out (by decide)).1 k_ hs_.symm).1.2)) (fun hn_=>(Kd.fresh' (Kd.N_lt (zN HO_6.out)) k_ hn_)),Or.elim hk_ (fun hs_=>Or.elim hs_ (fun hs_=>hs_.1.1.2.2) (fun hs_=>((Kd.R_types (Kd.R_apart' (Kd.R_apart' (HOb5.out) (Kd.N_typed HO_5.out) (by decide)) (Kd.N_typed HO_6.out) (by decide)) BKa8.out (by decide)).1 k_ hs_.symm).2)) (fun hn_=>(Kd.freshB (g:=gba8) (o:= .cells #[.bool ((rd_T113 l1 x25_2).f0), .slice Aa7_1 ((rd_T113 l1 x25_2).f1).length ca7_1] 113 (0,0)) (zK BKa8.out) k_ hn_))⟩)) (below_size (zB1 HB.out GEa8.out)))
    replace HO_5:=yNb HO_5 hb
    replace HO_6:=yNb HO_6 hb
    replace HOb5:=yRb HOb5 hb
    replace BKa8:=yK BKa8 hb
    (try replace HRa9_1:=yCb HRa9_1 hb)
    (try replace HRb0_0:=yCb HRb0_0 hb)
    (try replace HRb1_1:=yCb HRb1_1 hb)
    replace HB:=yS1 HB GEa8 hb
    (try clear hb)
    (try clear ho0)
    have p21:0≤(x20_1:Int):=zd
    have q21:(x20_1:Int)<((x6_2.length:Int):Int):=zd
    obtain⟨go21,co21,eo21,gb21,gl21,cl21,HG21⟩:=Kd.N_form HO_6.out (by omega)
    (first|cases eo21|(injection eo21 with ea_ en_ ec_;(first|subst ea_|(injection ea_ with ea_;subst ea_));subst ec_;clear en_))
    have GB21:=zk gb21
    have GG21:=zk HG21
    clear gb21 gl21 HG21
    (first|simp only[add_plain] at hxa9_0|skip)
    (first|simp only[add_plain] at hxa9_1|skip)
    obtain⟨ce21,hcl21,hM21,hcc21,hfr21⟩:=Kd.N_elem HO_6.out z113 (x20_1:Int) p21 q21
    obtain⟨ua21_1,uc21_1,rfl,ul21_1,ge21_1⟩:=k113_openF hM21
    have hx21_0:World.cell? _ ⟨go21,(x20_1:Int).toNat*2,none⟩=some (.bool ((rd_T113 x6_2 x20_1).f0)):=hcc21 0 _ rfl
    have hx21_1:World.cell? _ ⟨go21,(x20_1:Int).toNat*2+1,none⟩=some (.slice ua21_1 ((rd_T113 x6_2 x20_1).f1).length uc21_1):=hcc21 1 _ rfl
    have hf21_0:World.frozen? _ ⟨go21,(x20_1:Int).toNat*2,none⟩=false:=hfr21 0
    have hf21_1:World.frozen? _ ⟨go21,(x20_1:Int).toNat*2+1,none⟩=false:=hfr21 1
    clear hcl21 hcc21 hfr21 hM21
    replace p21:=eq_true p21
    replace q21:=eq_true q21
    obtain⟨Ao31,co31,eo31⟩:=Kd.V_slice HOb9.out
    (first|subst eo31|(injection eo31 with f1_ f2_ f3_;have f4_:=f1_.symm;have f5_:=f3_.symm;clear f1_ f2_ f3_;subst f4_;subst f5_))
    have HX30:=zk (show Kd.N k113 113 _ w.heap.size (fun k_=>(w.heap.size≤k_)∧some k_≠(.slice (some adb0) ta1.length co26:Value).ownBlock∧some k_≠(.slice Ao28 tb3.length co28:Value).ownBlock∧k_≠gba8) (.slice (some ⟨go21,0,none⟩) x6_2.length co9) x6_2 from(Kd.N_mono (HO_6.out) (fun k_ hk=>⟨hk.1.1,⟨hk.1.2.1,⟨hk.2,hk.1.2.2⟩⟩⟩)))
    replace HX30:=zk (show Kd.N k113 113 _ w.heap.size (fun k_=>(w.heap.size≤k_)∧some k_≠(.slice (some adb0) ta1.length co26:Value).ownBlock∧k_≠gba8) (.slice (some ⟨go21,0,none⟩) x6_2.length co9) x6_2 from Kd.N_mono HX30.out (fun k_ hk=>⟨hk.1,⟨hk.2.1,hk.2.2.2⟩⟩))
    obtain⟨ce30,hcl30,hM30,hcc30,hfr30⟩:=Kd.N_elem HX30.out z113 (x20_1:Int) zd (by have h_:(x20_1:Int)<((x6_2.length:Int):Int):=zd;first|exact h_|(have e_:=(Kd.N_reads' HO_6.out).1;omega)|simpa using h_)
    obtain⟨ua30_1,uc30_1,rfl,ul30_1,ge30_1⟩:=k113_openF hM30
    have HP30:=(Kd.N_seg HX30.out (x20_1:Int) zd (by have h_:(x20_1:Int)<((x6_2.length:Int):Int):=zd;first|exact h_|(have e_:=(Kd.N_reads' HO_6.out).1;omega)|simpa using h_) (seg:=[.bool tb6, .slice Ao31 tb7.length co31]) (j:=0) hcl30 hcc30 (show 2≤2 from by decide) (x':=(⟨tb6,tb7⟩:S113)) (k113_mkF _ _ (⟨tb6,tb7⟩:S113) (Kd.V_reads' (Kd.V_mono (ok':=(fun k_=>((fun k_=>(w.heap.size≤k_)∧some k_≠(.slice (some adb0) ta1.length co26:Value).ownBlock∧k_≠gba8)) k_∧k_≠go21)) (HOb9.out) (fun k_ hk=>by exact⟨⟨hk.1,⟨hk.2.1,hk.2.2.2⟩⟩,fun e_=>(hk.2.2.1) (by rw[e_];rfl)⟩))).2.1 (Kd.V_F (Kd.V_mono (ok':=(fun k_=>((fun k_=>(w.heap.size≤k_)∧some k_≠(.slice (some adb0) ta1.length co26:Value).ownBlock∧k_≠gba8)) k_∧k_≠go21)) (HOb9.out) (fun k_ hk=>by exact⟨⟨hk.1,⟨hk.2.1,hk.2.2.2⟩⟩,fun e_=>(hk.2.2.1) (by rw[e_];rfl)⟩)))) (fun _ hk=>hk)).1
    rw[←Nyc0.out] at HP30
    have HQ30:=zk HP30
    clear hcl30 hcc30 hfr30 hM30 HP30
    refine hK.out _ _ ⟨(blk_cell BKa8.out 0).trans rfl,(blk_cell BKa8.out 1).trans rfl,HS2_,HS3_,HS4_,HS5_,HS6_⟩ (fun hHeld=>?_)
    clear hK K
    refine norm_ (a':=?_) ?_ ?_
    rotate_left
    ·show Act.put _ (some 49) _=_
     simp only[Act.put,List.setIfInBounds_toArray,List.set_cons_zero,List.set_cons_succ,i64_w,i32_w]
     rfl
    refine zp (i:=16) (N:=some 50) HT_ ?_
    refine last_ (i:=17) (N:=none) #[true,true,true,true,true,true,true,true,true,true,true,true,true,true,true,true,true,true] rfl rfl (one_of HT_.out (by kernel_rfl)) (by decide) (fun K hK=>?_)
    refine skip_ (w1:=?_) (by rfl) rfl ?_ ?_
    rotate_left
    ·go_simp
     rfl
    refine hK.out _ _ ?_
    clear hK K
    refine done_ (done_of HT_.out (by kernel_rfl)) ?_
    try go_wp2
    (try simp only[←hl6_2])
    go_roundg k2
    case measure=>have:=HK1.out;have:=HK2.out;omega
    case rel=>exact⟨(yc0),(wrap64 (x25_2+1)),zF,H',⟨zo2 HK1 HK2⟩,⟨by(try simp only[hl6_1]);(try simp only[hl6_2]);(with_reducible repeat(first|apply Kd.N_alloc|apply Kd.N_drewN|apply Kd.N_drew));exact Kd.N_mono (Kd.N_far (p:=⟨go21,(x20_1:Int).toNat*2+1,none⟩) (Kd.N_far (p:=⟨go21,(x20_1:Int).toNat*2,none⟩) (Kd.N_mono HO_5.out (fun k_ hk=>(⟨hk,fun e_=>hk.1.2.1 (by rw[e_];rfl)⟩:_∧k_≠go21))) (fun _ hk=>hk.2) (.bool tb6)) (fun _ hk=>hk.2) (.slice Ao31 tb7.length co31)) (fun _ hk=>⟨hk.1.1.1,hk.1.1.2.1⟩)⟩,⟨by(try simp only[hl6_1]);(try simp only[hl6_2]);(with_reducible repeat(first|apply Kd.N_alloc|apply Kd.N_drewN|apply Kd.N_drew));exact Kd.N_mono HQ30.out (fun _ hk=>⟨hk.1,hk.2.1⟩)⟩,⟨zB3 HB.out GB21.out GB21.out GEa8.out⟩⟩
   have c14b0:decide (0<(((rd_T113 l1 x25_2).f1).length:Int))=false:=decide_eq_false c14
   (try(have c14h0:=c14b0;simp only[hl6_1,hl6_2] at c14h0))
   have c14b1:decide (0<((rd_T113 l1 x25_2).f1).length)=false:=decide_eq_false (by omega)
   (try(have c14h1:=c14b1;simp only[hl6_1,hl6_2] at c14h1))
   clear c14
   have H':=zk H
   clear H
   have pa7:0≤(x25_2:Int):=zd
   have qa7:x25_2<(l1.length:Int):=zd
   obtain⟨ada7,Aa7_1,ca7_1,ea7,hxa7_0,hxa7_1,hla7_1,hia7_1⟩:=at_T113 HR1.out x25_2 pa7 qa7
   cases ea7
   replace hxa7_0:=(HB.out.cell (World.block_lt_of_cell? w _ hxa7_0)).trans hxa7_0
   replace hxa7_1:=(HB.out.cell (World.block_lt_of_cell? w _ hxa7_1)).trans hxa7_1
   have HRa7_1:=zk hia7_1
   have HCa7_1:=zk hla7_1
   clear hia7_1 hla7_1
   replace pa7:=eq_true pa7
   replace qa7:=eq_true qa7
   go_wp2_with (first|((with_reducible refine gate_dst (N:=9) rfl ?_);refine box_event ?hg (N:=9) ?hd (cs:= #[.bool false, .slice none 0 0]) (t:=113) ?hr ?_;(case hd=>rfl);(case hg=>rfl);(case hr=>first|(go_simp;done)|(go_simp;rfl));intro gba8 hg w32 hbox hb;replace HO_5:=zk (Kd.N_below (Kd.N_elderB (zN HO_5.out) gba8 (Nat.le_of_eq hg.symm)) hb);replace HO_6:=zk (Kd.N_below (Kd.N_elderB (zN HO_6.out) gba8 (Nat.le_of_eq hg.symm)) hb);have BKa8:=zk (hbox);have GWa8:=yg hg HB;have GEa8:=yg hg HB;replace HB:=yS HB hb;clear hb hbox hg;obtain⟨hcz33_0,hcz33_1,hfz33_0,hfz33_1⟩:=zz2 BKa8))
   (try simp only[←hl6_2])
   go_roundg k2
   case measure=>have:=HK1.out;have:=HK2.out;omega
   case rel=>exact⟨(x6_2),(wrap64 (x25_2+1)),zF,H',⟨zo2 HK1 HK2⟩,⟨by(try simp only[hl6_1]);(try simp only[hl6_2]);(with_reducible repeat(first|apply Kd.N_alloc|apply Kd.N_drewN|apply Kd.N_drew));exact Kd.N_mono (Kd.N_far (p:=⟨gba8,1,none⟩) (Kd.N_far (p:=⟨gba8,0,none⟩) (Kd.N_mono HO_5.out (fun k_ hk=>(⟨hk,hk.2⟩:_∧k_≠gba8))) (fun _ hk=>hk.2) (.bool ((rd_T113 l1 x25_2).f0))) (fun _ hk=>hk.2) (.slice Aa7_1 ((rd_T113 l1 x25_2).f1).length ca7_1)) (fun _ hk=>⟨hk.1.1.1,hk.1.1.2⟩)⟩,⟨by(try simp only[hl6_1]);(try simp only[hl6_2]);(with_reducible repeat(first|apply Kd.N_alloc|apply Kd.N_drewN|apply Kd.N_drew));exact Kd.N_mono (Kd.N_far (p:=⟨gba8,1,none⟩) (Kd.N_far (p:=⟨gba8,0,none⟩) (Kd.N_mono HO_6.out (fun k_ hk=>(⟨hk,hk.2⟩:_∧k_≠gba8))) (fun _ hk=>hk.2) (.bool ((rd_T113 l1 x25_2).f0))) (fun _ hk=>hk.2) (.slice Aa7_1 ((rd_T113 l1 x25_2).f1).length ca7_1)) (fun _ hk=>⟨hk.1.1.1,hk.1.1.2⟩)⟩,⟨zB1 HB.out GEa8.out⟩⟩
  have c11b0:=decide_eq_false c11
  (try(have c11h0:=c11b0;simp only[hl6_1,hl6_2] at c11h0))
  clear c11
  have H':=zk H
  clear H
  go_wp2
  (try simp only[←hl6_1,←hl6_2])
  go_roundg k2
  case measure=>have:=HK1.out;have:=HK2.out;omega
  case rel=>exact⟨(x6_2),(wrap64 (x20_1+1)),zF,H',⟨zo2 HK1 HK2⟩,⟨by(try simp only[hl6_1]);(try simp only[hl6_2]);(with_reducible repeat(first|apply Kd.N_alloc|apply Kd.N_drewN|apply Kd.N_drew));exact HO_5.out⟩,⟨by(try simp only[hl6_1]);(try simp only[hl6_2]);(with_reducible repeat(first|apply Kd.N_alloc|apply Kd.N_drewN|apply Kd.N_drew));exact HO_6.out⟩,⟨zB HB.out⟩⟩
 have c10b0:=decide_eq_false c10
 (try(have c10h0:=c10b0;simp only[hl6_1] at c10h0))
 clear c10
 obtain rfl:=Option.some.inj H
 go_wp2
 go_ret
 exact⟨_,zE,by(with_reducible repeat(first|apply Kd.N_alloc|apply Kd.N_drewN|apply Kd.N_drew));exact Kd.N_mono HO_6.out (fun _ hk=>hk.1),zB HB.out⟩
end Go.Proofs.Ytifkbghnmhineaa.PAll
section
set_option linter.unusedVariables false
set_option linter.unusedSimpArgs false
namespace Go.Proofs.Ytifkbghnmhineaa.PAll
open Go Go.RowKit Go.Proofs.YtifkbghnmhineaaW.PrintWords Go.Proofs.YtifkbghnmhineaaW.PrintLast Go.Proofs.YtifkbghnmhineaaW.PrintMore
def Wn (g cap:Nat) (pre post:List Int) (w:World) (base:Nat) (ok:Nat→Prop) (v:Value) (xs:List Int):Prop:=
 (∃c,v= .slice (some ⟨g,pre.length,none⟩) xs.length c∧xs.length≤c)∧(Kd.int .u32).R 97 w base ok (.slice (some ⟨g,0,none⟩) (pre++(xs++post)).length cap) (pre++(xs++post))
section
variable {g cap:Nat} {pre post:List Int} {w w1:World} {base:Nat} {ok ok':Nat→Prop} {v:Value} {xs:List Int}
theorem Wn.alloc (h:Wn g cap pre post w base ok v xs) (o:Obj):Wn g cap pre post (w.alloc o) base ok v xs:=⟨h.1,Kd.R_alloc h.2 o⟩
theorem Wn.drewN (h:Wn g cap pre post w base ok v xs) (m:Nat):Wn g cap pre post (w.drewN m) base ok v xs:=⟨h.1,Kd.R_drewN h.2 m⟩
theorem Wn.drew (h:Wn g cap pre post w base ok v xs):Wn g cap pre post w.drew base ok v xs:=⟨h.1,Kd.R_drew h.2⟩
theorem Wn.at_ {m:Nat} (hq:w.drewN m=w1) (h:Wn g cap pre post w base ok v xs):Wn g cap pre post w1 base ok v xs:=by subst hq;exact h.drewN m
theorem Wn.mono (h:Wn g cap pre post w base ok v xs) (hok:∀k,ok k→ok' k):Wn g cap pre post w base ok' v xs:=⟨h.1,Kd.R_mono h.2 hok⟩
theorem Wn.own (h:Wn g cap pre post w base ok v xs):∀k,v.ownBlock=some k→ok k:=by
 obtain⟨⟨c,rfl,_⟩,hr⟩:=h
 exact fun k hk=>hr.1 k hk
theorem Wn.slice (h:Wn g cap pre post w base ok v xs):∃A c,v= .slice A xs.length c:=by
 obtain⟨⟨c,e,_⟩,_⟩:=h
 exact⟨_,c,e⟩
theorem Wn.reads' {A:Option Addr} {n c:Nat} (h:Wn g cap pre post w base ok (.slice A n c) xs):n=xs.length∧n≤c∧(Kd.int .u32).C w A xs.length xs:=by
 obtain⟨⟨c',e,hc⟩,hr⟩:=h
 injection e with e1 e2 e3
 subst e1 e2 e3
 refine⟨rfl,hc,?_⟩
 have hC:=(Kd.R_reads' hr).2.2
 have hl:(pre++(xs++post)).length=pre.length+(xs.length+post.length):=by simp
 have:=Kd.C_mid (lo:=pre.length) (hi:=pre.length+xs.length) (c:=(pre++(xs++post)).length+1) hC (by omega) (by omega) (by omega)
 rw[if_neg (by omega)] at this
 have hx:((pre++(xs++post)).take (pre.length+xs.length)).drop pre.length=xs:=by
  rw[List.take_append,List.take_of_length_le (by omega),Nat.add_sub_cancel_left,List.take_append,List.take_of_length_le (Nat.le_refl _),Nat.sub_self,List.take_zero,List.append_nil,List.drop_left]
 rw[hx] at this
 have ha:((some (⟨g,0,none⟩:Addr)).map (·.add (pre.length*(Kd.int .u32).sz)))=some ⟨g,pre.length,none⟩:=by
  show some ((⟨g,0,none⟩:Addr).add (pre.length*1))=_
  simp [Addr.add]
  intro e;simp [e]
 rw[ha] at this
 exact this
theorem Wn.form (h:Wn g cap pre post w base ok v xs) (hp:0<xs.length):∃c,v= .slice (some ⟨g,pre.length,none⟩) xs.length c∧base≤g∧g<w.heap.size∧∃cells,w.heap[g]?=some (.cells cells 97 (0,0)):=by
 obtain⟨⟨c,e,_⟩,hr⟩:=h
 obtain⟨g',cap',e',hb,hl,hc⟩:=Kd.R_form hr (by simp;omega)
 injection e' with e1
 injection e1 with e1
 injection e1 with e1
 subst e1
 exact⟨c,e,hb,hl,hc⟩
theorem rd_mid (pre xs post:List Int) (i:Int) (h0:0≤i) (h1:i<xs.length):rd (pre++(xs++post)) ((pre.length:Int)+i)=rd xs i:=by
 unfold rd
 rw[show((pre.length:Int)+i).toNat=pre.length+i.toNat by omega]
 rw[List.getD_eq_getElem?_getD,List.getD_eq_getElem?_getD,List.getElem?_append_right (by omega),Nat.add_sub_cancel_left,List.getElem?_append_left (by omega)]
theorem Wn.celln {A:Option Addr} {n c:Nat} (h:Wn g cap pre post w base ok (.slice A n c) xs) (i:Int) (h0:0≤i) (hi:i<n):w.cell? ⟨g,pre.length+i.toNat,none⟩=some (.int .u32 (rd xs i))∧w.frozen? ⟨g,pre.length+i.toNat,none⟩=false:=by
 have hn:=h.reads'.1
 have:=Kd.R_celln 0 h.2 ((pre.length:Int)+i) (by omega) (by simp;omega)
 rw[show((pre.length:Int)+i).toNat=pre.length+i.toNat by omega] at this
 rw[show rdOf (0:Int) (pre++(xs++post)) ((pre.length:Int)+i)=rd xs i from rd_mid pre xs post i h0 (by omega)] at this
 exact this
theorem Wn.putg {A:Option Addr} {n c:Nat} (h:Wn g cap pre post w base ok (.slice A n c) xs) (i:Int) (h0:0≤i) (hi:i<n) (x:Int):Wn g cap pre post (w.setCell ⟨g,pre.length+i.toNat,none⟩ (.int .u32 x)) base ok (.slice A n c) (xs.set i.toNat x)∧w.grownBy (w.setCell ⟨g,pre.length+i.toNat,none⟩ (.int .u32 x)) (some g):=by
 have hn:=h.reads'.1
 have:=Kd.R_putg h.2 ((pre.length:Int)+i) x
 rw[show((pre.length:Int)+i).toNat=pre.length+i.toNat by omega] at this
 have e:(pre++(xs++post)).set (pre.length+i.toNat) x=pre++(xs.set i.toNat x++post):=by
  rw[List.set_append_right _ _ (by omega),Nat.add_sub_cancel_left,List.set_append_left _ _ (by omega)]
 rw[e] at this
 refine⟨⟨?_,?_⟩,this.2⟩
 ·obtain⟨⟨c',e,hc⟩,_⟩:=h
  exact⟨c',by rw[List.length_set];exact e,by rw[List.length_set];exact hc⟩
 ·have hl:(pre++(xs.set i.toNat x++post)).length=(pre++(xs++post)).length:=by simp
  rw[hl]
  exact this.1
end
theorem add_at (g o n:Nat):(⟨g,o,none⟩:Addr).add n=⟨g,o+n,none⟩:=by
 unfold Addr.add
 split
 ·rename_i h;rw[h];rfl
 ·rfl
theorem Wn.make {w:World} {base g lo hi n co c:Nat} {ok:Nat→Prop} {Ao A:Option Addr} {x y:List Int} (hR:(Kd.int .u32).R 97 w base ok (.slice Ao n co) x) (hA:Ao=some ⟨g,0,none⟩) (hA2:A=if co=lo then Ao else Ao.map (·.add (lo*1))) (hc:y.length≤c) (hy:y=(x.take hi).drop lo) (h1:lo≤hi) (h2:hi≤x.length) (hp:0<y.length):
 Wn g co (x.take lo) (x.drop hi) w base ok (.slice A y.length c) y:=by
 obtain⟨hn,hco,_⟩:=Kd.R_reads' hR
 have hl:y.length=hi-lo:=by rw[hy,List.length_drop,List.length_take];omega
 have e:x.take lo++(y++x.drop hi)=x:=by
  rw[hy]
  have h3:(x.take hi).take lo=x.take lo:=by rw[List.take_take,Nat.min_eq_left h1]
  rw[←List.append_assoc,←h3,List.take_append_drop,List.take_append_drop]
 refine⟨⟨c,?_,hc⟩,?_⟩
 ·rw[hA2,if_neg (by omega),hA]
  congr 1
  rw[List.length_take,Nat.min_eq_left (by omega)]
  simp [Addr.add]
  intro e;simp [e]
 ·rw[e,←hn,←hA];exact hR
theorem Wn.back {g co n base:Nat} {pre post r:List Int} {w:World} {ok:Nat→Prop} {v:Value} {Ao:Option Addr} (h:Wn g co pre post w base ok v r) (hA:Ao=some ⟨g,0,none⟩) (hn:n=(pre++(r++post)).length):(Kd.int .u32).R 97 w base ok (.slice Ao n co) (pre++(r++post)):=by
 subst hA hn;exact h.2
theorem zW {P Q:Prop} (h:P) (f:P→Q:=by intro h;(with_reducible repeat(first|apply Wn.alloc|apply Wn.drewN|apply Wn.drew));exact h):Q:=f h
end Go.Proofs.Ytifkbghnmhineaa.PAll
end
namespace Go.Proofs.Ytifkbghnmhineaa.PAll
open Go.RowKit Go.Proofs.YtifkbghnmhineaaW.PrintWords Go.Proofs.YtifkbghnmhineaaW.PrintLast Go.Proofs.YtifkbghnmhineaaW.PrintMore
attribute [local go_sem] max2_int min2_int max_two min_two max_three min_three max_four min_four
set_option linter.unusedVariables false
set_option linter.unusedSimpArgs false
set_option maxHeartbeats 8000000 in
set_option maxRecDepth 100000 in
theorem bits_LeadingZeros32.calls (a0:Int) (r:Int) (w:World) (h:bits_LeadingZeros32.f a0=some r):
 Calls Try.prog 138 #[.int .u32 a0] w fun e w'=>e= .returned (.int .i64 r)∧Drawn0 w w':=by
 have H:=h
 clear h
 unfold bits_LeadingZeros32.f at H
 replace H:=zb H
 obtain⟨ta1,A2,H⟩:=H
 obtain rfl:=Option.some.inj H
 go_enter Try.func138,Try.ntmps138
 go_wp2_with (first|((with_reducible refine gC 121 ?_);refine zG (some 4) Try.func121 #[.int .u32 a0] ?_;(with_reducible refine(bits_Len32.calls a0 ta1 _ A2.out).mono ?_);rintro e w' ⟨rfl,⟨nd,rfl⟩⟩;refine⟨_,rfl,?_⟩))
 go_ret
 exact⟨zF,by repeat(first|exact Drawn0.refl _|apply Drawn0.step)⟩
set_option maxHeartbeats 8000000 in
set_option maxRecDepth 100000 in
theorem nat_shift.calls (k:Nat) (A0:Option Addr) (c0:Nat) (l0:List Int) (a1:Int) (r:List Int) (w:World) (hr0:Kd.C (Kd.int .u32) w A0 l0.length l0) (hc0:l0.length≤c0) (h:nat_shift.f k l0 a1=some r):
 Calls Try.prog 139 #[.slice A0 l0.length c0, .int .i64 a1] w fun e w'=>∃v0_:Value,e= .returned (v0_)∧Kd.R (Kd.int .u32) 97 w' w.heap.size (fun _=>True) v0_ r∧Below w.heap.size w w':=by
 have HR0:=zk hr0
 have HC0:=zk hc0
 clear hr0 hc0
 have HB:=zk (Below.refl w.heap.size w)
 have H:=h
 clear h
 unfold nat_shift.f at H
 obtain⟨ji3,hji3⟩:∃j_:Int,(wrap64 ((l0.length:Int)+1))=j_:=⟨_,rfl⟩
 replace H:(if 0≤(ji3) then(if(ji3:Int).toNat≤70368744177664 then(nat_shift.l0 k l0 a1 (List.replicate (ji3:Int).toNat 0) 0 l0 (l0.length:Int) 0) else(none)) else(none))=some r:=by first|(rw[hji3] at H;exact H)|(simp only[hji3] at H ⊢;exact H)
 have hji3w:(IntKind.i64.wrap ((l0.length:Int)+1))=ji3:=(i64_w _).trans hji3
 replace H:=zg H
 obtain⟨c4,H⟩:=H
 have c4b0:=eq_true c4
 have c4b1:=decide_eq_true c4
 clear c4
 replace H:=zg H
 obtain⟨c5,H⟩:=H
 have c5b0:=eq_true c5
 have c5b1:=decide_eq_true c5
 clear c5
 obtain⟨ya1,hya1⟩:∃y_:List Int,y_=(List.replicate (ji3:Int).toNat 0):=⟨_,rfl⟩
 replace H:(nat_shift.l0 k l0 a1 ya1 0 l0 (l0.length:Int) 0)=some r:=zY hya1 H
 have Nya1:=zk hya1
 clear hya1
 have H':=zk H
 clear H
 go_enter Try.func139,Try.ntmps139
 go_wp2_with (first|((with_reducible refine gate_dst (N:=13) rfl ?_);refine Kd.R_make (Kd.int .u32) _ 97 rfl (N:=13) rfl 29 _ _ rfl ji3 rfl rfl Try.underlying29 (.int .u32 0) 4 info97 rfl (by decide) (by omega) 0 (ok:=fun _=>True) (okp:=fun _=>True) rfl (fun _ hk=>hk) trivial zd (Nat.le_trans (Nat.mul_le_mul_right _ (zd:ji3.toNat≤70368744177664)) (by omega)) (Below.refl _ _) (Nat.le_refl _) ?_;intro va2 w6 ho7 hb hg_ hnew_;clear hg_ hnew_;(first|rw[←Nya1.out] at ho7|(simp only[Int.reduceToNat] at ho7;rw[←Nya1.out] at ho7));have HOa3:=yRl ho7 HB;replace HB:=yS HB hb;clear hb ho7))
 go_loopg [6,16] k (fun kq v6 v16 w'=>∃(x5_1:List Int) (x6_1:Int) (x16_1:Int),v6= .int .u64 x6_1∧v16= .int .i64 x16_1∧Aside0 (nat_shift.l0 kq l0 a1 x5_1 x6_1 l0 (l0.length:Int) x16_1=some r)∧Aside0 (kq≤k)∧Aside0 (Kd.R (Kd.int .u32) 97 w' w.heap.size (fun _=>True) va2 x5_1)∧Aside0 (Below w.heap.size w w'))
 case atStart=>exact⟨(ya1),(0),(0),zF,zF,H',⟨Nat.le_refl _⟩,⟨zR HOa3.out⟩,⟨zB HB.out⟩⟩
 clear H'
 (try clear c4);(try clear c4b0);(try clear c4b1);(try clear c5);(try clear c5b0);(try clear c5b1)
 obtain⟨x5_1,x6_1,x16_1,rfl,rfl,HA,HK1,HO_5,HB⟩:=hrel
 cases gk with|zero=>exact absurd HA.out (by simp [nat_shift.l0])|succ k1=>?_
 have H:=HA.out
 clear HA
 simp only[nat_shift.l0] at H
 replace H:=zid H
 rcases H with⟨c8b0,H⟩|⟨c8b0,H⟩
 ·replace H:=zgd H
  obtain⟨c9b0,H⟩:=H
  replace H:=zgd H
  obtain⟨c10b0,H⟩:=H
  replace H:=zg H
  obtain⟨c11,H⟩:=H
  have c11b0:=eq_true c11
  have c11b1:=decide_eq_true c11
  clear c11
  obtain⟨ji12,hji12⟩:∃j_:Int,(shl .u64 (IntKind.u64.wrap (rd l0 x16_1)) a1)=j_:=⟨_,rfl⟩
  replace H:(if x16_1<(x5_1.length:Int) then(nat_shift.l0 k1 l0 a1 (x5_1.set (x16_1:Int).toNat ((Go.bits .or .u64 (ji12) x6_1) % 4294967296)) ((Go.bits .or .u64 (ji12) x6_1) / 4294967296) l0 (l0.length:Int) (wrap64 (x16_1+1))) else(none))=some r:=by first|(rw[hji12] at H;exact H)|(simp only[hji12] at H ⊢;exact H)
  have hji12_:(IntKind.u64.wrap ((IntKind.u64.wrap (rd l0 x16_1))*2^min a1.toNat 64))=ji12:=hji12
  have hji12z:a1≤64→(IntKind.u64.wrap ((IntKind.u64.wrap (rd l0 x16_1))*2^a1.toNat))=ji12:=shl_small hji12
  replace H:=zgd H
  obtain⟨c13b0,H⟩:=H
  obtain⟨ya5,hya5⟩:∃y_:List Int,y_=(x5_1.set (x16_1:Int).toNat ((Go.bits .or .u64 (ji12) x6_1) % 4294967296)):=⟨_,rfl⟩
  replace H:(nat_shift.l0 k1 l0 a1 ya5 ((Go.bits .or .u64 (ji12) x6_1) / 4294967296) l0 (l0.length:Int) (wrap64 (x16_1+1)))=some r:=zY hya5 H
  have Nya5:=zk hya5
  clear hya5
  have H':=zk H
  clear H
  have pa4:0≤(x16_1:Int):=zd
  have qa4:x16_1<(l0.length:Int):=zd
  obtain⟨ada4,ea4,hxa4_0⟩:=Kd.at_int HR0.out x16_1 pa4 qa4
  cases ea4
  replace hxa4_0:=(HB.out.cell (World.block_lt_of_cell? w _ hxa4_0)).trans hxa4_0
  replace pa4:=eq_true pa4
  replace qa4:=eq_true qa4
  have p14:0≤(x16_1:Int):=zd
  have q14:(x16_1:Int)<((x5_1.length:Int):Int):=zd
  obtain⟨go14,co14,eo14,gb14,gl14,cl14,HG14⟩:=Kd.R_form HO_5.out (by omega)
  (first|cases eo14|(injection eo14 with ea_ en_ ec_;(first|subst ea_|(injection ea_ with ea_;subst ea_));subst ec_;clear en_))
  have GB14:=zk gb14
  have GG14:=zk HG14
  clear gb14 gl14 HG14
  obtain⟨hx14_0,hf14_0⟩:=Kd.R_celln 0 HO_5.out (x16_1:Int) p14 q14
  replace p14:=eq_true p14
  replace q14:=eq_true q14
  have HP15:=Kd.R_putg HO_5.out (x16_1:Int) ((Go.bits .or .u64 (ji12) x6_1) % 4294967296)
  go_wp2_with (first|((with_reducible refine gate_store (t:=97) (p:=31) rfl ?_);refine store_event (t:=97) (p:=31) (v:=?vo_w16) (w1:=(wr.setCell ⟨go14,(x16_1:Int).toNat,none⟩ (.int .u32 ((Go.bits .or .u64 (ji12) x6_1) % 4294967296)))) ?hg ?ho ?hn ?hr ?_;(case ho=>rfl);(case hg=>rfl);(case hn=>rfl);(case hr=>first|(go_simp;done)|(go_simp;rfl));intro w16 hw;have hg:wr.grownBy w16 (some go14):=(by rw[hw];exact HP15.2);have hp_:Kd.R (Kd.int .u32) 97 w16 w.heap.size (fun _=>True) (.slice (some ⟨go14,0,none⟩) x5_1.length co14) ya5:=(by rw[hw,Nya5.out];exact HP15.1);clear HP15;replace HO_5:=zk (hp_);replace HB:=zk ((by rw[hw];exact below_set (HB.out) GB14.out:Below w.heap.size w w16));clear hg hw hp_))
  go_roundg k1
  case measure=>have:=HK1.out;omega
  case rel=>exact⟨(ya5),((Go.bits .or .u64 (ji12) x6_1) / 4294967296),(wrap64 (x16_1+1)),(by first|rfl|(simp;done)|(simp only[←hji12]<;>(first|rfl|simp))|(simp [*];done)),zF,H',⟨zo1 HK1⟩,⟨zR HO_5.out⟩,⟨zB HB.out⟩⟩
 replace H:=zg H
 obtain⟨c17,H⟩:=H
 have c17b0:=decide_eq_true c17
 have c17b1:decide (0≤l0.length)=true:=decide_eq_true (by omega)
 clear c17
 replace H:=zg H
 obtain⟨c18,H⟩:=H
 have c18b0:=decide_eq_true c18
 have c18b1:decide (l0.length<x5_1.length)=true:=decide_eq_true (Int.ofNat_lt.mp c18)
 clear c18
 obtain⟨ya6,hya6⟩:∃y_:List Int,y_=(x5_1.set ((l0.length:Int):Int).toNat ((x6_1) % 4294967296)):=⟨_,rfl⟩
 replace H:(some ya6)=some r:=zY hya6 H
 have Nya6:=zk hya6
 clear hya6
 obtain rfl:=Option.some.inj H
 have p19:0≤((l0.length:Int):Int):=zd
 have q19:((l0.length:Int):Int)<((x5_1.length:Int):Int):=zd
 obtain⟨go19,co19,eo19,gb19,gl19,cl19,HG19⟩:=Kd.R_form HO_5.out (by omega)
 (first|cases eo19|(injection eo19 with ea_ en_ ec_;(first|subst ea_|(injection ea_ with ea_;subst ea_));subst ec_;clear en_))
 have GB19:=zk gb19
 have GG19:=zk HG19
 clear gb19 gl19 HG19
 obtain⟨hx19_0,hf19_0⟩:=Kd.R_celln 0 HO_5.out ((l0.length:Int):Int) p19 q19
 replace p19:=eq_true p19
 replace q19:=eq_true q19
 obtain⟨hy20_,hz20_⟩:=Kd.R_celln 0 HO_5.out ((l0.length:Int):Int) zd zd
 (try simp only[Go.IntWalk.toNatUp] at hy20_ hz20_)
 have HP20:=Kd.R_putg HO_5.out ((l0.length:Int):Int) ((x6_1) % 4294967296)
 go_wp2_with (first|((with_reducible refine gate_store (t:=97) (p:=40) rfl ?_);refine store_event (t:=97) (p:=40) (v:=?vo_w21) (w1:=(wr.setCell ⟨go19,((l0.length:Int):Int).toNat,none⟩ (.int .u32 ((x6_1) % 4294967296)))) ?hg ?ho ?hn ?hr ?_;(case ho=>rfl);(case hg=>rfl);(case hn=>rfl);(case hr=>first|(go_simp;done)|(go_simp;rfl));intro w21 hw;have hg:wr.grownBy w21 (some go19):=(by rw[hw];exact HP20.2);have hp_:Kd.R (Kd.int .u32) 97 w21 w.heap.size (fun _=>True) (.slice (some ⟨go19,0,none⟩) x5_1.length co19) ya6:=(by rw[hw,Nya6.out];exact HP20.1);clear HP20;replace HO_5:=zk (hp_);replace HB:=zk ((by rw[hw];exact below_set (HB.out) GB19.out:Below w.heap.size w w21));clear hg hw hp_))
 go_ret
 exact⟨_,by first|rfl|(simp [errW_none,errW_some]<;>rfl)|(simp only[←hji3];first|rfl|(simp [errW_none,errW_some]<;>rfl))|(simp [*,errW_none,errW_some]<;>rfl),zR HO_5.out,zB HB.out⟩
end Go.Proofs.Ytifkbghnmhineaa.PAll
