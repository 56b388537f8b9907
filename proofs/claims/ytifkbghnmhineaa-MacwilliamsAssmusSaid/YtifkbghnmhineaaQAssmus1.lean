/- What functions of the program do and come to, for the statement MacwilliamsAssmus, part 1. Conditions: as each theorem says. -/
import Derived.Test.YtifkbghnmhineaaQAssmus0

namespace Go.Proofs.Ytifkbghnmhineaa.qc
set_option maxHeartbeats 8000000
set_option maxRecDepth 100000
open Go.RowKit Go.Proofs.YtifkbghnmhineaaW.lJ Go.Proofs.YtifkbghnmhineaaW.rO Go.Proofs.YtifkbghnmhineaaW.uO
attribute [local go_sem] Aw Ap Aq Aj Ar Ak Au Am
set_option linter.unusedVariables false
set_option linter.unusedSimpArgs false
def oC.T5:Bool×List (List Nat×List Nat):=(true,[([],[]),([],[]),([],[]),([],[]),([],[]),([3,4],[3,4]),([5],[5]),([2,6],[2,6]),([0,1,0,1,2,3,4,5,6,7],[0,1]),([8,7,7,0,1,2,3,4,5,6,7],[7,8])])
def oC.B5:List Nat:=[0,0,0,0,0,24,56,124,255,511]
theorem oC.zT:lM .any (opsOf Try.f60 5)=oC.T5:=by kernel_rfl
theorem oC.Bl:qh oC.T5.2 oC.B5=true:=by kernel_rfl
theorem oC.calls(k:Nat)(m:Int)(o:Int)(s:Option Addr)(q:Nat)(d:List Int)(a1:Int)(A2:Option Addr)(c2:Nat)(l2:List Int)(r:List Int)(w:World)(A:Kd.C (Kd.int .i64) w s d.length d)(B:d.length<=q)(aj:Kd.C (Kd.int .i64) w A2 l2.length l2)(am:l2.length<=c2)(h:oC.f k m o d a1 l2=some r):
 Calls Try.prog 60 #[.agg #[.int .i64 m, .int .i64 o, .slice s d.length q], .int .i64 a1, .slice A2 l2.length c2] w λe w'=>∃ag:Value,e= .returned (ag)/\Kd.R (Kd.int .i64) 3 w' w.heap.size (λ_=>True) ag r/\Below w.heap.size w w':=by
 have av:=Try.underlying24
 have M:=zk A
 have O:=zk B
 clear A B
 have ar:=zk aj
 have ax:=zk am
 clear aj am
 have HB:=zk (Below.refl w.heap.size w)
 have H:=h
 clear h
 unfold oC.f at H
 replace H:=zg H
 obtain⟨c4,H⟩:=H
 have aa:=eq_true c4
 have a7:=decide_eq_true c4
 clear c4
 replace H:=zg H
 obtain⟨c5,H⟩:=H
 have a5:=eq_true c5
 have a9:=decide_eq_true c5
 clear c5
 obtain⟨ab,y⟩:∃y_:List Int,y_=(List.replicate (a1:Int).toNat 0):=⟨_,rfl⟩
 rw[<-y] at H
 have z:=zk y
 clear y
 have H':=zk H
 clear H
 go_enter Try.func60,Try.ntmps60
 go_wp2_with (first|((with_reducible refine jc (N:=3) rfl ?_);(try(refine vN (by rfl) ?_;dsimp only));refine jM ?hg (N:=3) ?hd (cs:= #[.int .i64 m, .int .i64 o, .slice s d.length q]) (t:=24) ?hr ?_;(case hd=>rfl);(case hg=>rfl);(case hr=>first|(go_simp;done)|(go_simp;rfl));intro p hg w6 hbox hb;have a:=zk (hbox);have ak:=yg hg HB;have l:=yg hg HB;replace HB:=yS HB hb;clear hb hbox hg)|((with_reducible refine jc (N:=10) rfl ?_);(try(refine vN (by rfl) ?_;dsimp only));refine Kd.ug (Kd.int .i64) _ 3 rfl (N:=10) rfl 22 _ _ rfl a1 rfl rfl Try.underlying22 (.int .i64 0) 8 info3 rfl (by decide) (by omega) 0 (ok:=λ_=>True) (je:=λ_=>True) rfl (λ_ hk=>hk) trivial zd (Nat.le_trans (Nat.mul_le_mul_right _ (zd:a1.toNat<=35184372088832)) (by omega)) (Below.refl _ _) (Nat.le_refl _) ?_;intro ad w7 P hb jw jv;clear jw jv;(first|rw[<-z.out] at P|(simp only[Int.reduceToNat] at P;rw[<-z.out] at P));have X:=kY P HB l;replace a:=yK a hb;replace HB:=jg HB l hb;clear hb P))
 go_loopg [8] k (λkq v8 w'=>∃(x:List Int) (b:Int),v8= .int .i64 b/\dw (oC.l0 kq a1 l2 x b m o d=some r)/\dw (kq<=k)/\dw (Kd.R (Kd.int .i64) 3 w' w.heap.size (λ_=>True) ad x)/\dw (w'.heap[p]?=some (.cells #[.int .i64 m, .int .i64 o,(.slice s d.length q)] 24 (0,0)))/\dw (Below w.heap.size w w'))
 case atStart=>exact⟨(ab),(0),zF,H',⟨Nat.le_refl _⟩,⟨zR X.out⟩,⟨by(with_reducible repeat(first|refine iM ?_ _|refine iC ?_|refine iL ?_ _));exact a.out⟩,⟨iH HB.out l.out⟩⟩
 clear H'
 (try clear aa a7 a5 a9)
 obtain⟨x,b,rfl,HA,al,g,a,HB⟩:=hrel
 cases gk with|zero=>exact absurd HA.out (by simp [oC.l0])|succ k1=>?_
 have H:=HA.out
 clear HA
 simp only[oC.l0] at H
 replace H:=jB H
 rcases H with⟨ac,H⟩|⟨ac,H⟩
 ·replace H:=jB H
  rcases H with⟨L,H⟩|⟨L,H⟩
  ·replace H:=iV H
   obtain⟨ah,H⟩:=H
   replace H:=zb H
   obtain⟨G,ao,H⟩:=H
   replace H:=iV H
   obtain⟨ai,H⟩:=H
   obtain⟨a3,u⟩:∃y_:List Int,y_=(x.set (b:Int).toNat G):=⟨_,rfl⟩
   rw[<-u] at H
   have T:=zk u
   clear u
   have H':=zk H
   clear H
   try go_wp2
   replace g:=zk (Kd.iJ g.out)
   replace a:=zk (iC a.out)
   replace HB:=zk (l9 HB.out)
   have I:0<=(b:Int):=zd
   have D:b<(l2.length:Int):=zd
   obtain⟨W,a8,c⟩:=Kd.jG ar.out b I D
   have j:=c
   cases a8
   replace c:=(HB.out.cell (World.block_lt_of_cell? w _ c)).trans c
   replace I:=eq_true I
   replace D:=eq_true D
   refine qi (n:=10) (S:=λw'=>w'.cell? ⟨p,0,none⟩=some (.int .i64 m)/\w'.cell? ⟨p,1,none⟩=some (.int .i64 o)/\w'.cell? ⟨p,2,none⟩=some (.slice s d.length q)/\w'.cell? (W.add (b).toNat)=some (.int .i64 (rd l2 b))) (ds:=[9]) #[false,false,false,false,false,false,false,false,false,false] (by kernel_rfl) rfl rfl ⟨(iy a.out 0).trans rfl,(iy a.out 1).trans rfl,(iy a.out 2).trans rfl,((HB.out.cell (World.block_lt_of_cell? w _ j)).trans j)⟩ (λhHeld=>?_);refine qx oC.zT oC.Bl (λiq jq=>?_)
   first|(generalize wr.drew=au at g a HB c hHeld ⊢)|(generalize wr.drew=au at g a HB hHeld ⊢)
   refine zp (i:=0) (N:=some 22) iq ?_
   refine zp (i:=1) (N:=some 23) iq ?_
   refine zp (i:=3) (N:=some 25) iq ?_
   refine zp (i:=4) (N:=some 26) iq ?_
   refine zp (i:=5) (N:=some 27) iq ?_
   refine jI (i:=2) (N:=some 24) (v:=?_) (a':=?_) #[true,true,true,true,true,true,false,false,false,false] rfl rfl (jO iq.out jq.out (by kernel_rfl)) (λ_ _ _ h=>h) (Or.inl ⟨by rfl,?_⟩) hHeld ?_ ?_
   rotate_left
   ·rintro w' ⟨s0,s1,s2,s3⟩
    go_simp
    with_reducible rfl
   rotate_left
   ·simp only[Act.put,List.setIfInBounds_toArray,List.set_cons_zero,List.set_cons_succ,iI,iP]
    rfl
   refine jI (i:=6) (N:=some 28) (v:=?_) (a':=?_) #[true,true,true,true,true,true,true,false,false,false] rfl rfl (jO iq.out jq.out (by kernel_rfl)) (λ_ _ _ h=>h) (Or.inl ⟨by rfl,?_⟩) hHeld ?_ ?_
   rotate_left
   ·rintro w' ⟨s0,s1,s2,s3⟩
    go_simp
    with_reducible rfl
   rotate_left
   ·simp only[Act.put,List.setIfInBounds_toArray,List.set_cons_zero,List.set_cons_succ,iI,iP]
    rfl
   refine lN (i:=7) (N:=some 29) #[true,true,true,true,true,true,true,true,false,false] rfl rfl (kH iq.out (by kernel_rfl)) (by decide) (λK hK=>?_)
   refine nS Try.func106 (by kernel_rfl) rfl #[.agg #[.int .i64 m, .int .i64 o, .slice s d.length q], .int .i64 (rd l2 b)] (by rfl) rfl rfl (by(try simp only[List.map_toArray,List.map_cons,List.map_nil]);first|done|rfl|(simp only[List.length_drop,List.length_take];rfl)) ?_
   with_reducible refine(yE.calls k1 m o _ _ d (rd l2 b) G _ ?ig ?ik ao.out).mono ?_
   (case ig=>exact zC (Kd.iR M.out HB.out))
   (case ik=>exact O.out)
   rintro e ay ⟨rfl,hb⟩
   refine⟨_,rfl,?_⟩
   replace g:=jl g hb
   replace a:=yK a hb
   replace HB:=jg HB l hb
   (try clear hb)
   have a0:0<=(b:Int):=zd
   have af:(b:Int)<((x.length:Int):Int):=zd
   obtain⟨ap,aq,Y,J,a2,aw,U⟩:=Kd.qO g.out (by omega)
   (first|cases Y|(injection Y with iW kL kM;(first|subst iW|(injection iW with iW;subst iW));subst kM;clear kL))
   have Z:=zk J
   have an:=zk U
   clear J a2 U
   obtain⟨a4,a6⟩:=Kd.nT 0 g.out (b:Int) a0 af
   replace a0:=eq_true a0
   replace af:=eq_true af
   have E:=Kd.Dp g.out (b:Int) G
   rw[<-T.out] at E
   have ae:=zk E
   clear E
   refine hK.out _ _ ⟨(iy a.out 0).trans rfl,(iy a.out 1).trans rfl,(iy a.out 2).trans rfl,((HB.out.cell (World.block_lt_of_cell? w _ j)).trans j)⟩ (λhHeld=>?_)
   clear hK K
   refine mr (a':=?_) ?_ ?_
   rotate_left
   ·show Act.put _ (some 29) _=_
    simp only[Act.put,List.setIfInBounds_toArray,List.set_cons_zero,List.set_cons_succ,iI,iP]
    rfl
   refine zp (i:=8) (N:=some 30) iq ?_
   refine xR (i:=9) (N:=none) #[true,true,true,true,true,true,true,true,true,true] rfl rfl (kH iq.out (by kernel_rfl)) (by decide) (λK hK=>?_)
   refine vH (w1:=?_) (by rfl) rfl ?_ ?_
   rotate_left
   ·go_simp
    rfl
   refine hK.out _ _ ?_
   clear hK K
   refine ql (qF iq.out (by kernel_rfl)) ?_
   try go_wp2
   go_roundg k1
   case measure=>have:=al.out;omega
   case rel=>exact⟨(a3),(wrap64 (b+1)),zF,H',⟨kP al⟩,⟨zR ae.out⟩,⟨by(with_reducible repeat(first|refine iM ?_ _|refine iC ?_|refine iL ?_ _));refine qo ?_ (by have h_:=Kd.Bv g.out a.out (by decide);intro e_;exact h_ (by rw[e_];rfl)) _;(with_reducible repeat(first|refine iM ?_ _|refine iC ?_|refine iL ?_ _));exact a.out⟩,⟨yu HB.out Z.out l.out⟩⟩
  obtain rfl:=Option.some.inj H
  go_wp2
  go_ret
  exact⟨_,zE,zR g.out,iH HB.out l.out⟩
 obtain rfl:=Option.some.inj H
 go_wp2
 go_ret
 exact⟨_,zE,zR g.out,iH HB.out l.out⟩
theorem sJ.calls(k:Nat)(a0:Int)(r:Bool)(w:World)(h:sJ.f k a0=some r):
 Calls Try.prog 109 #[.int .i64 a0] w λe w'=>e= .returned (.bool r)/\jh w w':=by
 have H:=h
 clear h
 unfold sJ.f at H
 have H':=zk H
 clear H
 go_enter Try.func109,Try.ntmps109
 go_wp2
 go_loopg [3] k (λkq v3 w'=>∃(a:Int),v3= .int .i64 a/\dw (sJ.l0 kq a0 a=some r)/\dw (kq<=k)/\jh w w')
 case atStart=>exact⟨(2),zF,H',⟨Nat.le_refl _⟩,by repeat(first|exact jh.refl _|apply jh.step)⟩
 clear H'
 obtain⟨a,rfl,HA,g,⟨m1,rfl⟩⟩:=hrel
 cases gk with|zero=>exact absurd HA.out (by simp [sJ.l0])|succ k1=>?_
 have H:=HA.out
 clear HA
 simp only[sJ.l0] at H
 replace H:=jB H
 rcases H with⟨b,H⟩|⟨b,H⟩
 ·replace H:=zh H
  obtain⟨c3,H⟩:=H
  have j:=beq_eq_false_iff_ne.mpr c3
  have l:=bne_iff_ne.mpr c3
  replace H:=zi H
  rcases H with⟨c4,H⟩|⟨c4,H⟩
  ·have d:=beq_iff_eq.mpr c4
   have c:=bne_eq_false_iff_eq.mpr c4
   clear c4
   obtain rfl:=Option.some.inj H
   go_wp2
   go_ret
   exact⟨zF,by repeat(first|exact jh.refl _|apply jh.step)⟩
  have d:=beq_eq_false_iff_ne.mpr c4
  have c:=bne_iff_ne.mpr c4
  have H':=zk H
  clear H
  go_wp2
  go_roundg k1
  case measure=>have:=g.out;omega
  case rel=>exact⟨(wrap64 (a+1)),zF,H',⟨kP g⟩,by repeat(first|exact jh.refl _|apply jh.step)⟩
 obtain rfl:=Option.some.inj H
 go_wp2
 go_ret
 exact⟨zF,by repeat(first|exact jh.refl _|apply jh.step)⟩
def kN.T11:Bool×List (List Nat×List Nat):=(true,[([],[]),([],[]),([],[]),([1,2],[1,2]),([],[]),([3,4],[3,4]),([],[]),([],[]),([],[]),([7,8],[7,8]),([],[]),([9,10],[9,10]),([6,11],[6,11]),([12],[12]),([],[]),([],[]),([14,15],[14,15]),([],[]),([],[]),([17,18],[17,18]),([19],[19]),([16,20],[16,20]),([13,21],[13,21]),([],[]),([22,23],[22,23]),([0,5,0,1,2,3,4,5,6,7,8,9,10,11,12,13,14,15,16,17,18,19,20,21,22,23,24],[0,5]),([25,24,0,1,2,3,4,5,6,7,8,9,10,11,12,13,14,15,16,17,18,19,20,21,22,23,24],[24,25])])
def kN.B11:List Nat:=[0,0,0,6,0,30,0,0,0,384,0,1920,4032,8128,0,0,49152,0,0,393216,917504,2080768,4194240,0,16777152,33554431,67108863]
theorem kN.RP:lM .any (opsOf Try.f132 11)=kN.T11:=by kernel_rfl
theorem kN.XU:qh kN.T11.2 kN.B11=true:=by kernel_rfl
theorem kN.calls(k:Nat)(A0:Option Addr)(c0:Nat)(l0:List Int)(A1:Option Addr)(c1:Nat)(l1:List Int)(a2:Int)(r:Bool)(w:World)(bD:Kd.C (Kd.int .i64) w A0 l0.length l0)(bu:l0.length<=c0)(bs:Kd.C (Kd.int .i64) w A1 l1.length l1)(bG:l1.length<=c1)(h:kN.f k l0 l1 a2=some r):
 Calls Try.prog 132 #[.slice A0 l0.length c0, .slice A1 l1.length c1, .int .i64 a2] w λe w'=>e= .returned (.bool r)/\Below w.heap.size w w':=by
 have bJ:=zk bD
 have bS:=zk bu
 clear bD bu
 have bO:=zk bs
 have bR:=zk bG
 clear bs bG
 have HB:=zk (Below.refl w.heap.size w)
 have H:=h
 clear h
 unfold kN.f at H
 obtain⟨J,U⟩:∃y_:List Int,y_=(([]:List Int)):=⟨_,rfl⟩
 replace H:(if J.length+l1.length<17592186044416 then((some (J++l1:List Int)).bind λE=>(if E.length<17592186044416 then((some (E++[1]:List Int)).bind λD=>(kN.l0 k l0 a2 (l0.length:Int) D (wrap64 ((D.length:Int)-1)))) else(none))) else(none))=some r:=zY U H
 have ab:=zk U
 clear U
 replace H:=zg H
 obtain⟨c4,H⟩:=H
 have bj:=zk c4
 clear c4
 obtain⟨E,X⟩:∃y_:List Int,y_=(J++l1):=⟨_,rfl⟩
 replace H:(if E.length<17592186044416 then((some (E++[1]:List Int)).bind λD=>(kN.l0 k l0 a2 (l0.length:Int) D (wrap64 ((D.length:Int)-1)))) else(none))=some r:=zY X H
 have au:=zk X
 clear X
 replace H:=zg H
 obtain⟨c5,H⟩:=H
 have bk:=zk c5
 clear c5
 obtain⟨D,P⟩:∃y_:List Int,y_=(E++[1]):=⟨_,rfl⟩
 replace H:(kN.l0 k l0 a2 (l0.length:Int) D (wrap64 ((D.length:Int)-1)))=some r:=zY P H
 have aY:=zk P
 clear P
 have H':=zk H
 clear H
 go_enter Try.func132,Try.ntmps132
 go_wp2_with (first|((with_reducible refine jc (N:=15) rfl ?_);refine Kd.qG (Kd.int .i64) _ 3 ?hg (N:=15) ?hd (xs:=([]:List Int)) (inner:=[]) (ok:=λ_=>True) (je:=λ_=>True) ?hr ?hp (λ_ hk=>hk) trivial (Below.refl _ _) (Nat.le_refl _) (by simp) ?_;(case hd=>rfl);(case hg=>rfl);(case hr=>first|(go_simp;done)|(go_simp;rfl));(case hp=>exact(iY.none _ _));intro bi w6 aQ hb jw jv;clear jw jv;(first|rw[<-ab.out] at aQ|(simp only[Int.reduceToNat] at aQ;rw[<-ab.out] at aQ));have ae:=jm aQ HB;replace HB:=yS HB hb;clear hb aQ)|((with_reducible refine qE (b:= .append) (xs:= #[.tmp 15, .tmp 16]) rfl ?_);at_builtin;refine Kd.GX (Kd.int .i64) (w0:=w) w.heap.size rfl (.tmp 15) (.tmp 16) 22 3 (.int .i64 0) 8 rfl Try.underlying22 info3 rfl (by decide) (by omega) bi J l1 _ _ _ (λ_=>True) (λ_=>False) rfl rfl ?aO ?aR (λ_ _ h=>h) (λ_ h=>h.elim) ?aF ?aB ?aS ?aL ?_;(case aR=>repeat(first|exact(Kd.iR bO.out HB.out)|(with_reducible refine Kd.uT ?_ _)|(with_reducible refine Kd.uQ ?_ _)|(with_reducible refine Kd.uS ?_)));(case aB=>exact(zB HB.out));(case aF=>exact(λ_ _=>trivial));(case aO=>exact(zR ae.out));(case aS=>exact(iQ (zB HB.out)));(case aL=>have:=bj.out;omega);intro b8 w8 ho hb hg hat;rw[<-au.out] at ho;replace HB:=zk (hb);have ad:=zk (ho);clear ae;clear ho hb hg hat)|((with_reducible refine qE (b:= .append) (xs:= #[.tmp 18, .tmp 19]) rfl ?_);at_builtin;refine Kd.yU (Kd.int .i64) (w0:=w) w.heap.size rfl (.tmp 18) (.tmp 19) 22 3 (.int .i64 0) 8 rfl Try.underlying22 info3 rfl (by decide) (by omega) b8 E 1 [.int .i64 1] (λ_=>True) (λ_=>False) rfl rfl ?aP (λ_ hk=>hk.elim) ?aF ?aO ?aB ?aS ?aL ?_;(case aP=>exact rfl);(case aB=>exact(zB HB.out));(case aF=>exact(λ_ _=>trivial));(case aO=>exact(zR ad.out));(case aS=>exact(iQ (zB HB.out)));(case aL=>have:=bk.out;omega);intro bL w9 ho hb hg hat;rw[<-aY.out] at ho;replace HB:=zk (hb);have ac:=zk (ho);clear ad;clear ho hb hg hat;obtain⟨aG,a8,rfl⟩:=Kd.iD ac.out))
 go_loopg [9] k (λkq v9 w'=>∃(q:List Int) (l:Int),v9= .int .i64 l/\dw (kN.l0 kq l0 a2 (l0.length:Int) q l=some r)/\dw (kq<=k)/\dw (Kd.R (Kd.int .i64) 3 w' w.heap.size (λ_=>True) (.slice aG D.length a8) q)/\dw (Below w.heap.size w w'))
 case atStart=>exact⟨(D),(wrap64 ((D.length:Int)-1)),zF,H',⟨Nat.le_refl _⟩,⟨zR ac.out⟩,⟨zB HB.out⟩⟩
 clear H'
 obtain⟨q,l,rfl,HA,aq,a,HB⟩:=hrel
 have g:=(Kd.iw a.out).1
 rw[g] at a
 (try simp only[g])
 cases gk with|zero=>exact absurd HA.out (by simp [kN.l0])|succ k1=>?_
 have H:=HA.out
 clear HA
 simp only[kN.l0] at H
 replace H:=zi H
 rcases H with⟨aN,H⟩|⟨aN,H⟩
 ·have G:decide ((l0.length:Int)<=l)=true:=decide_eq_true aN
  (try(have W:=G;simp only[g] at W))
  clear aN
  replace H:=iV H
  obtain⟨b0,H⟩:=H
  replace H:=zg H
  obtain⟨bw,H⟩:=H
  have a9:=decide_eq_true bw
  (try(have aU:=a9;simp only[g] at aU))
  clear bw
  have H':=zk H
  clear H
  have a5:0<=(l:Int):=zd
  have a6:l<(q.length:Int):=zd
  obtain⟨aa,b9,m⟩:=Kd.jG (Kd.iw a.out).2.2 l a5 a6
  cases b9
  replace a5:=eq_true a5
  replace a6:=eq_true a6
  go_wp2
  go_loopg [11] k1 (λkq bN w'=>∃(B:List Int) (j:Int),bN= .int .i64 j/\dw (kN.l1 kq l0 a2 (l0.length:Int) B l (rd q l) j=some r)/\dw (kq<=k1)/\dw (Kd.R (Kd.int .i64) 3 w' w.heap.size (λ_=>True) (.slice (some aa) q.length a8) B)/\dw (Below w.heap.size w w'))
  case atStart=>exact⟨(q),(0),zF,H',⟨Nat.le_refl _⟩,⟨by(try simp only[g]);(with_reducible repeat(first|apply Kd.iT|apply Kd.iU|apply Kd.iJ));exact a.out⟩,⟨zB HB.out⟩⟩
  clear H'
  (try clear G b0 a9 m a5 a6)
  obtain⟨B,j,rfl,HA,aj,a,HB⟩:=hrel
  have y:=(Kd.iw a.out).1
  rw[y] at a
  (try simp only[y])
  cases gk with|zero=>exact absurd HA.out (by simp [kN.l1])|succ k2=>?_
  have H:=HA.out
  clear HA
  simp only[kN.l1] at H
  replace H:=zi H
  rcases H with⟨aX,H⟩|⟨aX,H⟩
  ·have Y:=decide_eq_true aX
   (try(have a0:=Y;simp only[g,y] at a0))
   clear aX
   obtain⟨s,T⟩:∃j_:Int,(wrap64 ((wrap64 (l-(l0.length:Int)))+j))=j_:=⟨_,rfl⟩
   replace H:(if 0<=(s) then(if(s)<(B.length:Int) then(if 0<=j then(if j<(l0.length:Int) then(if a2=0 then(none) else(kN.l1 k2 l0 a2 (l0.length:Int) (B.set ((s):Int).toNat (Int.tmod (wrap64 ((rd B (s))+(wrap64 ((wrap64 (a2-(rd q l)))*(rd l0 j))))) a2)) l (rd q l) (wrap64 (j+1)))) else(none)) else(none)) else(none)) else(none))=some r:=by first|(rw[T] at H;exact H)|(simp only[T] at H ⊢;exact H)
   have b2:(IntKind.i64.wrap ((wrap64 (l-(l0.length:Int)))+j))=s:=(iI _).trans T
   replace H:=iV H
   obtain⟨bF,H⟩:=H
   replace H:=zg H
   obtain⟨bx,H⟩:=H
   have aM:=decide_eq_true bx
   (try(have aC:=aM;simp only[g,y] at aC))
   clear bx
   replace H:=iV H
   obtain⟨bz,H⟩:=H
   replace H:=zg H
   obtain⟨bC,H⟩:=H
   have aV:=decide_eq_true bC
   (try(have ar:=aV;simp only[g,y] at ar))
   clear bC
   replace H:=zh H
   obtain⟨bq,H⟩:=H
   have br:=beq_eq_false_iff_ne.mpr bq
   have bB:=bne_iff_ne.mpr bq
   obtain⟨ay,a1⟩:∃y_:List Int,y_=(B.set ((s):Int).toNat (Int.tmod (wrap64 ((rd B (s))+(wrap64 ((wrap64 (a2-(rd q l)))*(rd l0 j))))) a2)):=⟨_,rfl⟩
   replace H:(kN.l1 k2 l0 a2 (l0.length:Int) ay l (rd q l) (wrap64 (j+1)))=some r:=zY a1 H
   have aT:=zk a1
   clear a1
   have H':=zk H
   clear H
   try go_wp2
   replace a:=zk (Kd.iJ a.out)
   replace HB:=zk (l9 HB.out)
   have an:0<=((s):Int):=zd
   have ak:(s)<(B.length:Int):=zd
   obtain⟨aW,bg,o⟩:=Kd.jG (Kd.iw a.out).2.2 (s) an ak
   obtain rfl:aa=aW:=(by injection bg)
   replace an:=eq_true an
   replace ak:=eq_true ak
   have ao:0<=(j:Int):=zd
   have ai:j<(l0.length:Int):=zd
   obtain⟨aD,bo,d⟩:=Kd.jG bJ.out j ao ai
   have O:=d
   cases bo
   replace d:=(HB.out.cell (World.block_lt_of_cell? w _ d)).trans d
   replace ao:=eq_true ao
   replace ai:=eq_true ai
   have ba:0<=((s):Int):=zd
   have bf:((s):Int)<((B.length:Int):Int):=zd
   obtain⟨b7,bH,ax,b1,bc,bK,aJ⟩:=Kd.qO a.out (by omega)
   (first|cases ax|(injection ax with iW kL kM;(first|subst iW|(injection iW with iW;subst iW));subst kM;clear kL))
   have b6:=zk b1
   have z:=zk aJ
   clear b1 bc aJ
   (first|simp only[add_plain] at m|skip)
   (first|simp only[add_plain] at o|skip)
   obtain⟨x,c⟩:=Kd.nT 0 a.out ((s):Int) ba bf
   replace ba:=eq_true ba
   replace bf:=eq_true bf
   have ag:=Kd.Dp a.out ((s):Int) (Int.tmod (wrap64 ((rd B (s))+(wrap64 ((wrap64 (a2-(rd q l)))*(rd l0 j))))) a2)
   rw[<-aT.out] at ag
   have u:=zk ag
   clear ag
   refine qi (n:=27) (S:=λw'=>w'.cell? ⟨b7,((s)).toNat,none⟩=some (.int .i64 (rd B (s)))/\w'.cell? (aD.add (j).toNat)=some (.int .i64 (rd l0 j))) (ds:=[26]) #[false,false,false,false,false,false,false,false,false,false,false,false,false,false,false,false,false,false,false,false,false,false,false,false,false,false,false] (by kernel_rfl) rfl rfl ⟨o,((HB.out.cell (World.block_lt_of_cell? w _ O)).trans O)⟩ (λhHeld=>?_);refine qx kN.RP kN.XU (λiq jq=>?_)
   first|(generalize wr.drew=I at a HB z u c m o d x hHeld ⊢)|(generalize wr.drew=I at a HB z u c o d x hHeld ⊢)|(generalize wr.drew=I at a HB z u c m d x hHeld ⊢)|(generalize wr.drew=I at a HB z u c m o x hHeld ⊢)|(generalize wr.drew=I at a HB z u c m o d hHeld ⊢)|(generalize wr.drew=I at a HB z u c d x hHeld ⊢)|(generalize wr.drew=I at a HB z u c o x hHeld ⊢)|(generalize wr.drew=I at a HB z u c o d hHeld ⊢)|(generalize wr.drew=I at a HB z u c m x hHeld ⊢)|(generalize wr.drew=I at a HB z u c m d hHeld ⊢)|(generalize wr.drew=I at a HB z u c m o hHeld ⊢)|(generalize wr.drew=I at a HB z u c x hHeld ⊢)|(generalize wr.drew=I at a HB z u c d hHeld ⊢)|(generalize wr.drew=I at a HB z u c o hHeld ⊢)|(generalize wr.drew=I at a HB z u c m hHeld ⊢)|(generalize wr.drew=I at a HB z u c hHeld ⊢)
   refine zp (i:=0) (N:=some 38) iq ?_
   refine zp (i:=1) (N:=some 39) iq ?_
   refine zp (i:=2) (N:=some 40) iq ?_
   refine zp (i:=3) (N:=some 41) iq ?_
   refine zp (i:=4) (N:=some 42) iq ?_
   refine zp (i:=5) (N:=some 43) iq ?_
   refine zp (i:=6) (N:=some 44) iq ?_
   refine zp (i:=7) (N:=some 45) iq ?_
   refine zp (i:=8) (N:=some 46) iq ?_
   refine zp (i:=9) (N:=some 47) iq ?_
   refine zp (i:=10) (N:=some 48) iq ?_
   refine zp (i:=11) (N:=some 49) iq ?_
   refine zp (i:=12) (N:=some 50) iq ?_
   refine zp (i:=14) (N:=some 52) iq ?_
   refine zp (i:=15) (N:=some 53) iq ?_
   refine zp (i:=16) (N:=some 54) iq ?_
   refine zp (i:=17) (N:=some 55) iq ?_
   refine zp (i:=18) (N:=some 56) iq ?_
   refine zp (i:=19) (N:=some 57) iq ?_
   refine zp (i:=23) (N:=some 61) iq ?_
   refine jI (i:=13) (N:=some 51) (v:=?_) (a':=?_) #[true,true,true,true,true,true,true,true,true,true,true,true,true,true,true,true,true,true,true,true,false,false,false,true,false,false,false] rfl rfl (jO iq.out jq.out (by kernel_rfl)) (λ_ _ _ h=>h) (Or.inl ⟨by rfl,?_⟩) hHeld ?_ ?_
   rotate_left
   ·rintro w' ⟨s0,s1⟩
    go_simp
    with_reducible rfl
   rotate_left
   ·simp only[Act.put,List.setIfInBounds_toArray,List.set_cons_zero,List.set_cons_succ,iI,iP]
    rfl
   refine jI (i:=20) (N:=some 58) (v:=?_) (a':=?_) #[true,true,true,true,true,true,true,true,true,true,true,true,true,true,true,true,true,true,true,true,true,false,false,true,false,false,false] rfl rfl (jO iq.out jq.out (by kernel_rfl)) (λ_ _ _ h=>h) (Or.inl ⟨by rfl,?_⟩) hHeld ?_ ?_
   rotate_left
   ·rintro w' ⟨s0,s1⟩
    go_simp
    with_reducible rfl
   rotate_left
   ·simp only[Act.put,List.setIfInBounds_toArray,List.set_cons_zero,List.set_cons_succ,iI,iP]
    rfl
   refine zp (i:=21) (N:=some 59) iq ?_
   refine zp (i:=22) (N:=some 60) iq ?_
   refine zp (i:=24) (N:=some 62) iq ?_
   refine zp (i:=25) (N:=some 63) iq ?_
   refine xR (i:=26) (N:=none) #[true,true,true,true,true,true,true,true,true,true,true,true,true,true,true,true,true,true,true,true,true,true,true,true,true,true,true] rfl rfl (kH iq.out (by kernel_rfl)) (by decide) (λK hK=>?_)
   refine vH (w1:=?_) (by rfl) rfl ?_ ?_
   rotate_left
   ·go_simp
    rfl
   refine hK.out _ _ ?_
   clear hK K
   refine ql (qF iq.out (by kernel_rfl)) ?_
   try go_wp2
   (try simp only[<-y])
   (try simp only[add_plain] at*)
   go_roundg k2
   case measure=>have:=aq.out;have:=aj.out;omega
   case rel=>exact⟨(ay),(wrap64 (j+1)),zF,H',⟨lW aq aj⟩,⟨by(try simp only[g]);(try simp only[y]);(with_reducible repeat(first|apply Kd.iT|apply Kd.iU|apply Kd.iJ));exact u.out⟩,⟨iH HB.out b6.out⟩⟩
  have Y:=decide_eq_false aX
  (try(have a0:=Y;simp only[g,y] at a0))
  clear aX
  replace H:=iV H
  obtain⟨bA,H⟩:=H
  replace H:=zg H
  obtain⟨bE,H⟩:=H
  have aH:=decide_eq_true bE
  (try(have az:=aH;simp only[g,y] at az))
  clear bE
  obtain⟨af,Z⟩:∃y_:List Int,y_=(B.set (l:Int).toNat 0):=⟨_,rfl⟩
  replace H:(kN.l0 k2 l0 a2 (l0.length:Int) af (wrap64 (l-1)))=some r:=zY Z H
  have aI:=zk Z
  clear Z
  have H':=zk H
  clear H
  have be:0<=(l:Int):=zd
  have bh:(l:Int)<((B.length:Int):Int):=zd
  obtain⟨am,bQ,av,aE,bn,bM,aA⟩:=Kd.qO a.out (by omega)
  (first|cases av|(injection av with iW kL kM;(first|subst iW|(injection iW with iW;subst iW));subst kM;clear kL))
  have b5:=zk aE
  have bI:=zk aA
  clear aE bn aA
  obtain⟨bb,b4⟩:=Kd.nT 0 a.out (l:Int) be bh
  replace be:=eq_true be
  replace bh:=eq_true bh
  have ah:=Kd.qY a.out (l:Int) 0
  go_wp2_with (first|((with_reducible refine qM (t:=3) (p:=66) rfl ?_);refine qJ (t:=3) (p:=66) (v:=?Y0) (w1:=(wr.setCell ⟨am,(l:Int).toNat,none⟩ (.int .i64 0))) ?hg ?ho ?hn ?hr ?_;(case ho=>rfl);(case hg=>rfl);(case hn=>rfl);(case hr=>first|(go_simp;done)|(go_simp;rfl));intro b3 hw;have hg:wr.grownBy b3 (some am):=(by rw[hw];exact ah.2);have jY:Kd.R (Kd.int .i64) 3 b3 w.heap.size (λ_=>True) (.slice (some ⟨am,0,none⟩) B.length a8) af:=(by rw[hw,aI.out];exact ah.1);clear ah;replace a:=zk (jY);replace HB:=zk ((by rw[hw];exact lS (HB.out) b5.out:Below w.heap.size w b3));clear hg hw jY))
  (try simp only[<-g,<-y])
  (try simp only[add_plain] at*)
  go_roundg k2
  case measure=>have:=aq.out;have:=aj.out;omega
  case rel=>exact⟨(af),(wrap64 (l-1)),zF,H',⟨lW aq aj⟩,⟨by(try simp only[g]);(try simp only[y]);(with_reducible repeat(first|apply Kd.iT|apply Kd.iU|apply Kd.iJ));exact a.out⟩,⟨zB HB.out⟩⟩
 have G:decide ((l0.length:Int)<=l)=false:=decide_eq_false aN
 (try(have W:=G;simp only[g] at W))
 clear aN
 have H':=zk H
 clear H
 go_wp2
 go_loopg [12] k1 (λkq bP w'=>∃(A:Int),bP= .int .i64 A/\dw (kN.l2 kq q A=some r)/\dw (kq<=k1)/\dw (Kd.R (Kd.int .i64) 3 w' w.heap.size (λ_=>True) (.slice aG q.length a8) q)/\dw (Below w.heap.size w w'))
 case atStart=>exact⟨(0),zF,H',⟨Nat.le_refl _⟩,⟨by(try simp only[g]);(with_reducible repeat(first|apply Kd.iT|apply Kd.iU|apply Kd.iJ));exact a.out⟩,⟨zB HB.out⟩⟩
 clear H'
 (try clear G)
 obtain⟨A,rfl,HA,aj,a,HB⟩:=hrel
 cases gk with|zero=>exact absurd HA.out (by simp [kN.l2])|succ k2=>?_
 have H:=HA.out
 clear HA
 simp only[kN.l2] at H
 replace H:=zi H
 rcases H with⟨aK,H⟩|⟨aK,H⟩
 ·have a3:=decide_eq_true aK
  (try(have a4:=a3;simp only[g] at a4))
  clear aK
  replace H:=iV H
  obtain⟨bv,H⟩:=H
  replace H:=zi H
  rcases H with⟨ap,H⟩|⟨ap,H⟩
  ·have aw:=beq_iff_eq.mpr ap
   have aZ:=bne_eq_false_iff_eq.mpr ap
   clear ap
   have H':=zk H
   clear H
   have L:0<=(A:Int):=zd
   have M:A<(q.length:Int):=zd
   obtain⟨a_,al,a7⟩:=Kd.jG (Kd.iw a.out).2.2 A L M
   cases al
   replace L:=eq_true L
   replace M:=eq_true M
   go_wp2
   (try simp only[add_plain] at*)
   go_roundg k2
   case measure=>have:=aq.out;have:=aj.out;omega
   case rel=>exact⟨(wrap64 (A+1)),zF,H',⟨lW aq aj⟩,⟨by(try simp only[g]);(with_reducible repeat(first|apply Kd.iT|apply Kd.iU|apply Kd.iJ));exact a.out⟩,⟨zB HB.out⟩⟩
  have aw:=beq_eq_false_iff_ne.mpr ap
  have aZ:=bne_iff_ne.mpr ap
  obtain rfl:=Option.some.inj H
  have L:0<=(A:Int):=zd
  have M:A<(q.length:Int):=zd
  obtain⟨a_,al,a7⟩:=Kd.jG (Kd.iw a.out).2.2 A L M
  cases al
  replace L:=eq_true L
  replace M:=eq_true M
  go_wp2
  go_ret
  exact⟨zE,zB HB.out⟩
 have a3:=decide_eq_false aK
 (try(have a4:=a3;simp only[g] at a4))
 clear aK
 obtain rfl:=Option.some.inj H
 go_wp2
 go_ret
 exact⟨zE,zB HB.out⟩
theorem rV.calls(k:Nat)(a0:Int)(a1:Int)(a2:Int)(r:List Int)(w:World)(h:rV.f k a0 a1 a2=some r):
 Calls Try.prog 133 #[.int .i64 a0, .int .i64 a1, .int .i64 a2] w λe w'=>∃X:Value,e= .returned (X)/\Kd.R (Kd.int .i64) 3 w' w.heap.size (λ_=>True) X r/\Below w.heap.size w w':=by
 have HB:=zk (Below.refl w.heap.size w)
 have H:=h
 clear h
 unfold rV.f at H
 replace H:=zg H
 obtain⟨c4,H⟩:=H
 have L:=eq_true c4
 have J:=decide_eq_true c4
 clear c4
 replace H:=zg H
 obtain⟨c5,H⟩:=H
 have G:=eq_true c5
 have K:=decide_eq_true c5
 clear c5
 obtain⟨T,g⟩:∃y_:List Int,y_=(List.replicate (a2:Int).toNat 0):=⟨_,rfl⟩
 rw[<-g] at H
 have l:=zk g
 clear g
 have H':=zk H
 clear H
 go_enter Try.func133,Try.ntmps133
 go_wp2_with (first|((with_reducible refine jc (N:=10) rfl ?_);refine Kd.ug (Kd.int .i64) _ 3 rfl (N:=10) rfl 22 _ _ rfl a2 rfl rfl Try.underlying22 (.int .i64 0) 8 info3 rfl (by decide) (by omega) 0 (ok:=λ_=>True) (je:=λ_=>True) rfl (λ_ hk=>hk) trivial zd (Nat.le_trans (Nat.mul_le_mul_right _ (zd:a2.toNat<=35184372088832)) (by omega)) (Below.refl _ _) (Nat.le_refl _) ?_;intro I w6 s hb jw jv;clear jw jv;(first|rw[<-l.out] at s|(simp only[Int.reduceToNat] at s;rw[<-l.out] at s));have z:=jm s HB;replace HB:=yS HB hb;clear hb s))
 go_loopg [0,8] k (λkq v0 v8 w'=>∃(b:Int) (c:List Int) (a:Int),v0= .int .i64 b/\v8= .int .i64 a/\dw (rV.l0 kq b a1 a2 c a=some r)/\dw (kq<=k)/\dw (Kd.R (Kd.int .i64) 3 w' w.heap.size (λ_=>True) I c)/\dw (Below w.heap.size w w'))
 case atStart=>exact⟨(a0),(T),(0),zF,zF,H',⟨Nat.le_refl _⟩,⟨zR z.out⟩,⟨zB HB.out⟩⟩
 clear H'
 (try clear L J G K)
 obtain⟨b,c,a,rfl,rfl,HA,a3,d,HB⟩:=hrel
 cases gk with|zero=>exact absurd HA.out (by simp [rV.l0])|succ k1=>?_
 have H:=HA.out
 clear HA
 simp only[rV.l0] at H
 replace H:=jB H
 rcases H with⟨W,H⟩|⟨W,H⟩
 ·replace H:=zh H
  obtain⟨c9,H⟩:=H
  have a5:=beq_eq_false_iff_ne.mpr c9
  have a7:=bne_iff_ne.mpr c9
  replace H:=iV H
  obtain⟨Y,H⟩:=H
  replace H:=iV H
  obtain⟨Z,H⟩:=H
  obtain⟨q,j⟩:∃y_:List Int,y_=(c.set (a:Int).toNat (Int.tmod b a1)):=⟨_,rfl⟩
  rw[<-j] at H
  have o:=zk j
  clear j
  have H':=zk H
  clear H
  have U:0<=(a:Int):=zd
  have M:(a:Int)<((c.length:Int):Int):=zd
  obtain⟨n,P,u,x,E,a4,y⟩:=Kd.qO d.out (by omega)
  (first|cases u|(injection u with iW kL kM;(first|subst iW|(injection iW with iW;subst iW));subst kM;clear kL))
  have D:=zk x
  have a6:=zk y
  clear x E y
  obtain⟨O,B⟩:=Kd.nT 0 d.out (a:Int) U M
  replace U:=eq_true U
  replace M:=eq_true M
  have m:=Kd.qY d.out (a:Int) (Int.tmod b a1)
  go_wp2_with (first|((with_reducible refine qM (t:=3) (p:=21) rfl ?_);refine qJ (t:=3) (p:=21) (v:=?Q_) (w1:=(wr.setCell ⟨n,(a:Int).toNat,none⟩ (.int .i64 (Int.tmod b a1)))) ?hg ?ho ?hn ?hr ?_;(case ho=>rfl);(case hg=>rfl);(case hn=>rfl);(case hr=>first|(go_simp;done)|(go_simp;rfl));intro A hw;have hg:wr.grownBy A (some n):=(by rw[hw];exact m.2);have jY:Kd.R (Kd.int .i64) 3 A w.heap.size (λ_=>True) (.slice (some ⟨n,0,none⟩) c.length P) q:=(by rw[hw,o.out];exact m.1);clear m;replace d:=zk (jY);replace HB:=zk ((by rw[hw];exact lS (HB.out) D.out:Below w.heap.size w A));clear hg hw jY))
  go_roundg k1
  case measure=>have:=a3.out;omega
  case rel=>exact⟨(wrap64 (Int.tdiv b a1)),(q),(wrap64 (a+1)),zF,zF,H',⟨kP a3⟩,⟨zR d.out⟩,⟨zB HB.out⟩⟩
 obtain rfl:=Option.some.inj H
 go_wp2
 go_ret
 exact⟨_,zE,zR d.out,zB HB.out⟩
theorem nV.calls(k:Nat)(A0:Option Addr)(c0:Nat)(l0:List Int)(a1:Int)(r:Bool)(w:World)(x:Kd.C (Kd.int .i64) w A0 l0.length l0)(y:l0.length<=c0)(h:nV.f k l0 a1=some r):
 Calls Try.prog 110 #[.slice A0 l0.length c0, .int .i64 a1] w λe w'=>e= .returned (.bool r)/\Below w.heap.size w w':=by
 have u:=zk x
 have v:=zk y
 clear x y
 have HB:=zk (Below.refl w.heap.size w)
 have H:=h
 clear h
 unfold nV.f at H
 have H':=zk H
 clear H
 go_enter Try.func110,Try.ntmps110
 go_wp2
 go_loopg [5,6] k (λkq v5 v6 w'=>∃(g:Int) (b:Int),v5= .int .i64 g/\v6= .int .i64 b/\dw (nV.l0 kq l0 a1 g b=some r)/\dw (kq<=k)/\dw (Below w.heap.size w w'))
 case atStart=>exact⟨(1),(1),zF,zF,H',⟨Nat.le_refl _⟩,⟨zB HB.out⟩⟩
 clear H'
 obtain⟨g,b,rfl,rfl,HA,n,HB⟩:=hrel
 cases gk with|zero=>exact absurd HA.out (by simp [nV.l0])|succ k1=>?_
 have H:=HA.out
 clear HA
 simp only[nV.l0] at H
 replace H:=jB H
 rcases H with⟨l,H⟩|⟨l,H⟩
 ·have H':=zk H
  clear H
  go_wp2
  go_loopg [7] k1 (λkq v7 w'=>∃(c:Int),v7= .int .i64 c/\dw (nV.l1 kq l0 a1 (wrap64 (g*a1)) b c=some r)/\dw (kq<=k1)/\dw (Below w.heap.size w w'))
  case atStart=>exact⟨(0),zF,H',⟨Nat.le_refl _⟩,⟨zB HB.out⟩⟩
  clear H'
  (try clear l)
  obtain⟨c,rfl,HA,m,HB⟩:=hrel
  cases gk with|zero=>exact absurd HA.out (by simp [nV.l1])|succ k2=>?_
  have H:=HA.out
  clear HA
  simp only[nV.l1] at H
  replace H:=jB H
  rcases H with⟨s,H⟩|⟨s,H⟩
  ·replace H:=zb H
   obtain⟨d,A5,H⟩:=H
   replace H:=zb H
   obtain⟨q,A6,H⟩:=H
   by_cases c7:q=true
   ·subst c7
    rw[if_pos rfl] at H
    obtain rfl:=Option.some.inj H
    go_wp2_with (first|((with_reducible refine gC 133 ?_);refine zG (some 26) Try.func133 #[.int .i64 c, .int .i64 a1, .int .i64 b] ?_;(with_reducible refine(rV.calls k2 c a1 b d _ A5.out).mono ?_);rintro e w8 ⟨p,rfl,j,hb⟩;refine⟨_,rfl,?_⟩;have a:=jm j HB;replace HB:=yS HB hb;(try clear hb j);obtain⟨A,z,rfl⟩:=Kd.iD a.out)|((with_reducible refine gC 132 ?_);refine zG (some 29) Try.func132 #[.slice A d.length z, .slice A0 l0.length c0, .int .i64 a1] ?_;(with_reducible refine(kN.calls k2 _ _ d _ _ l0 a1 true _ ?ig ?ik ?iF ?iE A6.out).mono ?_);(case ig=>exact zC (Kd.iw a.out).2.2);(case ik=>exact(Kd.iw a.out).2.1);(case iF=>exact zC (Kd.iR u.out HB.out));(case iE=>exact v.out);rintro e E ⟨rfl,hb⟩;refine⟨_,rfl,?_⟩;replace a:=jl a hb;replace HB:=yS HB hb;(try clear hb)))
    go_ret
    exact⟨zE,zB HB.out⟩
   replace c7:=Bool.eq_false_iff.mpr c7
   subst c7
   rw[if_neg Bool.false_ne_true] at H
   have H':=zk H
   clear H
   go_wp2_with (first|((with_reducible refine gC 133 ?_);refine zG (some 26) Try.func133 #[.int .i64 c, .int .i64 a1, .int .i64 b] ?_;(with_reducible refine(rV.calls k2 c a1 b d _ A5.out).mono ?_);rintro e D ⟨p,rfl,j,hb⟩;refine⟨_,rfl,?_⟩;have a:=jm j HB;replace HB:=yS HB hb;(try clear hb j);obtain⟨t,o,rfl⟩:=Kd.iD a.out)|((with_reducible refine gC 132 ?_);refine zG (some 29) Try.func132 #[.slice t d.length o, .slice A0 l0.length c0, .int .i64 a1] ?_;(with_reducible refine(kN.calls k2 _ _ d _ _ l0 a1 false _ ?ig ?ik ?iF ?iE A6.out).mono ?_);(case ig=>exact zC (Kd.iw a.out).2.2);(case ik=>exact(Kd.iw a.out).2.1);(case iF=>exact zC (Kd.iR u.out HB.out));(case iE=>exact v.out);rintro e B ⟨rfl,hb⟩;refine⟨_,rfl,?_⟩;replace a:=jl a hb;replace HB:=yS HB hb;(try clear hb)))
   go_roundg k2
   case measure=>have:=n.out;have:=m.out;omega
   case rel=>exact⟨(wrap64 (c+1)),zF,H',⟨lW n m⟩,⟨zB HB.out⟩⟩
  have H':=zk H
  clear H
  go_wp2
  go_roundg k2
  case measure=>have:=n.out;have:=m.out;omega
  case rel=>exact⟨((wrap64 (g*a1))),(wrap64 (b+1)),zF,zF,H',⟨lW n m⟩,⟨zB HB.out⟩⟩
 obtain rfl:=Option.some.inj H
 go_wp2
 go_ret
 exact⟨zE,zB HB.out⟩
theorem o9.calls(k:Nat)(d:Int)(o:Int)(v:Option Addr)(u:Nat)(c:List Int)(r:Int)(w:World)(a8:Kd.C (Kd.int .i64) w v c.length c)(a4:c.length<=u)(h:o9.f k d o c=some r):
 Calls Try.prog 67 #[.agg #[.int .i64 d, .int .i64 o, .slice v c.length u]] w λe w'=>e= .returned (.int .i64 r)/\Below w.heap.size w w':=by
 have bG:=Try.underlying24
 have j:=zk a8
 have n:=zk a4
 clear a8 a4
 have HB:=zk (Below.refl w.heap.size w)
 have H:=h
 clear h
 unfold o9.f at H
 have bb:=zk H
 clear H
 go_enter Try.func67,Try.ntmps67
 go_upto_region 1 with(first|((with_reducible refine jc (N:=1) rfl ?_);refine jM ?hg (N:=1) ?hd (cs:= #[.int .i64 d, .int .i64 o, .slice v c.length u]) (t:=24) ?hr ?_;(case hd=>rfl);(case hg=>rfl);(case hr=>first|(go_simp;done)|(go_simp;rfl));intro G hg w3 hbox hb;have a:=zk (hbox);have a3:=yg hg HB;have b:=yg hg HB;replace HB:=yS HB hb;clear hb hbox hg))
 repeat(go_quiet (first|((with_reducible refine jc (N:=1) rfl ?_);refine jM ?hg (N:=1) ?hd (cs:= #[.int .i64 d, .int .i64 o, .slice v c.length u]) (t:=24) ?hr ?_;(case hd=>rfl);(case hg=>rfl);(case hr=>first|(go_simp;done)|(go_simp;rfl));intro G hg w3 hbox hb;have a:=zk (hbox);have a3:=yg hg HB;have b:=yg hg HB;replace HB:=yS HB hb;clear hb hbox hg));go_upto_region 1 with(first|((with_reducible refine jc (N:=1) rfl ?_);refine jM ?hg (N:=1) ?hd (cs:= #[.int .i64 d, .int .i64 o, .slice v c.length u]) (t:=24) ?hr ?_;(case hd=>rfl);(case hg=>rfl);(case hr=>first|(go_simp;done)|(go_simp;rfl));intro G hg w3 hbox hb;have D:=yS HB hb;have z:=zk (hbox);have bB:=yg hg HB;have bz:=yg hg HB;clear HB;have HB:=D;have a:=z;have a3:=bB;have b:=bz;clear D z bB bz;clear hb hbox hg)))
 (try simp only[Act.put,List.setIfInBounds_toArray,List.set_cons_zero,List.set_cons_succ])
 go_cut [12] (λbF wc=>∃(kq:Nat) (L:Bool),bF= .bool L/\dw (o9.j0 kq L d o c=some r)/\dw (kq<=k)/\dw (wc.heap[G]?=some (.cells #[.int .i64 d, .int .i64 o,(.slice v c.length u)] 24 (0,0)))/\dw (Below w.heap.size w wc))
 case first=>
  have H:=bb.out
  clear bb
  replace H:=zb H
  obtain⟨s,A4,H⟩:=H
  replace H:=zi H
  rcases H with⟨c5,H⟩|⟨c5,H⟩
  ·have T:=beq_iff_eq.mpr c5
   have aa:=bne_eq_false_iff_eq.mpr c5
   clear c5
   (first|rw[T]|(simp only[iI,iP];rw[T])|rw[aa]|skip)
   have H':=zk H
   clear H
   obtain⟨bo,ba,be,bf,bh,bn⟩:=ja a
   go_wp2_with (first|(go_at_call 24;(with_reducible refine(kQ.calls k d o _ _ c s _ ?ig ?ik A4.out).mono ?_);(case ig=>exact zC (Kd.iR j.out HB.out));(case ik=>exact n.out);rintro e w7 ⟨rfl,hb⟩;replace a:=yK a hb;replace HB:=jg HB b hb;(try clear hb)))
   repeat(go_quiet (first|(go_at_call 24;(with_reducible refine(kQ.calls k d o _ _ c s _ ?ig ?ik A4.out).mono ?_);(case ig=>exact zC (Kd.iR j.out HB.out));(case ik=>exact n.out);rintro e w7 ⟨rfl,hb⟩;replace a:=yK a hb;replace HB:=jg HB b hb;(try clear hb)));try go_wp2_with (first|(go_at_call 24;(with_reducible refine(kQ.calls k d o _ _ c s _ ?ig ?ik A4.out).mono ?_);(case ig=>exact zC (Kd.iR j.out HB.out));(case ik=>exact n.out);rintro e w7 ⟨rfl,hb⟩;have D:=yK a hb;have z:=jg HB b hb;clear a;clear HB;have a:=D;have HB:=z;clear D z;(try clear hb))))
   go_meet
   case rel=>exact⟨_,(true),zF,H',⟨zO⟩,⟨by(with_reducible repeat(first|refine iM ?_ _|refine iC ?_|refine iL ?_ _));exact a.out⟩,⟨iH HB.out b.out⟩⟩
  have T:=beq_eq_false_iff_ne.mpr c5
  have aa:=bne_iff_ne.mpr c5
  (first|rw[T]|(simp only[iI,iP];rw[T])|rw[aa]|skip)
  replace H:=zb H
  obtain⟨O,A8,H⟩:=H
  have H':=zk H
  clear H
  obtain⟨bk,bc,bj,bq,bg,bi⟩:=ja a
  go_wp2_with (first|(go_at_call 24;(with_reducible refine(kQ.calls k d o _ _ c s _ ?ig ?ik A4.out).mono ?_);(case ig=>exact zC (Kd.iR j.out HB.out));(case ik=>exact n.out);rintro e bD ⟨rfl,hb⟩;replace a:=yK a hb;replace HB:=jg HB b hb;(try clear hb);obtain⟨J,M,A,K,B,I⟩:=ja a)|(go_at_call 109;(with_reducible refine(sJ.calls k d O _ A8.out).mono ?_);rintro e w' ⟨rfl,⟨nd,rfl⟩⟩;(try first|exact⟨rfl,_,World.drewN_drewN _ _ _⟩|exact⟨rfl,_,Eq.trans (World.drewN_drewN _ _ _) (congrArg (World.drewN _) (Nat.add_assoc _ _ _))⟩)))
  repeat(go_quiet (first|(go_at_call 24;(with_reducible refine(kQ.calls k d o _ _ c s _ ?ig ?ik A4.out).mono ?_);(case ig=>exact zC (Kd.iR j.out HB.out));(case ik=>exact n.out);rintro e bD ⟨rfl,hb⟩;replace a:=yK a hb;replace HB:=jg HB b hb;(try clear hb);obtain⟨J,M,A,K,B,I⟩:=ja a)|(go_at_call 109;(with_reducible refine(sJ.calls k d O _ A8.out).mono ?_);rintro e w' ⟨rfl,⟨nd,rfl⟩⟩;(try first|exact⟨rfl,_,World.drewN_drewN _ _ _⟩|exact⟨rfl,_,Eq.trans (World.drewN_drewN _ _ _) (congrArg (World.drewN _) (Nat.add_assoc _ _ _))⟩)));try go_wp2_with (first|(go_at_call 24;(with_reducible refine(kQ.calls k d o _ _ c s _ ?ig ?ik A4.out).mono ?_);(case ig=>exact zC (Kd.iR j.out HB.out));(case ik=>exact n.out);rintro e bD ⟨rfl,hb⟩;have D:=yK a hb;have z:=jg HB b hb;clear a;clear HB;have a:=D;have HB:=z;clear D z;(try clear hb);obtain⟨J,M,A,K,B,I⟩:=ja a)|(go_at_call 109;(with_reducible refine(sJ.calls k d O _ A8.out).mono ?_);rintro e w' ⟨rfl,⟨nd,rfl⟩⟩;(try first|exact⟨rfl,_,World.drewN_drewN _ _ _⟩|exact⟨rfl,_,Eq.trans (World.drewN_drewN _ _ _) (congrArg (World.drewN _) (Nat.add_assoc _ _ _))⟩))))
  go_meet
  case rel=>exact⟨_,(!O),zF,H',⟨zO⟩,⟨by(with_reducible repeat(first|refine iM ?_ _|refine iC ?_|refine iL ?_ _));exact a.out⟩,⟨iH HB.out b.out⟩⟩
 clear bb
 obtain⟨kq,L,rfl,HA,bw,a,HB⟩:=hcut
 cases kq with|zero=>exact absurd HA.out (by simp [o9.j0])|succ bv=>?_
 have H:=HA.out
 clear HA
 simp only[o9.j0] at H
 by_cases al:L=true
 ·subst al
  rw[if_pos rfl] at H
  obtain rfl:=Option.some.inj H
  go_wp2
  repeat(go_quiet (fail);try go_wp2)
  go_ret
  exact⟨zE,iH HB.out b.out⟩
 replace al:=Bool.eq_false_iff.mpr al
 subst al
 rw[if_neg Bool.false_ne_true] at H
 replace H:=zi H
 rcases H with⟨ab,H⟩|⟨ab,H⟩
 ·have a2:=beq_iff_eq.mpr ab
  have a6:=bne_eq_false_iff_eq.mpr ab
  clear ab
  replace H:=zi H
  rcases H with⟨ac,H⟩|⟨ac,H⟩
  ·have aj:=beq_iff_eq.mpr ac
   have ah:=bne_eq_false_iff_eq.mpr ac
   clear ac
   obtain rfl:=Option.some.inj H
   obtain⟨aJ,aH,ar,aG,aV,au⟩:=ja a
   go_wp2
   repeat(go_quiet (fail);try go_wp2)
   go_ret
   exact⟨zE,iH HB.out b.out⟩
  have aj:=beq_eq_false_iff_ne.mpr ac
  have ah:=bne_iff_ne.mpr ac
  have bu:¬(c=[]):=λh_=>ac (by rw[h_];rfl)
  obtain rfl:=Option.some.inj H
  obtain⟨aQ,ao,b8,az,aA,aF⟩:=ja a
  go_wp2
  repeat(go_quiet (fail);try go_wp2)
  go_ret
  exact⟨zE,iH HB.out b.out⟩
 have a2:=beq_eq_false_iff_ne.mpr ab
 have a6:=bne_iff_ne.mpr ab
 replace H:=zi H
 rcases H with⟨ad,H⟩|⟨ad,H⟩
 ·have a7:=beq_iff_eq.mpr ad
  have a5:=bne_eq_false_iff_eq.mpr ad
  clear ad
  have H':=zk H
  clear H
  obtain⟨a1,Y,W,Z,a0,X⟩:=ja a
  go_wp2
  repeat(go_quiet (fail);try go_wp2)
  go_loopg [3] bv (λkq v3 w'=>∃(l:Int),v3= .int .i64 l/\dw (o9.l0 kq l d o c=some r)/\dw (kq<=bv)/\dw (w'.heap[G]?=some (.cells #[.int .i64 d, .int .i64 o,(.slice v c.length u)] 24 (0,0)))/\dw (Below w.heap.size w w'))
  case atStart=>exact⟨(0),zF,H',⟨Nat.le_refl _⟩,⟨by(with_reducible repeat(first|refine iM ?_ _|refine iC ?_|refine iL ?_ _));exact a.out⟩,⟨iH HB.out b.out⟩⟩
  clear H'
  (try clear al ab a2 a6 a7 a5 a1 Y W Z a0 X)
  obtain⟨l,rfl,HA,bA,a,HB⟩:=hrel
  cases gk with|zero=>exact absurd HA.out (by simp [o9.l0])|succ k2=>?_
  have H:=HA.out
  clear HA
  simp only[o9.l0] at H
  replace H:=jB H
  rcases H with⟨ak,H⟩|⟨ak,H⟩
  ·replace H:=iV H
   obtain⟨bx,H⟩:=H
   replace H:=iV H
   obtain⟨bE,H⟩:=H
   replace H:=jB H
   rcases H with⟨af,H⟩|⟨af,H⟩
   ·obtain rfl:=Option.some.inj H
    obtain⟨aC,an,aX,aM,aO,b9⟩:=ja a
    have p:0<=(l:Int):=zd
    have q:l<(c.length:Int):=zd
    obtain⟨E,P,g⟩:=Kd.jG j.out l p q
    cases P
    replace g:=(HB.out.cell (World.block_lt_of_cell? w _ g)).trans g
    replace p:=eq_true p
    replace q:=eq_true q
    go_wp2
    repeat(go_quiet (fail);try go_wp2)
    go_ret
    exact⟨zE,iH HB.out b.out⟩
   replace H:=zi H
   rcases H with⟨ag,H⟩|⟨ag,H⟩
   ·have ai:decide (d<=(rd c l))=true:=decide_eq_true ag
    clear ag
    obtain rfl:=Option.some.inj H
    obtain⟨aW,b2,ay,aP,a_,ax⟩:=ja a
    have p:0<=(l:Int):=zd
    have q:l<(c.length:Int):=zd
    obtain⟨E,P,g⟩:=Kd.jG j.out l p q
    cases P
    replace g:=(HB.out.cell (World.block_lt_of_cell? w _ g)).trans g
    replace p:=eq_true p
    replace q:=eq_true q
    have y:0<=(l:Int):=zd
    have x:l<(c.length:Int):=zd
    obtain⟨U,a9,m⟩:=Kd.jG j.out l y x
    obtain rfl:E=U:=(by injection a9)
    replace m:=(HB.out.cell (World.block_lt_of_cell? w _ m)).trans m
    replace y:=eq_true y
    replace x:=eq_true x
    go_wp2
    repeat(go_quiet (fail);try go_wp2)
    go_ret
    exact⟨zE,iH HB.out b.out⟩
   have ai:decide (d<=(rd c l))=false:=decide_eq_false ag
   clear ag
   have H':=zk H
   clear H
   obtain⟨aY,aR,b1,ap,aD,aq⟩:=ja a
   have p:0<=(l:Int):=zd
   have q:l<(c.length:Int):=zd
   obtain⟨E,P,g⟩:=Kd.jG j.out l p q
   cases P
   replace g:=(HB.out.cell (World.block_lt_of_cell? w _ g)).trans g
   replace p:=eq_true p
   replace q:=eq_true q
   have y:0<=(l:Int):=zd
   have x:l<(c.length:Int):=zd
   obtain⟨U,a9,m⟩:=Kd.jG j.out l y x
   obtain rfl:E=U:=(by injection a9)
   replace m:=(HB.out.cell (World.block_lt_of_cell? w _ m)).trans m
   replace y:=eq_true y
   replace x:=eq_true x
   go_wp2
   repeat(go_quiet (fail);try go_wp2)
   go_roundg k2
   case measure=>have:=bw.out;have:=bA.out;omega
   case rel=>exact⟨(wrap64 (l+1)),zF,H',⟨lW bw bA⟩,⟨by(with_reducible repeat(first|refine iM ?_ _|refine iC ?_|refine iL ?_ _));exact a.out⟩,⟨iH HB.out b.out⟩⟩
  replace H:=zb H
  obtain⟨br,ae,H⟩:=H
  by_cases b4:br=true
  ·subst b4
   rw[if_pos rfl] at H
   obtain rfl:=Option.some.inj H
   obtain⟨b5,aU,aN,am,aw,aL⟩:=ja a
   go_wp2_with (first|(go_at_call 110;(with_reducible refine(nV.calls k2 _ _ c d true _ ?ig ?ik ae.out).mono ?_);(case ig=>exact zC (Kd.iR j.out HB.out));(case ik=>exact n.out);rintro e bC ⟨rfl,hb⟩;replace a:=yK a hb;replace HB:=jg HB b hb;(try clear hb)))
   repeat(go_quiet (first|(go_at_call 110;(with_reducible refine(nV.calls k2 _ _ c d true _ ?ig ?ik ae.out).mono ?_);(case ig=>exact zC (Kd.iR j.out HB.out));(case ik=>exact n.out);rintro e bC ⟨rfl,hb⟩;replace a:=yK a hb;replace HB:=jg HB b hb;(try clear hb)));try go_wp2_with (first|(go_at_call 110;(with_reducible refine(nV.calls k2 _ _ c d true _ ?ig ?ik ae.out).mono ?_);(case ig=>exact zC (Kd.iR j.out HB.out));(case ik=>exact n.out);rintro e bC ⟨rfl,hb⟩;have D:=yK a hb;have z:=jg HB b hb;clear a;clear HB;have a:=D;have HB:=z;clear D z;(try clear hb))))
   go_ret
   exact⟨zE,iH HB.out b.out⟩
  replace b4:=Bool.eq_false_iff.mpr b4
  subst b4
  rw[if_neg Bool.false_ne_true] at H
  obtain rfl:=Option.some.inj H
  obtain⟨av,aE,b7,aB,b0,aT⟩:=ja a
  go_wp2_with (first|(go_at_call 110;(with_reducible refine(nV.calls k2 _ _ c d false _ ?ig ?ik ae.out).mono ?_);(case ig=>exact zC (Kd.iR j.out HB.out));(case ik=>exact n.out);rintro e bs ⟨rfl,hb⟩;replace a:=yK a hb;replace HB:=jg HB b hb;(try clear hb)))
  repeat(go_quiet (first|(go_at_call 110;(with_reducible refine(nV.calls k2 _ _ c d false _ ?ig ?ik ae.out).mono ?_);(case ig=>exact zC (Kd.iR j.out HB.out));(case ik=>exact n.out);rintro e bs ⟨rfl,hb⟩;replace a:=yK a hb;replace HB:=jg HB b hb;(try clear hb)));try go_wp2_with (first|(go_at_call 110;(with_reducible refine(nV.calls k2 _ _ c d false _ ?ig ?ik ae.out).mono ?_);(case ig=>exact zC (Kd.iR j.out HB.out));(case ik=>exact n.out);rintro e bs ⟨rfl,hb⟩;have D:=yK a hb;have z:=jg HB b hb;clear a;clear HB;have a:=D;have HB:=z;clear D z;(try clear hb))))
  go_ret
  exact⟨zE,iH HB.out b.out⟩
 have a7:=beq_eq_false_iff_ne.mpr ad
 have a5:=bne_iff_ne.mpr ad
 obtain rfl:=Option.some.inj H
 obtain⟨aZ,aS,b6,aI,b3,aK⟩:=ja a
 go_wp2
 repeat(go_quiet (fail);try go_wp2)
 go_ret
 exact⟨zE,iH HB.out b.out⟩
theorem ru.calls(k:Nat)(A0:Option Addr)(c0:Nat)(l0:List Int)(A1:Option Addr)(c1:Nat)(l1:List Int)(r:Int)(w:World)(A:Kd.C (Kd.int .i64) w A0 l0.length l0)(D:l0.length<=c0)(B:Kd.C (Kd.int .i64) w A1 l1.length l1)(y:l1.length<=c1)(h:ru.f k l0 l1=some r):
 Calls Try.prog 61 #[.slice A0 l0.length c0, .slice A1 l1.length c1] w λe w'=>e= .returned (.int .i64 r)/\jh w w':=by
 have x:=zk A
 have I:=zk D
 clear A D
 have z:=zk B
 have J:=zk y
 clear B y
 have H:=h
 clear h
 unfold ru.f at H
 have H':=zk H
 clear H
 go_enter Try.func61,Try.ntmps61
 go_wp2
 repeat(go_quiet (fail);try go_wp2)
 go_loopg [5,6] k (λkq v5 v6 w'=>∃(j:Int) (a:Int),v5= .int .i64 j/\v6= .int .i64 a/\dw (ru.l0 kq l0 l1 j a=some r)/\dw (kq<=k)/\jh w w')
 case atStart=>exact⟨(0),(0),zF,zF,H',⟨Nat.le_refl _⟩,by repeat(first|exact jh.refl _|apply jh.step)⟩
 clear H'
 obtain⟨j,a,rfl,rfl,HA,s,⟨m1,rfl⟩⟩:=hrel
 cases gk with|zero=>exact absurd HA.out (by simp [ru.l0])|succ k1=>?_
 have H:=HA.out
 clear HA
 simp only[ru.l0] at H
 replace H:=jB H
 rcases H with⟨v,H⟩|⟨v,H⟩
 ·replace H:=iV H
  obtain⟨G,H⟩:=H
  replace H:=iV H
  obtain⟨E,H⟩:=H
  replace H:=zi H
  rcases H with⟨c6,H⟩|⟨c6,H⟩
  ·have t:=beq_iff_eq.mpr c6
   have u:=bne_eq_false_iff_eq.mpr c6
   clear c6
   have H':=zk H
   clear H
   have g:0<=(a:Int):=zd
   have d:a<(l0.length:Int):=zd
   obtain⟨p,n,l⟩:=Kd.jG x.out a g d
   cases n
   replace g:=eq_true g
   replace d:=eq_true d
   have c:0<=(a:Int):=zd
   have b:a<(l1.length:Int):=zd
   obtain⟨q,o,m⟩:=Kd.jG z.out a c b
   cases o
   replace c:=eq_true c
   replace b:=eq_true b
   go_wp2
   repeat(go_quiet (fail);try go_wp2)
   go_roundg k1
   case measure=>have:=s.out;omega
   case rel=>exact⟨(j),(wrap64 (a+1)),zF,zF,H',⟨kP s⟩,by repeat(first|exact jh.refl _|apply jh.step)⟩
  have t:=beq_eq_false_iff_ne.mpr c6
  have u:=bne_iff_ne.mpr c6
  have H':=zk H
  clear H
  have g:0<=(a:Int):=zd
  have d:a<(l0.length:Int):=zd
  obtain⟨p,n,l⟩:=Kd.jG x.out a g d
  cases n
  replace g:=eq_true g
  replace d:=eq_true d
  have c:0<=(a:Int):=zd
  have b:a<(l1.length:Int):=zd
  obtain⟨q,o,m⟩:=Kd.jG z.out a c b
  cases o
  replace c:=eq_true c
  replace b:=eq_true b
  go_wp2
  repeat(go_quiet (fail);try go_wp2)
  go_roundg k1
  case measure=>have:=s.out;omega
  case rel=>exact⟨(wrap64 (j+1)),(wrap64 (a+1)),zF,zF,H',⟨kP s⟩,by repeat(first|exact jh.refl _|apply jh.step)⟩
 obtain rfl:=Option.some.inj H
 go_wp2
 repeat(go_quiet (fail);try go_wp2)
 go_ret
 exact⟨zF,by repeat(first|exact jh.refl _|apply jh.step)⟩
theorem sN.calls(k:Nat)(A0:Option Addr)(c0:Nat)(l0:List (List Int))(A1:Option Addr)(c1:Nat)(l1:List Int)(r:Bool)(w:World)(B:Kd.C (Kd.slice 3 (Kd.int .i64)) w A0 l0.length l0)(G:l0.length<=c0)(E:Kd.C (Kd.int .i64) w A1 l1.length l1)(y:l1.length<=c1)(h:sN.f k l0 l1=some r):
 Calls Try.prog 111 #[.slice A0 l0.length c0, .slice A1 l1.length c1] w λe w'=>e= .returned (.bool r)/\jh w w':=by
 have x:=zk B
 have J:=zk G
 clear B G
 have z:=zk E
 have D:=zk y
 clear E y
 have H:=h
 clear h
 unfold sN.f at H
 have H':=zk H
 clear H
 go_enter Try.func111,Try.ntmps111
 go_wp2
 go_loopg [5] k (λkq v5 w'=>∃(b:Int),v5= .int .i64 b/\dw (sN.l0 kq l0 l1 b=some r)/\dw (kq<=k)/\jh w w')
 case atStart=>exact⟨(0),zF,H',⟨Nat.le_refl _⟩,by repeat(first|exact jh.refl _|apply jh.step)⟩
 clear H'
 obtain⟨b,rfl,HA,A,⟨m1,rfl⟩⟩:=hrel
 cases gk with|zero=>exact absurd HA.out (by simp [sN.l0])|succ k1=>?_
 have H:=HA.out
 clear HA
 simp only[sN.l0] at H
 replace H:=jB H
 rcases H with⟨v,H⟩|⟨v,H⟩
 ·replace H:=iV H
  obtain⟨I,H⟩:=H
  replace H:=zb H
  obtain⟨s,A5,H⟩:=H
  replace H:=zi H
  rcases H with⟨c6,H⟩|⟨c6,H⟩
  ·have t:=beq_iff_eq.mpr c6
   have u:=bne_eq_false_iff_eq.mpr c6
   clear c6
   obtain rfl:=Option.some.inj H
   have n:0<=(b:Int):=zd
   have m:b<(l0.length:Int):=zd
   obtain⟨q,j,l,p,o,a,c⟩:=rH x.out b n m
   cases p
   have d:=zk c
   have g:=zk a
   clear c a
   replace n:=eq_true n
   replace m:=eq_true m
   go_wp2_with (first|((with_reducible refine gC 61 ?_);refine zG (some 17) Try.func61 #[.slice j (jD l0 b).length l, .slice A1 l1.length c1] ?_;(with_reducible refine(ru.calls k1 _ _ (jD l0 b) _ _ l1 s _ ?ig ?ik ?iF ?iE A5.out).mono ?_);(case ig=>exact zC d.out);(case ik=>exact g.out);(case iF=>exact zC z.out);(case iE=>exact D.out);rintro e w' ⟨rfl,⟨nd,rfl⟩⟩;refine⟨_,rfl,?_⟩))
   go_ret
   exact⟨zF,by repeat(first|exact jh.refl _|apply jh.step)⟩
  have t:=beq_eq_false_iff_ne.mpr c6
  have u:=bne_iff_ne.mpr c6
  have H':=zk H
  clear H
  have n:0<=(b:Int):=zd
  have m:b<(l0.length:Int):=zd
  obtain⟨q,j,l,p,o,a,c⟩:=rH x.out b n m
  cases p
  have d:=zk c
  have g:=zk a
  clear c a
  replace n:=eq_true n
  replace m:=eq_true m
  go_wp2_with (first|((with_reducible refine gC 61 ?_);refine zG (some 17) Try.func61 #[.slice j (jD l0 b).length l, .slice A1 l1.length c1] ?_;(with_reducible refine(ru.calls k1 _ _ (jD l0 b) _ _ l1 s _ ?ig ?ik ?iF ?iE A5.out).mono ?_);(case ig=>exact zC d.out);(case ik=>exact g.out);(case iF=>exact zC z.out);(case iE=>exact D.out);rintro e w' ⟨rfl,⟨nd,rfl⟩⟩;refine⟨_,rfl,?_⟩))
  go_roundg k1
  case measure=>have:=A.out;omega
  case rel=>exact⟨(wrap64 (b+1)),zF,H',⟨kP A⟩,by repeat(first|exact jh.refl _|apply jh.step)⟩
 obtain rfl:=Option.some.inj H
 go_wp2
 go_ret
 exact⟨zF,by repeat(first|exact jh.refl _|apply jh.step)⟩
def qK.T1:Bool×List (List Nat×List Nat):=(true,[([],[]),([],[]),([0,1],[0,1]),([],[]),([3],[3]),([],[]),([5],[5]),([2,4,6,2],[2,4,6]),([7,7,0,1,2,3,4,5,6,7],[7])])
def qK.B1:List Nat:=[0,0,3,0,8,0,32,127,255]
theorem qK.HY:lM .any (opsOf Try.f134 1)=qK.T1:=by kernel_rfl
theorem qK.JF:qh qK.T1.2 qK.B1=true:=by kernel_rfl
theorem qK.calls(k:Nat)(c:Int)(d:Int)(o:Option Addr)(j:Nat)(b:List Int)(a1:Int)(r:List Int)(w:World)(p:Kd.C (Kd.int .i64) w o b.length b)(q:b.length<=j)(h:qK.f k c d b a1=some r):
 Calls Try.prog 134 #[.agg #[.int .i64 c, .int .i64 d, .slice o b.length j], .int .i64 a1] w λe w'=>∃z:Value,e= .returned (z)/\Kd.R (Kd.int .i64) 3 w' w.heap.size (λ_=>True) z r/\Below w.heap.size w w':=by
 have D:=Try.underlying24
 have u:=zk p
 have x:=zk q
 clear p q
 have HB:=zk (Below.refl w.heap.size w)
 have H:=h
 clear h
 unfold qK.f at H
 replace H:=zb H
 obtain⟨m,A3,H⟩:=H
 replace H:=zb H
 obtain⟨s,A4,H⟩:=H
 obtain rfl:=Option.some.inj H
 go_enter Try.func134,Try.ntmps134
 try go_wp2_with (first|((with_reducible refine jc (N:=2) rfl ?_);refine jM ?hg (N:=2) ?hd (cs:= #[.int .i64 c, .int .i64 d, .slice o b.length j]) (t:=24) ?hr ?_;(case hd=>rfl);(case hg=>rfl);(case hr=>first|(go_simp;done)|(go_simp;rfl));intro l hg w5 hbox hb;have a:=zk (hbox);have B:=yg hg HB;have g:=yg hg HB;replace HB:=yS HB hb;clear hb hbox hg))
 replace a:=zk (iC a.out)
 replace HB:=zk (l9 HB.out)
 refine qi (n:=9) (S:=λw'=>w'.cell? ⟨l,0,none⟩=some (.int .i64 c)/\w'.cell? ⟨l,1,none⟩=some (.int .i64 d)/\w'.cell? ⟨l,2,none⟩=some (.slice o b.length j)) (ds:=[]) #[false,false,false,false,false,false,false,false,false] (by kernel_rfl) rfl rfl ⟨(iy a.out 0).trans rfl,(iy a.out 1).trans rfl,(iy a.out 2).trans rfl⟩ (λhHeld=>?_);refine qx qK.HY qK.JF (λiq jq=>?_)
 generalize w5.drew=w6 at a HB hHeld ⊢
 refine zp (i:=1) (N:=some 6) iq ?_
 refine zp (i:=3) (N:=some 8) iq ?_
 refine zp (i:=5) (N:=some 10) iq ?_
 refine jI (i:=0) (N:=some 5) (v:=?_) (a':=?_) #[true,true,false,true,false,true,false,false,false] rfl rfl (jO iq.out jq.out (by kernel_rfl)) (λ_ _ _ h=>h) (Or.inl ⟨by rfl,?_⟩) hHeld ?_ ?_
 rotate_left
 ·rintro w' ⟨s0,s1,s2⟩
  go_simp
  with_reducible rfl
 rotate_left
 ·simp only[Act.put,List.setIfInBounds_toArray,List.set_cons_zero,List.set_cons_succ,iI,iP]
  rfl
 refine jI (i:=4) (N:=some 9) (v:=?_) (a':=?_) #[true,true,false,true,true,true,false,false,false] rfl rfl (jO iq.out jq.out (by kernel_rfl)) (λ_ _ _ h=>h) (Or.inl ⟨by rfl,?_⟩) hHeld ?_ ?_
 rotate_left
 ·rintro w' ⟨s0,s1,s2⟩
  go_simp
  with_reducible rfl
 rotate_left
 ·simp only[Act.put,List.setIfInBounds_toArray,List.set_cons_zero,List.set_cons_succ,iI,iP]
  rfl
 refine jI (i:=6) (N:=some 11) (v:=?_) (a':=?_) #[true,true,false,true,true,true,true,false,false] rfl rfl (jO iq.out jq.out (by kernel_rfl)) (λ_ _ _ h=>h) (Or.inl ⟨by rfl,?_⟩) hHeld ?_ ?_
 rotate_left
 ·rintro w' ⟨s0,s1,s2⟩
  go_simp
  with_reducible rfl
 rotate_left
 ·simp only[Act.put,List.setIfInBounds_toArray,List.set_cons_zero,List.set_cons_succ,iI,iP]
  rfl
 refine lN (i:=2) (N:=some 7) #[true,true,true,true,true,true,true,false,false] rfl rfl (kH iq.out (by kernel_rfl)) (by decide) (λK hK=>?_)
 refine nS Try.func106 (by kernel_rfl) rfl #[.agg #[.int .i64 c, .int .i64 d, .slice o b.length j], .int .i64 a1] (by rfl) rfl rfl (by(try simp only[List.map_toArray,List.map_cons,List.map_nil]);first|done|rfl|(simp only[List.length_drop,List.length_take];rfl)) ?_
 with_reducible refine(yE.calls k c d _ _ b a1 m _ ?ig ?ik A3.out).mono ?_
 (case ig=>exact zC (Kd.iR u.out HB.out))
 (case ik=>exact x.out)
 rintro e w7 ⟨rfl,hb⟩
 refine⟨_,rfl,?_⟩
 replace a:=yK a hb
 replace HB:=jg HB g hb
 (try clear hb)
 refine hK.out _ _ ⟨(iy a.out 0).trans rfl,(iy a.out 1).trans rfl,(iy a.out 2).trans rfl⟩ (λhHeld=>?_)
 clear hK K
 refine mr (a':=?_) ?_ ?_
 rotate_left
 ·show Act.put _ (some 7) _=_
  simp only[Act.put,List.setIfInBounds_toArray,List.set_cons_zero,List.set_cons_succ,iI,iP]
  rfl
 refine lN (i:=7) (N:=some 12) #[true,true,true,true,true,true,true,true,false] rfl rfl (kH iq.out (by kernel_rfl)) (by decide) (λK hK=>?_)
 refine nS Try.func133 (by kernel_rfl) rfl #[.int .i64 m, .int .i64 c, .int .i64 d] (by rfl) rfl rfl (by(try simp only[List.map_toArray,List.map_cons,List.map_nil]);first|done|rfl|(simp only[List.length_drop,List.length_take];rfl)) ?_
 with_reducible refine(rV.calls k m c d s _ A4.out).mono ?_
 rintro e w8 ⟨E,rfl,A,hb⟩
 refine⟨_,rfl,?_⟩
 have y:=kY A HB g
 replace a:=yK a hb
 replace HB:=jg HB g hb
 (try clear hb)
 (try clear A)
 refine hK.out _ _ ⟨(iy a.out 0).trans rfl,(iy a.out 1).trans rfl,(iy a.out 2).trans rfl⟩ (λhHeld=>?_)
 clear hK K
 refine mr (a':=?_) ?_ ?_
 rotate_left
 ·show Act.put _ (some 12) _=_
  simp only[Act.put,List.setIfInBounds_toArray,List.set_cons_zero,List.set_cons_succ,iI,iP]
  rfl
 refine zp (i:=8) (N:=some 4) iq ?_
 refine ql (qF iq.out (by kernel_rfl)) ?_
 try go_wp2
 go_ret
 exact⟨_,zE,zR y.out,iH HB.out g.out⟩
theorem rW.calls(k:Nat)(d:Int)(l:Int)(n:Option Addr)(m:Nat)(a:List Int)(A1:Option Addr)(c1:Nat)(l1:List Int)(r:Int)(w:World)(q:Kd.C (Kd.int .i64) w n a.length a)(u:a.length<=m)(M:Kd.C (Kd.int .i64) w A1 l1.length l1)(T:l1.length<=c1)(h:rW.f k d l a l1=some r):
 Calls Try.prog 135 #[.agg #[.int .i64 d, .int .i64 l, .slice n a.length m], .slice A1 l1.length c1] w λe w'=>e= .returned (.int .i64 r)/\Below w.heap.size w w':=by
 have a1:=Try.underlying24
 have J:=zk q
 have K:=zk u
 clear q u
 have Y:=zk M
 have a2:=zk T
 clear M T
 have HB:=zk (Below.refl w.heap.size w)
 have H:=h
 clear h
 unfold rW.f at H
 have H':=zk H
 clear H
 go_enter Try.func135,Try.ntmps135
 go_wp2_with (first|((with_reducible refine jc (N:=2) rfl ?_);refine jM ?hg (N:=2) ?hd (cs:= #[.int .i64 d, .int .i64 l, .slice n a.length m]) (t:=24) ?hr ?_;(case hd=>rfl);(case hg=>rfl);(case hr=>first|(go_simp;done)|(go_simp;rfl));intro o hg w3 hbox hb;have c:=zk (hbox);have s:=yg hg HB;have j:=yg hg HB;replace HB:=yS HB hb;clear hb hbox hg))
 repeat(go_quiet (first|((with_reducible refine jc (N:=2) rfl ?_);refine jM ?hg (N:=2) ?hd (cs:= #[.int .i64 d, .int .i64 l, .slice n a.length m]) (t:=24) ?hr ?_;(case hd=>rfl);(case hg=>rfl);(case hr=>first|(go_simp;done)|(go_simp;rfl));intro o hg w3 hbox hb;have c:=zk (hbox);have s:=yg hg HB;have j:=yg hg HB;replace HB:=yS HB hb;clear hb hbox hg));try go_wp2_with (first|((with_reducible refine jc (N:=2) rfl ?_);refine jM ?hg (N:=2) ?hd (cs:= #[.int .i64 d, .int .i64 l, .slice n a.length m]) (t:=24) ?hr ?_;(case hd=>rfl);(case hg=>rfl);(case hr=>first|(go_simp;done)|(go_simp;rfl));intro o hg w3 hbox hb;have U:=yS HB hb;have L:=zk (hbox);have P:=yg hg HB;have O:=yg hg HB;clear HB;have HB:=U;have c:=L;have s:=P;have j:=O;clear U L P O;clear hb hbox hg)))
 go_loopg [5,6] k (λkq v5 v6 w'=>∃(p:Int) (b:Int),v5= .int .i64 p/\v6= .int .i64 b/\dw (rW.l0 kq l1 p b d l a=some r)/\dw (kq<=k)/\dw (w'.heap[o]?=some (.cells #[.int .i64 d, .int .i64 l,(.slice n a.length m)] 24 (0,0)))/\dw (Below w.heap.size w w'))
 case atStart=>exact⟨(0),(wrap64 ((l1.length:Int)-1)),zF,zF,H',⟨Nat.le_refl _⟩,⟨by(with_reducible repeat(first|refine iM ?_ _|refine iC ?_|refine iL ?_ _));exact c.out⟩,⟨iH HB.out j.out⟩⟩
 clear H'
 obtain⟨p,b,rfl,rfl,HA,X,c,HB⟩:=hrel
 cases gk with|zero=>exact absurd HA.out (by simp [rW.l0])|succ k1=>?_
 have H:=HA.out
 clear HA
 simp only[rW.l0] at H
 replace H:=zi H
 rcases H with⟨c4,H⟩|⟨c4,H⟩
 ·have D:decide (0<=b)=true:=decide_eq_true c4
  clear c4
  replace H:=iV H
  obtain⟨Z,H⟩:=H
  replace H:=iV H
  obtain⟨a0,H⟩:=H
  have H':=zk H
  clear H
  obtain⟨B,z,y,I,A,G⟩:=ja c
  have v:0<=(b:Int):=zd
  have x:b<(l1.length:Int):=zd
  obtain⟨W,E,g⟩:=Kd.jG Y.out b v x
  cases E
  replace g:=(HB.out.cell (World.block_lt_of_cell? w _ g)).trans g
  replace v:=eq_true v
  replace x:=eq_true x
  go_wp2
  repeat(go_quiet (fail);try go_wp2)
  go_roundg k1
  case measure=>have:=X.out;omega
  case rel=>exact⟨(wrap64 ((wrap64 (p*d))+(rd l1 b))),(wrap64 (b-1)),zF,zF,H',⟨kP X⟩,⟨by(with_reducible repeat(first|refine iM ?_ _|refine iC ?_|refine iL ?_ _));exact c.out⟩,⟨iH HB.out j.out⟩⟩
 have D:decide (0<=b)=false:=decide_eq_false c4
 clear c4
 obtain rfl:=Option.some.inj H
 go_wp2
 repeat(go_quiet (fail);try go_wp2)
 go_ret
 exact⟨zE,iH HB.out j.out⟩
def og.T6:Bool×List (List Nat×List Nat):=(true,[([],[]),([],[]),([],[]),([],[]),([2,3],[2,3]),([4],[4]),([],[]),([],[]),([6,7],[6,7]),([8],[8]),([5,9],[5,9]),([],[]),([11],[11]),([10,12],[10,12]),([0,1,0,1,2,3,4,5,6,7,8,9,10,11,12,13],[0,1]),([14,13,0,1,2,3,4,5,6,7,8,9,10,11,12,13],[13,14])])
def og.B6:List Nat:=[0,0,0,0,12,28,0,0,192,448,1020,0,2048,8188,16383,32767]
theorem og.tab6:lM .any (opsOf Try.f112 6)=og.T6:=by kernel_rfl
theorem og.XM:qh og.T6.2 og.B6=true:=by kernel_rfl
theorem og.calls(k:Nat)(g:Int)(o:Int)(B:Option Addr)(A:Nat)(d:List Int)(a1:Int)(a2:Int)(r:Int)(w:World)(P:Kd.C (Kd.int .i64) w B d.length d)(T:d.length<=A)(h:og.f k g o d a1 a2=some r):
 Calls Try.prog 112 #[.agg #[.int .i64 g, .int .i64 o, .slice B d.length A], .int .i64 a1, .int .i64 a2] w λe w'=>e= .returned (.int .i64 r)/\Below w.heap.size w w':=by
 have b1:=Try.underlying24
 have I:=zk P
 have J:=zk T
 clear P T
 have HB:=zk (Below.refl w.heap.size w)
 have H:=h
 clear h
 unfold og.f at H
 replace H:=zb H
 obtain⟨M,A4,H⟩:=H
 replace H:=zb H
 obtain⟨x,A5,H⟩:=H
 have H':=zk H
 clear H
 go_enter Try.func112,Try.ntmps112
 go_wp2_with (first|((with_reducible refine jc (N:=3) rfl ?_);refine jM ?hg (N:=3) ?hd (cs:= #[.int .i64 g, .int .i64 o, .slice B d.length A]) (t:=24) ?hr ?_;(case hd=>rfl);(case hg=>rfl);(case hr=>first|(go_simp;done)|(go_simp;rfl));intro E hg w6 hbox hb;have a:=zk (hbox);have aK:=yg hg HB;have s:=yg hg HB;replace HB:=yS HB hb;clear hb hbox hg;obtain⟨a7,a4,a0,ad,a5,ab⟩:=ja a)|((with_reducible refine gC 134 ?_);refine zG (some 12) Try.func134 #[.agg #[.int .i64 g, .int .i64 o, .slice B d.length A], .int .i64 a1] ?_;(with_reducible refine(qK.calls k g o _ _ d a1 M _ ?ig ?ik A4.out).mono ?_);(case ig=>exact zC (Kd.iR I.out HB.out));(case ik=>exact J.out);rintro e w8 ⟨am,rfl,O,hb⟩;refine⟨_,rfl,?_⟩;have G:=kY O HB s;replace a:=yK a hb;replace HB:=jg HB s hb;(try clear hb O);obtain⟨W,Z,U,aa,a8,a9⟩:=ja a)|((with_reducible refine gC 134 ?_);refine zG (some 15) Try.func134 #[.agg #[.int .i64 g, .int .i64 o, .slice B d.length A], .int .i64 a2] ?_;(with_reducible refine(qK.calls k g o _ _ d a2 x _ ?ig ?ik A5.out).mono ?_);(case ig=>exact zC (Kd.iR I.out HB.out));(case ik=>exact J.out);rintro e b3 ⟨al,rfl,O,hb⟩;refine⟨_,rfl,?_⟩;replace O:=yn O G;have an:=kY O HB s;replace G:=iG G O hb;replace a:=yK a hb;replace HB:=jg HB s hb;(try clear hb O)))
 go_loopg [9] k (λkq v9 w'=>∃(u:List Int) (b:Int),v9= .int .i64 b/\dw (og.l0 kq u x b g o d=some r)/\dw (kq<=k)/\dw (Kd.R (Kd.int .i64) 3 w' w.heap.size (λk_=>some k_≠(al:Value).ownBlock) am u)/\dw (Kd.R (Kd.int .i64) 3 w' w.heap.size (λk_=>some k_≠(am:Value).ownBlock) al x)/\dw (w'.heap[E]?=some (.cells #[.int .i64 g, .int .i64 o,(.slice B d.length A)] 24 (0,0)))/\dw (Below w.heap.size w w'))
 case atStart=>exact⟨(M),(0),zF,H',⟨Nat.le_refl _⟩,⟨by(with_reducible repeat(first|apply Kd.iT|apply Kd.iU|apply Kd.iJ));exact Kd.iZ G.out (λ_ hk=>hk.2)⟩,⟨by(with_reducible repeat(first|apply Kd.iT|apply Kd.iU|apply Kd.iJ));exact Kd.iZ an.out (λ_ hk=>hk.2)⟩,⟨by(with_reducible repeat(first|refine iM ?_ _|refine iC ?_|refine iL ?_ _));exact a.out⟩,⟨iH HB.out s.out⟩⟩
 clear H'
 (try clear a7 a4 a0 W Z U ad a5 ab aa a8 a9)
 obtain⟨u,b,rfl,HA,aO,c,m,a,HB⟩:=hrel
 cases gk with|zero=>exact absurd HA.out (by simp [og.l0])|succ k1=>?_
 have H:=HA.out
 clear HA
 simp only[og.l0] at H
 replace H:=jB H
 rcases H with⟨ah,H⟩|⟨ah,H⟩
 ·replace H:=iV H
  obtain⟨aQ,H⟩:=H
  replace H:=iV H
  obtain⟨aI,H⟩:=H
  replace H:=zh H
  obtain⟨aM,H⟩:=H
  have aP:=beq_eq_false_iff_ne.mpr aM
  have aL:=bne_iff_ne.mpr aM
  obtain⟨az,L⟩:∃y_:List Int,y_=(u.set (b:Int).toNat (Int.tmod (wrap64 ((rd u b)+(rd x b))) g)):=⟨_,rfl⟩
  rw[<-L] at H
  have ak:=zk L
  clear L
  have H':=zk H
  clear H
  obtain⟨aW,b0,rfl⟩:=Kd.iD c.out
  try go_wp2
  replace c:=zk (Kd.iJ c.out)
  replace m:=zk (Kd.iJ m.out)
  replace a:=zk (iC a.out)
  replace HB:=zk (l9 HB.out)
  have a6:0<=(b:Int):=zd
  have ae:b<(u.length:Int):=zd
  obtain⟨aJ,aB,l⟩:=Kd.jG (Kd.iw c.out).2.2 b a6 ae
  cases aB
  replace a6:=eq_true a6
  replace ae:=eq_true ae
  obtain⟨aX,aZ,aj⟩:=Kd.iD m.out
  (first|subst aj|(injection aj with aN a_ aR;have aS:=aN.symm;have aT:=aR.symm;clear aN a_ aR;subst aS;subst aT))
  have X:0<=(b:Int):=zd
  have ac:b<(x.length:Int):=zd
  obtain⟨ap,aH,q⟩:=Kd.jG (Kd.iw m.out).2.2 b X ac
  cases aH
  replace X:=eq_true X
  replace ac:=eq_true ac
  have aC:0<=(b:Int):=zd
  have aA:(b:Int)<((u.length:Int):Int):=zd
  obtain⟨a3,aV,ai,ao,aF,aY,ag⟩:=Kd.qO c.out (by omega)
  (first|cases ai|(injection ai with iW kL kM;(first|subst iW|(injection iW with iW;subst iW));subst kM;clear kL))
  have aG:=zk ao
  have D:=zk ag
  clear ao aF ag
  (first|simp only[add_plain] at l|skip)
  obtain⟨y,j⟩:=Kd.nT 0 c.out (b:Int) aC aA
  replace aC:=eq_true aC
  replace aA:=eq_true aA
  have Y:=Kd.Dp c.out (b:Int) (Int.tmod (wrap64 ((rd u b)+(rd x b))) g)
  rw[<-ak.out] at Y
  have z:=zk Y
  clear Y
  refine qi (n:=16) (S:=λw'=>w'.cell? ⟨E,0,none⟩=some (.int .i64 g)/\w'.cell? ⟨E,1,none⟩=some (.int .i64 o)/\w'.cell? ⟨E,2,none⟩=some (.slice B d.length A)/\w'.cell? ⟨a3,(b).toNat,none⟩=some (.int .i64 (rd u b))/\w'.cell? (ap.add (b).toNat)=some (.int .i64 (rd x b))) (ds:=[15]) #[false,false,false,false,false,false,false,false,false,false,false,false,false,false,false,false] (by kernel_rfl) rfl rfl ⟨(iy a.out 0).trans rfl,(iy a.out 1).trans rfl,(iy a.out 2).trans rfl,l,q⟩ (λhHeld=>?_);refine qx og.tab6 og.XM (λiq jq=>?_)
  first|(generalize wr.drew=af at c m a HB D z j l q y hHeld ⊢)|(generalize wr.drew=af at c m a HB D z j q y hHeld ⊢)|(generalize wr.drew=af at c m a HB D z j l y hHeld ⊢)|(generalize wr.drew=af at c m a HB D z j l q hHeld ⊢)|(generalize wr.drew=af at c m a HB D z j y hHeld ⊢)|(generalize wr.drew=af at c m a HB D z j q hHeld ⊢)|(generalize wr.drew=af at c m a HB D z j l hHeld ⊢)|(generalize wr.drew=af at c m a HB D z j hHeld ⊢)
  refine zp (i:=0) (N:=some 22) iq ?_
  refine zp (i:=1) (N:=some 23) iq ?_
  refine zp (i:=2) (N:=some 24) iq ?_
  refine zp (i:=3) (N:=some 25) iq ?_
  refine zp (i:=4) (N:=some 26) iq ?_
  refine zp (i:=6) (N:=some 28) iq ?_
  refine zp (i:=7) (N:=some 29) iq ?_
  refine zp (i:=8) (N:=some 30) iq ?_
  refine zp (i:=11) (N:=some 33) iq ?_
  refine jI (i:=5) (N:=some 27) (v:=?_) (a':=?_) #[true,true,true,true,true,true,true,true,true,false,false,true,false,false,false,false] rfl rfl (jO iq.out jq.out (by kernel_rfl)) (λ_ _ _ h=>h) (Or.inl ⟨by rfl,?_⟩) hHeld ?_ ?_
  rotate_left
  ·rintro w' ⟨s0,s1,s2,s3,s4⟩
   go_simp
   with_reducible rfl
  rotate_left
  ·simp only[Act.put,List.setIfInBounds_toArray,List.set_cons_zero,List.set_cons_succ,iI,iP]
   rfl
  refine jI (i:=9) (N:=some 31) (v:=?_) (a':=?_) #[true,true,true,true,true,true,true,true,true,true,false,true,false,false,false,false] rfl rfl (jO iq.out jq.out (by kernel_rfl)) (λ_ _ _ h=>h) (Or.inl ⟨by rfl,?_⟩) hHeld ?_ ?_
  rotate_left
  ·rintro w' ⟨s0,s1,s2,s3,s4⟩
   go_simp
   with_reducible rfl
  rotate_left
  ·simp only[Act.put,List.setIfInBounds_toArray,List.set_cons_zero,List.set_cons_succ,iI,iP]
   rfl
  refine zp (i:=10) (N:=some 32) iq ?_
  refine jI (i:=12) (N:=some 34) (v:=?_) (a':=?_) #[true,true,true,true,true,true,true,true,true,true,true,true,true,false,false,false] rfl rfl (jO iq.out jq.out (by kernel_rfl)) (λ_ _ _ h=>h) (Or.inl ⟨by rfl,?_⟩) hHeld ?_ ?_
  rotate_left
  ·rintro w' ⟨s0,s1,s2,s3,s4⟩
   go_simp
   with_reducible rfl
  rotate_left
  ·simp only[Act.put,List.setIfInBounds_toArray,List.set_cons_zero,List.set_cons_succ,iI,iP]
   rfl
  refine zp (i:=13) (N:=some 35) iq ?_
  refine zp (i:=14) (N:=some 36) iq ?_
  refine xR (i:=15) (N:=none) #[true,true,true,true,true,true,true,true,true,true,true,true,true,true,true,true] rfl rfl (kH iq.out (by kernel_rfl)) (by decide) (λK hK=>?_)
  refine vH (w1:=?_) (by rfl) rfl ?_ ?_
  rotate_left
  ·go_simp
   rfl
  refine hK.out _ _ ?_
  clear hK K
  refine ql (qF iq.out (by kernel_rfl)) ?_
  try go_wp2
  go_roundg k1
  case measure=>have:=aO.out;omega
  case rel=>exact⟨(az),(wrap64 (b+1)),zF,H',⟨kP aO⟩,⟨zR z.out⟩,⟨by(with_reducible repeat(first|apply Kd.iT|apply Kd.iU|apply Kd.iJ));exact Kd.iZ (Kd.rM (p:=⟨a3,(b:Int).toNat,none⟩) (Kd.iZ m.out (λk_ hk=>(⟨hk,λe_=>hk (by rw[e_];rfl)⟩:_/\k_≠a3))) (λ_ hk=>hk.2) (.int .i64 (Int.tmod (wrap64 ((rd u b)+(rd x b))) g))) (λ_ hk=>hk.1)⟩,⟨by(with_reducible repeat(first|refine iM ?_ _|refine iC ?_|refine iL ?_ _));refine qo ?_ (by have h_:=Kd.Bv c.out a.out (by decide);intro e_;exact h_ (by rw[e_];rfl)) _;(with_reducible repeat(first|refine iM ?_ _|refine iC ?_|refine iL ?_ _));exact a.out⟩,⟨yu HB.out aG.out s.out⟩⟩
 replace H:=zb H
 obtain⟨aD,aU,H⟩:=H
 obtain rfl:=Option.some.inj H
 obtain⟨aE,ay,rfl⟩:=Kd.iD c.out
 obtain⟨ar,au,aw,av,aq,ax⟩:=ja a
 go_wp2_with (first|((with_reducible refine gC 135 ?_);refine zG (some 39) Try.func135 #[.agg #[.int .i64 g, .int .i64 o, .slice B d.length A], .slice aE u.length ay] ?_;(with_reducible refine(rW.calls k1 g o _ _ d _ _ u aD _ ?ig ?ik ?iF ?iE aU.out).mono ?_);(case ig=>exact zC (Kd.iR I.out HB.out));(case ik=>exact J.out);(case iF=>exact zC (Kd.iw c.out).2.2);(case iE=>exact(Kd.iw c.out).2.1);rintro e b2 ⟨rfl,hb⟩;refine⟨_,rfl,?_⟩;replace c:=jl c hb;replace m:=jl m hb;replace a:=yK a hb;replace HB:=jg HB s hb;(try clear hb)))
 go_ret
 exact⟨zE,iH HB.out s.out⟩
def jU.T10:Bool×List (List Nat×List Nat):=(true,[([],[]),([],[]),([],[]),([1,2],[1,2]),([],[]),([],[]),([],[]),([5,6],[5,6]),([4,7],[4,7]),([8],[8]),([],[]),([],[]),([10,11],[10,11]),([12],[12]),([],[]),([],[]),([14,15],[14,15]),([16],[16]),([13,17],[13,17]),([9,18],[9,18]),([],[]),([20],[20]),([19,21],[19,21]),([0,3,0,1,2,3,4,5,6,7,8,9,10,11,12,13,14,15,16,17,18,19,20,21,22],[0,3]),([23,22,0,1,2,3,4,5,6,7,8,9,10,11,12,13,14,15,16,17,18,19,20,21,22],[22,23])])
def jU.B10:List Nat:=[0,0,0,6,0,0,0,96,240,496,0,0,3072,7168,0,0,49152,114688,261120,524272,0,1048576,4194288,8388607,16777215]
theorem jU.DZ:lM .any (opsOf Try.f113 10)=jU.T10:=by kernel_rfl
theorem jU.EP:qh jU.T10.2 jU.B10=true:=by kernel_rfl
def jU.Qe:Bool×List (List Nat×List Nat):=(true,[([],[]),([],[]),([],[]),([2],[2]),([1,3],[1,3]),([],[]),([4,5],[4,5]),([],[]),([],[]),([],[]),([9],[9]),([8,10],[8,10]),([],[]),([11,12],[11,12]),([7,13],[7,13]),([14],[14]),([],[]),([16],[16]),([],[]),([],[]),([18,19],[18,19]),([20],[20]),([17,21],[17,21]),([],[]),([23],[23]),([],[]),([24,25],[24,25]),([26],[26]),([22,27],[22,27]),([15,28],[15,28]),([],[]),([30],[30]),([29,31],[29,31]),([0,6,0,1,2,3,4,5,6,7,8,9,10,11,12,13,14,15,16,17,18,19,20,21,22,23,24,25,26,27,28,29,30,31,32],[0,6]),([33,32,0,1,2,3,4,5,6,7,8,9,10,11,12,13,14,15,16,17,18,19,20,21,22,23,24,25,26,27,28,29,30,31,32],[32,33])])
def jU.YS:List Nat:=[0,0,0,4,14,0,62,0,0,0,512,1792,0,7936,16256,32640,0,65536,0,0,786432,1835008,4128768,0,8388608,0,58720256,125829120,268369920,536870784,0,1073741824,4294967168,8589934591,17179869183]
theorem jU.RJ:lM .any (opsOf Try.f113 17)=jU.Qe:=by kernel_rfl
theorem jU.XR:qh jU.Qe.2 jU.YS=true:=by kernel_rfl
theorem jU.calls(k:Nat)(l:Int)(c:Int)(a6:Option Addr)(a0:Nat)(o:List Int)(a1:Int)(a2:Int)(r:Int)(w:World)(bn:Kd.C (Kd.int .i64) w a6 o.length o)(bk:o.length<=a0)(h:jU.f k l c o a1 a2=some r):
 Calls Try.prog 113 #[.agg #[.int .i64 l, .int .i64 c, .slice a6 o.length a0], .int .i64 a1, .int .i64 a2] w λe w'=>e= .returned (.int .i64 r)/\Below w.heap.size w w':=by
 have e2:=Try.underlying24
 have ad:=zk bn
 have av:=zk bk
 clear bn bk
 have HB:=zk (Below.refl w.heap.size w)
 have H:=h
 clear h
 unfold jU.f at H
 replace H:=zb H
 obtain⟨a4,A4,H⟩:=H
 replace H:=zb H
 obtain⟨a5,A5,H⟩:=H
 obtain⟨cr,al⟩:∃j_:Int,(wrap64 ((wrap64 (2*c))-1))=j_:=⟨_,rfl⟩
 first|rw[al] at H|simp only[al] at H
 (try rw[al] at A4)
 (try rw[al] at A5)
 have dt:(IntKind.i64.wrap ((wrap64 (2*c))-1))=cr:=(iI _).trans al
 replace H:=zg H
 obtain⟨c7,H⟩:=H
 have dd:=eq_true c7
 have cU:=decide_eq_true c7
 clear c7
 replace H:=zg H
 obtain⟨c8,H⟩:=H
 have d4:=eq_true c8
 have cR:=decide_eq_true c8
 clear c8
 obtain⟨de,ax⟩:∃y_:List Int,y_=(List.replicate (cr:Int).toNat 0):=⟨_,rfl⟩
 rw[<-ax] at H
 have bg:=zk ax
 clear ax
 have H':=zk H
 clear H
 go_enter Try.func113,Try.ntmps113
 go_wp2_with (first|((with_reducible refine jc (N:=3) rfl ?_);refine jM ?hg (N:=3) ?hd (cs:= #[.int .i64 l, .int .i64 c, .slice a6 o.length a0]) (t:=24) ?hr ?_;(case hd=>rfl);(case hg=>rfl);(case hr=>first|(go_simp;done)|(go_simp;rfl));intro L hg w9 hbox hb;have a:=zk (hbox);have dh:=yg hg HB;have z:=yg hg HB;replace HB:=yS HB hb;clear hb hbox hg;obtain⟨aM,b1,aP,aS,az,aJ⟩:=ja a)|((with_reducible refine gC 134 ?_);refine zG (some 16) Try.func134 #[.agg #[.int .i64 l, .int .i64 c, .slice a6 o.length a0], .int .i64 a1] ?_;(with_reducible refine(qK.calls k l c _ _ o a1 a4 _ ?ig ?ik A4.out).mono ?_);(case ig=>exact zC (Kd.iR ad.out HB.out));(case ik=>exact av.out);rintro e e3 ⟨ak,rfl,bf,hb⟩;refine⟨_,rfl,?_⟩;have a8:=kY bf HB z;replace a:=yK a hb;replace HB:=jg HB z hb;(try clear hb bf);obtain⟨aB,aG,aQ,aH,ay,aU⟩:=ja a)|((with_reducible refine gC 134 ?_);refine zG (some 19) Try.func134 #[.agg #[.int .i64 l, .int .i64 c, .slice a6 o.length a0], .int .i64 a2] ?_;(with_reducible refine(qK.calls k l c _ _ o a2 a5 _ ?ig ?ik A5.out).mono ?_);(case ig=>exact zC (Kd.iR ad.out HB.out));(case ik=>exact av.out);rintro e e5 ⟨aj,rfl,bf,hb⟩;refine⟨_,rfl,?_⟩;replace bf:=yn bf a8;have ah:=kY bf HB z;replace a8:=iG a8 bf hb;replace a:=yK a hb;replace HB:=jg HB z hb;(try clear hb bf);obtain⟨b8,aD,aE,bb,aX,b6⟩:=ja a)|((with_reducible refine jc (N:=24) rfl ?_);refine Kd.ug (Kd.int .i64) _ 3 rfl (N:=24) rfl 22 _ _ rfl cr rfl rfl Try.underlying22 (.int .i64 0) 8 info3 rfl (by decide) (by omega) 0 (ok:=λ_=>True) (je:=λ_=>True) rfl (λ_ hk=>hk) trivial zd (Nat.le_trans (Nat.mul_le_mul_right _ (zd:cr.toNat<=35184372088832)) (by omega)) (Below.refl _ _) (Nat.le_refl _) ?_;intro a9 e6 a7 hb jw jv;clear jw jv;(first|rw[<-bg.out] at a7|(simp only[Int.reduceToNat] at a7;rw[<-bg.out] at a7));replace a7:=yn a7 a8;replace a7:=yn a7 ah;have bY:=kY a7 HB z;replace a8:=iG a8 a7 hb;replace ah:=iG ah a7 hb;replace a:=yK a hb;replace HB:=jg HB z hb;clear hb a7))
 go_loopg [10] k (λkq dP w'=>∃(au:List Int) (y:Int),dP= .int .i64 y/\dw (jU.l0 kq a4 a5 au y l c o=some r)/\dw (kq<=k)/\dw (Kd.R (Kd.int .i64) 3 w' w.heap.size (λk_=>some k_≠(aj:Value).ownBlock/\some k_≠(a9:Value).ownBlock) ak a4)/\dw (Kd.R (Kd.int .i64) 3 w' w.heap.size (λk_=>some k_≠(ak:Value).ownBlock/\some k_≠(a9:Value).ownBlock) aj a5)/\dw (Kd.R (Kd.int .i64) 3 w' w.heap.size (λk_=>some k_≠(ak:Value).ownBlock/\some k_≠(aj:Value).ownBlock) a9 au)/\dw (w'.heap[L]?=some (.cells #[.int .i64 l, .int .i64 c,(.slice a6 o.length a0)] 24 (0,0)))/\dw (Below w.heap.size w w'))
 case atStart=>exact⟨(de),(0),zF,H',⟨Nat.le_refl _⟩,⟨by(with_reducible repeat(first|apply Kd.iT|apply Kd.iU|apply Kd.iJ));exact Kd.iZ a8.out (λ_ hk=>⟨hk.1.2,hk.2⟩)⟩,⟨by(with_reducible repeat(first|apply Kd.iT|apply Kd.iU|apply Kd.iJ));exact Kd.iZ ah.out (λ_ hk=>⟨hk.1.2,hk.2⟩)⟩,⟨by(with_reducible repeat(first|apply Kd.iT|apply Kd.iU|apply Kd.iJ));exact Kd.iZ bY.out (λ_ hk=>⟨hk.1.2,hk.2⟩)⟩,⟨by(with_reducible repeat(first|refine iM ?_ _|refine iC ?_|refine iL ?_ _));exact a.out⟩,⟨iH HB.out z.out⟩⟩
 clear H'
 (try clear dd cU d4 cR aM b1 aP aB aG aQ b8 aD aE aS az aJ aH ay aU bb aX b6)
 obtain⟨au,y,rfl,HA,bo,E,A,b,a,HB⟩:=hrel
 cases gk with|zero=>exact absurd HA.out (by simp [jU.l0])|succ k1=>?_
 have H:=HA.out
 clear HA
 simp only[jU.l0] at H
 replace H:=jB H
 rcases H with⟨an,H⟩|⟨an,H⟩
 ·have H':=zk H
  clear H
  obtain⟨aO,aZ,aV,aK,b4,aY⟩:=ja a
  go_wp2
  go_loopg [11] k1 (λkq dQ w'=>∃(G:List Int) (I:Int),dQ= .int .i64 I/\dw (jU.l1 kq a4 a5 G y I l c o=some r)/\dw (kq<=k1)/\dw (Kd.R (Kd.int .i64) 3 w' w.heap.size (λk_=>some k_≠(aj:Value).ownBlock/\some k_≠(a9:Value).ownBlock) ak a4)/\dw (Kd.R (Kd.int .i64) 3 w' w.heap.size (λk_=>some k_≠(ak:Value).ownBlock/\some k_≠(a9:Value).ownBlock) aj a5)/\dw (Kd.R (Kd.int .i64) 3 w' w.heap.size (λk_=>some k_≠(ak:Value).ownBlock/\some k_≠(aj:Value).ownBlock) a9 G)/\dw (w'.heap[L]?=some (.cells #[.int .i64 l, .int .i64 c,(.slice a6 o.length a0)] 24 (0,0)))/\dw (Below w.heap.size w w'))
  case atStart=>exact⟨(au),(0),zF,H',⟨Nat.le_refl _⟩,⟨zR E.out⟩,⟨zR A.out⟩,⟨zR b.out⟩,⟨by(with_reducible repeat(first|refine iM ?_ _|refine iC ?_|refine iL ?_ _));exact a.out⟩,⟨iH HB.out z.out⟩⟩
  clear H'
  (try clear an aO aZ aV aK b4 aY)
  obtain⟨G,I,rfl,HA,aF,E,A,b,a,HB⟩:=hrel
  cases gk with|zero=>exact absurd HA.out (by simp [jU.l1])|succ k2=>?_
  have H:=HA.out
  clear HA
  simp only[jU.l1] at H
  replace H:=jB H
  rcases H with⟨ca,H⟩|⟨ca,H⟩
  ·obtain⟨M,ap⟩:∃j_:Int,(wrap64 (y+I))=j_:=⟨_,rfl⟩
   first|rw[ap] at H|simp only[ap] at H
   have cQ:(IntKind.i64.wrap (y+I))=M:=(iI _).trans ap
   replace H:=iV H
   obtain⟨dz,H⟩:=H
   replace H:=iV H
   obtain⟨dA,H⟩:=H
   replace H:=iV H
   obtain⟨dB,H⟩:=H
   replace H:=iV H
   obtain⟨dm,H⟩:=H
   replace H:=iV H
   obtain⟨dk,H⟩:=H
   replace H:=iV H
   obtain⟨df,H⟩:=H
   replace H:=zh H
   obtain⟨dE,H⟩:=H
   have dF:=beq_eq_false_iff_ne.mpr dE
   have du:=bne_iff_ne.mpr dE
   obtain⟨d5,aw⟩:∃y_:List Int,y_=(G.set ((M):Int).toNat (Int.tmod (wrap64 ((rd G (M))+(wrap64 ((rd a4 y)*(rd a5 I))))) l)):=⟨_,rfl⟩
   rw[<-aw] at H
   have bP:=zk aw
   clear aw
   have H':=zk H
   clear H
   obtain⟨cv,cu,cI,cz,cB,cG⟩:=ja a
   try go_wp2
   replace E:=zk (Kd.iJ E.out)
   replace A:=zk (Kd.iJ A.out)
   replace b:=zk (Kd.iJ b.out)
   replace a:=zk (iC a.out)
   replace HB:=zk (l9 HB.out)
   obtain⟨dZ,dK,bZ⟩:=Kd.iD b.out
   (first|subst bZ|(injection bZ with ag b9 ai;have aL:=ag.symm;have aA:=ai.symm;clear ag b9 ai;subst aL;subst aA))
   have bH:0<=((M):Int):=zd
   have bE:(M)<(G.length:Int):=zd
   obtain⟨dH,da,u⟩:=Kd.jG (Kd.iw b.out).2.2 (M) bH bE
   cases da
   replace bH:=eq_true bH
   replace bE:=eq_true bE
   obtain⟨dV,e1,bS⟩:=Kd.iD E.out
   (first|subst bS|(injection bS with ag b9 ai;have aL:=ag.symm;have aA:=ai.symm;clear ag b9 ai;subst aL;subst aA))
   have bB:0<=(y:Int):=zd
   have bs:y<(a4.length:Int):=zd
   obtain⟨bN,d3,B⟩:=Kd.jG (Kd.iw E.out).2.2 y bB bs
   cases d3
   replace bB:=eq_true bB
   replace bs:=eq_true bs
   obtain⟨e0,dR,bV⟩:=Kd.iD A.out
   (first|subst bV|(injection bV with ag b9 ai;have aL:=ag.symm;have aA:=ai.symm;clear ag b9 ai;subst aL;subst aA))
   have bJ:0<=(I:Int):=zd
   have bG:I<(a5.length:Int):=zd
   obtain⟨bX,d0,D⟩:=Kd.jG (Kd.iw A.out).2.2 I bJ bG
   cases d0
   replace bJ:=eq_true bJ
   replace bG:=eq_true bG
   have cZ:0<=((M):Int):=zd
   have dc:((M):Int)<((G.length:Int):Int):=zd
   obtain⟨ar,dJ,bU,bL,db,dO,c1⟩:=Kd.qO b.out (by omega)
   (first|cases bU|(injection bU with iW kL kM;(first|subst iW|(injection iW with iW;subst iW));subst kM;clear kL))
   have d6:=zk bL
   have X:=zk c1
   clear bL db c1
   (first|simp only[add_plain] at u|skip)
   obtain⟨W,g⟩:=Kd.nT 0 b.out ((M):Int) cZ dc
   replace cZ:=eq_true cZ
   replace dc:=eq_true dc
   have br:=Kd.Dp b.out ((M):Int) (Int.tmod (wrap64 ((rd G (M))+(wrap64 ((rd a4 y)*(rd a5 I))))) l)
   rw[<-bP.out] at br
   have U:=zk br
   clear br
   refine qi (n:=25) (S:=λw'=>w'.cell? ⟨L,0,none⟩=some (.int .i64 l)/\w'.cell? ⟨L,1,none⟩=some (.int .i64 c)/\w'.cell? ⟨L,2,none⟩=some (.slice a6 o.length a0)/\w'.cell? ⟨ar,((M)).toNat,none⟩=some (.int .i64 (rd G (M)))/\w'.cell? (bN.add (y).toNat)=some (.int .i64 (rd a4 y))/\w'.cell? (bX.add (I).toNat)=some (.int .i64 (rd a5 I))) (ds:=[24]) #[false,false,false,false,false,false,false,false,false,false,false,false,false,false,false,false,false,false,false,false,false,false,false,false,false] (by kernel_rfl) rfl rfl ⟨(iy a.out 0).trans rfl,(iy a.out 1).trans rfl,(iy a.out 2).trans rfl,u,B,D⟩ (λhHeld=>?_);refine qx jU.DZ jU.EP (λiq jq=>?_)
   first|(generalize wr.drew=ab at E A b a HB X U g u B D W hHeld ⊢)|(generalize wr.drew=ab at E A b a HB X U g B D W hHeld ⊢)|(generalize wr.drew=ab at E A b a HB X U g u D W hHeld ⊢)|(generalize wr.drew=ab at E A b a HB X U g u B W hHeld ⊢)|(generalize wr.drew=ab at E A b a HB X U g u B D hHeld ⊢)|(generalize wr.drew=ab at E A b a HB X U g D W hHeld ⊢)|(generalize wr.drew=ab at E A b a HB X U g B W hHeld ⊢)|(generalize wr.drew=ab at E A b a HB X U g B D hHeld ⊢)|(generalize wr.drew=ab at E A b a HB X U g u W hHeld ⊢)|(generalize wr.drew=ab at E A b a HB X U g u D hHeld ⊢)|(generalize wr.drew=ab at E A b a HB X U g u B hHeld ⊢)|(generalize wr.drew=ab at E A b a HB X U g W hHeld ⊢)|(generalize wr.drew=ab at E A b a HB X U g D hHeld ⊢)|(generalize wr.drew=ab at E A b a HB X U g B hHeld ⊢)|(generalize wr.drew=ab at E A b a HB X U g u hHeld ⊢)|(generalize wr.drew=ab at E A b a HB X U g hHeld ⊢)
   refine zp (i:=0) (N:=some 37) iq ?_
   refine zp (i:=1) (N:=some 38) iq ?_
   refine zp (i:=2) (N:=some 39) iq ?_
   refine zp (i:=3) (N:=some 40) iq ?_
   refine zp (i:=4) (N:=some 41) iq ?_
   refine zp (i:=5) (N:=some 42) iq ?_
   refine zp (i:=6) (N:=some 43) iq ?_
   refine zp (i:=7) (N:=some 44) iq ?_
   refine zp (i:=8) (N:=some 45) iq ?_
   refine zp (i:=10) (N:=some 47) iq ?_
   refine zp (i:=11) (N:=some 48) iq ?_
   refine zp (i:=12) (N:=some 49) iq ?_
   refine zp (i:=14) (N:=some 51) iq ?_
   refine zp (i:=15) (N:=some 52) iq ?_
   refine zp (i:=16) (N:=some 53) iq ?_
   refine zp (i:=20) (N:=some 57) iq ?_
   refine jI (i:=9) (N:=some 46) (v:=?_) (a':=?_) #[true,true,true,true,true,true,true,true,true,true,true,true,true,false,true,true,true,false,false,false,true,false,false,false,false] rfl rfl (jO iq.out jq.out (by kernel_rfl)) (λ_ _ _ h=>h) (Or.inl ⟨by rfl,?_⟩) hHeld ?_ ?_
   rotate_left
   ·rintro w' ⟨s0,s1,s2,s3,s4,s5⟩
    go_simp
    with_reducible rfl
   rotate_left
   ·simp only[Act.put,List.setIfInBounds_toArray,List.set_cons_zero,List.set_cons_succ,iI,iP]
    rfl
   refine jI (i:=13) (N:=some 50) (v:=?_) (a':=?_) #[true,true,true,true,true,true,true,true,true,true,true,true,true,true,true,true,true,false,false,false,true,false,false,false,false] rfl rfl (jO iq.out jq.out (by kernel_rfl)) (λ_ _ _ h=>h) (Or.inl ⟨by rfl,?_⟩) hHeld ?_ ?_
   rotate_left
   ·rintro w' ⟨s0,s1,s2,s3,s4,s5⟩
    go_simp
    with_reducible rfl
   rotate_left
   ·simp only[Act.put,List.setIfInBounds_toArray,List.set_cons_zero,List.set_cons_succ,iI,iP]
    rfl
   refine jI (i:=17) (N:=some 54) (v:=?_) (a':=?_) #[true,true,true,true,true,true,true,true,true,true,true,true,true,true,true,true,true,true,false,false,true,false,false,false,false] rfl rfl (jO iq.out jq.out (by kernel_rfl)) (λ_ _ _ h=>h) (Or.inl ⟨by rfl,?_⟩) hHeld ?_ ?_
   rotate_left
   ·rintro w' ⟨s0,s1,s2,s3,s4,s5⟩
    go_simp
    with_reducible rfl
   rotate_left
   ·simp only[Act.put,List.setIfInBounds_toArray,List.set_cons_zero,List.set_cons_succ,iI,iP]
    rfl
   refine zp (i:=18) (N:=some 55) iq ?_
   refine zp (i:=19) (N:=some 56) iq ?_
   refine jI (i:=21) (N:=some 58) (v:=?_) (a':=?_) #[true,true,true,true,true,true,true,true,true,true,true,true,true,true,true,true,true,true,true,true,true,true,false,false,false] rfl rfl (jO iq.out jq.out (by kernel_rfl)) (λ_ _ _ h=>h) (Or.inl ⟨by rfl,?_⟩) hHeld ?_ ?_
   rotate_left
   ·rintro w' ⟨s0,s1,s2,s3,s4,s5⟩
    go_simp
    with_reducible rfl
   rotate_left
   ·simp only[Act.put,List.setIfInBounds_toArray,List.set_cons_zero,List.set_cons_succ,iI,iP]
    rfl
   refine zp (i:=22) (N:=some 59) iq ?_
   refine zp (i:=23) (N:=some 60) iq ?_
   refine xR (i:=24) (N:=none) #[true,true,true,true,true,true,true,true,true,true,true,true,true,true,true,true,true,true,true,true,true,true,true,true,true] rfl rfl (kH iq.out (by kernel_rfl)) (by decide) (λK hK=>?_)
   refine vH (w1:=?_) (by rfl) rfl ?_ ?_
   rotate_left
   ·go_simp
    rfl
   refine hK.out _ _ ?_
   clear hK K
   refine ql (qF iq.out (by kernel_rfl)) ?_
   try go_wp2
   go_roundg k2
   case measure=>have:=bo.out;have:=aF.out;omega
   case rel=>exact⟨(d5),(wrap64 (I+1)),zF,H',⟨lW bo aF⟩,⟨by(with_reducible repeat(first|apply Kd.iT|apply Kd.iU|apply Kd.iJ));exact Kd.iZ (Kd.rM (p:=⟨ar,((M):Int).toNat,none⟩) (Kd.iZ E.out (λk_ hk=>(⟨hk,λe_=>hk.2 (by rw[e_];rfl)⟩:_/\k_≠ar))) (λ_ hk=>hk.2) (.int .i64 (Int.tmod (wrap64 ((rd G (M))+(wrap64 ((rd a4 y)*(rd a5 I))))) l))) (λ_ hk=>⟨hk.1.1,hk.1.2⟩)⟩,⟨by(with_reducible repeat(first|apply Kd.iT|apply Kd.iU|apply Kd.iJ));exact Kd.iZ (Kd.rM (p:=⟨ar,((M):Int).toNat,none⟩) (Kd.iZ A.out (λk_ hk=>(⟨hk,λe_=>hk.2 (by rw[e_];rfl)⟩:_/\k_≠ar))) (λ_ hk=>hk.2) (.int .i64 (Int.tmod (wrap64 ((rd G (M))+(wrap64 ((rd a4 y)*(rd a5 I))))) l))) (λ_ hk=>⟨hk.1.1,hk.1.2⟩)⟩,⟨zR U.out⟩,⟨by(with_reducible repeat(first|refine iM ?_ _|refine iC ?_|refine iL ?_ _));refine qo ?_ (by have h_:=Kd.Bv b.out a.out (by decide);intro e_;exact h_ (by rw[e_];rfl)) _;(with_reducible repeat(first|refine iM ?_ _|refine iC ?_|refine iL ?_ _));exact a.out⟩,⟨yu HB.out d6.out z.out⟩⟩
  have H':=zk H
  clear H
  obtain⟨cn,cm,cF,cj,ci,cN⟩:=ja a
  go_wp2
  go_roundg k2
  case measure=>have:=bo.out;have:=aF.out;omega
  case rel=>exact⟨(G),(wrap64 (y+1)),zF,H',⟨lW bo aF⟩,⟨zR E.out⟩,⟨zR A.out⟩,⟨zR b.out⟩,⟨by(with_reducible repeat(first|refine iM ?_ _|refine iC ?_|refine iL ?_ _));exact a.out⟩,⟨iH HB.out z.out⟩⟩
 have H':=zk H
 clear H
 obtain⟨aN,ba,aC,b3,b5,aR⟩:=ja a
 go_wp2
 go_loopg [12] k1 (λkq dX w'=>∃(G:List Int) (x:Int),dX= .int .i64 x/\dw (jU.l2 kq G x l c o=some r)/\dw (kq<=k1)/\dw (Kd.R (Kd.int .i64) 3 w' w.heap.size (λ_=>True) a9 G)/\dw (w'.heap[L]?=some (.cells #[.int .i64 l, .int .i64 c,(.slice a6 o.length a0)] 24 (0,0)))/\dw (Below w.heap.size w w'))
 case atStart=>exact⟨(au),(wrap64 ((wrap64 (2*c))-2)),zF,H',⟨Nat.le_refl _⟩,⟨by(with_reducible repeat(first|apply Kd.iT|apply Kd.iU|apply Kd.iJ));exact Kd.iZ b.out (λ_ hk=>trivial)⟩,⟨by(with_reducible repeat(first|refine iM ?_ _|refine iC ?_|refine iL ?_ _));exact a.out⟩,⟨iH HB.out z.out⟩⟩
 clear H'
 (try clear an aN ba aC b3 b5 aR)
 obtain⟨G,x,rfl,HA,aF,b,a,HB⟩:=hrel
 cases gk with|zero=>exact absurd HA.out (by simp [jU.l2])|succ k2=>?_
 have H:=HA.out
 clear HA
 simp only[jU.l2] at H
 replace H:=zi H
 rcases H with⟨c0,H⟩|⟨c0,H⟩
 ·have be:decide (c<=x)=true:=decide_eq_true c0
  clear c0
  have H':=zk H
  clear H
  obtain⟨aI,bc,b0,b2,a_,aT⟩:=ja a
  go_wp2
  go_loopg [13] k2 (λkq dM w'=>∃(Z:List Int) (J:Int),dM= .int .i64 J/\dw (jU.l3 kq Z x J l c o=some r)/\dw (kq<=k2)/\dw (Kd.R (Kd.int .i64) 3 w' w.heap.size (λ_=>True) a9 Z)/\dw (w'.heap[L]?=some (.cells #[.int .i64 l, .int .i64 c,(.slice a6 o.length a0)] 24 (0,0)))/\dw (Below w.heap.size w w'))
  case atStart=>exact⟨(G),(0),zF,H',⟨Nat.le_refl _⟩,⟨zR b.out⟩,⟨by(with_reducible repeat(first|refine iM ?_ _|refine iC ?_|refine iL ?_ _));exact a.out⟩,⟨iH HB.out z.out⟩⟩
  clear H'
  (try clear be aI bc b0 b2 a_ aT)
  obtain⟨Z,J,rfl,HA,ch,b,a,HB⟩:=hrel
  cases gk with|zero=>exact absurd HA.out (by simp [jU.l3])|succ k3=>?_
  have H:=HA.out
  clear HA
  simp only[jU.l3] at H
  replace H:=jB H
  rcases H with⟨ce,H⟩|⟨ce,H⟩
  ·obtain⟨a3,aq⟩:∃j_:Int,(wrap64 ((wrap64 (x-c))+J))=j_:=⟨_,rfl⟩
   first|rw[aq] at H|simp only[aq] at H
   have d9:(IntKind.i64.wrap ((wrap64 (x-c))+J))=a3:=(iI _).trans aq
   replace H:=iV H
   obtain⟨dp,H⟩:=H
   replace H:=iV H
   obtain⟨dG,H⟩:=H
   replace H:=iV H
   obtain⟨dx,H⟩:=H
   replace H:=iV H
   obtain⟨di,H⟩:=H
   replace H:=iV H
   obtain⟨dy,H⟩:=H
   replace H:=iV H
   obtain⟨dC,H⟩:=H
   replace H:=zh H
   obtain⟨dj,H⟩:=H
   have dv:=beq_eq_false_iff_ne.mpr dj
   have dn:=bne_iff_ne.mpr dj
   obtain⟨cP,am⟩:∃y_:List Int,y_=(Z.set ((a3):Int).toNat (Int.tmod (wrap64 ((rd Z (a3))+(wrap64 ((wrap64 (l-(rd Z x)))*(rd o J))))) l)):=⟨_,rfl⟩
   rw[<-am] at H
   have bR:=zk am
   clear am
   have H':=zk H
   clear H
   obtain⟨ck,cg,cl,cD,cO,cA⟩:=ja a
   try go_wp2
   replace b:=zk (Kd.iJ b.out)
   replace a:=zk (iC a.out)
   replace HB:=zk (l9 HB.out)
   obtain⟨dU,dS,bM⟩:=Kd.iD b.out
   (first|subst bM|(injection bM with ag b9 ai;have aL:=ag.symm;have aA:=ai.symm;clear ag b9 ai;subst aL;subst aA))
   have bv:0<=((a3):Int):=zd
   have bC:(a3)<(Z.length:Int):=zd
   obtain⟨cd,d1,s⟩:=Kd.jG (Kd.iw b.out).2.2 (a3) bv bC
   cases d1
   replace bv:=eq_true bv
   replace bC:=eq_true bC
   have bA:0<=(x:Int):=zd
   have bw:x<(Z.length:Int):=zd
   obtain⟨cf,cY,q⟩:=Kd.jG (Kd.iw b.out).2.2 x bA bw
   obtain rfl:cd=cf:=(by injection cY)
   replace bA:=eq_true bA
   replace bw:=eq_true bw
   have bq:0<=(J:Int):=zd
   have bF:J<(o.length:Int):=zd
   obtain⟨bh,c_,j⟩:=Kd.jG ad.out J bq bF
   have ae:=j
   cases c_
   replace j:=(HB.out.cell (World.block_lt_of_cell? w _ j)).trans j
   replace bq:=eq_true bq
   replace bF:=eq_true bF
   have cV:0<=((a3):Int):=zd
   have cS:((a3):Int)<((Z.length:Int):Int):=zd
   obtain⟨b_,dN,cc,bT,cT,dT,bO⟩:=Kd.qO b.out (by omega)
   (first|cases cc|(injection cc with iW kL kM;(first|subst iW|(injection iW with iW;subst iW));subst kM;clear kL))
   have d8:=zk bT
   have Y:=zk bO
   clear bT cT bO
   (first|simp only[add_plain] at s|skip)
   (first|simp only[add_plain] at q|skip)
   obtain⟨T,d⟩:=Kd.nT 0 b.out ((a3):Int) cV cS
   replace cV:=eq_true cV
   replace cS:=eq_true cS
   have bD:=Kd.Dp b.out ((a3):Int) (Int.tmod (wrap64 ((rd Z (a3))+(wrap64 ((wrap64 (l-(rd Z x)))*(rd o J))))) l)
   rw[<-bR.out] at bD
   have O:=zk bD
   clear bD
   refine qi (n:=35) (S:=λw'=>w'.cell? ⟨L,0,none⟩=some (.int .i64 l)/\w'.cell? ⟨L,1,none⟩=some (.int .i64 c)/\w'.cell? ⟨L,2,none⟩=some (.slice (some bh) o.length a0)/\w'.cell? ⟨b_,((a3)).toNat,none⟩=some (.int .i64 (rd Z (a3)))/\w'.cell? ⟨b_,(x).toNat,none⟩=some (.int .i64 (rd Z x))/\w'.cell? (bh.add (J).toNat)=some (.int .i64 (rd o J))) (ds:=[34]) #[false,false,false,false,false,false,false,false,false,false,false,false,false,false,false,false,false,false,false,false,false,false,false,false,false,false,false,false,false,false,false,false,false,false,false] (by kernel_rfl) rfl rfl ⟨(iy a.out 0).trans rfl,(iy a.out 1).trans rfl,(iy a.out 2).trans rfl,s,q,((HB.out.cell (World.block_lt_of_cell? w _ ae)).trans ae)⟩ (λhHeld=>?_);refine qx jU.RJ jU.XR (λiq jq=>?_)
   first|(generalize wr.drew=aa at b a HB Y O d s q j T hHeld ⊢)|(generalize wr.drew=aa at b a HB Y O d q j T hHeld ⊢)|(generalize wr.drew=aa at b a HB Y O d s j T hHeld ⊢)|(generalize wr.drew=aa at b a HB Y O d s q T hHeld ⊢)|(generalize wr.drew=aa at b a HB Y O d s q j hHeld ⊢)|(generalize wr.drew=aa at b a HB Y O d j T hHeld ⊢)|(generalize wr.drew=aa at b a HB Y O d q T hHeld ⊢)|(generalize wr.drew=aa at b a HB Y O d q j hHeld ⊢)|(generalize wr.drew=aa at b a HB Y O d s T hHeld ⊢)|(generalize wr.drew=aa at b a HB Y O d s j hHeld ⊢)|(generalize wr.drew=aa at b a HB Y O d s q hHeld ⊢)|(generalize wr.drew=aa at b a HB Y O d T hHeld ⊢)|(generalize wr.drew=aa at b a HB Y O d j hHeld ⊢)|(generalize wr.drew=aa at b a HB Y O d q hHeld ⊢)|(generalize wr.drew=aa at b a HB Y O d s hHeld ⊢)|(generalize wr.drew=aa at b a HB Y O d hHeld ⊢)
   refine zp (i:=0) (N:=some 77) iq ?_
   refine zp (i:=1) (N:=some 78) iq ?_
   refine zp (i:=2) (N:=some 79) iq ?_
   refine zp (i:=5) (N:=some 82) iq ?_
   refine zp (i:=7) (N:=some 84) iq ?_
   refine zp (i:=8) (N:=some 85) iq ?_
   refine zp (i:=9) (N:=some 86) iq ?_
   refine zp (i:=12) (N:=some 89) iq ?_
   refine zp (i:=16) (N:=some 93) iq ?_
   refine zp (i:=18) (N:=some 95) iq ?_
   refine zp (i:=19) (N:=some 96) iq ?_
   refine zp (i:=20) (N:=some 97) iq ?_
   refine zp (i:=23) (N:=some 100) iq ?_
   refine zp (i:=25) (N:=some 102) iq ?_
   refine zp (i:=30) (N:=some 107) iq ?_
   refine jI (i:=3) (N:=some 80) (v:=?_) (a':=?_) #[true,true,true,true,false,true,false,true,true,true,false,false,true,false,false,false,true,false,true,true,true,false,false,true,false,true,false,false,false,false,true,false,false,false,false] rfl rfl (jO iq.out jq.out (by kernel_rfl)) (λ_ _ _ h=>h) (Or.inl ⟨by rfl,?_⟩) hHeld ?_ ?_
   rotate_left
   ·rintro w' ⟨s0,s1,s2,s3,s4,s5⟩
    go_simp
    with_reducible rfl
   rotate_left
   ·simp only[Act.put,List.setIfInBounds_toArray,List.set_cons_zero,List.set_cons_succ,iI,iP]
    rfl
   refine zp (i:=4) (N:=some 81) iq ?_
   refine zp (i:=6) (N:=some 83) iq ?_
   refine jI (i:=10) (N:=some 87) (v:=?_) (a':=?_) #[true,true,true,true,true,true,true,true,true,true,true,false,true,false,false,false,true,false,true,true,true,false,false,true,false,true,false,false,false,false,true,false,false,false,false] rfl rfl (jO iq.out jq.out (by kernel_rfl)) (λ_ _ _ h=>h) (Or.inl ⟨by rfl,?_⟩) hHeld ?_ ?_
   rotate_left
   ·rintro w' ⟨s0,s1,s2,s3,s4,s5⟩
    go_simp
    with_reducible rfl
   rotate_left
   ·simp only[Act.put,List.setIfInBounds_toArray,List.set_cons_zero,List.set_cons_succ,iI,iP]
    rfl
   refine zp (i:=11) (N:=some 88) iq ?_
   refine zp (i:=13) (N:=some 90) iq ?_
   refine zp (i:=14) (N:=some 91) iq ?_
   refine jI (i:=15) (N:=some 92) (v:=?_) (a':=?_) #[true,true,true,true,true,true,true,true,true,true,true,true,true,true,true,true,true,false,true,true,true,false,false,true,false,true,false,false,false,false,true,false,false,false,false] rfl rfl (jO iq.out jq.out (by kernel_rfl)) (λ_ _ _ h=>h) (Or.inl ⟨by rfl,?_⟩) hHeld ?_ ?_
   rotate_left
   ·rintro w' ⟨s0,s1,s2,s3,s4,s5⟩
    go_simp
    with_reducible rfl
   rotate_left
   ·simp only[Act.put,List.setIfInBounds_toArray,List.set_cons_zero,List.set_cons_succ,iI,iP]
    rfl
   refine jI (i:=17) (N:=some 94) (v:=?_) (a':=?_) #[true,true,true,true,true,true,true,true,true,true,true,true,true,true,true,true,true,true,true,true,true,false,false,true,false,true,false,false,false,false,true,false,false,false,false] rfl rfl (jO iq.out jq.out (by kernel_rfl)) (λ_ _ _ h=>h) (Or.inl ⟨by rfl,?_⟩) hHeld ?_ ?_
   rotate_left
   ·rintro w' ⟨s0,s1,s2,s3,s4,s5⟩
    go_simp
    with_reducible rfl
   rotate_left
   ·simp only[Act.put,List.setIfInBounds_toArray,List.set_cons_zero,List.set_cons_succ,iI,iP]
    rfl
   refine jI (i:=21) (N:=some 98) (v:=?_) (a':=?_) #[true,true,true,true,true,true,true,true,true,true,true,true,true,true,true,true,true,true,true,true,true,true,false,true,false,true,false,false,false,false,true,false,false,false,false] rfl rfl (jO iq.out jq.out (by kernel_rfl)) (λ_ _ _ h=>h) (Or.inl ⟨by rfl,?_⟩) hHeld ?_ ?_
   rotate_left
   ·rintro w' ⟨s0,s1,s2,s3,s4,s5⟩
    go_simp
    with_reducible rfl
   rotate_left
   ·simp only[Act.put,List.setIfInBounds_toArray,List.set_cons_zero,List.set_cons_succ,iI,iP]
    rfl
   refine zp (i:=22) (N:=some 99) iq ?_
   refine jI (i:=24) (N:=some 101) (v:=?_) (a':=?_) #[true,true,true,true,true,true,true,true,true,true,true,true,true,true,true,true,true,true,true,true,true,true,true,true,true,true,false,false,false,false,true,false,false,false,false] rfl rfl (jO iq.out jq.out (by kernel_rfl)) (λ_ _ _ h=>h) (Or.inl ⟨by rfl,?_⟩) hHeld ?_ ?_
   rotate_left
   ·rintro w' ⟨s0,s1,s2,s3,s4,s5⟩
    go_simp
    with_reducible rfl
   rotate_left
   ·simp only[Act.put,List.setIfInBounds_toArray,List.set_cons_zero,List.set_cons_succ,iI,iP]
    rfl
   refine zp (i:=26) (N:=some 103) iq ?_
   refine jI (i:=27) (N:=some 104) (v:=?_) (a':=?_) #[true,true,true,true,true,true,true,true,true,true,true,true,true,true,true,true,true,true,true,true,true,true,true,true,true,true,true,true,false,false,true,false,false,false,false] rfl rfl (jO iq.out jq.out (by kernel_rfl)) (λ_ _ _ h=>h) (Or.inl ⟨by rfl,?_⟩) hHeld ?_ ?_
   rotate_left
   ·rintro w' ⟨s0,s1,s2,s3,s4,s5⟩
    go_simp
    with_reducible rfl
   rotate_left
   ·simp only[Act.put,List.setIfInBounds_toArray,List.set_cons_zero,List.set_cons_succ,iI,iP]
    rfl
   refine zp (i:=28) (N:=some 105) iq ?_
   refine zp (i:=29) (N:=some 106) iq ?_
   refine jI (i:=31) (N:=some 108) (v:=?_) (a':=?_) #[true,true,true,true,true,true,true,true,true,true,true,true,true,true,true,true,true,true,true,true,true,true,true,true,true,true,true,true,true,true,true,true,false,false,false] rfl rfl (jO iq.out jq.out (by kernel_rfl)) (λ_ _ _ h=>h) (Or.inl ⟨by rfl,?_⟩) hHeld ?_ ?_
   rotate_left
   ·rintro w' ⟨s0,s1,s2,s3,s4,s5⟩
    go_simp
    with_reducible rfl
   rotate_left
   ·simp only[Act.put,List.setIfInBounds_toArray,List.set_cons_zero,List.set_cons_succ,iI,iP]
    rfl
   refine zp (i:=32) (N:=some 109) iq ?_
   refine zp (i:=33) (N:=some 110) iq ?_
   refine xR (i:=34) (N:=none) #[true,true,true,true,true,true,true,true,true,true,true,true,true,true,true,true,true,true,true,true,true,true,true,true,true,true,true,true,true,true,true,true,true,true,true] rfl rfl (kH iq.out (by kernel_rfl)) (by decide) (λK hK=>?_)
   refine vH (w1:=?_) (by rfl) rfl ?_ ?_
   rotate_left
   ·go_simp
    rfl
   refine hK.out _ _ ?_
   clear hK K
   refine ql (qF iq.out (by kernel_rfl)) ?_
   try go_wp2
   go_roundg k3
   case measure=>have:=bo.out;have:=aF.out;have:=ch.out;omega
   case rel=>exact⟨(cP),(wrap64 (J+1)),zF,H',⟨by have:=bo.out;have:=aF.out;have:=ch.out;omega⟩,⟨zR O.out⟩,⟨by(with_reducible repeat(first|refine iM ?_ _|refine iC ?_|refine iL ?_ _));refine qo ?_ (by have h_:=Kd.Bv b.out a.out (by decide);intro e_;exact h_ (by rw[e_];rfl)) _;(with_reducible repeat(first|refine iM ?_ _|refine iC ?_|refine iL ?_ _));exact a.out⟩,⟨yu HB.out d8.out z.out⟩⟩
  have H':=zk H
  clear H
  obtain⟨cq,cM,cH,cK,cx,cp⟩:=ja a
  go_wp2
  go_roundg k3
  case measure=>have:=bo.out;have:=aF.out;have:=ch.out;omega
  case rel=>exact⟨(Z),(wrap64 (x-1)),zF,H',⟨by have:=bo.out;have:=aF.out;have:=ch.out;omega⟩,⟨zR b.out⟩,⟨by(with_reducible repeat(first|refine iM ?_ _|refine iC ?_|refine iL ?_ _));exact a.out⟩,⟨iH HB.out z.out⟩⟩
 have be:decide (c<=x)=false:=decide_eq_false c0
 clear c0
 replace H:=zg H
 obtain⟨cX,H⟩:=H
 have dI:=eq_true cX
 have dq:=decide_eq_true cX
 clear cX
 replace H:=zg H
 obtain⟨d2,H⟩:=H
 have dD:=eq_true d2
 have dr:=decide_eq_true d2
 clear d2
 obtain⟨aW,ao⟩:∃y_:List Int,y_=(G.take (c:Int).toNat):=⟨_,rfl⟩
 rw[<-ao] at H
 have bi:=zk ao
 clear ao
 replace H:=zb H
 obtain⟨cW,dL,H⟩:=H
 obtain rfl:=Option.some.inj H
 obtain⟨ct,cC,cL,cy,cE,cJ⟩:=ja a
 try go_wp2
 replace b:=zk (Kd.iJ b.out)
 replace a:=zk (iC a.out)
 replace HB:=zk (l9 HB.out)
 obtain⟨bu,b7,bW⟩:=Kd.iD b.out
 (first|subst bW|(injection bW with ag b9 ai;have aL:=ag.symm;have aA:=ai.symm;clear ag b9 ai;subst aL;subst aA))
 have d7:(c:Int)<=((G.length:Int):Int):=zd
 obtain⟨d_,bj,_,cb,_⟩:=info_parts info3
 have af:G.length<=b7:=(Kd.iw b.out).2.1
 have bK:Kd.C (Kd.int .i64) _ bu G.length G:=(Kd.iw b.out).2.2
 have bI:=Xe (P:=Try.prog) 22 3 .i64 Try.underlying22 bj bu G.length b7 c zd d7 af
 have bx:=Kd.QG (m:=(c:Int).toNat) bK (by omega)
 have bz:aW.length=(c:Int).toNat:=(by rw[bi.out,List.length_take];omega)
 rw[<-bi.out] at bx
 rw[<-bz] at bI
 have ac:=zk bx
 have bQ:=zk (show aW.length<=b7 from by omega)
 clear bx bK af bj cb
 have dW:=zk bz
 clear bz
 have dY:=zk (show(c:Int).toNat<=G.length from by omega)
 replace d7:=eq_true d7
 refine qi (n:=7) (S:=λw'=>w'.cell? ⟨L,0,none⟩=some (.int .i64 l)/\w'.cell? ⟨L,1,none⟩=some (.int .i64 c)/\w'.cell? ⟨L,2,none⟩=some (.slice a6 o.length a0)) (ds:=[]) #[false,false,false,false,false,false,false] (by kernel_rfl) rfl rfl ⟨(iy a.out 0).trans rfl,(iy a.out 1).trans rfl,(iy a.out 2).trans rfl⟩ (λhHeld=>?_)
 generalize wr.drew=e7 at b a HB ac hHeld ⊢
 refine uB (i:=1) (N:=some 112) (v:=?_) (a':=?_) #[false,true,false,false,false,false,false] rfl rfl (by kernel_rfl) (λ_ _ _ h=>h) (Or.inl ⟨by rfl,?_⟩) ?_ ?_
 rotate_left
 ·intro w'
  go_simp
  with_reducible rfl
 rotate_left
 ·simp only[Act.put,List.setIfInBounds_toArray,List.set_cons_zero,List.set_cons_succ,iI,iP]
  rfl
 refine uB (i:=2) (N:=some 113) (v:=?_) (a':=?_) #[false,true,true,false,false,false,false] rfl rfl (by kernel_rfl) (λ_ _ _ h=>h) (Or.inl ⟨by rfl,?_⟩) ?_ ?_
 rotate_left
 ·intro w'
  go_simp
  with_reducible rfl
 rotate_left
 ·simp only[Act.put,List.setIfInBounds_toArray,List.set_cons_zero,List.set_cons_succ,iI,iP]
  rfl
 refine jI (i:=0) (N:=some 111) (v:=?_) (a':=?_) #[true,true,true,false,false,false,false] rfl rfl (by kernel_rfl) (λ_ _ _ h=>h) (Or.inl ⟨by rfl,?_⟩) hHeld ?_ ?_
 rotate_left
 ·rintro w' ⟨s0,s1,s2⟩
  go_simp
  with_reducible rfl
 rotate_left
 ·simp only[Act.put,List.setIfInBounds_toArray,List.set_cons_zero,List.set_cons_succ,iI,iP]
  rfl
 refine jI (i:=3) (N:=some 114) (v:=?_) (a':=?_) #[true,true,true,true,false,false,false] rfl rfl (by kernel_rfl) (λ_ _ _ h=>h) (Or.inl ⟨by rfl,?_⟩) hHeld ?_ ?_
 rotate_left
 ·rintro w' ⟨s0,s1,s2⟩
  go_simp
  with_reducible rfl
 rotate_left
 ·simp only[Act.put,List.setIfInBounds_toArray,List.set_cons_zero,List.set_cons_succ,iI,iP]
  rfl
 refine uB (i:=4) (N:=some 115) (v:=?_) (a':=?_) #[true,true,true,true,true,false,false] rfl rfl (by kernel_rfl) (λ_ _ _ h=>h) (Or.inl ⟨by rfl,?_⟩) ?_ ?_
 rotate_left
 ·intro w'
  go_simp
  with_reducible rfl
 rotate_left
 ·simp only[Act.put,List.setIfInBounds_toArray,List.set_cons_zero,List.set_cons_succ,iI,iP]
  rfl
 refine lN (i:=5) (N:=some 116) #[true,true,true,true,true,true,false] rfl rfl (by kernel_rfl) (by decide) (λK hK=>?_)
 refine nS Try.func135 (by kernel_rfl) rfl #[.agg #[.int .i64 l, .int .i64 c, .slice a6 o.length a0], .slice bu aW.length b7] (by rfl) rfl rfl (by(try simp only[List.map_toArray,List.map_cons,List.map_nil]);first|done|rfl|(simp only[List.length_drop,List.length_take];rfl)) ?_
 with_reducible refine(rW.calls k2 l c _ _ o _ _ aW cW _ ?ig ?ik ?iF ?iE dL.out).mono ?_
 (case ig=>exact zC (Kd.iR ad.out HB.out))
 (case ik=>exact av.out)
 (case iF=>repeat(first|exact(yY ac.out)|(with_reducible refine Kd.uT ?_ _)|(with_reducible refine Kd.uQ ?_ _)|(with_reducible refine Kd.uS ?_)))
 (case iE=>exact bQ.out)
 rintro e e4 ⟨rfl,hb⟩
 refine⟨_,rfl,?_⟩
 replace b:=jl b hb
 replace a:=yK a hb
 (try replace ac:=oO ac hb)
 replace HB:=jg HB z hb
 (try clear hb)
 refine hK.out _ _ ⟨(iy a.out 0).trans rfl,(iy a.out 1).trans rfl,(iy a.out 2).trans rfl⟩ (λhHeld=>?_)
 clear hK K
 refine mr (a':=?_) ?_ ?_
 rotate_left
 ·show Act.put _ (some 116) _=_
  simp only[Act.put,List.setIfInBounds_toArray,List.set_cons_zero,List.set_cons_succ,iI,iP]
  rfl
 refine uB (i:=6) (N:=some 6) (v:=?_) (a':=?_) #[true,true,true,true,true,true,true] rfl rfl (by kernel_rfl) (λ_ _ _ h=>h) (Or.inl ⟨by rfl,?_⟩) ?_ ?_
 rotate_left
 ·intro w'
  go_simp
  with_reducible rfl
 rotate_left
 ·simp only[Act.put,List.setIfInBounds_toArray,List.set_cons_zero,List.set_cons_succ,iI,iP]
  rfl
 refine ql (by kernel_rfl) ?_
 try go_wp2
 go_ret
 exact⟨by first|rfl|(simp [kV,kU]<;>rfl)|(simp only[<-al];first|rfl|(simp [kV,kU]<;>rfl))|(simp [*,kV,kU]<;>rfl),iH HB.out z.out⟩
def jP.T5:Bool×List (List Nat×List Nat):=(true,[([],[]),([],[]),([],[]),([],[]),([2,3],[2,3]),([4],[4]),([0,1,5],[0,1,5]),([6,6,0,1,2,3,4,5,6],[6])])
def jP.B5:List Nat:=[0,0,0,0,12,28,63,127]
theorem jP.zT:lM .any (opsOf Try.f68 5)=jP.T5:=by kernel_rfl
theorem jP.Bl:qh jP.T5.2 jP.B5=true:=by kernel_rfl
def jP.Qc:Bool×List (List Nat×List Nat):=(true,[([],[]),([],[]),([],[]),([],[]),([],[]),([3,4],[3,4]),([5],[5]),([],[]),([6,7],[6,7]),([8],[8]),([],[]),([],[]),([],[]),([],[]),([12,13],[12,13]),([14],[14]),([10,11,15],[10,11,15]),([2,9,16,16],[2,9,16]),([0,1,0,1,2,3,4,5,6,7,8,9,10,11,12,13,14,15,16,17],[0,1]),([18,17,17,0,1,2,3,4,5,6,7,8,9,10,11,12,13,14,15,16,17],[17,18])])
def jP.YQ:List Nat:=[0,0,0,0,0,24,56,0,248,504,0,0,0,0,12288,28672,64512,131068,262143,524287]
theorem jP.RG:lM .any (opsOf Try.f68 20)=jP.Qc:=by kernel_rfl
theorem jP.XO:qh jP.Qc.2 jP.YQ=true:=by kernel_rfl
theorem jP.calls(k:Nat)(B:Int)(A:Int)(W:Option Addr)(U:Nat)(y:List Int)(a1:Int)(A2:Option Addr)(c2:Nat)(l2:List (List Int))(a3:Int)(r:List (List Int))(w:World)(bf:Kd.C (Kd.int .i64) w W y.length y)(bc:y.length<=U)(dc:Kd.C (Kd.slice 3 (Kd.int .i64)) w A2 l2.length l2)(df:l2.length<=c2)(h:jP.f k B A y a1 l2 a3=some r):
 Calls Try.prog 68 #[.agg #[.int .i64 B, .int .i64 A, .slice W y.length U], .int .i64 a1, .slice A2 l2.length c2, .int .i64 a3] w λe w'=>∃dk:Value,e= .returned (dk)/\Kd.N (Kd.slice 3 (Kd.int .i64)) 22 w' w.heap.size (λk_=>(w.heap.size<=k_)) dk r/\Below w.heap.size w w':=by
 have dF:=Try.underlying24
 have a9:=zk bf
 have ab:=zk bc
 clear bf bc
 have d6:=zk dc
 have dL:=zk df
 clear dc df
 have HB:=zk (Below.refl w.heap.size w)
 have H:=h
 clear h
 unfold jP.f at H
 replace H:=zg H
 obtain⟨c5,H⟩:=H
 have cI:=eq_true c5
 have cZ:=decide_eq_true c5
 clear c5
 replace H:=zg H
 obtain⟨c6,H⟩:=H
 have cM:=eq_true c6
 have cW:=decide_eq_true c6
 clear c6
 obtain⟨aJ,aG⟩:∃y_:List Int,y_=(List.replicate (a1:Int).toNat 0):=⟨_,rfl⟩
 rw[<-aG] at H
 have bb:=zk aG
 clear aG
 obtain⟨cK,aE⟩:∃y_:List (List Int),y_=(([aJ]:List (List Int))):=⟨_,rfl⟩
 rw[<-aE] at H
 have b9:=zk aE
 clear aE
 have H':=zk H
 clear H
 go_enter Try.func68,Try.ntmps68
 go_wp2_with (first|((with_reducible refine jc (N:=4) rfl ?_);refine jM ?hg (N:=4) ?hd (cs:= #[.int .i64 B, .int .i64 A, .slice W y.length U]) (t:=24) ?hr ?_;(case hd=>rfl);(case hg=>rfl);(case hr=>first|(go_simp;done)|(go_simp;rfl));intro q hg w7 hbox hb;have a:=zk (hbox);have d8:=yg hg HB;have l:=yg hg HB;replace HB:=yS HB hb;clear hb hbox hg)|((with_reducible refine jc (N:=18) rfl ?_);refine Kd.ug (Kd.int .i64) _ 3 rfl (N:=18) rfl 22 _ _ rfl a1 rfl rfl Try.underlying22 (.int .i64 0) 8 info3 rfl (by decide) (by omega) 0 (ok:=λ_=>True) (je:=λ_=>True) rfl (λ_ hk=>hk) trivial zd (Nat.le_trans (Nat.mul_le_mul_right _ (zd:a1.toNat<=35184372088832)) (by omega)) (Below.refl _ _) (Nat.le_refl _) ?_;intro dy w8 bq hb jw jv;clear jw jv;(first|rw[<-bb.out] at bq|(simp only[Int.reduceToNat] at bq;rw[<-bb.out] at bq));replace bq:=Kd.oD (M:=λk_=>(w.heap.size<=k_)) bq (iQ (iH HB.out l.out)) (λk_ h_=>h_);have aK:=kY bq HB l;replace a:=yK a hb;replace HB:=jg HB l hb;clear hb bq;obtain⟨bH,cg,rfl⟩:=Kd.iD aK.out)|((with_reducible refine jc (N:=19) rfl ?_);refine Kd.G5 (Kd.slice 3 (Kd.int .i64)) _ 22 ?hg (N':=19) ?hd (xs:=([aJ]:List (List Int))) (inner:=[.slice bH aJ.length cg]) (ok:=(λk_=>(w.heap.size<=k_)/\k_≠q)) (je:=(λk_=>(w.heap.size<=k_)/\k_≠q)) ?hr ?hp (λ_ hk=>hk) ((show ∀k_,w8.heap.size<=k_->(λk_=>(w.heap.size<=k_)/\k_≠q) k_ from λk_ hk=>⟨(Nat.le_trans (iQ (iH HB.out l.out)) hk),Kd.kT (g:=q) (o:= .cells #[.int .i64 B, .int .i64 A, .slice W y.length U] 24 (0,0)) (by(with_reducible repeat(first|refine iM ?_ _|refine iC ?_|refine iL ?_ _));exact a.out) k_ hk⟩) _ (Nat.le_refl _)) (Below.refl _ _) (Nat.le_refl _) (by simp) ?_;(case hd=>rfl);(case hg=>rfl);(case hr=>first|(go_simp;done)|(go_simp;rfl));(case hp=>exact(iY.one (show Kd.FK (Kd.slice 3 (Kd.int .i64)) _ _ aJ [.slice bH aJ.length cg] from(Mw.Dy (Kd.iZ (ok':=(λk_=>(w.heap.size<=k_)/\k_≠q)) (Kd.mM (aK.out) a.out (by decide)) (λk_ hk=>by exact⟨hk.1.1,hk.2⟩)))) (iY.none _ _)));intro dr dH aH hb jw jv;clear jw jv;(first|rw[<-b9.out] at aH|(simp only[Int.reduceToNat] at aH;rw[<-b9.out] at aH));have ce:=zk (Kd.qf aH (iQ (iH HB.out l.out)));replace a:=yK a hb;replace HB:=jg HB l hb;clear aK;clear hb aH))
 go_loopg [9,10] k (λkq v9 dt w'=>∃(G:List (List Int)) (x:Int),dt= .int .i64 x/\dw (jP.l0 kq a1 l2 a3 G x B A y=some r)/\dw (kq<=k)/\dw (Kd.N (Kd.slice 3 (Kd.int .i64)) 22 w' w.heap.size (λk_=>(w.heap.size<=k_)/\k_≠q) v9 G)/\dw (w'.heap[q]?=some (.cells #[.int .i64 B, .int .i64 A,(.slice W y.length U)] 24 (0,0)))/\dw (Below w.heap.size w w'))
 case atStart=>exact⟨(cK),(0),zF,H',⟨Nat.le_refl _⟩,⟨zN ce.out⟩,⟨by(with_reducible repeat(first|refine iM ?_ _|refine iC ?_|refine iL ?_ _));exact a.out⟩,⟨iH HB.out l.out⟩⟩
 clear H'
 (try clear cI cZ cM cW)
 obtain⟨G,x,rfl,HA,aM,d,a,HB⟩:=hrel
 cases gk with|zero=>exact absurd HA.out (by simp [jP.l0])|succ k1=>?_
 have H:=HA.out
 clear HA
 simp only[jP.l0] at H
 replace H:=jB H
 rcases H with⟨ba,H⟩|⟨ba,H⟩
 ·replace H:=iV H
  obtain⟨bI,H⟩:=H
  replace H:=zb H
  obtain⟨ac,cP,H⟩:=H
  replace H:=zb H
  obtain⟨cO,cY,H⟩:=H
  by_cases bG:cO=true
  ·subst bG
   rw[if_pos rfl] at H
   have H':=zk H
   clear H
   try go_wp2
   replace d:=zk (Kd.jA d.out)
   replace a:=zk (iC a.out)
   replace HB:=zk (l9 HB.out)
   have ah:0<=(x:Int):=zd
   have af:x<(l2.length:Int):=zd
   obtain⟨aq,a0,Z,aA,u,X,Y⟩:=rH d6.out x ah af
   have D:=u
   cases aA
   replace u:=(HB.out.cell (World.block_lt_of_cell? w _ u)).trans u
   have O:=zk Y
   have aa:=zk X
   clear Y X
   replace ah:=eq_true ah
   replace af:=eq_true af
   refine qi (n:=8) (S:=λw'=>w'.cell? ⟨q,0,none⟩=some (.int .i64 B)/\w'.cell? ⟨q,1,none⟩=some (.int .i64 A)/\w'.cell? ⟨q,2,none⟩=some (.slice W y.length U)/\w'.cell? (aq.add (x).toNat)=some (.slice a0 (jD l2 x).length Z)) (ds:=[]) #[false,false,false,false,false,false,false,false] (by kernel_rfl) rfl rfl ⟨(iy a.out 0).trans rfl,(iy a.out 1).trans rfl,(iy a.out 2).trans rfl,((HB.out.cell (World.block_lt_of_cell? w _ D)).trans D)⟩ (λhHeld=>?_);refine qx jP.zT jP.Bl (λiq jq=>?_)
   first|(generalize wr.drew=dC at d a HB O u hHeld ⊢)|(generalize wr.drew=dC at d a HB O hHeld ⊢)
   refine zp (i:=1) (N:=some 27) iq ?_
   refine zp (i:=2) (N:=some 28) iq ?_
   refine zp (i:=3) (N:=some 29) iq ?_
   refine zp (i:=4) (N:=some 30) iq ?_
   refine jI (i:=0) (N:=some 26) (v:=?_) (a':=?_) #[true,true,true,true,true,false,false,false] rfl rfl (jO iq.out jq.out (by kernel_rfl)) (λ_ _ _ h=>h) (Or.inl ⟨by rfl,?_⟩) hHeld ?_ ?_
   rotate_left
   ·rintro w' ⟨s0,s1,s2,s3⟩
    go_simp
    with_reducible rfl
   rotate_left
   ·simp only[Act.put,List.setIfInBounds_toArray,List.set_cons_zero,List.set_cons_succ,iI,iP]
    rfl
   refine jI (i:=5) (N:=some 31) (v:=?_) (a':=?_) #[true,true,true,true,true,true,false,false] rfl rfl (jO iq.out jq.out (by kernel_rfl)) (λ_ _ _ h=>h) (Or.inl ⟨by rfl,?_⟩) hHeld ?_ ?_
   rotate_left
   ·rintro w' ⟨s0,s1,s2,s3⟩
    go_simp
    with_reducible rfl
   rotate_left
   ·simp only[Act.put,List.setIfInBounds_toArray,List.set_cons_zero,List.set_cons_succ,iI,iP]
    rfl
   refine lN (i:=6) (N:=some 32) #[true,true,true,true,true,true,true,false] rfl rfl (kH iq.out (by kernel_rfl)) (by decide) (λK hK=>?_)
   refine nS Try.func60 (by kernel_rfl) rfl #[.agg #[.int .i64 B, .int .i64 A, .slice W y.length U], .int .i64 a1, .slice a0 (jD l2 x).length Z] (by rfl) rfl rfl (by(try simp only[List.map_toArray,List.map_cons,List.map_nil]);first|done|rfl|(simp only[List.length_drop,List.length_take];rfl)) ?_
   with_reducible refine(oC.calls k1 B A _ _ y a1 _ _ (jD l2 x) ac _ ?ig ?ik ?iF ?iE cP.out).mono ?_
   (case ig=>exact zC (Kd.iR a9.out HB.out))
   (case ik=>exact ab.out)
   (case iF=>exact zC (Kd.iR O.out HB.out))
   (case iE=>exact aa.out)
   rintro e dN ⟨bU,rfl,ao,hb⟩
   refine⟨_,rfl,?_⟩
   replace d:=o7 d ao hb
   replace ao:=Kd.oD (M:=λk_=>(w.heap.size<=k_)) ao (iQ (iH HB.out l.out)) (λk_ h_=>h_)
   have P:=kY ao HB l
   replace a:=yK a hb
   replace HB:=jg HB l hb
   (try clear hb)
   (try clear ao)
   refine hK.out _ _ ⟨(iy a.out 0).trans rfl,(iy a.out 1).trans rfl,(iy a.out 2).trans rfl,((HB.out.cell (World.block_lt_of_cell? w _ D)).trans D)⟩ (λhHeld=>?_)
   clear hK K
   refine mr (a':=?_) ?_ ?_
   rotate_left
   ·show Act.put _ (some 32) _=_
    simp only[Act.put,List.setIfInBounds_toArray,List.set_cons_zero,List.set_cons_succ,iI,iP]
    rfl
   refine zp (i:=7) (N:=some 11) iq ?_
   refine ql (qF iq.out (by kernel_rfl)) ?_
   obtain⟨d0,cL,rfl⟩:=Kd.oG d.out
   obtain⟨cT,cB,rfl⟩:=Kd.iD P.out
   try go_wp2_with (first|((with_reducible refine gC 111 ?_);refine zG (some 35) Try.func111 #[.slice d0 G.length cL, .slice cT ac.length cB] ?_;(with_reducible refine(sN.calls k1 _ _ G _ _ ac true _ ?ig ?ik ?iF ?iE cY.out).mono ?_);(case ig=>exact zC (Kd.jR d.out).2.2);(case ik=>exact(Kd.jR d.out).2.1);(case iF=>exact zC (Kd.iw P.out).2.2);(case iE=>exact(Kd.iw P.out).2.1);rintro e w' ⟨rfl,⟨nd,rfl⟩⟩;refine⟨_,rfl,?_⟩))
   go_roundg k1
   case measure=>have:=aM.out;omega
   case rel=>exact⟨(G),(wrap64 (x+1)),zF,H',⟨kP aM⟩,⟨by(with_reducible repeat(first|apply Kd.jK|apply Kd.jJ|apply Kd.jA));exact Kd.ji d.out (λ_ hk=>⟨hk.1.1,hk.1.2⟩)⟩,⟨by(with_reducible repeat(first|refine iM ?_ _|refine iC ?_|refine iL ?_ _));exact a.out⟩,⟨iH HB.out l.out⟩⟩
  replace bG:=Bool.eq_false_iff.mpr bG
  subst bG
  rw[if_neg Bool.false_ne_true] at H
  replace H:=zb H
  obtain⟨aZ,dm,H⟩:=H
  replace H:=zh H
  obtain⟨cH,H⟩:=H
  have bT:=beq_eq_false_iff_ne.mpr cH
  have bF:=bne_iff_ne.mpr cH
  replace H:=zi H
  rcases H with⟨bE,H⟩|⟨bE,H⟩
  ·have b6:decide ((wrap64 (Int.tdiv a3 aZ))<(G.length:Int))=true:=decide_eq_true bE
   clear bE
   obtain rfl:=Option.some.inj H
   try go_wp2
   replace d:=zk (Kd.jA d.out)
   replace a:=zk (iC a.out)
   replace HB:=zk (l9 HB.out)
   have ah:0<=(x:Int):=zd
   have af:x<(l2.length:Int):=zd
   obtain⟨aq,a0,Z,aA,u,X,Y⟩:=rH d6.out x ah af
   have D:=u
   cases aA
   replace u:=(HB.out.cell (World.block_lt_of_cell? w _ u)).trans u
   have O:=zk Y
   have aa:=zk X
   clear Y X
   replace ah:=eq_true ah
   replace af:=eq_true af
   refine qi (n:=8) (S:=λw'=>w'.cell? ⟨q,0,none⟩=some (.int .i64 B)/\w'.cell? ⟨q,1,none⟩=some (.int .i64 A)/\w'.cell? ⟨q,2,none⟩=some (.slice W y.length U)/\w'.cell? (aq.add (x).toNat)=some (.slice a0 (jD l2 x).length Z)) (ds:=[]) #[false,false,false,false,false,false,false,false] (by kernel_rfl) rfl rfl ⟨(iy a.out 0).trans rfl,(iy a.out 1).trans rfl,(iy a.out 2).trans rfl,((HB.out.cell (World.block_lt_of_cell? w _ D)).trans D)⟩ (λhHeld=>?_);refine qx jP.zT jP.Bl (λiq jq=>?_)
   first|(generalize wr.drew=dz at d a HB O u hHeld ⊢)|(generalize wr.drew=dz at d a HB O hHeld ⊢)
   refine zp (i:=1) (N:=some 27) iq ?_
   refine zp (i:=2) (N:=some 28) iq ?_
   refine zp (i:=3) (N:=some 29) iq ?_
   refine zp (i:=4) (N:=some 30) iq ?_
   refine jI (i:=0) (N:=some 26) (v:=?_) (a':=?_) #[true,true,true,true,true,false,false,false] rfl rfl (jO iq.out jq.out (by kernel_rfl)) (λ_ _ _ h=>h) (Or.inl ⟨by rfl,?_⟩) hHeld ?_ ?_
   rotate_left
   ·rintro w' ⟨s0,s1,s2,s3⟩
    go_simp
    with_reducible rfl
   rotate_left
   ·simp only[Act.put,List.setIfInBounds_toArray,List.set_cons_zero,List.set_cons_succ,iI,iP]
    rfl
   refine jI (i:=5) (N:=some 31) (v:=?_) (a':=?_) #[true,true,true,true,true,true,false,false] rfl rfl (jO iq.out jq.out (by kernel_rfl)) (λ_ _ _ h=>h) (Or.inl ⟨by rfl,?_⟩) hHeld ?_ ?_
   rotate_left
   ·rintro w' ⟨s0,s1,s2,s3⟩
    go_simp
    with_reducible rfl
   rotate_left
   ·simp only[Act.put,List.setIfInBounds_toArray,List.set_cons_zero,List.set_cons_succ,iI,iP]
    rfl
   refine lN (i:=6) (N:=some 32) #[true,true,true,true,true,true,true,false] rfl rfl (kH iq.out (by kernel_rfl)) (by decide) (λK hK=>?_)
   refine nS Try.func60 (by kernel_rfl) rfl #[.agg #[.int .i64 B, .int .i64 A, .slice W y.length U], .int .i64 a1, .slice a0 (jD l2 x).length Z] (by rfl) rfl rfl (by(try simp only[List.map_toArray,List.map_cons,List.map_nil]);first|done|rfl|(simp only[List.length_drop,List.length_take];rfl)) ?_
   with_reducible refine(oC.calls k1 B A _ _ y a1 _ _ (jD l2 x) ac _ ?ig ?ik ?iF ?iE cP.out).mono ?_
   (case ig=>exact zC (Kd.iR a9.out HB.out))
   (case ik=>exact ab.out)
   (case iF=>exact zC (Kd.iR O.out HB.out))
   (case iE=>exact aa.out)
   rintro e dP ⟨bU,rfl,ao,hb⟩
   refine⟨_,rfl,?_⟩
   replace d:=o7 d ao hb
   replace ao:=Kd.oD (M:=λk_=>(w.heap.size<=k_)) ao (iQ (iH HB.out l.out)) (λk_ h_=>h_)
   have P:=kY ao HB l
   replace a:=yK a hb
   replace HB:=jg HB l hb
   (try clear hb)
   (try clear ao)
   refine hK.out _ _ ⟨(iy a.out 0).trans rfl,(iy a.out 1).trans rfl,(iy a.out 2).trans rfl,((HB.out.cell (World.block_lt_of_cell? w _ D)).trans D)⟩ (λhHeld=>?_)
   clear hK K
   refine mr (a':=?_) ?_ ?_
   rotate_left
   ·show Act.put _ (some 32) _=_
    simp only[Act.put,List.setIfInBounds_toArray,List.set_cons_zero,List.set_cons_succ,iI,iP]
    rfl
   refine zp (i:=7) (N:=some 11) iq ?_
   refine ql (qF iq.out (by kernel_rfl)) ?_
   obtain⟨d1,c_,rfl⟩:=Kd.oG d.out
   obtain⟨d3,cG,rfl⟩:=Kd.iD P.out
   try go_wp2_with (first|((with_reducible refine gC 111 ?_);refine zG (some 35) Try.func111 #[.slice d1 G.length c_, .slice d3 ac.length cG] ?_;(with_reducible refine(sN.calls k1 _ _ G _ _ ac false _ ?ig ?ik ?iF ?iE cY.out).mono ?_);(case ig=>exact zC (Kd.jR d.out).2.2);(case ik=>exact(Kd.jR d.out).2.1);(case iF=>exact zC (Kd.iw P.out).2.2);(case iE=>exact(Kd.iw P.out).2.1);rintro e w' ⟨rfl,⟨nd,rfl⟩⟩;refine⟨_,rfl,?_⟩;obtain⟨cm,ck,cx,cn,cq,cv⟩:=ja a)|((with_reducible refine gC 24 ?_);refine zG (some 40) Try.func24 #[.agg #[.int .i64 B, .int .i64 A, .slice W y.length U]] ?_;(with_reducible refine(kQ.calls k1 B A _ _ y aZ _ ?ig ?ik dm.out).mono ?_);(case ig=>exact zC (Kd.iR a9.out (iH HB.out l.out)));(case ik=>exact ab.out);rintro e dO ⟨rfl,hb⟩;refine⟨_,rfl,?_⟩;replace d:=kG d hb;replace P:=jl P hb;replace a:=yK a hb;replace HB:=jg HB l hb;(try clear hb)))
   go_ret
   exact⟨_,zE,by first|exact Kd.tZ _ _ _ _ _|exact Kd.ui _ _ _ _ _|exact Kd.qX _ _ _ _ _|exact Kd.uh _ _ _ _ _|exact Kd.qN _ _ _ _ _,iH HB.out l.out⟩
  have b6:decide ((wrap64 (Int.tdiv a3 aZ))<(G.length:Int))=false:=decide_eq_false bE
  clear bE
  have H':=zk H
  clear H
  try go_wp2
  replace d:=zk (Kd.jA d.out)
  replace a:=zk (iC a.out)
  replace HB:=zk (l9 HB.out)
  have ah:0<=(x:Int):=zd
  have af:x<(l2.length:Int):=zd
  obtain⟨aq,a0,Z,aA,u,X,Y⟩:=rH d6.out x ah af
  have D:=u
  cases aA
  replace u:=(HB.out.cell (World.block_lt_of_cell? w _ u)).trans u
  have O:=zk Y
  have aa:=zk X
  clear Y X
  replace ah:=eq_true ah
  replace af:=eq_true af
  refine qi (n:=8) (S:=λw'=>w'.cell? ⟨q,0,none⟩=some (.int .i64 B)/\w'.cell? ⟨q,1,none⟩=some (.int .i64 A)/\w'.cell? ⟨q,2,none⟩=some (.slice W y.length U)/\w'.cell? (aq.add (x).toNat)=some (.slice a0 (jD l2 x).length Z)) (ds:=[]) #[false,false,false,false,false,false,false,false] (by kernel_rfl) rfl rfl ⟨(iy a.out 0).trans rfl,(iy a.out 1).trans rfl,(iy a.out 2).trans rfl,((HB.out.cell (World.block_lt_of_cell? w _ D)).trans D)⟩ (λhHeld=>?_);refine qx jP.zT jP.Bl (λiq jq=>?_)
  first|(generalize wr.drew=dE at d a HB O u hHeld ⊢)|(generalize wr.drew=dE at d a HB O hHeld ⊢)
  refine zp (i:=1) (N:=some 27) iq ?_
  refine zp (i:=2) (N:=some 28) iq ?_
  refine zp (i:=3) (N:=some 29) iq ?_
  refine zp (i:=4) (N:=some 30) iq ?_
  refine jI (i:=0) (N:=some 26) (v:=?_) (a':=?_) #[true,true,true,true,true,false,false,false] rfl rfl (jO iq.out jq.out (by kernel_rfl)) (λ_ _ _ h=>h) (Or.inl ⟨by rfl,?_⟩) hHeld ?_ ?_
  rotate_left
  ·rintro w' ⟨s0,s1,s2,s3⟩
   go_simp
   with_reducible rfl
  rotate_left
  ·simp only[Act.put,List.setIfInBounds_toArray,List.set_cons_zero,List.set_cons_succ,iI,iP]
   rfl
  refine jI (i:=5) (N:=some 31) (v:=?_) (a':=?_) #[true,true,true,true,true,true,false,false] rfl rfl (jO iq.out jq.out (by kernel_rfl)) (λ_ _ _ h=>h) (Or.inl ⟨by rfl,?_⟩) hHeld ?_ ?_
  rotate_left
  ·rintro w' ⟨s0,s1,s2,s3⟩
   go_simp
   with_reducible rfl
  rotate_left
  ·simp only[Act.put,List.setIfInBounds_toArray,List.set_cons_zero,List.set_cons_succ,iI,iP]
   rfl
  refine lN (i:=6) (N:=some 32) #[true,true,true,true,true,true,true,false] rfl rfl (kH iq.out (by kernel_rfl)) (by decide) (λK hK=>?_)
  refine nS Try.func60 (by kernel_rfl) rfl #[.agg #[.int .i64 B, .int .i64 A, .slice W y.length U], .int .i64 a1, .slice a0 (jD l2 x).length Z] (by rfl) rfl rfl (by(try simp only[List.map_toArray,List.map_cons,List.map_nil]);first|done|rfl|(simp only[List.length_drop,List.length_take];rfl)) ?_
  with_reducible refine(oC.calls k1 B A _ _ y a1 _ _ (jD l2 x) ac _ ?ig ?ik ?iF ?iE cP.out).mono ?_
  (case ig=>exact zC (Kd.iR a9.out HB.out))
  (case ik=>exact ab.out)
  (case iF=>exact zC (Kd.iR O.out HB.out))
  (case iE=>exact aa.out)
  rintro e dI ⟨bU,rfl,ao,hb⟩
  refine⟨_,rfl,?_⟩
  replace d:=o7 d ao hb
  replace ao:=Kd.oD (M:=λk_=>(w.heap.size<=k_)) ao (iQ (iH HB.out l.out)) (λk_ h_=>h_)
  have P:=kY ao HB l
  replace a:=yK a hb
  replace HB:=jg HB l hb
  (try clear hb)
  (try clear ao)
  refine hK.out _ _ ⟨(iy a.out 0).trans rfl,(iy a.out 1).trans rfl,(iy a.out 2).trans rfl,((HB.out.cell (World.block_lt_of_cell? w _ D)).trans D)⟩ (λhHeld=>?_)
  clear hK K
  refine mr (a':=?_) ?_ ?_
  rotate_left
  ·show Act.put _ (some 32) _=_
   simp only[Act.put,List.setIfInBounds_toArray,List.set_cons_zero,List.set_cons_succ,iI,iP]
   rfl
  refine zp (i:=7) (N:=some 11) iq ?_
  refine ql (qF iq.out (by kernel_rfl)) ?_
  obtain⟨al,ak,rfl⟩:=Kd.oG d.out
  obtain⟨a5,a4,rfl⟩:=Kd.iD P.out
  try go_wp2_with (first|((with_reducible refine gC 111 ?_);refine zG (some 35) Try.func111 #[.slice al G.length ak, .slice a5 ac.length a4] ?_;(with_reducible refine(sN.calls k1 _ _ G _ _ ac false _ ?ig ?ik ?iF ?iE cY.out).mono ?_);(case ig=>exact zC (Kd.jR d.out).2.2);(case ik=>exact(Kd.jR d.out).2.1);(case iF=>exact zC (Kd.iw P.out).2.2);(case iE=>exact(Kd.iw P.out).2.1);rintro e w' ⟨rfl,⟨nd,rfl⟩⟩;refine⟨_,rfl,?_⟩;obtain⟨aT,aR,b1,aQ,aN,b4⟩:=ja a)|((with_reducible refine gC 24 ?_);refine zG (some 40) Try.func24 #[.agg #[.int .i64 B, .int .i64 A, .slice W y.length U]] ?_;(with_reducible refine(kQ.calls k1 B A _ _ y aZ _ ?ig ?ik dm.out).mono ?_);(case ig=>exact zC (Kd.iR a9.out (iH HB.out l.out)));(case ik=>exact ab.out);rintro e dS ⟨rfl,hb⟩;refine⟨_,rfl,?_⟩;replace d:=kG d hb;replace P:=jl P hb;replace a:=yK a hb;replace HB:=jg HB l hb;(try clear hb)))
  go_loopg [12,13] k1 (λkq b_ dp w'=>∃(aj:List Int) (ap:List (List Int)) (ae:Int),dp= .int .i64 ae/\dw (jP.l1 kq a1 l2 a3 G x aj ap ae B A y=some r)/\dw (kq<=k1)/\dw (Kd.N (Kd.slice 3 (Kd.int .i64)) 22 w' w.heap.size (λk_=>(w.heap.size<=k_)/\some k_≠((.slice a5 ac.length a4):Value).ownBlock/\some k_≠(b_:Value).ownBlock/\k_≠q) (.slice al G.length ak) G)/\dw (Kd.R (Kd.int .i64) 3 w' w.heap.size (λk_=>(w.heap.size<=k_)) (.slice a5 ac.length a4) aj)/\dw (Kd.N (Kd.slice 3 (Kd.int .i64)) 22 w' w.heap.size (λk_=>(w.heap.size<=k_)/\some k_≠((.slice al G.length ak):Value).ownBlock/\some k_≠((.slice a5 ac.length a4):Value).ownBlock/\k_≠q) b_ ap)/\dw (w'.heap[q]?=some (.cells #[.int .i64 B, .int .i64 A,(.slice W y.length U)] 24 (0,0)))/\dw (Below w.heap.size w w'))
  case atStart=>exact⟨(ac),(([]:List (List Int))),(0),zF,H',⟨Nat.le_refl _⟩,⟨by(with_reducible repeat(first|apply Kd.jK|apply Kd.jJ|apply Kd.jA));exact Kd.ji d.out (λ_ hk=>⟨hk.1.1,⟨hk.2,⟨(by simp [Value.ownBlock]),hk.1.2⟩⟩⟩)⟩,⟨by(with_reducible repeat(first|apply Kd.iT|apply Kd.iU|apply Kd.iJ));exact Kd.iZ P.out (λ_ hk=>hk.1)⟩,⟨by first|exact Kd.tZ _ _ _ _ _|exact Kd.ui _ _ _ _ _|exact Kd.qX _ _ _ _ _|exact Kd.uh _ _ _ _ _|exact Kd.qN _ _ _ _ _⟩,⟨by(with_reducible repeat(first|refine iM ?_ _|refine iC ?_|refine iL ?_ _));exact a.out⟩,⟨iH HB.out l.out⟩⟩
  clear H'
  (try clear ba bI bG cH bT bF b6 aT aR b1 aQ aN b4 u ah af)
  obtain⟨aj,ap,ae,rfl,HA,b5,d,m,s,a,HB⟩:=hrel
  have c:=(Kd.iw m.out).1
  rw[c] at m
  (try simp only[c])
  (try simp only[c] at a)
  (try simp only[c] at d)
  (try simp only[c] at s)
  cases gk with|zero=>exact absurd HA.out (by simp [jP.l1])|succ k2=>?_
  have H:=HA.out
  clear HA
  simp only[jP.l1] at H
  replace H:=zb H
  obtain⟨bB,dh,H⟩:=H
  replace H:=jB H
  rcases H with⟨be,H⟩|⟨be,H⟩
  ·have H':=zk H
   clear H
   obtain⟨aV,b2,a_,aW,b0,aX⟩:=ja a
   go_wp2_with (first|((with_reducible refine gC 24 ?_);refine zG (some 45) Try.func24 #[.agg #[.int .i64 B, .int .i64 A, .slice W y.length U]] ?_;(with_reducible refine(kQ.calls k2 B A _ _ y bB _ ?ig ?ik dh.out).mono ?_);(case ig=>exact zC (Kd.iR a9.out HB.out));(case ik=>exact ab.out);rintro e dJ ⟨rfl,hb⟩;refine⟨_,rfl,?_⟩;replace d:=kG d hb;replace m:=jl m hb;replace s:=kG s hb;replace a:=yK a hb;replace HB:=jg HB l hb;(try clear hb)))
   go_loopg [12,14] k2 (λkq b_ dD w'=>∃(L:List Int) (ad:List (List Int)) (T:Int),dD= .int .i64 T/\dw (jP.l2 kq a1 l2 a3 G x L ad ae T B A y=some r)/\dw (kq<=k2)/\dw (Kd.N (Kd.slice 3 (Kd.int .i64)) 22 w' w.heap.size (λk_=>(w.heap.size<=k_)/\some k_≠((.slice a5 aj.length a4):Value).ownBlock/\some k_≠(b_:Value).ownBlock/\k_≠q) (.slice al G.length ak) G)/\dw (Kd.R (Kd.int .i64) 3 w' w.heap.size (λk_=>(w.heap.size<=k_)) (.slice a5 aj.length a4) L)/\dw (Kd.N (Kd.slice 3 (Kd.int .i64)) 22 w' w.heap.size (λk_=>(w.heap.size<=k_)/\some k_≠((.slice al G.length ak):Value).ownBlock/\some k_≠((.slice a5 aj.length a4):Value).ownBlock/\k_≠q) b_ ad)/\dw (w'.heap[q]?=some (.cells #[.int .i64 B, .int .i64 A,(.slice W y.length U)] 24 (0,0)))/\dw (Below w.heap.size w w'))
   case atStart=>exact⟨(aj),(ap),(0),zF,H',⟨Nat.le_refl _⟩,⟨by(try simp only[c]);(with_reducible repeat(first|apply Kd.jK|apply Kd.jJ|apply Kd.jA));exact d.out⟩,⟨by(try simp only[c]);(with_reducible repeat(first|apply Kd.iT|apply Kd.iU|apply Kd.iJ));exact m.out⟩,⟨by(try simp only[c]);(with_reducible repeat(first|apply Kd.jK|apply Kd.jJ|apply Kd.jA));exact s.out⟩,⟨by(try simp only[c]);(with_reducible repeat(first|refine iM ?_ _|refine iC ?_|refine iL ?_ _));exact a.out⟩,⟨iH HB.out l.out⟩⟩
   clear H'
   (try clear be aV b2 a_ aW b0 aX)
   obtain⟨L,ad,T,rfl,HA,bz,d,m,s,a,HB⟩:=hrel
   have j:=(Kd.iw m.out).1
   rw[j] at m
   (try simp only[j])
   (try simp only[j] at a)
   (try simp only[j] at d)
   (try simp only[j] at s)
   cases gk with|zero=>exact absurd HA.out (by simp [jP.l2])|succ k3=>?_
   have H:=HA.out
   clear HA
   simp only[jP.l2] at H
   replace H:=zi H
   rcases H with⟨cd,H⟩|⟨cd,H⟩
   ·have ar:=decide_eq_true cd
    (try(have az:=ar;simp only[c,j] at az))
    clear cd
    replace H:=zg H
    obtain⟨cE,H⟩:=H
    have ca:=eq_true cE
    have bJ:=decide_eq_true cE
    clear cE
    replace H:=zg H
    obtain⟨cQ,H⟩:=H
    have bR:=eq_true cQ
    have c1:=decide_eq_true cQ
    clear cQ
    obtain⟨cX,aD⟩:∃y_:List Int,y_=(List.replicate (a1:Int).toNat 0):=⟨_,rfl⟩
    rw[<-aD] at H
    have b7:=zk aD
    clear aD
    have H':=zk H
    clear H
    go_wp2_with (first|((with_reducible refine jc (N:=56) rfl ?_);refine Kd.ug (Kd.int .i64) _ 3 rfl (N:=56) rfl 22 _ _ rfl a1 rfl rfl Try.underlying22 (.int .i64 0) 8 info3 rfl (by decide) (by omega) 0 (ok:=λ_=>True) (je:=λ_=>True) rfl (λ_ hk=>hk) trivial zd (Nat.le_trans (Nat.mul_le_mul_right _ (zd:a1.toNat<=35184372088832)) (by omega)) (Below.refl _ _) (Nat.le_refl _) ?_;intro b3 dQ ag hb jw jv;clear jw jv;(first|rw[<-b7.out] at ag|(simp only[Int.reduceToNat] at ag;rw[<-b7.out] at ag));replace d:=o7 d ag hb;replace s:=o7 s ag hb;replace ag:=Kd.oD (M:=λk_=>(w.heap.size<=k_)) ag (iQ (iH HB.out l.out)) (λk_ h_=>h_);replace ag:=yn ag m;have bS:=kY ag HB l;replace m:=iG m ag hb;replace a:=yK a hb;replace HB:=jg HB l hb;clear hb ag))
    go_loopg [16] k3 (λkq dx w'=>∃(a7:List Int) (z:Int),dx= .int .i64 z/\dw (jP.l3 kq a1 l2 a3 G x L ad ae T a7 z B A y=some r)/\dw (kq<=k3)/\dw (Kd.N (Kd.slice 3 (Kd.int .i64)) 22 w' w.heap.size (λk_=>(w.heap.size<=k_)/\some k_≠((.slice a5 L.length a4):Value).ownBlock/\some k_≠(u12:Value).ownBlock/\some k_≠(b3:Value).ownBlock/\k_≠q) (.slice al G.length ak) G)/\dw (Kd.R (Kd.int .i64) 3 w' w.heap.size (λk_=>(w.heap.size<=k_)/\some k_≠(b3:Value).ownBlock) (.slice a5 L.length a4) L)/\dw (Kd.N (Kd.slice 3 (Kd.int .i64)) 22 w' w.heap.size (λk_=>(w.heap.size<=k_)/\some k_≠((.slice al G.length ak):Value).ownBlock/\some k_≠((.slice a5 L.length a4):Value).ownBlock/\some k_≠(b3:Value).ownBlock/\k_≠q) u12 ad)/\dw (Kd.R (Kd.int .i64) 3 w' w.heap.size (λk_=>(w.heap.size<=k_)/\some k_≠((.slice a5 L.length a4):Value).ownBlock) b3 a7)/\dw (w'.heap[q]?=some (.cells #[.int .i64 B, .int .i64 A,(.slice W y.length U)] 24 (0,0)))/\dw (Below w.heap.size w w'))
    case atStart=>exact⟨(cX),(0),zF,H',⟨Nat.le_refl _⟩,⟨by(try simp only[c]);(try simp only[j]);(with_reducible repeat(first|apply Kd.jK|apply Kd.jJ|apply Kd.jA));exact Kd.ji d.out (λ_ hk=>⟨hk.1.1,⟨hk.1.2.1,⟨hk.1.2.2.1,⟨hk.2,hk.1.2.2.2⟩⟩⟩⟩)⟩,⟨by(try simp only[c]);(try simp only[j]);(with_reducible repeat(first|apply Kd.iT|apply Kd.iU|apply Kd.iJ));exact m.out⟩,⟨by(try simp only[c]);(try simp only[j]);(with_reducible repeat(first|apply Kd.jK|apply Kd.jJ|apply Kd.jA));exact Kd.ji s.out (λ_ hk=>⟨hk.1.1,⟨hk.1.2.1,⟨hk.1.2.2.1,⟨hk.2,hk.1.2.2.2⟩⟩⟩⟩)⟩,⟨by(try simp only[c]);(try simp only[j]);(with_reducible repeat(first|apply Kd.iT|apply Kd.iU|apply Kd.iJ));exact Kd.iZ bS.out (λ_ hk=>⟨hk.1.1,hk.2⟩)⟩,⟨by(try simp only[c]);(try simp only[j]);(with_reducible repeat(first|refine iM ?_ _|refine iC ?_|refine iL ?_ _));exact a.out⟩,⟨iH HB.out l.out⟩⟩
    clear H'
    (try clear ar ca bJ bR c1)
    obtain⟨a7,z,rfl,HA,cl,d,m,s,I,a,HB⟩:=hrel
    cases gk with|zero=>exact absurd HA.out (by simp [jP.l3])|succ k4=>?_
    have H:=HA.out
    clear HA
    simp only[jP.l3] at H
    replace H:=jB H
    rcases H with⟨bW,H⟩|⟨bW,H⟩
    ·replace H:=iV H
     obtain⟨de,H⟩:=H
     replace H:=zg H
     obtain⟨dn,H⟩:=H
     have bQ:=decide_eq_true dn
     (try(have bV:=bQ;simp only[c,j] at bV))
     clear dn
     replace H:=iV H
     obtain⟨db,H⟩:=H
     replace H:=zg H
     obtain⟨di,H⟩:=H
     have cf:=decide_eq_true di
     (try(have bZ:=cf;simp only[c,j] at bZ))
     clear di
     replace H:=zg H
     obtain⟨d9,H⟩:=H
     have bC:=decide_eq_true d9
     (try(have bO:=bC;simp only[c,j] at bO))
     clear d9
     replace H:=zb H
     obtain⟨br,dA,H⟩:=H
     replace H:=zb H
     obtain⟨aw,du,H⟩:=H
     replace H:=zg H
     obtain⟨da,H⟩:=H
     have cb:=decide_eq_true da
     (try(have bX:=cb;simp only[c,j] at bX))
     clear da
     obtain⟨cC,ay⟩:∃y_:List Int,y_=(a7.set (z:Int).toNat aw):=⟨_,rfl⟩
     rw[<-ay] at H
     have bK:=zk ay
     clear ay
     have H':=zk H
     clear H
     try go_wp2
     replace d:=zk (Kd.jA d.out)
     replace m:=zk (Kd.iJ m.out)
     replace s:=zk (Kd.jA s.out)
     replace I:=zk (Kd.iJ I.out)
     replace a:=zk (iC a.out)
     replace HB:=zk (l9 HB.out)
     have aU:0<=(T:Int):=zd
     have aY:T<(G.length:Int):=zd
     obtain⟨ch,cV,bg,cD,a2,au,av⟩:=rH (Kd.jR d.out).2.2 T aU aY
     cases cD
     obtain⟨dd,bu,bj,aC⟩:=Kd.BA d.out [] T aU (by first|exact aY|exact zd|(have e_:=(Kd.jR d.out).1;omega))
     obtain⟨ct,cp,rfl,an,am⟩:=Kd.Ff bj
     have ai:=aC 0 _ rfl
     rw[Nat.add_zero,show((Kd.slice 3 (Kd.int .i64))).sz=1 from rfl,Nat.mul_one] at ai
     replace ai:=Option.some.inj (ai.symm.trans a2)
     injection ai with mF pV mD
     rw[mF] at am
     rw[mD] at an
     have J:=zk (show Kd.V (Kd.int .i64) 3 _ w.heap.size _ _ (jD G T) from Kd.lT an am)
     clear mF pV mD am an
     clear aC bu
     have E:=zk av
     have cy:=zk au
     clear av au
     replace aU:=eq_true aU
     replace aY:=eq_true aY
     have bw:0<=(z:Int):=zd
     have bk:z<((jD G T).length:Int):=zd
     obtain⟨b8,cJ,a6⟩:=Kd.jG (yY E.out) z bw bk
     cases cJ
     replace bw:=eq_true bw
     replace bk:=eq_true bk
     have bh:0<=(z:Int):=zd
     have bn:z<(L.length:Int):=zd
     obtain⟨cc,cU,a8⟩:=Kd.jG (Kd.iw m.out).2.2 z bh bn
     cases cU
     replace bh:=eq_true bh
     replace bn:=eq_true bn
     refine qi (n:=20) (S:=λw'=>w'.cell? ⟨q,0,none⟩=some (.int .i64 B)/\w'.cell? ⟨q,1,none⟩=some (.int .i64 A)/\w'.cell? ⟨q,2,none⟩=some (.slice W y.length U)/\w'.cell? (ch.add (T).toNat)=some (.slice (some b8) (jD G T).length bg)/\w'.cell? (b8.add (z).toNat)=some (.int .i64 (rd (jD G T) z))/\w'.cell? (cc.add (z).toNat)=some (.int .i64 (rd L z))) (ds:=[19]) #[false,false,false,false,false,false,false,false,false,false,false,false,false,false,false,false,false,false,false,false] (by kernel_rfl) rfl rfl ⟨(iy a.out 0).trans rfl,(iy a.out 1).trans rfl,(iy a.out 2).trans rfl,a2,a6,a8⟩ (λhHeld=>?_);refine qx jP.RG jP.XO (λiq jq=>?_)
     first|(generalize wr.drew=bv at d m s I a HB J E a2 a6 a8 hHeld ⊢)|(generalize wr.drew=bv at d m s I a HB J E a6 a8 hHeld ⊢)|(generalize wr.drew=bv at d m s I a HB J E a2 a8 hHeld ⊢)|(generalize wr.drew=bv at d m s I a HB J E a2 a6 hHeld ⊢)|(generalize wr.drew=bv at d m s I a HB J E a8 hHeld ⊢)|(generalize wr.drew=bv at d m s I a HB J E a6 hHeld ⊢)|(generalize wr.drew=bv at d m s I a HB J E a2 hHeld ⊢)|(generalize wr.drew=bv at d m s I a HB J E hHeld ⊢)
     refine zp (i:=0) (N:=some 62) iq ?_
     refine zp (i:=1) (N:=some 63) iq ?_
     refine zp (i:=3) (N:=some 65) iq ?_
     refine zp (i:=4) (N:=some 66) iq ?_
     refine zp (i:=5) (N:=some 67) iq ?_
     refine zp (i:=7) (N:=some 69) iq ?_
     refine zp (i:=11) (N:=some 73) iq ?_
     refine zp (i:=12) (N:=some 74) iq ?_
     refine zp (i:=13) (N:=some 75) iq ?_
     refine zp (i:=14) (N:=some 76) iq ?_
     refine jI (i:=2) (N:=some 64) (v:=?_) (a':=?_) #[true,true,true,true,true,true,false,true,false,false,false,true,true,true,true,false,false,false,false,false] rfl rfl (jO iq.out jq.out (by kernel_rfl)) (λ_ _ _ h=>h) (Or.inl ⟨by rfl,?_⟩) hHeld ?_ ?_
     rotate_left
     ·rintro w' ⟨s0,s1,s2,s3,s4,s5⟩
      go_simp
      with_reducible rfl
     rotate_left
     ·simp only[Act.put,List.setIfInBounds_toArray,List.set_cons_zero,List.set_cons_succ,iI,iP]
      rfl
     refine jI (i:=6) (N:=some 68) (v:=?_) (a':=?_) #[true,true,true,true,true,true,true,true,false,false,false,true,true,true,true,false,false,false,false,false] rfl rfl (jO iq.out jq.out (by kernel_rfl)) (λ_ _ _ h=>h) (Or.inl ⟨by rfl,?_⟩) hHeld ?_ ?_
     rotate_left
     ·rintro w' ⟨s0,s1,s2,s3,s4,s5⟩
      go_simp
      with_reducible rfl
     rotate_left
     ·simp only[Act.put,List.setIfInBounds_toArray,List.set_cons_zero,List.set_cons_succ,iI,iP]
      rfl
     refine zp (i:=8) (N:=some 70) iq ?_
     refine jI (i:=9) (N:=some 71) (v:=?_) (a':=?_) #[true,true,true,true,true,true,true,true,true,true,false,true,true,true,true,false,false,false,false,false] rfl rfl (jO iq.out jq.out (by kernel_rfl)) (λ_ _ _ h=>h) (Or.inl ⟨by rfl,?_⟩) hHeld ?_ ?_
     rotate_left
     ·rintro w' ⟨s0,s1,s2,s3,s4,s5⟩
      go_simp
      with_reducible rfl
     rotate_left
     ·simp only[Act.put,List.setIfInBounds_toArray,List.set_cons_zero,List.set_cons_succ,iI,iP]
      rfl
     refine jI (i:=10) (N:=some 72) (v:=?_) (a':=?_) #[true,true,true,true,true,true,true,true,true,true,true,true,true,true,true,false,false,false,false,false] rfl rfl (jO iq.out jq.out (by kernel_rfl)) (λ_ _ _ h=>h) (Or.inl ⟨by rfl,?_⟩) hHeld ?_ ?_
     rotate_left
     ·rintro w' ⟨s0,s1,s2,s3,s4,s5⟩
      go_simp
      with_reducible rfl
     rotate_left
     ·simp only[Act.put,List.setIfInBounds_toArray,List.set_cons_zero,List.set_cons_succ,iI,iP]
      rfl
     refine jI (i:=15) (N:=some 77) (v:=?_) (a':=?_) #[true,true,true,true,true,true,true,true,true,true,true,true,true,true,true,true,false,false,false,false] rfl rfl (jO iq.out jq.out (by kernel_rfl)) (λ_ _ _ h=>h) (Or.inl ⟨by rfl,?_⟩) hHeld ?_ ?_
     rotate_left
     ·rintro w' ⟨s0,s1,s2,s3,s4,s5⟩
      go_simp
      with_reducible rfl
     rotate_left
     ·simp only[Act.put,List.setIfInBounds_toArray,List.set_cons_zero,List.set_cons_succ,iI,iP]
      rfl
     refine lN (i:=16) (N:=some 78) #[true,true,true,true,true,true,true,true,true,true,true,true,true,true,true,true,true,false,false,false] rfl rfl (kH iq.out (by kernel_rfl)) (by decide) (λK hK=>?_)
     refine nS Try.func113 (by kernel_rfl) rfl #[.agg #[.int .i64 B, .int .i64 A, .slice W y.length U], .int .i64 ae, .int .i64 (rd L z)] (by rfl) rfl rfl (by(try simp only[List.map_toArray,List.map_cons,List.map_nil]);first|done|rfl|(simp only[List.length_drop,List.length_take];rfl)) ?_
     with_reducible refine(jU.calls k4 B A _ _ y ae (rd L z) br _ ?ig ?ik dA.out).mono ?_
     (case ig=>exact zC (Kd.iR a9.out HB.out))
     (case ik=>exact ab.out)
     rintro e dM ⟨rfl,hb⟩
     have bo:=(hb.cell (World.block_lt_of_cell? _ _ (hHeld.2.2.2.1))).trans (hHeld.2.2.2.1)
     have bi:=(hb.cell (World.block_lt_of_cell? _ _ (hHeld.2.2.2.2.1))).trans (hHeld.2.2.2.2.1)
     have bs:=(hb.cell (World.block_lt_of_cell? _ _ (hHeld.2.2.2.2.2))).trans (hHeld.2.2.2.2.2)
     refine⟨_,rfl,?_⟩
     replace d:=kG d hb
     replace m:=jl m hb
     replace s:=kG s hb
     replace I:=jl I hb
     replace J:=jy J hb
     replace a:=yK a hb
     (try replace E:=oO E hb)
     replace HB:=jg HB l hb
     (try clear hb)
     refine hK.out _ _ ⟨(iy a.out 0).trans rfl,(iy a.out 1).trans rfl,(iy a.out 2).trans rfl,bo,bi,bs⟩ (λhHeld=>?_)
     clear hK K
     refine mr (a':=?_) ?_ ?_
     rotate_left
     ·show Act.put _ (some 78) _=_
      simp only[Act.put,List.setIfInBounds_toArray,List.set_cons_zero,List.set_cons_succ,iI,iP]
      rfl
     refine lN (i:=17) (N:=some 79) #[true,true,true,true,true,true,true,true,true,true,true,true,true,true,true,true,true,true,false,false] rfl rfl (kH iq.out (by kernel_rfl)) (by decide) (λK hK=>?_)
     refine nS Try.func112 (by kernel_rfl) rfl #[.agg #[.int .i64 B, .int .i64 A, .slice W y.length U], .int .i64 (rd (jD G T) z), .int .i64 br] (by rfl) rfl rfl (by(try simp only[List.map_toArray,List.map_cons,List.map_nil]);first|done|rfl|(simp only[List.length_drop,List.length_take];rfl)) ?_
     with_reducible refine(og.calls k4 B A _ _ y (rd (jD G T) z) br aw _ ?ig ?ik du.out).mono ?_
     (case ig=>exact zC (Kd.iR a9.out HB.out))
     (case ik=>exact ab.out)
     rintro e dR ⟨rfl,hb⟩
     have bo:=(hb.cell (World.block_lt_of_cell? _ _ (hHeld.2.2.2.1))).trans (hHeld.2.2.2.1)
     have bi:=(hb.cell (World.block_lt_of_cell? _ _ (hHeld.2.2.2.2.1))).trans (hHeld.2.2.2.2.1)
     have bs:=(hb.cell (World.block_lt_of_cell? _ _ (hHeld.2.2.2.2.2))).trans (hHeld.2.2.2.2.2)
     refine⟨_,rfl,?_⟩
     replace d:=kG d hb
     replace m:=jl m hb
     replace s:=kG s hb
     replace I:=jl I hb
     replace J:=jy J hb
     replace a:=yK a hb
     (try replace E:=oO E hb)
     replace HB:=jg HB l hb
     (try clear hb)
     have d2:0<=(z:Int):=zd
     have cF:(z:Int)<((a7.length:Int):Int):=zd
     obtain⟨ax,dB,bD,c0,d7,dG,bP⟩:=Kd.qO I.out (by omega)
     (first|cases bD|(injection bD with iW kL kM;(first|subst iW|(injection iW with iW;subst iW));subst kM;clear kL))
     have cS:=zk c0
     have dq:=zk bP
     clear c0 d7 bP
     obtain⟨d5,cN⟩:=Kd.nT 0 I.out (z:Int) d2 cF
     replace d2:=eq_true d2
     replace cF:=eq_true cF
     have bx:=Kd.Dp I.out (z:Int) aw
     rw[<-bK.out] at bx
     have d4:=zk bx
     clear bx
     refine hK.out _ _ ⟨(iy a.out 0).trans rfl,(iy a.out 1).trans rfl,(iy a.out 2).trans rfl,bo,bi,bs⟩ (λhHeld=>?_)
     clear hK K
     refine mr (a':=?_) ?_ ?_
     rotate_left
     ·show Act.put _ (some 79) _=_
      simp only[Act.put,List.setIfInBounds_toArray,List.set_cons_zero,List.set_cons_succ,iI,iP]
      rfl
     refine zp (i:=18) (N:=some 80) iq ?_
     refine xR (i:=19) (N:=none) #[true,true,true,true,true,true,true,true,true,true,true,true,true,true,true,true,true,true,true,true] rfl rfl (kH iq.out (by kernel_rfl)) (by decide) (λK hK=>?_)
     refine vH (w1:=?_) (by rfl) rfl ?_ ?_
     rotate_left
     ·go_simp
      rfl
     refine hK.out _ _ ?_
     clear hK K
     refine ql (qF iq.out (by kernel_rfl)) ?_
     try go_wp2
     go_roundg k4
     case measure=>have:=aM.out;have:=b5.out;have:=bz.out;have:=cl.out;omega
     case rel=>exact⟨(cC),(wrap64 (z+1)),zF,H',⟨by have:=aM.out;have:=b5.out;have:=bz.out;have:=cl.out;omega⟩,⟨by(try simp only[c]);(try simp only[j]);(with_reducible repeat(first|apply Kd.jK|apply Kd.jJ|apply Kd.jA));exact Kd.ji (Kd.qP (p:=⟨ax,(z:Int).toNat,none⟩) (Kd.ji d.out (λk_ hk=>(⟨hk,λe_=>hk.2.2.2.1 (by rw[e_];rfl)⟩:_/\k_≠ax))) (λ_ hk=>hk.2) (.int .i64 aw)) (λ_ hk=>⟨hk.1.1,⟨hk.1.2.1,⟨hk.1.2.2.1,⟨hk.1.2.2.2.1,hk.1.2.2.2.2⟩⟩⟩⟩)⟩,⟨by(try simp only[c]);(try simp only[j]);(with_reducible repeat(first|apply Kd.iT|apply Kd.iU|apply Kd.iJ));exact Kd.iZ (Kd.rM (p:=⟨ax,(z:Int).toNat,none⟩) (Kd.iZ m.out (λk_ hk=>(⟨hk,λe_=>hk.2 (by rw[e_];rfl)⟩:_/\k_≠ax))) (λ_ hk=>hk.2) (.int .i64 aw)) (λ_ hk=>⟨hk.1.1,hk.1.2⟩)⟩,⟨by(try simp only[c]);(try simp only[j]);(with_reducible repeat(first|apply Kd.jK|apply Kd.jJ|apply Kd.jA));exact Kd.ji (Kd.qP (p:=⟨ax,(z:Int).toNat,none⟩) (Kd.ji s.out (λk_ hk=>(⟨hk,λe_=>hk.2.2.2.1 (by rw[e_];rfl)⟩:_/\k_≠ax))) (λ_ hk=>hk.2) (.int .i64 aw)) (λ_ hk=>⟨hk.1.1,⟨hk.1.2.1,⟨hk.1.2.2.1,⟨hk.1.2.2.2.1,hk.1.2.2.2.2⟩⟩⟩⟩)⟩,⟨by(try simp only[c]);(try simp only[j]);(with_reducible repeat(first|apply Kd.iT|apply Kd.iU|apply Kd.iJ));exact d4.out⟩,⟨by(try simp only[c]);(try simp only[j]);(with_reducible repeat(first|refine iM ?_ _|refine iC ?_|refine iL ?_ _));refine qo ?_ (by have h_:=Kd.Bv I.out a.out (by decide);intro e_;exact h_ (by rw[e_];rfl)) _;(with_reducible repeat(first|refine iM ?_ _|refine iC ?_|refine iL ?_ _));exact a.out⟩,⟨yu HB.out cS.out l.out⟩⟩
    replace H:=zg H
    obtain⟨dj,H⟩:=H
    have bY:=zk dj
    clear dj
    obtain⟨cR,aI⟩:∃y_:List (List Int),y_=(ad++[a7]):=⟨_,rfl⟩
    rw[<-aI] at H
    have bM:=zk aI
    clear aI
    have H':=zk H
    clear H
    obtain⟨bL,bA,rfl⟩:=Kd.iD I.out
    go_wp2_with (first|((with_reducible refine qE (b:= .append) (xs:= #[.tmp 81, .tmp 83]) rfl ?_);at_builtin;refine Kd.BB (Kd.slice 3 (Kd.int .i64)) (w0:=w) w.heap.size rfl (.tmp 81) (.tmp 83) 25 22 (.slice none 0 0) 24 rfl Try.underlying25 info22 rfl (by decide) (by omega) u12 ad a7 [.slice bL a7.length bA] (λk_=>(w.heap.size<=k_)/\some k_≠(.slice al G.length ak:Value).ownBlock/\some k_≠(.slice a5 L.length a4:Value).ownBlock/\k_≠q) (λk_=>((λk_=>(w.heap.size<=k_)/\some k_≠(.slice al G.length ak:Value).ownBlock/\some k_≠(.slice a5 L.length a4:Value).ownBlock/\k_≠q)) k_/\some k_≠(u12:Value).ownBlock) rfl rfl ?aP (λ_ hk=>hk) ?aF ?aO ?aB ?aS ?aL ?_;(case aP=>exact(Mw.Dy (Kd.iZ (ok':=(λk_=>((λk_=>(w.heap.size<=k_)/\some k_≠(.slice al G.length ak:Value).ownBlock/\some k_≠(.slice a5 L.length a4:Value).ownBlock/\k_≠q)) k_/\some k_≠(u12:Value).ownBlock)) (Kd.mM (Kd.jL (Kd.jL (I.out) (Kd.jQ d.out) (by decide)) (Kd.jQ s.out) (by decide)) a.out (by decide)) (λk_ hk=>by exact⟨⟨hk.1.1.1.1,⟨hk.1.1.2,⟨hk.1.1.1.2,hk.2⟩⟩⟩,hk.1.2⟩))));(case aB=>exact(iH HB.out l.out));(case aF=>exact(λk_ hk=>⟨(Nat.le_trans (iQ (iH HB.out l.out)) hk),Kd.fresh' (Kd.mQ (zN d.out)) k_ hk,Kd.fresh' (Kd.qZ (zR m.out)) k_ hk,Kd.kT (g:=q) (o:= .cells #[.int .i64 B, .int .i64 A, .slice W y.length U] 24 (0,0)) (by(with_reducible repeat(first|refine iM ?_ _|refine iC ?_|refine iL ?_ _));exact a.out) k_ hk⟩));(case aO=>exact(by(with_reducible repeat(first|apply Kd.jK|apply Kd.jJ|apply Kd.jA));exact Kd.ji s.out (λ_ hk=>⟨hk.1,⟨hk.2.1,⟨hk.2.2.1,hk.2.2.2.2⟩⟩⟩)));(case aS=>exact(iQ (iH HB.out l.out)));(case aL=>have:=bY.out;omega);intro dv dK ho hb hg hat;rw[<-bM.out] at ho;replace d:=zk (Kd.zJ (ok:=(λk_=>(w.heap.size<=k_)/\some k_≠(.slice a5 L.length a4:Value).ownBlock/\some k_≠(.slice bL a7.length bA:Value).ownBlock/\k_≠q)) (by(with_reducible repeat(first|apply Kd.jK|apply Kd.jJ|apply Kd.jA));exact Kd.ji d.out (λ_ hk=>⟨⟨hk.1,⟨hk.2.1,⟨hk.2.2.2.1,hk.2.2.2.2⟩⟩⟩,hk.2.2.1⟩)) hg hat);replace m:=zk (Kd.vz (zR m.out) (Kd.jQ (zN s.out)) (by decide) hg);replace a:=zk (xU (g:=q) (o:= .cells #[.int .i64 B, .int .i64 A, .slice W y.length U] 24 (0,0)) (by(with_reducible repeat(first|refine iM ?_ _|refine iC ?_|refine iL ?_ _));exact a.out) hg (Kd.Bz s.out a.out (by decide)));replace HB:=zk (hb);have bN:=zk (ho);clear s I;clear ho hb hg hat))
    (try simp only[<-j])
    go_roundg k4
    case measure=>have:=aM.out;have:=b5.out;have:=bz.out;have:=cl.out;omega
    case rel=>exact⟨(L),(cR),(wrap64 (T+1)),zF,H',⟨by have:=aM.out;have:=b5.out;have:=bz.out;have:=cl.out;omega⟩,⟨by(try simp only[c]);(try simp only[j]);(with_reducible repeat(first|apply Kd.jK|apply Kd.jJ|apply Kd.jA));exact Kd.ji d.out (λ_ hk=>⟨hk.1.1,⟨hk.1.2.1,⟨hk.2,hk.1.2.2.2⟩⟩⟩)⟩,⟨by(try simp only[c]);(try simp only[j]);(with_reducible repeat(first|apply Kd.iT|apply Kd.iU|apply Kd.iJ));exact Kd.iZ m.out (λ_ hk=>hk.1)⟩,⟨by(try simp only[c]);(try simp only[j]);(with_reducible repeat(first|apply Kd.jK|apply Kd.jJ|apply Kd.jA));exact bN.out⟩,⟨by(try simp only[c]);(try simp only[j]);(with_reducible repeat(first|refine iM ?_ _|refine iC ?_|refine iL ?_ _));exact a.out⟩,⟨iH HB.out l.out⟩⟩
   have ar:=decide_eq_false cd
   (try(have az:=ar;simp only[c,j] at az))
   clear cd
   have H':=zk H
   clear H
   go_wp2
   (try simp only[<-c,<-j])
   go_roundg k3
   case measure=>have:=aM.out;have:=b5.out;have:=bz.out;omega
   case rel=>exact⟨(L),(ad),(wrap64 (ae+1)),zF,H',⟨by have:=aM.out;have:=b5.out;have:=bz.out;omega⟩,⟨by(try simp only[c]);(try simp only[j]);(with_reducible repeat(first|apply Kd.jK|apply Kd.jJ|apply Kd.jA));exact d.out⟩,⟨by(try simp only[c]);(try simp only[j]);(with_reducible repeat(first|apply Kd.iT|apply Kd.iU|apply Kd.iJ));exact m.out⟩,⟨by(try simp only[c]);(try simp only[j]);(with_reducible repeat(first|apply Kd.jK|apply Kd.jJ|apply Kd.jA));exact s.out⟩,⟨by(try simp only[c]);(try simp only[j]);(with_reducible repeat(first|refine iM ?_ _|refine iC ?_|refine iL ?_ _));exact a.out⟩,⟨iH HB.out l.out⟩⟩
  have H':=zk H
  clear H
  obtain⟨ci,cz,cr,cu,cA,cj⟩:=ja a
  go_wp2_with (first|((with_reducible refine gC 24 ?_);refine zG (some 45) Try.func24 #[.agg #[.int .i64 B, .int .i64 A, .slice W y.length U]] ?_;(with_reducible refine(kQ.calls k2 B A _ _ y bB _ ?ig ?ik dh.out).mono ?_);(case ig=>exact zC (Kd.iR a9.out HB.out));(case ik=>exact ab.out);rintro e lD ⟨rfl,hb⟩;refine⟨_,rfl,?_⟩;replace d:=kG d hb;replace m:=jl m hb;replace s:=kG s hb;replace a:=yK a hb;replace HB:=jg HB l hb;(try clear hb)))
  (try simp only[<-c])
  go_roundg k2
  case measure=>have:=aM.out;have:=b5.out;omega
  case rel=>exact⟨(ap),(wrap64 (x+1)),zF,H',⟨lW aM b5⟩,⟨by(try simp only[c]);(with_reducible repeat(first|apply Kd.jK|apply Kd.jJ|apply Kd.jA));exact Kd.ji s.out (λ_ hk=>⟨hk.1,hk.2.2.2⟩)⟩,⟨by(try simp only[c]);(with_reducible repeat(first|refine iM ?_ _|refine iC ?_|refine iL ?_ _));exact a.out⟩,⟨iH HB.out l.out⟩⟩
 obtain rfl:=Option.some.inj H
 go_wp2
 go_ret
 exact⟨_,zE,by(with_reducible repeat(first|apply Kd.jK|apply Kd.jJ|apply Kd.jA));exact Kd.ji d.out (λ_ hk=>hk.1),iH HB.out l.out⟩
theorem uu.calls(k:Nat)(n:Int)(q:Int)(x:Option Addr)(u:Nat)(l:List Int)(a1:Int)(a2:Int)(r:List (List Int))(w:World)(K:Kd.C (Kd.int .i64) w x l.length l)(L:l.length<=u)(h:uu.f k n q l a1 a2=some r):
 Calls Try.prog 69 #[.agg #[.int .i64 n, .int .i64 q, .slice x l.length u], .int .i64 a1, .int .i64 a2] w λe w'=>∃ap:Value,e= .returned (ap)/\Kd.N (Kd.slice 3 (Kd.int .i64)) 22 w' w.heap.size (λk_=>(w.heap.size<=k_)) ap r/\Below w.heap.size w w':=by
 have aM:=Try.underlying24
 have T:=zk K
 have U:=zk L
 clear K L
 have HB:=zk (Below.refl w.heap.size w)
 have H:=h
 clear h
 unfold uu.f at H
 have H':=zk H
 clear H
 go_enter Try.func69,Try.ntmps69
 go_wp2_with (first|((with_reducible refine jc (N:=3) rfl ?_);refine jM ?hg (N:=3) ?hd (cs:= #[.int .i64 n, .int .i64 q, .slice x l.length u]) (t:=24) ?hr ?_;(case hd=>rfl);(case hg=>rfl);(case hr=>first|(go_simp;done)|(go_simp;rfl));intro d hg w4 hbox hb;have a:=zk (hbox);have au:=yg hg HB;have c:=yg hg HB;replace HB:=yS HB hb;clear hb hbox hg))
 go_loopg [7,8] k (λkq v7 v8 w'=>∃(y:List (List Int)) (s:Int),v8= .int .i64 s/\dw (uu.l0 kq a1 a2 y s n q l=some r)/\dw (kq<=k)/\dw (Kd.N (Kd.slice 3 (Kd.int .i64)) 22 w' w.heap.size (λk_=>(w.heap.size<=k_)/\k_≠d) v7 y)/\dw (w'.heap[d]?=some (.cells #[.int .i64 n, .int .i64 q,(.slice x l.length u)] 24 (0,0)))/\dw (Below w.heap.size w w'))
 case atStart=>exact⟨(([]:List (List Int))),(0),zF,H',⟨Nat.le_refl _⟩,⟨by first|exact Kd.tZ _ _ _ _ _|exact Kd.ui _ _ _ _ _|exact Kd.qX _ _ _ _ _|exact Kd.uh _ _ _ _ _|exact Kd.qN _ _ _ _ _⟩,⟨by(with_reducible repeat(first|refine iM ?_ _|refine iC ?_|refine iL ?_ _));exact a.out⟩,⟨iH HB.out c.out⟩⟩
 clear H'
 obtain⟨y,s,rfl,HA,aw,m,a,HB⟩:=hrel
 cases gk with|zero=>exact absurd HA.out (by simp [uu.l0])|succ k1=>?_
 have H:=HA.out
 clear HA
 simp only[uu.l0] at H
 replace H:=jB H
 rcases H with⟨ah,H⟩|⟨ah,H⟩
 ·replace H:=zg H
  obtain⟨c6,H⟩:=H
  have aE:=eq_true c6
  have ay:=decide_eq_true c6
  clear c6
  replace H:=zg H
  obtain⟨c7,H⟩:=H
  have aK:=eq_true c7
  have aG:=decide_eq_true c7
  clear c7
  obtain⟨A,E⟩:∃y_:List Int,y_=(List.replicate (a1:Int).toNat 0):=⟨_,rfl⟩
  rw[<-E] at H
  have J:=zk E
  clear E
  replace H:=iV H
  obtain⟨aN,H⟩:=H
  replace H:=iV H
  obtain⟨aI,H⟩:=H
  obtain⟨P,G⟩:∃y_:List Int,y_=(A.set (s:Int).toNat 1):=⟨_,rfl⟩
  rw[<-G] at H
  have a4:=zk G
  clear G
  replace H:=zg H
  obtain⟨ar,H⟩:=H
  have W:=zk ar
  clear ar
  obtain⟨am,D⟩:∃y_:List (List Int),y_=(y++[P]):=⟨_,rfl⟩
  rw[<-D] at H
  have a7:=zk D
  clear D
  have H':=zk H
  clear H
  go_wp2_with (first|((with_reducible refine jc (N:=16) rfl ?_);refine Kd.ug (Kd.int .i64) _ 3 rfl (N:=16) rfl 22 _ _ rfl a1 rfl rfl Try.underlying22 (.int .i64 0) 8 info3 rfl (by decide) (by omega) 0 (ok:=λ_=>True) (je:=λ_=>True) rfl (λ_ hk=>hk) trivial zd (Nat.le_trans (Nat.mul_le_mul_right _ (zd:a1.toNat<=35184372088832)) (by omega)) (Below.refl _ _) (Nat.le_refl _) ?_;intro aJ ax z hb jw jv;clear jw jv;(first|rw[<-J.out] at z|(simp only[Int.reduceToNat] at z;rw[<-J.out] at z));replace m:=o7 m z hb;replace z:=Kd.oD (M:=λk_=>(w.heap.size<=k_)) z (iQ (iH HB.out c.out)) (λk_ h_=>h_);have j:=kY z HB c;replace a:=yK a hb;replace HB:=jg HB c hb;clear hb z;have ao:0<=(s:Int):=zd;have al:(s:Int)<((A.length:Int):Int):=zd;obtain⟨B,I,X,a5,ag,az,a3⟩:=Kd.qO j.out (by omega);(first|cases X|(injection X with iW kL kM;(first|subst iW|(injection iW with iW;subst iW));subst kM;clear kL));have af:=zk a5;have aA:=zk a3;clear a5 ag a3;obtain⟨aj,ak⟩:=Kd.nT 0 j.out (s:Int) ao al;replace ao:=eq_true ao;replace al:=eq_true al;have n_:=zk (Kd.iZ (ok':=(λk_=>(w.heap.size<=k_))) j.out (λk_ hk=>hk.1));clear j;have j:=n_;clear n_;obtain⟨av,aq⟩:=Kd.nT 0 j.out (s:Int) zd zd;have O:=Kd.qY j.out (s:Int) 1)|((with_reducible refine qM (t:=3) (p:=19) rfl ?_);refine qJ (t:=3) (p:=19) (v:=?Q9) (w1:=(ax.setCell ⟨B,(s:Int).toNat,none⟩ (.int .i64 1))) ?hg ?ho ?hn ?hr ?_;(case ho=>rfl);(case hg=>rfl);(case hn=>rfl);(case hr=>first|(go_simp;done)|(go_simp;rfl));intro an hw;have hg:ax.grownBy an (some B):=(by rw[hw];exact O.2);have jY:Kd.R (Kd.int .i64) 3 an w.heap.size (λk_=>(w.heap.size<=k_)) (.slice (some ⟨B,0,none⟩) A.length I) P:=(by rw[hw,a4.out];exact O.1);clear O;replace m:=zk (Kd.zJ (v:=(.slice (some ⟨B,0,none⟩) A.length I)) (v1:=(.slice (some ⟨B,0,none⟩) A.length I)) (ok:=(λk_=>(w.heap.size<=k_)/\k_≠d)) (zN m.out) hg (.inl rfl));replace a:=zk (xU (g:=d) (o:= .cells #[.int .i64 n, .int .i64 q, .slice x l.length u] 24 (0,0)) (by(with_reducible repeat(first|refine iM ?_ _|refine iC ?_|refine iL ?_ _));exact a.out) hg (Kd.Bv j.out a.out (by decide)));replace j:=zk (jY);replace HB:=zk ((by rw[hw];exact lS (HB.out) af.out:Below w.heap.size w an));clear hg hw jY)|((with_reducible refine qE (b:= .append) (xs:= #[.tmp 20, .tmp 22]) rfl ?_);at_builtin;refine Kd.BB (Kd.slice 3 (Kd.int .i64)) (w0:=w) w.heap.size rfl (.tmp 20) (.tmp 22) 25 22 (.slice none 0 0) 24 rfl Try.underlying25 info22 rfl (by decide) (by omega) u7 y P [.slice (some ⟨B,0,none⟩) A.length I] (λk_=>(w.heap.size<=k_)/\k_≠d) (λk_=>((λk_=>(w.heap.size<=k_)/\k_≠d)) k_/\some k_≠(u7:Value).ownBlock) rfl rfl ?aP (λ_ hk=>hk) ?aF ?aO ?aB ?aS ?aL ?_;(case aP=>exact(Mw.Dy (Kd.iZ (ok':=(λk_=>((λk_=>(w.heap.size<=k_)/\k_≠d)) k_/\some k_≠(u7:Value).ownBlock)) (Kd.mM (Kd.jL (j.out) (Kd.jQ m.out) (by decide)) a.out (by decide)) (λk_ hk=>by exact⟨⟨hk.1.1,hk.2⟩,hk.1.2⟩))));(case aB=>exact(iH HB.out c.out));(case aF=>exact(λk_ hk=>⟨(Nat.le_trans (iQ (iH HB.out c.out)) hk),Kd.kT (g:=d) (o:= .cells #[.int .i64 n, .int .i64 q, .slice x l.length u] 24 (0,0)) (by(with_reducible repeat(first|refine iM ?_ _|refine iC ?_|refine iL ?_ _));exact a.out) k_ hk⟩));(case aO=>exact(by(with_reducible repeat(first|apply Kd.jK|apply Kd.jJ|apply Kd.jA));exact Kd.ji m.out (λ_ hk=>⟨hk.1.1,hk.1.2⟩)));(case aS=>exact(iQ (iH HB.out c.out)));(case aL=>have:=W.out;omega);intro aC aR ho hb hg hat;rw[<-a7.out] at ho;replace a:=zk (xU (g:=d) (o:= .cells #[.int .i64 n, .int .i64 q, .slice x l.length u] 24 (0,0)) (by(with_reducible repeat(first|refine iM ?_ _|refine iC ?_|refine iL ?_ _));exact a.out) hg (Kd.Bz m.out a.out (by decide)));replace HB:=zk (hb);have Y:=zk (ho);clear m j;clear ho hb hg hat))
  go_roundg k1
  case measure=>have:=aw.out;omega
  case rel=>exact⟨(am),(wrap64 (s+1)),zF,H',⟨kP aw⟩,⟨zN Y.out⟩,⟨by(with_reducible repeat(first|refine iM ?_ _|refine iC ?_|refine iL ?_ _));exact a.out⟩,⟨iH HB.out c.out⟩⟩
 replace H:=zb H
 obtain⟨ai,aD,H⟩:=H
 obtain rfl:=Option.some.inj H
 obtain⟨a9,ac,aa,ad,a8,ab⟩:=ja a
 obtain⟨a0,a6,rfl⟩:=Kd.oG m.out
 go_wp2_with (first|((with_reducible refine gC 68 ?_);refine zG (some 28) Try.func68 #[.agg #[.int .i64 n, .int .i64 q, .slice x l.length u], .int .i64 a1, .slice a0 y.length a6, .int .i64 a2] ?_;(with_reducible refine(jP.calls k1 n q _ _ l a1 _ _ y a2 ai _ ?ig ?ik ?iF ?iE aD.out).mono ?_);(case ig=>exact zC (Kd.iR T.out HB.out));(case ik=>exact U.out);(case iF=>exact zC (Kd.jR m.out).2.2);(case iE=>exact(Kd.jR m.out).2.1);rintro e aQ ⟨aH,rfl,ae,hb⟩;refine⟨_,rfl,?_⟩;have Z:=zk (Kd.qf (Kd.ji (ok':=λk_=>(w.heap.size<=k_)/\some k_≠(.slice a0 y.length a6:Value).ownBlock/\k_≠d) ae (λk_ iO=>⟨(Nat.le_trans (iQ (iH HB.out c.out)) iO),(Kd.fresh' (Kd.mQ (zN m.out)) k_ iO),(Kd.kT (g:=d) (o:= .cells #[.int .i64 n, .int .i64 q, .slice x l.length u] 24 (0,0)) (by(with_reducible repeat(first|refine iM ?_ _|refine iC ?_|refine iL ?_ _));exact a.out) k_ iO)⟩)) (iQ (iH HB.out c.out)));replace m:=zk (Kd.rf (zN m.out) (Kd.vC ae) hb);replace a:=yK a hb;replace HB:=jg HB c hb;(try clear hb ae)))
 go_ret
 exact⟨_,zE,by(with_reducible repeat(first|apply Kd.jK|apply Kd.jJ|apply Kd.jA));exact Kd.ji Z.out (λ_ hk=>hk.1),iH HB.out c.out⟩
def nM.T5:Bool×List (List Nat×List Nat):=(true,[([],[]),([],[]),([],[]),([],[]),([],[]),([3,4],[3,4]),([5],[5]),([],[]),([],[]),([7,8],[7,8]),([9],[9]),([2,6,10],[2,6,10]),([0,1,11,11],[0,1,11]),([12,12,0,1,2,3,4,5,6,7,8,9,10,11,12],[1,12])])
def nM.B5:List Nat:=[0,0,0,0,0,24,56,0,0,384,896,2044,4095,8191]
theorem nM.zT:lM .any (opsOf Try.f114 5)=nM.T5:=by kernel_rfl
theorem nM.Bl:qh nM.T5.2 nM.B5=true:=by kernel_rfl
theorem nM.calls(k:Nat)(m:Int)(o:Int)(u:Option Addr)(q:Nat)(l:List Int)(A1:Option Addr)(c1:Nat)(l1:List Int)(A2:Option Addr)(c2:Nat)(l2:List Int)(r:Int)(w:World)(D:Kd.C (Kd.int .i64) w u l.length l)(E:l.length<=q)(a4:Kd.C (Kd.int .i64) w A1 l1.length l1)(a6:l1.length<=c1)(a2:Kd.C (Kd.int .i64) w A2 l2.length l2)(a7:l2.length<=c2)(h:nM.f k m o l l1 l2=some r):
 Calls Try.prog 114 #[.agg #[.int .i64 m, .int .i64 o, .slice u l.length q], .slice A1 l1.length c1, .slice A2 l2.length c2] w λe w'=>e= .returned (.int .i64 r)/\Below w.heap.size w w':=by
 have ae:=Try.underlying24
 have A:=zk D
 have B:=zk E
 clear D E
 have a8:=zk a4
 have ai:=zk a6
 clear a4 a6
 have ad:=zk a2
 have ah:=zk a7
 clear a2 a7
 have HB:=zk (Below.refl w.heap.size w)
 have H:=h
 clear h
 unfold nM.f at H
 have H':=zk H
 clear H
 go_enter Try.func114,Try.ntmps114
 go_wp2_with (first|((with_reducible refine jc (N:=3) rfl ?_);(try(refine vN (by rfl) ?_;dsimp only));refine jM ?hg (N:=3) ?hd (cs:= #[.int .i64 m, .int .i64 o, .slice u l.length q]) (t:=24) ?hr ?_;(case hd=>rfl);(case hg=>rfl);(case hr=>first|(go_simp;done)|(go_simp;rfl));intro s hg w4 hbox hb;have a:=zk (hbox);have a5:=yg hg HB;have p:=yg hg HB;replace HB:=yS HB hb;clear hb hbox hg))
 go_loopg [7,8] k (λkq v7 v8 w'=>∃(y:Int) (b:Int),v7= .int .i64 y/\v8= .int .i64 b/\dw (nM.l0 kq l1 l2 y b m o l=some r)/\dw (kq<=k)/\dw (w'.heap[s]?=some (.cells #[.int .i64 m, .int .i64 o,(.slice u l.length q)] 24 (0,0)))/\dw (Below w.heap.size w w'))
 case atStart=>exact⟨(0),(0),zF,zF,H',⟨Nat.le_refl _⟩,⟨by(with_reducible repeat(first|refine iM ?_ _|refine iC ?_|refine iL ?_ _));exact a.out⟩,⟨iH HB.out p.out⟩⟩
 clear H'
 obtain⟨y,b,rfl,rfl,HA,U,a,HB⟩:=hrel
 cases gk with|zero=>exact absurd HA.out (by simp [nM.l0])|succ k1=>?_
 have H:=HA.out
 clear HA
 simp only[nM.l0] at H
 have Z:=zk H
 clear H
 go_upto_region 3 with(fail)
 go_cut [18] (λac wc=>∃(kq:Nat) (x:Bool),ac= .bool x/\dw (nM.j1 kq l1 l2 y b x m o l=some r)/\dw (kq<=k1)/\dw (wc.heap[s]?=some (.cells #[.int .i64 m, .int .i64 o,(.slice u l.length q)] 24 (0,0)))/\dw (Below w.heap.size w wc))
 case first=>
  have H:=Z.out
  clear Z
  replace H:=jB H
  rcases H with⟨z,H⟩|⟨z,H⟩
  ·(first|rw[z]|(simp only[iI,iP];rw[z])|rw[Xv]|skip)
   have H':=zk H
   clear H
   go_wp2
   go_meet
   case rel=>exact⟨_,(decide (b<(l2.length:Int))),zF,H',⟨by have:=U.out;first|omega|exact Nat.le_refl _⟩,⟨by(with_reducible repeat(first|refine iM ?_ _|refine iC ?_|refine iL ?_ _));exact a.out⟩,⟨iH HB.out p.out⟩⟩
  (first|rw[z]|(simp only[iI,iP];rw[z])|rw[Xv]|skip)
  have H':=zk H
  clear H
  go_wp2
  go_meet
  case rel=>exact⟨_,(false),zF,H',⟨by have:=U.out;first|omega|exact Nat.le_refl _⟩,⟨by(with_reducible repeat(first|refine iM ?_ _|refine iC ?_|refine iL ?_ _));exact a.out⟩,⟨iH HB.out p.out⟩⟩
 clear Z
 obtain⟨kq,x,rfl,HA,a3,a,HB⟩:=hcut
 cases kq with|zero=>exact absurd HA.out (by simp [nM.j1])|succ X=>?_
 have H:=HA.out
 clear HA
 simp only[nM.j1] at H
 by_cases c7:x=true
 ·subst c7
  rw[if_pos rfl] at H
  replace H:=iV H
  obtain⟨af,H⟩:=H
  replace H:=iV H
  obtain⟨ab,H⟩:=H
  replace H:=iV H
  obtain⟨a1,H⟩:=H
  replace H:=zb H
  obtain⟨M,aa,H⟩:=H
  replace H:=zb H
  obtain⟨O,a9,H⟩:=H
  have H':=zk H
  clear H
  try go_wp2
  replace a:=zk (iC a.out)
  replace HB:=zk (l9 HB.out)
  have G:0<=(b:Int):=zd
  have I:b<(l1.length:Int):=zd
  obtain⟨P,a0,j⟩:=Kd.jG a8.out b G I
  have g:=j
  cases a0
  replace j:=(HB.out.cell (World.block_lt_of_cell? w _ j)).trans j
  replace G:=eq_true G
  replace I:=eq_true I
  have L:0<=(b:Int):=zd
  have J:b<(l2.length:Int):=zd
  obtain⟨T,W,d⟩:=Kd.jG ad.out b L J
  have c:=d
  cases W
  replace d:=(HB.out.cell (World.block_lt_of_cell? w _ d)).trans d
  replace L:=eq_true L
  replace J:=eq_true J
  refine qi (n:=14) (S:=λw'=>w'.cell? ⟨s,0,none⟩=some (.int .i64 m)/\w'.cell? ⟨s,1,none⟩=some (.int .i64 o)/\w'.cell? ⟨s,2,none⟩=some (.slice u l.length q)/\w'.cell? (P.add (b).toNat)=some (.int .i64 (rd l1 b))/\w'.cell? (T.add (b).toNat)=some (.int .i64 (rd l2 b))) (ds:=[]) #[false,false,false,false,false,false,false,false,false,false,false,false,false,false] (by kernel_rfl) rfl rfl ⟨(iy a.out 0).trans rfl,(iy a.out 1).trans rfl,(iy a.out 2).trans rfl,((HB.out.cell (World.block_lt_of_cell? w _ g)).trans g),((HB.out.cell (World.block_lt_of_cell? w _ c)).trans c)⟩ (λhHeld=>?_);refine qx nM.zT nM.Bl (λiq jq=>?_)
  first|(generalize wc.drew=Y at a HB j d hHeld ⊢)|(generalize wc.drew=Y at a HB d hHeld ⊢)|(generalize wc.drew=Y at a HB j hHeld ⊢)|(generalize wc.drew=Y at a HB hHeld ⊢)
  refine zp (i:=1) (N:=some 22) iq ?_
  refine zp (i:=3) (N:=some 24) iq ?_
  refine zp (i:=4) (N:=some 25) iq ?_
  refine zp (i:=5) (N:=some 26) iq ?_
  refine zp (i:=7) (N:=some 28) iq ?_
  refine zp (i:=8) (N:=some 29) iq ?_
  refine zp (i:=9) (N:=some 30) iq ?_
  refine jI (i:=0) (N:=some 21) (v:=?_) (a':=?_) #[true,true,false,true,true,true,false,true,true,true,false,false,false,false] rfl rfl (jO iq.out jq.out (by kernel_rfl)) (λ_ _ _ h=>h) (Or.inl ⟨by rfl,?_⟩) hHeld ?_ ?_
  rotate_left
  ·rintro w' ⟨s0,s1,s2,s3,s4⟩
   go_simp
   with_reducible rfl
  rotate_left
  ·simp only[Act.put,List.setIfInBounds_toArray,List.set_cons_zero,List.set_cons_succ,iI,iP]
   rfl
  refine jI (i:=2) (N:=some 23) (v:=?_) (a':=?_) #[true,true,true,true,true,true,false,true,true,true,false,false,false,false] rfl rfl (jO iq.out jq.out (by kernel_rfl)) (λ_ _ _ h=>h) (Or.inl ⟨by rfl,?_⟩) hHeld ?_ ?_
  rotate_left
  ·rintro w' ⟨s0,s1,s2,s3,s4⟩
   go_simp
   with_reducible rfl
  rotate_left
  ·simp only[Act.put,List.setIfInBounds_toArray,List.set_cons_zero,List.set_cons_succ,iI,iP]
   rfl
  refine jI (i:=6) (N:=some 27) (v:=?_) (a':=?_) #[true,true,true,true,true,true,true,true,true,true,false,false,false,false] rfl rfl (jO iq.out jq.out (by kernel_rfl)) (λ_ _ _ h=>h) (Or.inl ⟨by rfl,?_⟩) hHeld ?_ ?_
  rotate_left
  ·rintro w' ⟨s0,s1,s2,s3,s4⟩
   go_simp
   with_reducible rfl
  rotate_left
  ·simp only[Act.put,List.setIfInBounds_toArray,List.set_cons_zero,List.set_cons_succ,iI,iP]
   rfl
  refine jI (i:=10) (N:=some 31) (v:=?_) (a':=?_) #[true,true,true,true,true,true,true,true,true,true,true,false,false,false] rfl rfl (jO iq.out jq.out (by kernel_rfl)) (λ_ _ _ h=>h) (Or.inl ⟨by rfl,?_⟩) hHeld ?_ ?_
  rotate_left
  ·rintro w' ⟨s0,s1,s2,s3,s4⟩
   go_simp
   with_reducible rfl
  rotate_left
  ·simp only[Act.put,List.setIfInBounds_toArray,List.set_cons_zero,List.set_cons_succ,iI,iP]
   rfl
  refine lN (i:=11) (N:=some 32) #[true,true,true,true,true,true,true,true,true,true,true,true,false,false] rfl rfl (kH iq.out (by kernel_rfl)) (by decide) (λK hK=>?_)
  refine nS Try.func113 (by kernel_rfl) rfl #[.agg #[.int .i64 m, .int .i64 o, .slice u l.length q], .int .i64 (rd l1 b), .int .i64 (rd l2 b)] (by rfl) rfl rfl (by(try simp only[List.map_toArray,List.map_cons,List.map_nil]);first|done|rfl|(simp only[List.length_drop,List.length_take];rfl)) ?_
  with_reducible refine(jU.calls X m o _ _ l (rd l1 b) (rd l2 b) M _ ?ig ?ik aa.out).mono ?_
  (case ig=>exact zC (Kd.iR A.out HB.out))
  (case ik=>exact B.out)
  rintro e ag ⟨rfl,hb⟩
  refine⟨_,rfl,?_⟩
  replace a:=yK a hb
  replace HB:=jg HB p hb
  (try clear hb)
  refine hK.out _ _ ⟨(iy a.out 0).trans rfl,(iy a.out 1).trans rfl,(iy a.out 2).trans rfl,((HB.out.cell (World.block_lt_of_cell? w _ g)).trans g),((HB.out.cell (World.block_lt_of_cell? w _ c)).trans c)⟩ (λhHeld=>?_)
  clear hK K
  refine mr (a':=?_) ?_ ?_
  rotate_left
  ·show Act.put _ (some 32) _=_
   simp only[Act.put,List.setIfInBounds_toArray,List.set_cons_zero,List.set_cons_succ,iI,iP]
   rfl
  refine lN (i:=12) (N:=some 33) #[true,true,true,true,true,true,true,true,true,true,true,true,true,false] rfl rfl (kH iq.out (by kernel_rfl)) (by decide) (λK hK=>?_)
  refine nS Try.func112 (by kernel_rfl) rfl #[.agg #[.int .i64 m, .int .i64 o, .slice u l.length q], .int .i64 y, .int .i64 M] (by rfl) rfl rfl (by(try simp only[List.map_toArray,List.map_cons,List.map_nil]);first|done|rfl|(simp only[List.length_drop,List.length_take];rfl)) ?_
  with_reducible refine(og.calls X m o _ _ l y M O _ ?ig ?ik a9.out).mono ?_
  (case ig=>exact zC (Kd.iR A.out HB.out))
  (case ik=>exact B.out)
  rintro e aj ⟨rfl,hb⟩
  refine⟨_,rfl,?_⟩
  replace a:=yK a hb
  replace HB:=jg HB p hb
  (try clear hb)
  refine hK.out _ _ ⟨(iy a.out 0).trans rfl,(iy a.out 1).trans rfl,(iy a.out 2).trans rfl,((HB.out.cell (World.block_lt_of_cell? w _ g)).trans g),((HB.out.cell (World.block_lt_of_cell? w _ c)).trans c)⟩ (λhHeld=>?_)
  clear hK K
  refine mr (a':=?_) ?_ ?_
  rotate_left
  ·show Act.put _ (some 33) _=_
   simp only[Act.put,List.setIfInBounds_toArray,List.set_cons_zero,List.set_cons_succ,iI,iP]
   rfl
  refine zp (i:=13) (N:=some 7) iq ?_
  refine ql (qF iq.out (by kernel_rfl)) ?_
  try go_wp2
  go_roundg X
  case measure=>have:=U.out;have:=a3.out;omega
  case rel=>exact⟨(O),(wrap64 (b+1)),zF,zF,H',⟨lW U a3⟩,⟨by(with_reducible repeat(first|refine iM ?_ _|refine iC ?_|refine iL ?_ _));exact a.out⟩,⟨iH HB.out p.out⟩⟩
 replace c7:=Bool.eq_false_iff.mpr c7
 subst c7
 rw[if_neg Bool.false_ne_true] at H
 obtain rfl:=Option.some.inj H
 go_wp2
 go_ret
 exact⟨zE,iH HB.out p.out⟩
def mg.T9:Bool×List (List Nat×List Nat):=(true,[([],[]),([0],[0]),([1],[1]),([1],[1]),([1],[1]),([3,4,1],[1,3,4]),([5,1],[1,5]),([1],[1]),([1],[1]),([7,8,1],[1,7,8]),([9,1],[1,9]),([2,6,10,1,1],[1,2,6,10]),([11,1],[1,11]),([1,12],[1,12]),([13,11,0,1,2,3,4,5,6,7,8,9,10,11,12,13],[0,13])])
def mg.B9:List Nat:=[0,1,3,3,3,27,59,3,3,387,899,2047,4095,8191,16383]
theorem mg.BU:lM .any (opsOf Try.f70 9)=mg.T9:=by kernel_rfl
theorem mg.Dh:qh mg.T9.2 mg.B9=true:=by kernel_rfl
theorem mg.calls(k:Nat)(A:Int)(z:Int)(M:Option Addr)(J:Nat)(x:List Int)(a2:Nat->Prop)(A1:Option Addr)(c1:Nat)(l1:List (List Int))(A2:Option Addr)(c2:Nat)(l2:List (List Int))(r:List (List Int))(w:World)(ak:Kd.C (Kd.int .i64) w M x.length x)(aj:x.length<=J)(bg:Kd.V (Kd.slice 3 (Kd.int .i64)) 22 w w.heap.size (λk_=>a2 k_) (.slice A1 l1.length c1) l1)(b4:Kd.C (Kd.slice 3 (Kd.int .i64)) w A2 l2.length l2)(b9:l2.length<=c2)(h:mg.f k A z x l1 l2=some r):
 Calls Try.prog 70 #[.agg #[.int .i64 A, .int .i64 z, .slice M x.length J], .slice A1 l1.length c1, .slice A2 l2.length c2] w λe w'=>∃b0:Value,e= .returned (b0)/\Kd.N (Kd.slice 3 (Kd.int .i64)) 22 w' w.heap.size (λk_=>(a2 k_\/w.heap.size<=k_)) b0 r/\Below w.heap.size w w':=by
 have bh:=Try.underlying24
 have aw:=zk ak
 have aC:=zk aj
 clear ak aj
 have aX:=zk (show Kd.V (Kd.slice 3 (Kd.int .i64)) 22 w w.heap.size (λk_=>(a2 k_\/w.heap.size<=k_)) (.slice A1 l1.length c1) l1 from Kd.jf bg (λk_ hk=> .inl hk))
 have bf:=zk b4
 have bk:=zk b9
 clear b4 b9
 have HB:=zk (Below.refl w.heap.size w)
 have H:=h
 clear h
 unfold mg.f at H
 have H':=zk H
 clear H
 go_enter Try.func70,Try.ntmps70
 go_wp2_with (first|((with_reducible refine jc (N:=3) rfl ?_);refine jM ?hg (N:=3) ?hd (cs:= #[.int .i64 A, .int .i64 z, .slice M x.length J]) (t:=24) ?hr ?_;(case hd=>rfl);(case hg=>rfl);(case hr=>first|(go_simp;done)|(go_simp;rfl));intro c hg w4 hbox hb;replace aX:=nJ aX hg hb;have a:=zk (hbox);have a_:=yg hg HB;have q:=yg hg HB;replace HB:=yS HB hb;clear hb hbox hg))
 go_loopg [7,8] k (λkq v7 v8 w'=>∃(U:List (List Int)) (j:Int),v8= .int .i64 j/\dw (mg.l0 kq l1 l2 U j A z x=some r)/\dw (kq<=k)/\dw (Kd.V (Kd.slice 3 (Kd.int .i64)) 22 w' w.heap.size (λk_=>(a2 k_\/w.heap.size<=k_)/\some k_≠(v7:Value).ownBlock/\k_≠c) (.slice A1 l1.length c1) l1)/\dw (Kd.N (Kd.slice 3 (Kd.int .i64)) 22 w' w.heap.size (λk_=>(a2 k_\/w.heap.size<=k_)/\k_≠c) v7 U)/\dw (w'.heap[c]?=some (.cells #[.int .i64 A, .int .i64 z,(.slice M x.length J)] 24 (0,0)))/\dw (Below w.heap.size w w'))
 case atStart=>exact⟨(([]:List (List Int))),(0),zF,H',⟨Nat.le_refl _⟩,⟨by(with_reducible repeat(first|apply Kd.nH|apply Kd.nG|apply Kd.lV));exact Kd.jf aX.out (λ_ hk=>⟨hk.1,⟨(by simp [Value.ownBlock]),hk.2⟩⟩)⟩,⟨by first|exact Kd.tZ _ _ _ _ _|exact Kd.ui _ _ _ _ _|exact Kd.qX _ _ _ _ _|exact Kd.uh _ _ _ _ _|exact Kd.qN _ _ _ _ _⟩,⟨by(with_reducible repeat(first|refine iM ?_ _|refine iC ?_|refine iL ?_ _));exact a.out⟩,⟨iH HB.out q.out⟩⟩
 clear H'
 obtain⟨U,j,rfl,HA,al,d,l,a,HB⟩:=hrel
 cases gk with|zero=>exact absurd HA.out (by simp [mg.l0])|succ k1=>?_
 have H:=HA.out
 clear HA
 simp only[mg.l0] at H
 replace H:=jB H
 rcases H with⟨ax,H⟩|⟨ax,H⟩
 ·have H':=zk H
  clear H
  go_wp2
  go_loopg [9,10] k1 (λkq v9 bb w'=>∃(aa:Bool) (p:Int),v9= .bool aa/\bb= .int .i64 p/\dw (mg.l1 kq l1 l2 U j aa p A z x=some r)/\dw (kq<=k1)/\dw (Kd.V (Kd.slice 3 (Kd.int .i64)) 22 w' w.heap.size (λk_=>(a2 k_\/w.heap.size<=k_)/\some k_≠(u7:Value).ownBlock/\k_≠c) (.slice A1 l1.length c1) l1)/\dw (Kd.N (Kd.slice 3 (Kd.int .i64)) 22 w' w.heap.size (λk_=>(a2 k_\/w.heap.size<=k_)/\k_≠c) u7 U)/\dw (w'.heap[c]?=some (.cells #[.int .i64 A, .int .i64 z,(.slice M x.length J)] 24 (0,0)))/\dw (Below w.heap.size w w'))
  case atStart=>exact⟨(true),(0),zF,zF,H',⟨Nat.le_refl _⟩,⟨zV d.out⟩,⟨zN l.out⟩,⟨by(with_reducible repeat(first|refine iM ?_ _|refine iC ?_|refine iL ?_ _));exact a.out⟩,⟨iH HB.out q.out⟩⟩
  clear H'
  (try clear ax)
  obtain⟨aa,p,rfl,rfl,HA,ai,d,l,a,HB⟩:=hrel
  cases gk with|zero=>exact absurd HA.out (by simp [mg.l1])|succ k2=>?_
  have H:=HA.out
  clear HA
  simp only[mg.l1] at H
  replace H:=jB H
  rcases H with⟨aV,H⟩|⟨aV,H⟩
  ·by_cases c7:aa=true
   ·subst c7
    rw[if_pos rfl] at H
    replace H:=iV H
    obtain⟨bi,H⟩:=H
    replace H:=iV H
    obtain⟨be,H⟩:=H
    replace H:=iV H
    obtain⟨b1,H⟩:=H
    replace H:=zb H
    obtain⟨aA,bc,H⟩:=H
    have H':=zk H
    clear H
    try go_wp2
    replace d:=zk (Kd.lV d.out)
    replace l:=zk (Kd.jA l.out)
    replace a:=zk (iC a.out)
    replace HB:=zk (l9 HB.out)
    have af:0<=(j:Int):=zd
    have ac:j<(l1.length:Int):=zd
    obtain⟨az,a6,a8,aW,D,Z,a1⟩:=rH (Kd.jd d.out).2.2 j af ac
    cases aW
    obtain⟨b7,ap,aq,a7⟩:=Kd.Dj d.out [] j af (by first|exact ac|exact zd|(have e_:=(Kd.jd d.out).1;omega))
    obtain⟨aH,aI,rfl,L,O⟩:=Kd.Ff aq
    have E:=a7 0 _ rfl
    rw[Nat.add_zero,show((Kd.slice 3 (Kd.int .i64))).sz=1 from rfl,Nat.mul_one] at E
    replace E:=Option.some.inj (E.symm.trans D)
    injection E with mF pV mD
    rw[mF] at O
    rw[mD] at L
    have s:=zk (show Kd.V (Kd.int .i64) 3 _ w.heap.size _ _ (jD l1 j) from Kd.lT L O)
    clear mF pV mD O L
    clear a7 ap
    have m:=zk a1
    have ad:=zk Z
    clear a1 Z
    replace af:=eq_true af
    replace ac:=eq_true ac
    have ao:0<=(p:Int):=zd
    have an:p<(l2.length:Int):=zd
    obtain⟨aE,a9,a5,aZ,u,X,Y⟩:=rH bf.out p ao an
    have B:=u
    cases aZ
    replace u:=(HB.out.cell (World.block_lt_of_cell? w _ u)).trans u
    have y:=zk Y
    have ag:=zk X
    clear Y X
    replace ao:=eq_true ao
    replace an:=eq_true an
    refine qi (n:=15) (S:=λw'=>w'.cell? ⟨c,0,none⟩=some (.int .i64 A)/\w'.cell? ⟨c,1,none⟩=some (.int .i64 z)/\w'.cell? ⟨c,2,none⟩=some (.slice M x.length J)/\w'.cell? (az.add (j).toNat)=some (.slice a6 (jD l1 j).length a8)/\w'.cell? (aE.add (p).toNat)=some (.slice a9 (jD l2 p).length a5)) (ds:=[]) #[false,false,false,false,false,false,false,false,false,false,false,false,false,false,false] (by kernel_rfl) rfl rfl ⟨(iy a.out 0).trans rfl,(iy a.out 1).trans rfl,(iy a.out 2).trans rfl,D,((HB.out.cell (World.block_lt_of_cell? w _ B)).trans B)⟩ (λhHeld=>?_);refine qx mg.BU mg.Dh (λiq jq=>?_)
    first|(generalize wr.drew=aY at d l a HB s m y D u hHeld ⊢)|(generalize wr.drew=aY at d l a HB s m y u hHeld ⊢)|(generalize wr.drew=aY at d l a HB s m y D hHeld ⊢)|(generalize wr.drew=aY at d l a HB s m y hHeld ⊢)
    refine zp (i:=0) (N:=some 23) iq ?_
    refine zp (i:=1) (N:=some 24) iq ?_
    refine zp (i:=3) (N:=some 26) iq ?_
    refine zp (i:=4) (N:=some 27) iq ?_
    refine zp (i:=5) (N:=some 28) iq ?_
    refine zp (i:=7) (N:=some 30) iq ?_
    refine zp (i:=8) (N:=some 31) iq ?_
    refine zp (i:=9) (N:=some 32) iq ?_
    refine jI (i:=2) (N:=some 25) (v:=?_) (a':=?_) #[true,true,true,true,true,true,false,true,true,true,false,false,false,false,false] rfl rfl (jO iq.out jq.out (by kernel_rfl)) (λ_ _ _ h=>h) (Or.inl ⟨by rfl,?_⟩) hHeld ?_ ?_
    rotate_left
    ·rintro w' ⟨s0,s1,s2,s3,s4⟩
     go_simp
     with_reducible rfl
    rotate_left
    ·simp only[Act.put,List.setIfInBounds_toArray,List.set_cons_zero,List.set_cons_succ,iI,iP]
     rfl
    refine jI (i:=6) (N:=some 29) (v:=?_) (a':=?_) #[true,true,true,true,true,true,true,true,true,true,false,false,false,false,false] rfl rfl (jO iq.out jq.out (by kernel_rfl)) (λ_ _ _ h=>h) (Or.inl ⟨by rfl,?_⟩) hHeld ?_ ?_
    rotate_left
    ·rintro w' ⟨s0,s1,s2,s3,s4⟩
     go_simp
     with_reducible rfl
    rotate_left
    ·simp only[Act.put,List.setIfInBounds_toArray,List.set_cons_zero,List.set_cons_succ,iI,iP]
     rfl
    refine jI (i:=10) (N:=some 33) (v:=?_) (a':=?_) #[true,true,true,true,true,true,true,true,true,true,true,false,false,false,false] rfl rfl (jO iq.out jq.out (by kernel_rfl)) (λ_ _ _ h=>h) (Or.inl ⟨by rfl,?_⟩) hHeld ?_ ?_
    rotate_left
    ·rintro w' ⟨s0,s1,s2,s3,s4⟩
     go_simp
     with_reducible rfl
    rotate_left
    ·simp only[Act.put,List.setIfInBounds_toArray,List.set_cons_zero,List.set_cons_succ,iI,iP]
     rfl
    refine lN (i:=11) (N:=some 34) #[true,true,true,true,true,true,true,true,true,true,true,true,false,false,false] rfl rfl (kH iq.out (by kernel_rfl)) (by decide) (λK hK=>?_)
    refine nS Try.func114 (by kernel_rfl) rfl #[.agg #[.int .i64 A, .int .i64 z, .slice M x.length J], .slice a6 (jD l1 j).length a8, .slice a9 (jD l2 p).length a5] (by rfl) rfl rfl (by(try simp only[List.map_toArray,List.map_cons,List.map_nil]);first|done|rfl|(simp only[List.length_drop,List.length_take];rfl)) ?_
    with_reducible refine(nM.calls k2 A z _ _ x _ _ (jD l1 j) _ _ (jD l2 p) aA _ ?ig ?ik ?iF ?iE ?xk ?yB bc.out).mono ?_
    (case ig=>exact zC (Kd.iR aw.out HB.out))
    (case ik=>exact aC.out)
    (case iF=>repeat(first|exact(yY m.out)|(with_reducible refine Kd.uT ?_ _)|(with_reducible refine Kd.uQ ?_ _)|(with_reducible refine Kd.uS ?_)))
    (case iE=>exact ad.out)
    (case xk=>exact zC (Kd.iR y.out HB.out))
    (case yB=>exact ag.out)
    rintro e bn ⟨rfl,hb⟩
    have aT:=(hb.cell (World.block_lt_of_cell? _ _ (hHeld.2.2.2.1))).trans (hHeld.2.2.2.1)
    refine⟨_,rfl,?_⟩
    replace d:=jy d hb
    replace l:=kG l hb
    replace s:=jy s hb
    replace a:=yK a hb
    (try replace m:=oO m hb)
    replace HB:=jg HB q hb
    (try clear hb)
    refine hK.out _ _ ⟨(iy a.out 0).trans rfl,(iy a.out 1).trans rfl,(iy a.out 2).trans rfl,aT,((HB.out.cell (World.block_lt_of_cell? w _ B)).trans B)⟩ (λhHeld=>?_)
    clear hK K
    refine mr (a':=?_) ?_ ?_
    rotate_left
    ·show Act.put _ (some 34) _=_
     simp only[Act.put,List.setIfInBounds_toArray,List.set_cons_zero,List.set_cons_succ,iI,iP]
     rfl
    refine zp (i:=12) (N:=some 35) iq ?_
    refine zp (i:=13) (N:=some 36) iq ?_
    refine zp (i:=14) (N:=some 9) iq ?_
    refine ql (qF iq.out (by kernel_rfl)) ?_
    try go_wp2
    go_roundg k2
    case measure=>have:=al.out;have:=ai.out;omega
    case rel=>exact⟨((aA==0)),(wrap64 (p+1)),zF,zF,H',⟨lW al ai⟩,⟨zV d.out⟩,⟨zN l.out⟩,⟨by(with_reducible repeat(first|refine iM ?_ _|refine iC ?_|refine iL ?_ _));exact a.out⟩,⟨iH HB.out q.out⟩⟩
   replace c7:=Bool.eq_false_iff.mpr c7
   subst c7
   rw[if_neg Bool.false_ne_true] at H
   have H':=zk H
   clear H
   try go_wp2
   replace d:=zk (Kd.lV d.out)
   replace l:=zk (Kd.jA l.out)
   replace a:=zk (iC a.out)
   replace HB:=zk (l9 HB.out)
   refine qi (n:=15) (S:=λw'=>True) (ds:=[]) #[false,false,false,false,false,false,false,false,false,false,false,false,false,false,false] (by kernel_rfl) rfl rfl trivial (λhHeld=>?_);refine qx mg.BU mg.Dh (λiq jq=>?_)
   generalize wr.drew=bj at d l a HB hHeld ⊢
   refine zp (i:=0) (N:=some 23) iq ?_
   refine zp (i:=1) (N:=some 24) iq ?_
   refine uB (i:=2) (N:=some 25) (v:=undef) (a':=?_) #[true,true,true,false,false,false,false,false,false,false,false,false,false,false,false] rfl rfl (wZ iq.out (by kernel_rfl)) (λ_ _ _ h=>h) (Or.inr ⟨by rfl,rfl⟩) ?_ ?_
   rotate_left
   ·simp only[Act.put,List.setIfInBounds_toArray,List.set_cons_zero,List.set_cons_succ,iI,iP]
    rfl
   refine uB (i:=3) (N:=some 26) (v:=undef) (a':=?_) #[true,true,true,true,false,false,false,false,false,false,false,false,false,false,false] rfl rfl (wZ iq.out (by kernel_rfl)) (λ_ _ _ h=>h) (Or.inr ⟨by rfl,rfl⟩) ?_ ?_
   rotate_left
   ·simp only[Act.put,List.setIfInBounds_toArray,List.set_cons_zero,List.set_cons_succ,iI,iP]
    rfl
   refine uB (i:=4) (N:=some 27) (v:=undef) (a':=?_) #[true,true,true,true,true,false,false,false,false,false,false,false,false,false,false] rfl rfl (wZ iq.out (by kernel_rfl)) (λ_ _ _ h=>h) (Or.inr ⟨by rfl,rfl⟩) ?_ ?_
   rotate_left
   ·simp only[Act.put,List.setIfInBounds_toArray,List.set_cons_zero,List.set_cons_succ,iI,iP]
    rfl
   refine uB (i:=5) (N:=some 28) (v:=undef) (a':=?_) #[true,true,true,true,true,true,false,false,false,false,false,false,false,false,false] rfl rfl (wZ iq.out (by kernel_rfl)) (λ_ _ _ h=>h) (Or.inr ⟨by rfl,rfl⟩) ?_ ?_
   rotate_left
   ·simp only[Act.put,List.setIfInBounds_toArray,List.set_cons_zero,List.set_cons_succ,iI,iP]
    rfl
   refine uB (i:=6) (N:=some 29) (v:=undef) (a':=?_) #[true,true,true,true,true,true,true,false,false,false,false,false,false,false,false] rfl rfl (wZ iq.out (by kernel_rfl)) (λ_ _ _ h=>h) (Or.inr ⟨by rfl,rfl⟩) ?_ ?_
   rotate_left
   ·simp only[Act.put,List.setIfInBounds_toArray,List.set_cons_zero,List.set_cons_succ,iI,iP]
    rfl
   refine uB (i:=7) (N:=some 30) (v:=undef) (a':=?_) #[true,true,true,true,true,true,true,true,false,false,false,false,false,false,false] rfl rfl (wZ iq.out (by kernel_rfl)) (λ_ _ _ h=>h) (Or.inr ⟨by rfl,rfl⟩) ?_ ?_
   rotate_left
   ·simp only[Act.put,List.setIfInBounds_toArray,List.set_cons_zero,List.set_cons_succ,iI,iP]
    rfl
   refine uB (i:=8) (N:=some 31) (v:=undef) (a':=?_) #[true,true,true,true,true,true,true,true,true,false,false,false,false,false,false] rfl rfl (wZ iq.out (by kernel_rfl)) (λ_ _ _ h=>h) (Or.inr ⟨by rfl,rfl⟩) ?_ ?_
   rotate_left
   ·simp only[Act.put,List.setIfInBounds_toArray,List.set_cons_zero,List.set_cons_succ,iI,iP]
    rfl
   refine uB (i:=9) (N:=some 32) (v:=undef) (a':=?_) #[true,true,true,true,true,true,true,true,true,true,false,false,false,false,false] rfl rfl (wZ iq.out (by kernel_rfl)) (λ_ _ _ h=>h) (Or.inr ⟨by rfl,rfl⟩) ?_ ?_
   rotate_left
   ·simp only[Act.put,List.setIfInBounds_toArray,List.set_cons_zero,List.set_cons_succ,iI,iP]
    rfl
   refine uB (i:=10) (N:=some 33) (v:=undef) (a':=?_) #[true,true,true,true,true,true,true,true,true,true,true,false,false,false,false] rfl rfl (wZ iq.out (by kernel_rfl)) (λ_ _ _ h=>h) (Or.inr ⟨by rfl,rfl⟩) ?_ ?_
   rotate_left
   ·simp only[Act.put,List.setIfInBounds_toArray,List.set_cons_zero,List.set_cons_succ,iI,iP]
    rfl
   refine uB (i:=11) (N:=some 34) (v:=undef) (a':=?_) #[true,true,true,true,true,true,true,true,true,true,true,true,false,false,false] rfl rfl (wZ iq.out (by kernel_rfl)) (λ_ _ _ h=>h) (Or.inr ⟨by rfl,rfl⟩) ?_ ?_
   rotate_left
   ·simp only[Act.put,List.setIfInBounds_toArray,List.set_cons_zero,List.set_cons_succ,iI,iP]
    rfl
   refine uB (i:=12) (N:=some 35) (v:=undef) (a':=?_) #[true,true,true,true,true,true,true,true,true,true,true,true,true,false,false] rfl rfl (wZ iq.out (by kernel_rfl)) (λ_ _ _ h=>h) (Or.inr ⟨by rfl,rfl⟩) ?_ ?_
   rotate_left
   ·simp only[Act.put,List.setIfInBounds_toArray,List.set_cons_zero,List.set_cons_succ,iI,iP]
    rfl
   refine zp (i:=13) (N:=some 36) iq ?_
   refine zp (i:=14) (N:=some 9) iq ?_
   refine ql (qF iq.out (by kernel_rfl)) ?_
   try go_wp2
   go_roundg k2
   case measure=>have:=al.out;have:=ai.out;omega
   case rel=>exact⟨(false),(wrap64 (p+1)),zF,zF,H',⟨lW al ai⟩,⟨zV d.out⟩,⟨zN l.out⟩,⟨by(with_reducible repeat(first|refine iM ?_ _|refine iC ?_|refine iL ?_ _));exact a.out⟩,⟨iH HB.out q.out⟩⟩
  by_cases aJ:aa=true
  ·subst aJ
   rw[if_pos rfl] at H
   replace H:=iV H
   obtain⟨b6,H⟩:=H
   replace H:=iV H
   obtain⟨b3,H⟩:=H
   replace H:=zg H
   obtain⟨b2,H⟩:=H
   have ay:=zk b2
   clear b2
   obtain⟨aU,a4⟩:∃y_:List (List Int),y_=(U++[jD l1 j]):=⟨_,rfl⟩
   rw[<-a4] at H
   have aG:=zk a4
   clear a4
   have H':=zk H
   clear H
   have ah:0<=(j:Int):=zd
   have ae:j<(l1.length:Int):=zd
   obtain⟨b8,av,au,aR,ab,W,a0⟩:=rH (Kd.jd d.out).2.2 j ah ae
   cases aR
   obtain⟨b5,am,ar,a3⟩:=Kd.Dj d.out [] j ah (by first|exact ae|exact zd|(have e_:=(Kd.jd d.out).1;omega))
   obtain⟨aM,aK,rfl,T,P⟩:=Kd.Ff ar
   have I:=a3 0 _ rfl
   rw[Nat.add_zero,show((Kd.slice 3 (Kd.int .i64))).sz=1 from rfl,Nat.mul_one] at I
   replace I:=Option.some.inj (I.symm.trans ab)
   injection I with mF pV mD
   rw[mF] at P
   rw[mD] at T
   have G:=zk (show Kd.V (Kd.int .i64) 3 _ w.heap.size _ _ (jD l1 j) from Kd.lT T P)
   clear mF pV mD P T
   clear a3 am
   have aQ:=zk a0
   have aN:=zk W
   clear a0 W
   replace ah:=eq_true ah
   replace ae:=eq_true ae
   go_wp2_with (first|((with_reducible refine qE (b:= .append) (xs:= #[.tmp 38, .tmp 43]) rfl ?_);at_builtin;refine Kd.BB (Kd.slice 3 (Kd.int .i64)) (w0:=w) w.heap.size rfl (.tmp 38) (.tmp 43) 25 22 (.slice none 0 0) 24 rfl Try.underlying25 info22 rfl (by decide) (by omega) u7 U (jD l1 j) [.slice av (jD l1 j).length au] (λk_=>(a2 k_\/w.heap.size<=k_)/\k_≠c) (λk_=>((λk_=>(a2 k_\/w.heap.size<=k_)/\k_≠c)) k_/\some k_≠(u7:Value).ownBlock) rfl rfl ?aP (λ_ hk=>hk) ?aF ?aO ?aB ?aS ?aL ?_;(case aP=>exact(Kd.yj (Kd.jd (Kd.jf (ok':=(λk_=>((λk_=>(a2 k_\/w.heap.size<=k_)/\k_≠c)) k_/\some k_≠(u7:Value).ownBlock)) (G.out) (λk_ hk=>by exact⟨⟨hk.1,hk.2.2⟩,hk.2.1⟩))).2.1 (Kd.xG (Kd.jf (ok':=(λk_=>((λk_=>(a2 k_\/w.heap.size<=k_)/\k_≠c)) k_/\some k_≠(u7:Value).ownBlock)) (G.out) (λk_ hk=>by exact⟨⟨hk.1,hk.2.2⟩,hk.2.1⟩)))));(case aB=>exact(iH HB.out q.out));(case aF=>exact(λk_ hk=>⟨(.inr (Nat.le_trans (iQ (iH HB.out q.out)) hk)),Kd.kT (g:=c) (o:= .cells #[.int .i64 A, .int .i64 z, .slice M x.length J] 24 (0,0)) (by(with_reducible repeat(first|refine iM ?_ _|refine iC ?_|refine iL ?_ _));exact a.out) k_ hk⟩));(case aO=>exact(zN l.out));(case aS=>exact(iQ (iH HB.out q.out)));(case aL=>have:=ay.out;omega);intro ba bo ho hb hg hat;rw[<-aG.out] at ho;replace d:=zk (Kd.rJ (ok:=(λk_=>(a2 k_\/w.heap.size<=k_)/\k_≠c)) (by(with_reducible repeat(first|apply Kd.nH|apply Kd.nG|apply Kd.lV));exact Kd.jf d.out (λ_ hk=>⟨⟨hk.1,hk.2.2⟩,hk.2.1⟩)) hg hat);replace a:=zk (xU (g:=c) (o:= .cells #[.int .i64 A, .int .i64 z, .slice M x.length J] 24 (0,0)) (by(with_reducible repeat(first|refine iM ?_ _|refine iC ?_|refine iL ?_ _));exact a.out) hg (Kd.Bz l.out a.out (by decide)));replace G:=zk (Kd.rJ (ok:=(λk_=>(a2 k_\/w.heap.size<=k_)/\k_≠c)) (by(with_reducible repeat(first|apply Kd.nH|apply Kd.nG|apply Kd.lV));exact Kd.jf G.out (λ_ hk=>⟨⟨hk.1,hk.2.2⟩,hk.2.1⟩)) hg hat);replace HB:=zk (hb);have aD:=zk (ho);clear l;clear ho hb hg hat))
   go_roundg k2
   case measure=>have:=al.out;have:=ai.out;omega
   case rel=>exact⟨(aU),(wrap64 (j+1)),zF,H',⟨lW al ai⟩,⟨by(with_reducible repeat(first|apply Kd.nH|apply Kd.nG|apply Kd.lV));exact Kd.jf d.out (λ_ hk=>⟨hk.1.1,⟨hk.2,hk.1.2⟩⟩)⟩,⟨zN aD.out⟩,⟨by(with_reducible repeat(first|refine iM ?_ _|refine iC ?_|refine iL ?_ _));exact a.out⟩,⟨iH HB.out q.out⟩⟩
  replace aJ:=Bool.eq_false_iff.mpr aJ
  subst aJ
  rw[if_neg Bool.false_ne_true] at H
  have H':=zk H
  clear H
  go_wp2
  go_roundg k2
  case measure=>have:=al.out;have:=ai.out;omega
  case rel=>exact⟨(U),(wrap64 (j+1)),zF,H',⟨lW al ai⟩,⟨zV d.out⟩,⟨zN l.out⟩,⟨by(with_reducible repeat(first|refine iM ?_ _|refine iC ?_|refine iL ?_ _));exact a.out⟩,⟨iH HB.out q.out⟩⟩
 obtain rfl:=Option.some.inj H
 go_wp2
 go_ret
 exact⟨_,zE,by(with_reducible repeat(first|apply Kd.jK|apply Kd.jJ|apply Kd.jA));exact Kd.ji l.out (λ_ hk=>hk.1),iH HB.out q.out⟩
def kZ.T12:Bool×List (List Nat×List Nat):=(true,[([],[]),([],[]),([],[]),([],[]),([],[]),([3,4],[3,4]),([5],[5]),([1,2,6],[1,2,6]),([7],[7]),([0,8,7],[0,8]),([9,9,0,1,2,3,4,5,6,7,8,9],[0,9])])
def kZ.YT:List Nat:=[0,0,0,0,0,24,56,126,254,511,1023]
theorem kZ.RN:lM .any (opsOf Try.f19 12)=kZ.T12:=by kernel_rfl
theorem kZ.XT:qh kZ.T12.2 kZ.YT=true:=by kernel_rfl
theorem kZ.calls(k:Nat)(l:Int)(j:Int)(r:Option Addr)(q:Nat)(d:List Int)(a1:Int)(A2:Option Addr)(c2:Nat)(l2:List (List Int))(r1:Int)(r2:List (List Int))(r3:List (List Int))(r4:List (List Int))(r5:Bool)(w:World)(am:Kd.C (Kd.int .i64) w r d.length d)(al:d.length<=q)(bq:Kd.C (Kd.slice 3 (Kd.int .i64)) w A2 l2.length l2)(bw:l2.length<=c2)(h:kZ.f k l j d a1 l2=some (r1,r2,r3,r4,r5)):
 Calls Try.prog 19 #[.agg #[.int .i64 l, .int .i64 j, .slice r d.length q], .int .u8 a1, .slice A2 l2.length c2] w λe w'=>∃aT b0 bo:Value,e= .returned (.tuple #[.int .i64 r1,aT,b0,bo, .bool r5])/\Kd.N (Kd.slice 3 (Kd.int .i64)) 22 w' w.heap.size (λk_=>(w.heap.size<=k_)/\some k_≠(b0:Value).ownBlock) aT r2/\Kd.N (Kd.slice 3 (Kd.int .i64)) 22 w' w.heap.size (λk_=>(w.heap.size<=k_)/\some k_≠(aT:Value).ownBlock) b0 r3/\Kd.V (Kd.slice 3 (Kd.int .i64)) 22 w' w.heap.size (λk_=>(w.heap.size<=k_)/\some k_≠(aT:Value).ownBlock/\some k_≠(b0:Value).ownBlock) bo r4/\Below w.heap.size w w':=by
 have bT:=Try.underlying24
 have E:=zk am
 have G:=zk al
 clear am al
 have br:=zk bq
 have bz:=zk bw
 clear bq bw
 have HB:=zk (Below.refl w.heap.size w)
 have H:=h
 clear h
 unfold kZ.f at H
 have bb:=zk H
 clear H
 go_enter Try.func19,Try.ntmps19
 go_upto_region 2 with(first|((with_reducible refine jc (N:=3) rfl ?_);(try(refine vN (by rfl) ?_;dsimp only));refine jM ?hg (N:=3) ?hd (cs:= #[.int .i64 l, .int .i64 j, .slice r d.length q]) (t:=24) ?hr ?_;(case hd=>rfl);(case hg=>rfl);(case hr=>first|(go_simp;done)|(go_simp;rfl));intro c hg w5 hbox hb;have a:=zk (hbox);have bn:=yg hg HB;have b:=yg hg HB;replace HB:=yS HB hb;clear hb hbox hg))
 (try simp only[Act.put,List.setIfInBounds_toArray,List.set_cons_zero,List.set_cons_succ])
 go_cut [24] (λbO wc=>∃(kq:Nat) (U:Bool),bO= .bool U/\dw (kZ.j0 kq l2 (wrap64 ((Int.tmod (wrap64 (a1)) 12)+1)) U l j d=some (r1,r2,r3,r4,r5))/\dw (kq<=k)/\dw (wc.heap[c]?=some (.cells #[.int .i64 l, .int .i64 j,(.slice r d.length q)] 24 (0,0)))/\dw (Below w.heap.size w wc))
 case first=>
  have H:=bb.out
  clear bb
  replace H:=zb H
  obtain⟨ab,A6,H⟩:=H
  replace H:=zi H
  rcases H with⟨c7,H⟩|⟨c7,H⟩
  ·have a6:=beq_iff_eq.mpr c7
   have ar:=bne_eq_false_iff_eq.mpr c7
   clear c7
   (first|rw[a6]|(simp only[iI,iP];rw[a6])|rw[ar]|skip)
   have H':=zk H
   clear H
   obtain⟨b3,b6,b9,be,b5,b8⟩:=ja a
   go_wp2_with (first|((with_reducible refine gC 67 ?_);refine zG (some 18) Try.func67 #[.agg #[.int .i64 l, .int .i64 j, .slice r d.length q]] ?_;(with_reducible refine(o9.calls k l j _ _ d ab _ ?ig ?ik A6.out).mono ?_);(case ig=>exact zC (Kd.iR E.out HB.out));(case ik=>exact G.out);rintro e w9 ⟨rfl,hb⟩;refine⟨_,rfl,?_⟩;replace a:=yK a hb;replace HB:=jg HB b hb;(try clear hb)))
   go_meet
   case rel=>exact⟨_,(decide ((l2.length:Int)>12)),zF,H',⟨zO⟩,⟨by(with_reducible repeat(first|refine iM ?_ _|refine iC ?_|refine iL ?_ _));exact a.out⟩,⟨iH HB.out b.out⟩⟩
  have a6:=beq_eq_false_iff_ne.mpr c7
  have ar:=bne_iff_ne.mpr c7
  (first|rw[a6]|(simp only[iI,iP];rw[a6])|rw[ar]|skip)
  have H':=zk H
  clear H
  obtain⟨aZ,aX,b2,aM,aN,aW⟩:=ja a
  go_wp2_with (first|((with_reducible refine gC 67 ?_);refine zG (some 18) Try.func67 #[.agg #[.int .i64 l, .int .i64 j, .slice r d.length q]] ?_;(with_reducible refine(o9.calls k l j _ _ d ab _ ?ig ?ik A6.out).mono ?_);(case ig=>exact zC (Kd.iR E.out HB.out));(case ik=>exact G.out);rintro e bU ⟨rfl,hb⟩;refine⟨_,rfl,?_⟩;replace a:=yK a hb;replace HB:=jg HB b hb;(try clear hb)))
  go_meet
  case rel=>exact⟨_,(true),zF,H',⟨zO⟩,⟨by(with_reducible repeat(first|refine iM ?_ _|refine iC ?_|refine iL ?_ _));exact a.out⟩,⟨iH HB.out b.out⟩⟩
 clear bb
 obtain⟨kq,U,rfl,HA,b1,a,HB⟩:=hcut
 cases kq with|zero=>exact absurd HA.out (by simp [kZ.j0])|succ bf=>?_
 have H:=HA.out
 clear HA
 simp only[kZ.j0] at H
 by_cases aJ:U=true
 ·subst aJ
  rw[if_pos rfl] at H
  simp only[Option.some.injEq,Prod.mk.injEq] at H
  obtain⟨rfl,rfl,rfl,rfl,rfl⟩:=H
  go_wp2
  refine bodyPost_ret (Il (rs:=[.tmp 6, .tmp 7, .tmp 8, .tmp 9, .tmp 10]) rfl (by simp) (.tmp (.tmp (.tmp (.tmp (.tmp .nil)))))) rfl ?_
  exact⟨_,_,_,zE,by first|exact Kd.tZ _ _ _ _ _|exact Kd.ui _ _ _ _ _|exact Kd.qX _ _ _ _ _|exact Kd.uh _ _ _ _ _|exact Kd.qN _ _ _ _ _,by first|exact Kd.tZ _ _ _ _ _|exact Kd.ui _ _ _ _ _|exact Kd.qX _ _ _ _ _|exact Kd.uh _ _ _ _ _|exact Kd.qN _ _ _ _ _,by exact Kd.qX _ _ _ _ _,iH HB.out b.out⟩
 replace aJ:=Bool.eq_false_iff.mpr aJ
 subst aJ
 rw[if_neg Bool.false_ne_true] at H
 replace H:=zb H
 obtain⟨Y,bD,H⟩:=H
 replace H:=zb H
 obtain⟨P,bA,H⟩:=H
 have an:=zk H
 clear H
 obtain⟨aj,a7,ak,a9,aa,ae⟩:=ja a
 go_upto_region 6 with(first|((with_reducible refine gC 68 ?_);refine zG (some 28) Try.func68 #[.agg #[.int .i64 l, .int .i64 j, .slice r d.length q], .int .i64 (wrap64 ((Int.tmod (wrap64 (a1)) 12)+1)), .slice A2 l2.length c2, .int .i64 4096] ?_;(with_reducible refine(jP.calls bf l j _ _ d (wrap64 ((Int.tmod (wrap64 (a1)) 12)+1)) _ _ l2 4096 Y _ ?ig ?ik ?iF ?iE bD.out).mono ?_);(case ig=>exact zC (Kd.iR E.out HB.out));(case ik=>exact G.out);(case iF=>exact zC (Kd.iR br.out HB.out));(case iE=>exact bz.out);rintro e bZ ⟨A,rfl,D,hb⟩;refine⟨_,rfl,?_⟩;have B:=zk (Kd.qf (Kd.ji (ok':=λk_=>(w.heap.size<=k_)/\k_≠c) D (λk_ iO=>⟨(Nat.le_trans (iQ (iH HB.out b.out)) iO),(Kd.kT (g:=c) (o:= .cells #[.int .i64 l, .int .i64 j, .slice r d.length q] 24 (0,0)) (by(with_reducible repeat(first|refine iM ?_ _|refine iC ?_|refine iL ?_ _));exact a.out) k_ iO)⟩)) (iQ (iH HB.out b.out)));replace a:=yK a hb;replace HB:=jg HB b hb;(try clear hb D);obtain⟨ai,af,a8,ag,ah,ad⟩:=ja a)|((with_reducible refine gC 69 ?_);refine zG (some 31) Try.func69 #[.agg #[.int .i64 l, .int .i64 j, .slice r d.length q], .int .i64 (wrap64 ((Int.tmod (wrap64 (a1)) 12)+1)), .int .i64 4096] ?_;(with_reducible refine(uu.calls bf l j _ _ d (wrap64 ((Int.tmod (wrap64 (a1)) 12)+1)) 4096 P _ ?ig ?ik bA.out).mono ?_);(case ig=>exact zC (Kd.iR E.out HB.out));(case ik=>exact G.out);rintro e bV ⟨I,rfl,D,hb⟩;refine⟨_,rfl,?_⟩;have a4:=zk (Kd.qf (Kd.ji (ok':=λk_=>(w.heap.size<=k_)/\some k_≠(A:Value).ownBlock/\k_≠c) D (λk_ iO=>⟨(Nat.le_trans (iQ (iH HB.out b.out)) iO),(Kd.fresh' (Kd.mQ (zN B.out)) k_ iO),(Kd.kT (g:=c) (o:= .cells #[.int .i64 l, .int .i64 j, .slice r d.length q] 24 (0,0)) (by(with_reducible repeat(first|refine iM ?_ _|refine iC ?_|refine iL ?_ _));exact a.out) k_ iO)⟩)) (iQ (iH HB.out b.out)));replace B:=zk (Kd.rf (zN B.out) (Kd.vC D) hb);replace a:=yK a hb;replace HB:=jg HB b hb;(try clear hb D)))
 (try simp only[Act.put,List.setIfInBounds_toArray,List.set_cons_zero,List.set_cons_succ])
 go_cut [39] (λbM wc=>∃(kq:Nat) (J:Bool),bM= .bool J/\dw (kZ.j1 kq l2 (wrap64 ((Int.tmod (wrap64 (a1)) 12)+1)) Y P J l j d=some (r1,r2,r3,r4,r5))/\dw (kq<=bf)/\dw (Kd.N (Kd.slice 3 (Kd.int .i64)) 22 wc w.heap.size (λk_=>(w.heap.size<=k_)/\some k_≠(I:Value).ownBlock/\k_≠c) A Y)/\dw (Kd.N (Kd.slice 3 (Kd.int .i64)) 22 wc w.heap.size (λk_=>(w.heap.size<=k_)/\some k_≠(A:Value).ownBlock/\k_≠c) I P)/\dw (wc.heap[c]?=some (.cells #[.int .i64 l, .int .i64 j,(.slice r d.length q)] 24 (0,0)))/\dw (Below w.heap.size w wc))
 case first=>
  have H:=an.out
  clear an
  replace H:=zi H
  rcases H with⟨ap,H⟩|⟨ap,H⟩
  ·have O:=beq_iff_eq.mpr ap
   have a0:=bne_eq_false_iff_eq.mpr ap
   clear ap
   (first|rw[O]|(simp only[iI,iP];rw[O])|rw[a0]|skip)
   have H':=zk H
   clear H
   obtain⟨bQ,bx,rfl⟩:=Kd.oG B.out
   go_wp2
   go_meet
   case rel=>exact⟨_,(true),zF,H',⟨by have:=b1.out;first|omega|exact Nat.le_refl _⟩,⟨by(with_reducible repeat(first|apply Kd.jK|apply Kd.jJ|apply Kd.jA));exact Kd.ji B.out (λ_ hk=>⟨hk.1.1,⟨hk.2,hk.1.2⟩⟩)⟩,⟨zN a4.out⟩,⟨by(with_reducible repeat(first|refine iM ?_ _|refine iC ?_|refine iL ?_ _));exact a.out⟩,⟨iH HB.out b.out⟩⟩
  have O:=beq_eq_false_iff_ne.mpr ap
  have a0:=bne_iff_ne.mpr ap
  have bj:¬(Y=[]):=λh_=>ap (by rw[h_];rfl)
  (first|rw[O]|(simp only[iI,iP];rw[O])|rw[a0]|skip)
  have H':=zk H
  clear H
  obtain⟨bN,bI,rfl⟩:=Kd.oG B.out
  obtain⟨bG,bC,rfl⟩:=Kd.oG a4.out
  go_wp2
  go_meet
  case rel=>exact⟨_,(((P.length:Int)==0)),zF,H',⟨by have:=b1.out;first|omega|exact Nat.le_refl _⟩,⟨by(with_reducible repeat(first|apply Kd.jK|apply Kd.jJ|apply Kd.jA));exact Kd.ji B.out (λ_ hk=>⟨hk.1.1,⟨hk.2,hk.1.2⟩⟩)⟩,⟨zN a4.out⟩,⟨by(with_reducible repeat(first|refine iM ?_ _|refine iC ?_|refine iL ?_ _));exact a.out⟩,⟨iH HB.out b.out⟩⟩
 clear an
 (try clear aJ aj a7 ak ai af a8 a9 aa ae ag ah ad)
 obtain⟨kq,J,rfl,HA,az,x,s,a,HB⟩:=hcut
 cases kq with|zero=>exact absurd HA.out (by simp [kZ.j1])|succ aE=>?_
 have H:=HA.out
 clear HA
 simp only[kZ.j1] at H
 by_cases aA:J=true
 ·subst aA
  rw[if_pos rfl] at H
  simp only[Option.some.injEq,Prod.mk.injEq] at H
  obtain⟨rfl,rfl,rfl,rfl,rfl⟩:=H
  go_wp2
  refine bodyPost_ret (Il (rs:=[.tmp 6, .tmp 7, .tmp 8, .tmp 9, .tmp 10]) rfl (by simp) (.tmp (.tmp (.tmp (.tmp (.tmp .nil)))))) rfl ?_
  exact⟨_,_,_,zE,by first|exact Kd.tZ _ _ _ _ _|exact Kd.ui _ _ _ _ _|exact Kd.qX _ _ _ _ _|exact Kd.uh _ _ _ _ _|exact Kd.qN _ _ _ _ _,by first|exact Kd.tZ _ _ _ _ _|exact Kd.ui _ _ _ _ _|exact Kd.qX _ _ _ _ _|exact Kd.uh _ _ _ _ _|exact Kd.qN _ _ _ _ _,by exact Kd.qX _ _ _ _ _,iH HB.out b.out⟩
 replace aA:=Bool.eq_false_iff.mpr aA
 subst aA
 rw[if_neg Bool.false_ne_true] at H
 have H':=zk H
 clear H
 go_wp2
 go_loopg [11,12] aE (λkq bc bK w'=>∃(z:List (List Int)) (u:Int),bK= .int .i64 u/\dw (kZ.l0 kq l2 (wrap64 ((Int.tmod (wrap64 (a1)) 12)+1)) Y P z u l j d=some (r1,r2,r3,r4,r5))/\dw (kq<=aE)/\dw (Kd.N (Kd.slice 3 (Kd.int .i64)) 22 w' w.heap.size (λk_=>(w.heap.size<=k_)/\some k_≠(I:Value).ownBlock/\some k_≠(bc:Value).ownBlock/\k_≠c) A Y)/\dw (Kd.N (Kd.slice 3 (Kd.int .i64)) 22 w' w.heap.size (λk_=>(w.heap.size<=k_)/\some k_≠(A:Value).ownBlock/\some k_≠(bc:Value).ownBlock/\k_≠c) I P)/\dw (Kd.N (Kd.slice 3 (Kd.int .i64)) 22 w' w.heap.size (λk_=>(w.heap.size<=k_)/\some k_≠(A:Value).ownBlock/\some k_≠(I:Value).ownBlock/\k_≠c) bc z)/\dw (w'.heap[c]?=some (.cells #[.int .i64 l, .int .i64 j,(.slice r d.length q)] 24 (0,0)))/\dw (Below w.heap.size w w'))
 case atStart=>exact⟨(([]:List (List Int))),(0),zF,H',⟨Nat.le_refl _⟩,⟨by(with_reducible repeat(first|apply Kd.jK|apply Kd.jJ|apply Kd.jA));exact Kd.ji x.out (λ_ hk=>⟨hk.1,⟨hk.2.1,⟨(by simp [Value.ownBlock]),hk.2.2⟩⟩⟩)⟩,⟨by(with_reducible repeat(first|apply Kd.jK|apply Kd.jJ|apply Kd.jA));exact Kd.ji s.out (λ_ hk=>⟨hk.1,⟨hk.2.1,⟨(by simp [Value.ownBlock]),hk.2.2⟩⟩⟩)⟩,⟨by first|exact Kd.tZ _ _ _ _ _|exact Kd.ui _ _ _ _ _|exact Kd.qX _ _ _ _ _|exact Kd.uh _ _ _ _ _|exact Kd.qN _ _ _ _ _⟩,⟨by(with_reducible repeat(first|refine iM ?_ _|refine iC ?_|refine iL ?_ _));exact a.out⟩,⟨iH HB.out b.out⟩⟩
 clear H'
 (try clear aA)
 obtain⟨z,u,rfl,HA,bk,x,s,p,a,HB⟩:=hrel
 cases gk with|zero=>exact absurd HA.out (by simp [kZ.l0])|succ k3=>?_
 have H:=HA.out
 clear HA
 simp only[kZ.l0] at H
 replace H:=jB H
 rcases H with⟨aC,H⟩|⟨aC,H⟩
 ·replace H:=iV H
  obtain⟨bi,H⟩:=H
  replace H:=zb H
  obtain⟨X,bF,H⟩:=H
  replace H:=zg H
  obtain⟨bu,H⟩:=H
  have aK:=zk bu
  clear bu
  obtain⟨b7,a5⟩:∃y_:List (List Int),y_=(z++[X]):=⟨_,rfl⟩
  rw[<-a5] at H
  have aI:=zk a5
  clear a5
  have H':=zk H
  clear H
  try go_wp2
  replace x:=zk (Kd.jA x.out)
  replace s:=zk (Kd.jA s.out)
  replace p:=zk (Kd.jA p.out)
  replace a:=zk (iC a.out)
  replace HB:=zk (l9 HB.out)
  have ao:0<=(u:Int):=zd
  have au:u<(l2.length:Int):=zd
  obtain⟨aD,Z,a3,bh,y,W,T⟩:=rH br.out u ao au
  have m:=y
  cases bh
  replace y:=(HB.out.cell (World.block_lt_of_cell? w _ y)).trans y
  have L:=zk T
  have ac:=zk W
  clear T W
  replace ao:=eq_true ao
  replace au:=eq_true au
  refine qi (n:=11) (S:=λw'=>w'.cell? ⟨c,0,none⟩=some (.int .i64 l)/\w'.cell? ⟨c,1,none⟩=some (.int .i64 j)/\w'.cell? ⟨c,2,none⟩=some (.slice r d.length q)/\w'.cell? (aD.add (u).toNat)=some (.slice Z (jD l2 u).length a3)) (ds:=[]) #[false,false,false,false,false,false,false,false,false,false,false] (by kernel_rfl) rfl rfl ⟨(iy a.out 0).trans rfl,(iy a.out 1).trans rfl,(iy a.out 2).trans rfl,((HB.out.cell (World.block_lt_of_cell? w _ m)).trans m)⟩ (λhHeld=>?_);refine qx kZ.RN kZ.XT (λiq jq=>?_)
  first|(generalize wr.drew=bL at x s p a HB L y hHeld ⊢)|(generalize wr.drew=bL at x s p a HB L hHeld ⊢)
  refine zp (i:=0) (N:=some 46) iq ?_
  refine zp (i:=2) (N:=some 48) iq ?_
  refine zp (i:=3) (N:=some 49) iq ?_
  refine zp (i:=4) (N:=some 50) iq ?_
  refine zp (i:=5) (N:=some 51) iq ?_
  refine jI (i:=1) (N:=some 47) (v:=?_) (a':=?_) #[true,true,true,true,true,true,false,false,false,false,false] rfl rfl (jO iq.out jq.out (by kernel_rfl)) (λ_ _ _ h=>h) (Or.inl ⟨by rfl,?_⟩) hHeld ?_ ?_
  rotate_left
  ·rintro w' ⟨s0,s1,s2,s3⟩
   go_simp
   with_reducible rfl
  rotate_left
  ·simp only[Act.put,List.setIfInBounds_toArray,List.set_cons_zero,List.set_cons_succ,iI,iP]
   rfl
  refine jI (i:=6) (N:=some 52) (v:=?_) (a':=?_) #[true,true,true,true,true,true,true,false,false,false,false] rfl rfl (jO iq.out jq.out (by kernel_rfl)) (λ_ _ _ h=>h) (Or.inl ⟨by rfl,?_⟩) hHeld ?_ ?_
  rotate_left
  ·rintro w' ⟨s0,s1,s2,s3⟩
   go_simp
   with_reducible rfl
  rotate_left
  ·simp only[Act.put,List.setIfInBounds_toArray,List.set_cons_zero,List.set_cons_succ,iI,iP]
   rfl
  refine lN (i:=7) (N:=some 53) #[true,true,true,true,true,true,true,true,false,false,false] rfl rfl (kH iq.out (by kernel_rfl)) (by decide) (λK hK=>?_)
  refine nS Try.func60 (by kernel_rfl) rfl #[.agg #[.int .i64 l, .int .i64 j, .slice r d.length q], .int .i64 (wrap64 ((Int.tmod (wrap64 (a1)) 12)+1)), .slice Z (jD l2 u).length a3] (by rfl) rfl rfl (by(try simp only[List.map_toArray,List.map_cons,List.map_nil]);first|done|rfl|(simp only[List.length_drop,List.length_take];rfl)) ?_
  with_reducible refine(oC.calls k3 l j _ _ d (wrap64 ((Int.tmod (wrap64 (a1)) 12)+1)) _ _ (jD l2 u) X _ ?ig ?ik ?iF ?iE bF.out).mono ?_
  (case ig=>exact zC (Kd.iR E.out HB.out))
  (case ik=>exact G.out)
  (case iF=>exact zC (Kd.iR L.out HB.out))
  (case iE=>exact ac.out)
  rintro e bW ⟨bH,rfl,D,hb⟩
  refine⟨_,rfl,?_⟩
  replace x:=o7 x D hb
  replace s:=o7 s D hb
  replace p:=o7 p D hb
  replace D:=Kd.oD (M:=λk_=>(w.heap.size<=k_)) D (iQ (iH HB.out b.out)) (λk_ h_=>h_)
  have a2:=kY D HB b
  replace a:=yK a hb
  replace HB:=jg HB b hb
  (try clear hb)
  (try clear D)
  obtain⟨aq,ax,aG⟩:=Kd.iD a2.out
  (first|subst aG|(injection aG with bs bR bv;have bJ:=bs.symm;have bB:=bv.symm;clear bs bR bv;subst bJ;subst bB))
  refine hK.out _ _ ⟨(iy a.out 0).trans rfl,(iy a.out 1).trans rfl,(iy a.out 2).trans rfl,((HB.out.cell (World.block_lt_of_cell? w _ m)).trans m)⟩ (λhHeld=>?_)
  clear hK K
  refine mr (a':=?_) ?_ ?_
  rotate_left
  ·show Act.put _ (some 53) _=_
   simp only[Act.put,List.setIfInBounds_toArray,List.set_cons_zero,List.set_cons_succ,iI,iP]
   rfl
  refine lN (i:=8) (N:=some 54) #[true,true,true,true,true,true,true,true,true,false,false] rfl rfl (kH iq.out (by kernel_rfl)) (by decide) (λK hK=>?_)
  refine KQ (w1:=?_) (v:=?_) (by rfl) rfl ?_ ?_
  rotate_left 2
  ·go_simp
   constructor
   ·rfl
   rfl
  refine hK.out _ _ ⟨(iy (iL a.out _) 0).trans rfl,(iy (iL a.out _) 1).trans rfl,(iy (iL a.out _) 2).trans rfl,(World.cell?_alloc_lt _ _ _ (World.block_lt_of_cell? _ _ (((HB.out.cell (World.block_lt_of_cell? w _ m)).trans m)))).trans (((HB.out.cell (World.block_lt_of_cell? w _ m)).trans m))⟩ (λhHeld=>?_)
  clear hK K
  refine mr (a':=?_) ?_ ?_
  rotate_left
  ·show Act.put _ (some 54) _=_
   simp only[Act.put,List.setIfInBounds_toArray,List.set_cons_zero,List.set_cons_succ,iI,iP]
   rfl
  refine lN (i:=9) (N:=some 55) #[true,true,true,true,true,true,true,true,true,true,false] rfl rfl (kH iq.out (by kernel_rfl)) (by decide) (λK hK=>?_)
  refine Kd.Qw (Kd.slice 3 (Kd.int .i64)) (w0:=w) w.heap.size (by rfl) (.tmp 46) (.tmp 54) 25 22 (.slice none 0 0) 24 rfl Try.underlying25 info22 rfl (by decide) (by omega) u11 z X [.slice aq X.length ax] (λk_=>(w.heap.size<=k_)/\some k_≠(A:Value).ownBlock/\some k_≠(I:Value).ownBlock/\k_≠c) (λk_=>((λk_=>(w.heap.size<=k_)/\some k_≠(A:Value).ownBlock/\some k_≠(I:Value).ownBlock/\k_≠c)) k_/\some k_≠(u11:Value).ownBlock) rfl rfl ?aP (λ_ hk=>hk) ?aF ?aO ?aB ?aS ?aL ?_
  (case aP=>exact(Mw.Dy (Kd.iZ (ok':=(λk_=>((λk_=>(w.heap.size<=k_)/\some k_≠(A:Value).ownBlock/\some k_≠(I:Value).ownBlock/\k_≠c)) k_/\some k_≠(u11:Value).ownBlock)) (Kd.mM (Kd.jL (Kd.jL (Kd.jL (a2.out) (Kd.jQ x.out) (by decide)) (Kd.jQ s.out) (by decide)) (Kd.jQ p.out) (by decide)) a.out (by decide)) (λk_ hk=>by exact⟨⟨hk.1.1.1.1.1,⟨hk.1.1.1.2,⟨hk.1.1.2,hk.2⟩⟩⟩,hk.1.2⟩))))
  (case aB=>exact(iH HB.out b.out))
  (case aF=>exact(λk_ hk=>⟨(Nat.le_trans (iQ (iH HB.out b.out)) hk),Kd.fresh' (Kd.mQ (zN x.out)) k_ hk,Kd.fresh' (Kd.mQ (zN s.out)) k_ hk,Kd.kT (g:=c) (o:= .cells #[.int .i64 l, .int .i64 j, .slice r d.length q] 24 (0,0)) (by(with_reducible repeat(first|refine iM ?_ _|refine iC ?_|refine iL ?_ _));exact a.out) k_ hk⟩))
  (case aO=>exact(by(with_reducible repeat(first|apply Kd.jK|apply Kd.jJ|apply Kd.jA));exact Kd.ji p.out (λ_ hk=>⟨hk.1.1,⟨hk.1.2.1,⟨hk.1.2.2.1,hk.1.2.2.2⟩⟩⟩)))
  (case aS=>exact(iQ (iH HB.out b.out)))
  (case aL=>have:=aK.out;omega)
  intro bE bY ho hb hg hat
  rw[<-aI.out] at ho
  replace x:=zk (Kd.zJ (ok:=(λk_=>(w.heap.size<=k_)/\some k_≠(I:Value).ownBlock/\some k_≠(.slice aq X.length ax:Value).ownBlock/\k_≠c)) (by(with_reducible repeat(first|apply Kd.jK|apply Kd.jJ|apply Kd.jA));exact Kd.ji x.out (λ_ hk=>⟨⟨hk.1.1,⟨hk.1.2.1,⟨hk.2,hk.1.2.2.2⟩⟩⟩,hk.1.2.2.1⟩)) hg hat)
  replace s:=zk (Kd.zJ (ok:=(λk_=>(w.heap.size<=k_)/\some k_≠(A:Value).ownBlock/\some k_≠(.slice aq X.length ax:Value).ownBlock/\k_≠c)) (by(with_reducible repeat(first|apply Kd.jK|apply Kd.jJ|apply Kd.jA));exact Kd.ji s.out (λ_ hk=>⟨⟨hk.1.1,⟨hk.1.2.1,⟨hk.2,hk.1.2.2.2⟩⟩⟩,hk.1.2.2.1⟩)) hg hat)
  replace a:=zk (xU (g:=c) (o:= .cells #[.int .i64 l, .int .i64 j, .slice r d.length q] 24 (0,0)) (by(with_reducible repeat(first|refine iM ?_ _|refine iC ?_|refine iL ?_ _));exact a.out) hg (Kd.Bz p.out a.out (by decide)))
  replace HB:=zk (hb)
  have aH:=zk (ho)
  clear p a2
  clear ho hb hg hat
  refine hK.out _ _ ⟨(iy a.out 0).trans rfl,(iy a.out 1).trans rfl,(iy a.out 2).trans rfl,((HB.out.cell (World.block_lt_of_cell? w _ m)).trans m)⟩ (λhHeld=>?_)
  clear hK K
  refine mr (a':=?_) ?_ ?_
  rotate_left
  ·show Act.put _ (some 55) _=_
   simp only[Act.put,List.setIfInBounds_toArray,List.set_cons_zero,List.set_cons_succ,iI,iP]
   rfl
  refine zp (i:=10) (N:=some 11) iq ?_
  refine ql (qF iq.out (by kernel_rfl)) ?_
  try go_wp2
  go_roundg k3
  case measure=>have:=b1.out;have:=az.out;have:=bk.out;omega
  case rel=>exact⟨(b7),(wrap64 (u+1)),zF,H',⟨by have:=b1.out;have:=az.out;have:=bk.out;omega⟩,⟨by(with_reducible repeat(first|apply Kd.jK|apply Kd.jJ|apply Kd.jA));exact Kd.ji x.out (λ_ hk=>⟨hk.1.1,⟨hk.1.2.1,⟨hk.2,hk.1.2.2.2⟩⟩⟩)⟩,⟨by(with_reducible repeat(first|apply Kd.jK|apply Kd.jJ|apply Kd.jA));exact Kd.ji s.out (λ_ hk=>⟨hk.1.1,⟨hk.1.2.1,⟨hk.2,hk.1.2.2.2⟩⟩⟩)⟩,⟨zN aH.out⟩,⟨by(with_reducible repeat(first|refine iM ?_ _|refine iC ?_|refine iL ?_ _));exact a.out⟩,⟨iH HB.out b.out⟩⟩
 replace H:=zb H
 obtain⟨bg,bS,H⟩:=H
 simp only[Option.some.injEq,Prod.mk.injEq] at H
 obtain⟨rfl,rfl,rfl,rfl,rfl⟩:=H
 obtain⟨aU,aR,aQ,aY,aV,a_⟩:=ja a
 obtain⟨ba,b4,rfl⟩:=Kd.oG s.out
 obtain⟨aw,av,rfl⟩:=Kd.oG p.out
 go_wp2_with (first|((with_reducible refine gC 70 ?_);refine zG (some 61) Try.func70 #[.agg #[.int .i64 l, .int .i64 j, .slice r d.length q], .slice ba P.length b4, .slice aw z.length av] ?_;(with_reducible refine(mg.calls k3 l j _ _ d (λk_=>((w.heap.size<=k_)/\(some k_≠(A:Value).ownBlock/\(some k_≠(.slice aw z.length av:Value).ownBlock/\k_≠c)))) _ _ P _ _ z bg _ ?ig ?ik ?iF ?iE ?xk bS.out).mono ?_);(case ig=>exact zC (Kd.iR E.out HB.out));(case ik=>exact G.out);(case iF=>exact Kd.Qx (s.out));(case iE=>exact zC (Kd.jR p.out).2.2);(case xk=>exact(Kd.jR p.out).2.1);rintro e bX ⟨bP,rfl,D,hb⟩;refine⟨_,rfl,?_⟩;replace s:=zk (Kd.rf (zN s.out) (Kd.vC D) hb);have ay:=zk (Kd.qf (Kd.ji (ok':=λk_=>(w.heap.size<=k_)/\some k_≠(A:Value).ownBlock/\some k_≠(.slice aw z.length av:Value).ownBlock/\k_≠c) D (λk_ iO=>⟨Or.elim iO (λhs_=>hs_.1) (λjF=>(Nat.le_trans (iQ (iH HB.out b.out)) jF)),Or.elim iO (λhs_=>hs_.2.1) (λjF=>(Kd.fresh' (Kd.mQ (zN x.out)) k_ jF)),Or.elim iO (λhs_=>hs_.2.2.1) (λjF=>(Kd.fresh' (Kd.mQ (zN p.out)) k_ jF)),Or.elim iO (λhs_=>hs_.2.2.2) (λjF=>(Kd.kT (g:=c) (o:= .cells #[.int .i64 l, .int .i64 j, .slice r d.length q] 24 (0,0)) (by(with_reducible repeat(first|refine iM ?_ _|refine iC ?_|refine iL ?_ _));exact a.out) k_ jF))⟩)) (iQ (iH HB.out b.out)));replace x:=zk (Kd.rf (zN x.out) (Kd.vC D) hb);replace p:=zk (Kd.rf (zN p.out) (Kd.vC D) hb);replace a:=yK a hb;replace HB:=jg HB b hb;(try clear hb D)))
 refine bodyPost_ret (Il (rs:=[.tmp 6, .tmp 7, .tmp 8, .tmp 9, .tmp 10]) rfl (by simp) (.tmp (.tmp (.tmp (.tmp (.tmp .nil)))))) rfl ?_
 exact⟨_,_,_,zE,by(with_reducible repeat(first|apply Kd.jK|apply Kd.jJ|apply Kd.jA));exact Kd.ji x.out (λ_ hk=>⟨hk.1.1,hk.2⟩),by(with_reducible repeat(first|apply Kd.jK|apply Kd.jJ|apply Kd.jA));exact Kd.ji ay.out (λ_ hk=>⟨hk.1,hk.2.1⟩),Kd.Qx (by(with_reducible repeat(first|apply Kd.jK|apply Kd.jJ|apply Kd.jA));exact Kd.ji s.out (λ_ hk=>⟨hk.1.1,⟨hk.1.2.1,hk.2⟩⟩)),iH HB.out b.out⟩
theorem lF.calls(k:Nat)(A0:Option Addr)(c0:Nat)(l0:List Int)(r:List Int)(w:World)(ad:Kd.C (Kd.int .u32) w A0 l0.length l0)(ae:l0.length<=c0)(h:lF.f k l0=some r):
 Calls Try.prog 75 #[.slice A0 l0.length c0] w λe w'=>∃ab:Value,e= .returned (ab)/\Kd.R (Kd.int .u32) 97 w' w.heap.size (λ_=>True) ab r/\Below w.heap.size w w':=by
 have a0:=zk ad
 have ak:=zk ae
 clear ad ae
 have HB:=zk (Below.refl w.heap.size w)
 have H:=h
 clear h
 unfold lF.f at H
 have H':=zk H
 clear H
 go_enter Try.func75,Try.ntmps75
 go_wp2
 go_loopg [3] k (λkq v3 w'=>∃(a:Int),v3= .int .i64 a/\dw (lF.l0 kq l0 a=some r)/\dw (kq<=k)/\dw (Below w.heap.size w w'))
 case atStart=>exact⟨((l0.length:Int)),zF,H',⟨Nat.le_refl _⟩,⟨zB HB.out⟩⟩
 clear H'
 obtain⟨a,rfl,HA,al,HB⟩:=hrel
 cases gk with|zero=>exact absurd HA.out (by simp [lF.l0])|succ k1=>?_
 have H:=HA.out
 clear HA
 simp only[lF.l0] at H
 replace H:=zi H
 rcases H with⟨c2,H⟩|⟨c2,H⟩
 ·have a4:decide (0<a)=true:=decide_eq_true c2
  clear c2
  obtain⟨I,p⟩:∃j_:Int,(wrap64 (a-1))=j_:=⟨_,rfl⟩
  first|rw[p] at H|simp only[p] at H
  have af:(IntKind.i64.wrap (a-1))=I:=(iI _).trans p
  replace H:=iV H
  obtain⟨av,H⟩:=H
  replace H:=iV H
  obtain⟨ar,H⟩:=H
  replace H:=zi H
  rcases H with⟨c6,H⟩|⟨c6,H⟩
  ·have a7:=beq_iff_eq.mpr c6
   have a2:=bne_eq_false_iff_eq.mpr c6
   clear c6
   have H':=zk H
   clear H
   have d:0<=((I):Int):=zd
   have g:(I)<(l0.length:Int):=zd
   obtain⟨B,K,c⟩:=Kd.jG a0.out (I) d g
   cases K
   replace c:=(HB.out.cell (World.block_lt_of_cell? w _ c)).trans c
   replace d:=eq_true d
   replace g:=eq_true g
   go_wp2
   go_roundg k1
   case measure=>have:=al.out;omega
   case rel=>exact⟨(I),(by first|rfl|(simp;done)|(simp only[<-p]<;>(first|rfl|simp))|(simp [*];done)),H',⟨kP al⟩,⟨zB HB.out⟩⟩
  have a7:=beq_eq_false_iff_ne.mpr c6
  have a2:=bne_iff_ne.mpr c6
  obtain⟨v,m⟩:∃y_:List Int,y_=(([]:List Int)):=⟨_,rfl⟩
  replace H:(if 0<=a then(if a<=(l0.length:Int) then(if v.length+(l0.take (a:Int).toNat).length<35184372088832 then(some (v++(l0.take (a:Int).toNat))) else(none)) else(none)) else(none))=some r:=zY m H
  have z:=zk m
  clear m
  replace H:=zg H
  obtain⟨c7,H⟩:=H
  have aA:=eq_true c7
  have ax:=decide_eq_true c7
  clear c7
  replace H:=zg H
  obtain⟨c8,H⟩:=H
  have aC:=eq_true c8
  have ap:=decide_eq_true c8
  clear c8
  replace H:=zg H
  obtain⟨c9,H⟩:=H
  have a3:=zk c9
  clear c9
  obtain⟨aw,j⟩:∃y_:List Int,y_=(v++(l0.take (a:Int).toNat)):=⟨_,rfl⟩
  rw[<-j] at H
  have Y:=zk j
  clear j
  obtain rfl:=Option.some.inj H
  have d:0<=((I):Int):=zd
  have g:(I)<(l0.length:Int):=zd
  obtain⟨B,K,c⟩:=Kd.jG a0.out (I) d g
  cases K
  replace c:=(HB.out.cell (World.block_lt_of_cell? w _ c)).trans c
  replace d:=eq_true d
  replace g:=eq_true g
  go_wp2_with (first|((with_reducible refine jc (N:=18) rfl ?_);refine Kd.qG (Kd.int .u32) _ 97 ?hg (N:=18) ?hd (xs:=([]:List Int)) (inner:=[]) (ok:=λ_=>True) (je:=λ_=>True) ?hr ?hp (λ_ hk=>hk) trivial (Below.refl _ _) (Nat.le_refl _) (by simp) ?_;(case hd=>rfl);(case hg=>rfl);(case hr=>first|(go_simp;done)|(go_simp;rfl));(case hp=>exact(iY.none _ _));intro aa aD q hb jw jv;clear jw jv;(first|rw[<-z.out] at q|(simp only[Int.reduceToNat] at q;rw[<-z.out] at q));have J:=jm q HB;replace HB:=yS HB hb;clear hb q;obtain⟨az,D,_,G,_⟩:=info_parts rZ;obtain⟨a1,Z,L⟩:=MV (P:=Try.prog) (Value.int .u32) 0 29 97 .i64 Try.underlying29 D G (some B) c0 l0 a zd zd ak.out;have l:=zk (Kd.G9 (h1:=λ_=>rfl) (Z _ (Kd.Ip a0.out)));have ag:=zk L;clear Z L D G)|((with_reducible refine qE (b:= .append) (xs:= #[.tmp 18, .tmp 21]) rfl ?_);at_builtin;refine Kd.GX (Kd.int .u32) (w0:=w) w.heap.size rfl (.tmp 18) (.tmp 21) 29 97 (.int .u32 0) 4 rfl Try.underlying29 rZ rfl (by decide) (by omega) aa v (l0.take (a:Int).toNat) _ _ _ (λ_=>True) (λ_=>False) rfl rfl ?aO ?aR (λ_ _ h=>h) (λ_ h=>h.elim) ?aF ?aB ?aS ?aL ?_;(case aR=>first|(have I7:(l0.take (a:Int).toNat).length=a.toNat:=(by rw[List.length_take];have h_:(a:Int)<=(l0.length:Int):=zd;omega);refine Eq.mp (congrArg (λn_=>Kd.C _ _ _ n_ _) I7) ?_;repeat(first|exact(Kd.iR l.out HB.out)|(with_reducible refine Kd.uT ?_ _)|(with_reducible refine Kd.uQ ?_ _)|(with_reducible refine Kd.uS ?_)))|(rw[<-show(l0.take (a:Int).toNat).length=a.toNat from(by rw[List.length_take];have h_:(a:Int)<=(l0.length:Int):=zd;omega)];repeat(first|exact(Kd.iR l.out HB.out)|(with_reducible refine Kd.uT ?_ _)|(with_reducible refine Kd.uQ ?_ _)|(with_reducible refine Kd.uS ?_)))|(repeat(first|exact(Kd.iR l.out HB.out)|(with_reducible refine Kd.uT ?_ _)|(with_reducible refine Kd.uQ ?_ _)|(with_reducible refine Kd.uS ?_))));(case aB=>exact(zB HB.out));(case aF=>exact(λ_ _=>trivial));(case aO=>exact(zR J.out));(case aS=>exact(iQ (zB HB.out)));(case aL=>have:=a3.out;have VX:=(show(l0.take (a:Int).toNat).length=a.toNat from(by rw[List.length_take];have h_:(a:Int)<=(l0.length:Int):=zd;omega));omega);intro aq aE ho hb hg hat;rw[<-Y.out] at ho;replace HB:=zk (hb);have T:=zk (ho);clear J;clear ho hb hg hat))
  go_ret
  exact⟨_,by first|rfl|(simp [kV,kU]<;>rfl)|(simp only[<-p];first|rfl|(simp [kV,kU]<;>rfl))|(simp [*,kV,kU]<;>rfl),zR T.out,zB HB.out⟩
 have a4:decide (0<a)=false:=decide_eq_false c2
 clear c2
 obtain⟨u,s⟩:∃y_:List Int,y_=(([]:List Int)):=⟨_,rfl⟩
 replace H:(if 0<=a then(if a<=(l0.length:Int) then(if u.length+(l0.take (a:Int).toNat).length<35184372088832 then(some (u++(l0.take (a:Int).toNat))) else(none)) else(none)) else(none))=some r:=zY s H
 have E:=zk s
 clear s
 replace H:=zg H
 obtain⟨a9,H⟩:=H
 have an:=eq_true a9
 have aj:=decide_eq_true a9
 clear a9
 replace H:=zg H
 obtain⟨a8,H⟩:=H
 have ah:=eq_true a8
 have am:=decide_eq_true a8
 clear a8
 replace H:=zg H
 obtain⟨ai,H⟩:=H
 have O:=zk ai
 clear ai
 obtain⟨au,n⟩:∃y_:List Int,y_=(u++(l0.take (a:Int).toNat)):=⟨_,rfl⟩
 rw[<-n] at H
 have W:=zk n
 clear n
 obtain rfl:=Option.some.inj H
 go_wp2_with (first|((with_reducible refine jc (N:=18) rfl ?_);refine Kd.qG (Kd.int .u32) _ 97 ?hg (N:=18) ?hd (xs:=([]:List Int)) (inner:=[]) (ok:=λ_=>True) (je:=λ_=>True) ?hr ?hp (λ_ hk=>hk) trivial (Below.refl _ _) (Nat.le_refl _) (by simp) ?_;(case hd=>rfl);(case hg=>rfl);(case hr=>first|(go_simp;done)|(go_simp;rfl));(case hp=>exact(iY.none _ _));intro a6 aH t hb jw jv;clear jw jv;(first|rw[<-E.out] at t|(simp only[Int.reduceToNat] at t;rw[<-E.out] at t));have A:=jm t HB;replace HB:=yS HB hb;clear hb t;obtain⟨ao,x,_,y,_⟩:=info_parts rZ;obtain⟨a5,M,X⟩:=MV (P:=Try.prog) (Value.int .u32) 0 29 97 .i64 Try.underlying29 x y A0 c0 l0 a zd zd ak.out;have o:=zk (Kd.G9 (h1:=λ_=>rfl) (M _ (Kd.Ip a0.out)));have ac:=zk X;clear M X x y)|((with_reducible refine qE (b:= .append) (xs:= #[.tmp 18, .tmp 21]) rfl ?_);at_builtin;refine Kd.GX (Kd.int .u32) (w0:=w) w.heap.size rfl (.tmp 18) (.tmp 21) 29 97 (.int .u32 0) 4 rfl Try.underlying29 rZ rfl (by decide) (by omega) a6 u (l0.take (a:Int).toNat) _ _ _ (λ_=>True) (λ_=>False) rfl rfl ?aO ?aR (λ_ _ h=>h) (λ_ h=>h.elim) ?aF ?aB ?aS ?aL ?_;(case aR=>first|(have I7:(l0.take (a:Int).toNat).length=a.toNat:=(by rw[List.length_take];have h_:(a:Int)<=(l0.length:Int):=zd;omega);refine Eq.mp (congrArg (λn_=>Kd.C _ _ _ n_ _) I7) ?_;repeat(first|exact(Kd.iR o.out HB.out)|(with_reducible refine Kd.uT ?_ _)|(with_reducible refine Kd.uQ ?_ _)|(with_reducible refine Kd.uS ?_)))|(rw[<-show(l0.take (a:Int).toNat).length=a.toNat from(by rw[List.length_take];have h_:(a:Int)<=(l0.length:Int):=zd;omega)];repeat(first|exact(Kd.iR o.out HB.out)|(with_reducible refine Kd.uT ?_ _)|(with_reducible refine Kd.uQ ?_ _)|(with_reducible refine Kd.uS ?_)))|(repeat(first|exact(Kd.iR o.out HB.out)|(with_reducible refine Kd.uT ?_ _)|(with_reducible refine Kd.uQ ?_ _)|(with_reducible refine Kd.uS ?_))));(case aB=>exact(zB HB.out));(case aF=>exact(λ_ _=>trivial));(case aO=>exact(zR A.out));(case aS=>exact(iQ (zB HB.out)));(case aL=>have:=O.out;have VX:=(show(l0.take (a:Int).toNat).length=a.toNat from(by rw[List.length_take];have h_:(a:Int)<=(l0.length:Int):=zd;omega));omega);intro ay aG ho hb hg hat;rw[<-W.out] at ho;replace HB:=zk (hb);have U:=zk (ho);clear A;clear ho hb hg hat))
 go_ret
 exact⟨_,zE,zR U.out,zB HB.out⟩
theorem uA.calls(k:Nat)(a0:Int)(r:List Int)(w:World)(h:uA.f k a0=some r):
 Calls Try.prog 23 #[.int .u64 a0] w λe w'=>∃n:Value,e= .returned (n)/\Kd.R (Kd.int .u32) 97 w' w.heap.size (λ_=>True) n r/\Below w.heap.size w w':=by
 have HB:=zk (Below.refl w.heap.size w)
 have H:=h
 clear h
 unfold uA.f at H
 obtain⟨m,b⟩:∃y_:List Int,y_=(([(Int.tmod a0 4294967296) % 4294967296,(IntKind.u64.wrap (Int.tdiv a0 4294967296)) % 4294967296]:List Int)):=⟨_,rfl⟩
 rw[<-b] at H
 have c:=zk b
 clear b
 replace H:=zb H
 obtain⟨d,A2,H⟩:=H
 obtain rfl:=Option.some.inj H
 go_enter Try.func23,Try.ntmps23
 go_wp2_with (first|((with_reducible refine jc (N:=9) rfl ?_);refine Kd.qG (Kd.int .u32) _ 97 ?hg (N:=9) ?hd (xs:=([(Int.tmod a0 4294967296) % 4294967296,(IntKind.u64.wrap (Int.tdiv a0 4294967296)) % 4294967296]:List Int)) (inner:=[.int .u32 ((Int.tmod a0 4294967296) % 4294967296), .int .u32 ((IntKind.u64.wrap (Int.tdiv a0 4294967296)) % 4294967296)]) (ok:=λ_=>True) (je:=λ_=>True) ?hr ?hp (λ_ hk=>hk) trivial (Below.refl _ _) (Nat.le_refl _) (by simp) ?_;(case hd=>rfl);(case hg=>rfl);(case hr=>first|(go_simp;done)|(go_simp;rfl));(case hp=>exact(iY.one (show Kd.M (Kd.int .u32) _ _ _ ((Int.tmod a0 4294967296) % 4294967296) [.int .u32 ((Int.tmod a0 4294967296) % 4294967296)] from rfl) (iY.one (show Kd.M (Kd.int .u32) _ _ _ ((IntKind.u64.wrap (Int.tdiv a0 4294967296)) % 4294967296) [.int .u32 ((IntKind.u64.wrap (Int.tdiv a0 4294967296)) % 4294967296)] from rfl) (iY.none _ _))));intro s w3 j hb jw jv;clear jw jv;(first|rw[<-c.out] at j|(simp only[Int.reduceToNat] at j;rw[<-c.out] at j));have a:=jm j HB;replace HB:=yS HB hb;clear hb j;obtain⟨q,o,rfl⟩:=Kd.iD a.out)|((with_reducible refine gC 75 ?_);refine zG (some 10) Try.func75 #[.slice q m.length o] ?_;(with_reducible refine(lF.calls k _ _ m d _ ?ig ?ik A2.out).mono ?_);(case ig=>exact zC (Kd.iw a.out).2.2);(case ik=>exact(Kd.iw a.out).2.1);rintro e w6 ⟨p,rfl,l,hb⟩;refine⟨_,rfl,?_⟩;replace l:=yn l a;have g:=jm l HB;replace a:=iG a l hb;replace HB:=yS HB hb;(try clear hb l)))
 go_ret
 exact⟨_,zE,by(with_reducible repeat(first|apply Kd.iT|apply Kd.iU|apply Kd.iJ));exact Kd.iZ g.out (λ_ hk=>trivial),zB HB.out⟩
theorem oQ.calls(k:Nat)(a0:Int)(A1:Option Addr)(c1:Nat)(l1:List (List Int))(r:List (List Int))(w:World)(aX:Kd.C (Kd.slice 3 (Kd.int .i64)) w A1 l1.length l1)(b9:l1.length<=c1)(h:oQ.f k a0 l1=some r):
 Calls Try.prog 21 #[.int .i64 a0, .slice A1 l1.length c1] w λe w'=>∃b3:Value,e= .returned (b3)/\Kd.S (Kd.slice 97 (Kd.int .u32)) 29 w' w.heap.size (λ_=>True) b3 r/\Below w.heap.size w w':=by
 have bj:=zk aX
 have br:=zk b9
 clear aX b9
 have HB:=zk (Below.refl w.heap.size w)
 have H:=h
 clear h
 unfold oQ.f at H
 obtain⟨ao,K⟩:∃j_:Int,(wrap64 (a0+1))=j_:=⟨_,rfl⟩
 first|rw[K] at H|simp only[K] at H
 have b5:(IntKind.i64.wrap (a0+1))=ao:=(iI _).trans K
 replace H:=zg H
 obtain⟨c4,H⟩:=H
 have aK:=eq_true c4
 have aw:=decide_eq_true c4
 clear c4
 replace H:=zg H
 obtain⟨c5,H⟩:=H
 have av:=eq_true c5
 have ax:=decide_eq_true c5
 clear c5
 obtain⟨aD,z⟩:∃y_:List Int,y_=(List.replicate (ao:Int).toNat 0):=⟨_,rfl⟩
 rw[<-z] at H
 have W:=zk z
 clear z
 replace H:=zg H
 obtain⟨c6,H⟩:=H
 have aA:=eq_true c6
 have ar:=decide_eq_true c6
 clear c6
 replace H:=zg H
 obtain⟨c7,H⟩:=H
 have aQ:=eq_true c7
 have az:=decide_eq_true c7
 clear c7
 obtain⟨o,A⟩:∃y_:List Int,y_=(List.replicate (a0:Int).toNat 0):=⟨_,rfl⟩
 rw[<-A] at H
 have U:=zk A
 clear A
 have H':=zk H
 clear H
 go_enter Try.func21,Try.ntmps21
 go_wp2_with (first|((with_reducible refine jc (N:=12) rfl ?_);refine Kd.ug (Kd.int .i64) _ 3 rfl (N:=12) rfl 22 _ _ rfl ao rfl rfl Try.underlying22 (.int .i64 0) 8 info3 rfl (by decide) (by omega) 0 (ok:=λ_=>True) (je:=λ_=>True) rfl (λ_ hk=>hk) trivial zd (Nat.le_trans (Nat.mul_le_mul_right _ (zd:ao.toNat<=35184372088832)) (by omega)) (Below.refl _ _) (Nat.le_refl _) ?_;intro E w8 ad hb jw jv;clear jw jv;(first|rw[<-W.out] at ad|(simp only[Int.reduceToNat] at ad;rw[<-W.out] at ad));have y:=jm ad HB;replace HB:=yS HB hb;clear hb ad)|((with_reducible refine jc (N:=14) rfl ?_);refine Kd.ug (Kd.int .i64) _ 3 rfl (N:=14) rfl 22 _ _ rfl a0 rfl rfl Try.underlying22 (.int .i64 0) 8 info3 rfl (by decide) (by omega) 0 (ok:=λ_=>True) (je:=λ_=>True) rfl (λ_ hk=>hk) trivial zd (Nat.le_trans (Nat.mul_le_mul_right _ (zd:a0.toNat<=35184372088832)) (by omega)) (Below.refl _ _) (Nat.le_refl _) ?_;intro ac bu n hb jw jv;clear jw jv;(first|rw[<-U.out] at n|(simp only[Int.reduceToNat] at n;rw[<-U.out] at n));replace n:=yn n y;have ah:=jm n HB;replace y:=iG y n hb;replace HB:=yS HB hb;clear hb n))
 go_loopg [7] k (λkq v7 w'=>∃(c:List Int) (g:Int),v7= .int .i64 g/\dw (oQ.l0 kq a0 l1 c o g=some r)/\dw (kq<=k)/\dw (Kd.R (Kd.int .i64) 3 w' w.heap.size (λk_=>some k_≠(ac:Value).ownBlock) E c)/\dw (Kd.R (Kd.int .i64) 3 w' w.heap.size (λk_=>some k_≠(E:Value).ownBlock) ac o)/\dw (Below w.heap.size w w'))
 case atStart=>exact⟨(aD),(0),zF,H',⟨Nat.le_refl _⟩,⟨by(with_reducible repeat(first|apply Kd.iT|apply Kd.iU|apply Kd.iJ));exact Kd.iZ y.out (λ_ hk=>hk.2)⟩,⟨by(with_reducible repeat(first|apply Kd.iT|apply Kd.iU|apply Kd.iJ));exact Kd.iZ ah.out (λ_ hk=>hk.2)⟩,⟨zB HB.out⟩⟩
 clear H'
 (try clear aK aw av ax aA ar aQ az)
 obtain⟨c,g,rfl,HA,an,a,l,HB⟩:=hrel
 cases gk with|zero=>exact absurd HA.out (by simp [oQ.l0])|succ k1=>?_
 have H:=HA.out
 clear HA
 simp only[oQ.l0] at H
 replace H:=jB H
 rcases H with⟨X,H⟩|⟨X,H⟩
 ·replace H:=iV H
  obtain⟨aT,H⟩:=H
  replace H:=zb H
  obtain⟨d,bc,H⟩:=H
  replace H:=iV H
  obtain⟨b6,H⟩:=H
  replace H:=iV H
  obtain⟨b4,H⟩:=H
  obtain⟨ab,G⟩:∃y_:List Int,y_=(c.set (d:Int).toNat (wrap64 ((rd c d)+1))):=⟨_,rfl⟩
  rw[<-G] at H
  have am:=zk G
  clear G
  have H':=zk H
  clear H
  have a3:0<=(g:Int):=zd
  have a2:g<(l1.length:Int):=zd
  obtain⟨aY,a5,a7,aJ,j,u,x⟩:=rH bj.out g a3 a2
  cases aJ
  replace j:=(HB.out.cell (World.block_lt_of_cell? w _ j)).trans j
  have T:=zk x
  have P:=zk u
  clear x u
  replace a3:=eq_true a3
  replace a2:=eq_true a2
  obtain⟨M,O,rfl⟩:=Kd.iD l.out
  go_wp2_with (first|((with_reducible refine gC 61 ?_);refine zG (some 27) Try.func61 #[.slice a5 (jD l1 g).length a7, .slice M o.length O] ?_;(with_reducible refine(ru.calls k1 _ _ (jD l1 g) _ _ o d _ ?ig ?ik ?iF ?iE bc.out).mono ?_);(case ig=>exact zC (Kd.iR T.out HB.out));(case ik=>exact P.out);(case iF=>exact zC (Kd.iw l.out).2.2);(case iE=>exact(Kd.iw l.out).2.1);rintro e w' ⟨rfl,⟨nd,rfl⟩⟩;refine⟨_,rfl,?_⟩;(try(rw[AX wr];generalize oK:World.drewN wr _=wr;have b0:dw (Kd.R (Kd.int .i64) 3 wr w.heap.size (λk_=>some k_≠(.slice M o.length O:Value).ownBlock) E c):=⟨by rw[<-oK];exact(zR a.out)⟩;have aU:dw (Kd.R (Kd.int .i64) 3 wr w.heap.size (λk_=>some k_≠(E:Value).ownBlock) (.slice M o.length O) o):=⟨by rw[<-oK];exact(zR l.out)⟩;have a_:dw (Below w.heap.size w wr):=⟨by rw[<-oK];exact(zB HB.out)⟩;clear a l HB oK;have a:=b0;have l:=aU;have HB:=a_;clear b0 aU a_));obtain⟨bo,a1,rfl⟩:=Kd.iD a.out;have Y:0<=(d:Int):=zd;have a4:d<(c.length:Int):=zd;obtain⟨b2,aR,L⟩:=Kd.jG (Kd.iw a.out).2.2 d Y a4;cases aR;replace Y:=eq_true Y;replace a4:=eq_true a4;have ay:0<=(d:Int):=zd;have aC:(d:Int)<((c.length:Int):Int):=zd;obtain⟨J,be,ai,a9,aG,bb,af⟩:=Kd.qO a.out (by omega);(first|cases ai|(injection ai with iW kL kM;(first|subst iW|(injection iW with iW;subst iW));subst kM;clear kL));have aH:=zk a9;have bg:=zk af;clear a9 aG af;(first|simp only[add_plain] at L|skip);obtain⟨aN,aM⟩:=Kd.nT 0 a.out (d:Int) ay aC;replace ay:=eq_true ay;replace aC:=eq_true aC;obtain⟨b8,aV⟩:=Kd.nT 0 a.out (d:Int) zd zd;have a6:=Kd.qY a.out (d:Int) (wrap64 ((rd c d)+1)))|((with_reducible refine qM (t:=3) (p:=31) rfl ?_);refine qJ (t:=3) (p:=31) (v:=?Q8) (w1:=(wr.setCell ⟨J,(d:Int).toNat,none⟩ (.int .i64 (wrap64 ((rd c d)+1))))) ?hg ?ho ?hn ?hr ?_;(case ho=>rfl);(case hg=>rfl);(case hn=>rfl);(case hr=>first|(go_simp;done)|(go_simp;rfl));intro aE hw;have hg:wr.grownBy aE (some J):=(by rw[hw];exact a6.2);have jY:Kd.R (Kd.int .i64) 3 aE w.heap.size (λk_=>some k_≠(.slice M o.length O:Value).ownBlock) (.slice (some ⟨J,0,none⟩) c.length a1) ab:=(by rw[hw,am.out];exact a6.1);clear a6;replace a:=zk (jY);replace l:=zk (Kd.JK (v:=(.slice (some ⟨J,0,none⟩) c.length a1)) (v1:=(.slice (some ⟨J,0,none⟩) c.length a1)) (ok:=(λ_=>True)) (by(with_reducible repeat(first|apply Kd.iT|apply Kd.iU|apply Kd.iJ));exact Kd.iZ l.out (λ_ hk=>⟨trivial,hk⟩)) hg (.inl rfl));replace HB:=zk ((by rw[hw];exact lS (HB.out) aH.out:Below w.heap.size w aE));clear hg hw jY))
  go_roundg k1
  case measure=>have:=an.out;omega
  case rel=>exact⟨(ab),(wrap64 (g+1)),zF,H',⟨kP an⟩,⟨zR a.out⟩,⟨by(with_reducible repeat(first|apply Kd.iT|apply Kd.iU|apply Kd.iJ));exact Kd.iZ l.out (λ_ hk=>hk.2)⟩,⟨zB HB.out⟩⟩
 have H':=zk H
 clear H
 go_wp2
 go_loopg [8,9] k1 (λkq v8 v9 w'=>∃(I:List (List Int)) (m:Int),v9= .int .i64 m/\dw (oQ.l1 kq a0 c I m=some r)/\dw (kq<=k1)/\dw (Kd.R (Kd.int .i64) 3 w' w.heap.size (λ_=>True) E c)/\dw (Kd.S (Kd.slice 97 (Kd.int .u32)) 29 w' w.heap.size (λ_=>True) v8 I)/\dw (Below w.heap.size w w'))
 case atStart=>exact⟨(([]:List (List Int))),(0),zF,H',⟨Nat.le_refl _⟩,⟨by(with_reducible repeat(first|apply Kd.iT|apply Kd.iU|apply Kd.iJ));exact Kd.iZ a.out (λ_ hk=>trivial)⟩,⟨by first|exact Kd.tZ _ _ _ _ _|exact Kd.ui _ _ _ _ _|exact Kd.qX _ _ _ _ _|exact Kd.uh _ _ _ _ _|exact Kd.qN _ _ _ _ _⟩,⟨zB HB.out⟩⟩
 clear H'
 (try clear X)
 obtain⟨I,m,rfl,HA,aZ,a,q,HB⟩:=hrel
 cases gk with|zero=>exact absurd HA.out (by simp [oQ.l1])|succ k2=>?_
 have H:=HA.out
 clear HA
 simp only[oQ.l1] at H
 replace H:=jB H
 rcases H with⟨aa,H⟩|⟨aa,H⟩
 ·replace H:=iV H
  obtain⟨aW,H⟩:=H
  replace H:=iV H
  obtain⟨b1,H⟩:=H
  replace H:=zb H
  obtain⟨B,bf,H⟩:=H
  replace H:=zg H
  obtain⟨ba,H⟩:=H
  have ag:=zk ba
  clear ba
  obtain⟨au,D⟩:∃y_:List (List Int),y_=(I++[B]):=⟨_,rfl⟩
  rw[<-D] at H
  have aj:=zk D
  clear D
  have H':=zk H
  clear H
  obtain⟨bi,bh,rfl⟩:=Kd.iD a.out
  have a8:0<=(m:Int):=zd
  have Z:m<(c.length:Int):=zd
  obtain⟨b7,aI,ap⟩:=Kd.jG (Kd.iw a.out).2.2 m a8 Z
  cases aI
  replace a8:=eq_true a8
  replace Z:=eq_true Z
  go_wp2_with (first|((with_reducible refine gC 23 ?_);refine zG (some 43) Try.func23 #[.int .u64 (IntKind.u64.wrap (rd c m))] ?_;(with_reducible refine(uA.calls k2 (IntKind.u64.wrap (rd c m)) B _ bf.out).mono ?_);rintro e bq ⟨bk,rfl,aq,hb⟩;refine⟨_,rfl,?_⟩;replace a:=jl a hb;replace q:=zk (Kd.GM (zS q.out) (Kd.pM aq) hb);have s:=jm aq HB;replace HB:=yS HB hb;(try clear hb aq);obtain⟨ak,al,rfl⟩:=Kd.iD s.out)|((with_reducible refine qE (b:= .append) (xs:= #[.tmp 37, .tmp 44]) rfl ?_);at_builtin;refine Kd.EY (Kd.slice 97 (Kd.int .u32)) (w0:=w) w.heap.size rfl (.tmp 37) (.tmp 44) 33 29 (.slice none 0 0) 24 rfl Try.underlying33 Gf rfl (by decide) (by omega) u8 I B [.slice ak B.length al] (λ_=>True) (λk_=>some k_=(.slice ak B.length al:Value).ownBlock) rfl rfl ?aP (λk_ iO=>((Kd.iZ (ok':=λk_=>((λ_=>True)) k_/\some k_≠(u8:Value).ownBlock) (Kd.jL (s.out) (Kd.r_ q.out) (by decide)) (λk_ hk=>⟨trivial,hk.2⟩))).1 k_ iO.symm) ?aF ?aO ?aB ?aS ?aL ?_;(case aP=>exact Kd.JQ (Kd.iZ (Kd.uf rfl (Kd.iZ (ok':=λk_=>((λ_=>True)) k_/\some k_≠(u8:Value).ownBlock) (Kd.jL (s.out) (Kd.r_ q.out) (by decide)) (λk_ hk=>⟨trivial,hk.2⟩))) (λ_ h_=>h_)));(case aB=>exact(zB HB.out));(case aF=>exact(λ_ _=>trivial));(case aO=>exact(by(with_reducible repeat(first|apply Kd.uN|apply Kd.uK|apply Kd.t_));exact Kd.pK q.out (λk_ hk=>⟨trivial,λe_=>hk.2 e_⟩)));(case aS=>exact(iQ (zB HB.out)));(case aL=>have:=ag.out;omega);intro bn bs ho hb hg hat;rw[<-aj.out] at ho;replace a:=zk (Kd.vz (zR a.out) (Kd.r_ (zS q.out)) (by decide) hg);replace HB:=zk (hb);have ae:=zk (ho);clear q s;clear ho hb hg hat))
  go_roundg k2
  case measure=>have:=an.out;have:=aZ.out;omega
  case rel=>exact⟨(au),(wrap64 (m+1)),zF,H',⟨lW an aZ⟩,⟨zR a.out⟩,⟨zS ae.out⟩,⟨zB HB.out⟩⟩
 obtain rfl:=Option.some.inj H
 go_wp2
 go_ret
 exact⟨_,by first|rfl|(simp [kV,kU]<;>rfl)|(simp only[<-K];first|rfl|(simp [kV,kU]<;>rfl))|(simp [*,kV,kU]<;>rfl),zS q.out,zB HB.out⟩
end Go.Proofs.Ytifkbghnmhineaa.qc
section
set_option linter.unusedVariables false
set_option linter.unusedSimpArgs false
namespace Go.Proofs.Ytifkbghnmhineaa.qc
open Go Go.RowKit Go.Proofs.YtifkbghnmhineaaW.lJ Go.Proofs.YtifkbghnmhineaaW.rO Go.Proofs.YtifkbghnmhineaaW.uO
structure nP (w w':World) (a b:Nat):Prop where
 os:w'.os=w.os
 tape:w'.tape=w.tape
 output:w'.output=w.output
 size:w.heap.size<=w'.heap.size
 block:∀k,k<w.heap.size->k≠a->k≠b->w'.heap[k]?=w.heap[k]?
theorem nP.refl(w:World)(a b:Nat):nP w w a b:=⟨rfl,rfl,rfl,Nat.le_refl _,λ_ _ _ _=>rfl⟩
theorem nP.trans{a b:Nat}{w w1 w2:World}(h:nP w w1 a b)(k:nP w1 w2 a b):nP w w2 a b:=
 ⟨k.os.trans h.os,k.tape.trans h.tape,k.output.trans h.output,Nat.le_trans h.size k.size,λi hi h1 h2=>(k.block i (Nat.lt_of_lt_of_le hi h.size) h1 h2).trans (h.block i hi h1 h2)⟩
theorem nP.of_below{a b:Nat}{w w':World}(h:Below w.heap.size w w'):nP w w' a b:=⟨h.os,h.tape,h.output,h.size,λk hk _ _=>h.block k hk⟩
theorem nP.kept{a b:Nat}{w w':World}(h:nP w w' a b):Kept w w' (λk=>k=a\/k=b):=⟨h.size,λi hi hn=>h.block i hi (λe=>hn (.inl e)) (λe=>hn (.inr e))⟩
theorem nP.below{a b:Nat}{w w1 w2:World}(h:Below w.heap.size w w1)(k:nP w1 w2 a b)(ha:w.heap.size<=a)(hb:w.heap.size<=b):Below w.heap.size w w2:=
 h.trans ⟨k.os,k.tape,k.output,k.size,λi hi=>k.block i (Nat.lt_of_lt_of_le hi h.size) (by omega) (by omega)⟩
theorem nP.SQ{a b:Nat}{w w1:World}(h:nP w w1 a b)(j:Nat)(u:Value):nP w (w1.setCell ⟨a,j,none⟩ u) a b:=
 h.trans ⟨rfl,rfl,rfl,by simp [World.setCell],λk _ h1 _=>Below.heap_setCell _ _ _ _ h1⟩
theorem nP.setB{a b:Nat}{w w1:World}(h:nP w w1 a b)(j:Nat)(u:Value):nP w (w1.setCell ⟨b,j,none⟩ u) a b:=
 h.trans ⟨rfl,rfl,rfl,by simp [World.setCell],λk _ _ h2=>Below.heap_setCell _ _ _ _ h2⟩
theorem nP.drewN{a b:Nat}{w w1:World}(h:nP w w1 a b)(m:Nat):nP w (w1.drewN m) a b:=⟨h.os,h.tape,h.output,h.size,h.block⟩
theorem nP.drew{a b:Nat}{w w1:World}(h:nP w w1 a b):nP w w1.drew a b:=⟨h.os,h.tape,h.output,h.size,h.block⟩
def uC.l0:Nat->Int->List Int->Int->Int->Option Int
 |0,_,_,_,_=>none
 |k+1,x0,x9,x6,x11=>if x11<(x9.length:Int) then(if 0<=x11 then(if(Go.bits .and .u64 (rd x9 x11) x0)=x0 then(uC.l0 k x0 x9 (wrap64 (x6+1)) (wrap64 (x11+1))) else(uC.l0 k x0 x9 x6 (wrap64 (x11+1)))) else(none)) else(some x6)
def uC.f(k:Nat)(x0:Int)(x9:List Int)(cnt:Int):Option (Bool×Int):=(uC.l0 k x0 x9 0 0).bind λt=>(if cnt<0 then(some (true,t)) else(some (t==cnt,t)))
mutual
def rD.l0:Nat->Int->Int->Int->List Int->Int->Int->Bool->Option (Bool×Int×Bool)
 |0,_,_,_,_,_,_,_=>none
 |k+1,n,t,set,l,p,cnt,sm=>if p<=wrap64 (n-t) then(if 0<=p then((rD.f k n (wrap64 (t-1)) (wrap64 (p+1)) (Go.bits .or .u64 set (shl .u64 1 p)) l cnt sm).bind λr=>(if r.1=true then(rD.l0 k n t set l (wrap64 (p+1)) r.2.1 r.2.2) else(some (false,r.2)))) else(none)) else(some (true,cnt,sm))
def rD.f:Nat->Int->Int->Int->Int->List Int->Int->Bool->Option (Bool×Int×Bool)
 |0,_,_,_,_,_,_,_=>none
 |k+1,n,t,low,set,l,cnt,sm=>if t=0 then((uC.f k set l cnt).bind λr=>(some (r.1,r.2,r.1))) else(rD.l0 k n t set l low cnt sm)
end
structure Cap (w:World) (Bm Bc Bs:Nat) (A:Option Addr) (c:Nat) (l:List Int) (cnt:Int) (sm:Bool):Prop where
 m:w.heap[Bm]?=some (.cells #[.slice A l.length c] 101 (0,0))
 c_:w.heap[Bc]?=some (.cells #[.int .i64 cnt] 3 (0,0))
 s:w.heap[Bs]?=some (.cells #[.bool sm] 4 (0,0))
 row:∀W',Kept w W' (λk=>k=Bc\/k=Bs)->Kd.C (Kd.int .u64) W' A l.length l
 le:l.length<=c
theorem Cap.step{w w':World}{Bm Bc Bs:Nat}{A:Option Addr}{c:Nat}{l:List Int}{cnt cnt':Int}{sm sm':Bool}(h:Cap w Bm Bc Bs A c l cnt sm)(k:nP w w' Bc Bs)
 (hc:w'.heap[Bc]?=some (.cells #[.int .i64 cnt'] 3 (0,0))) (hs:w'.heap[Bs]?=some (.cells #[.bool sm'] 4 (0,0))):Cap w' Bm Bc Bs A c l cnt' sm':=by
 refine⟨(k.block Bm (lt_of_block h.m) (λe=>?_) (λe=>?_)).trans h.m,hc,hs,λW' hk=>h.row W' (k.kept.Hu hk (λ_ h2=> .inl h2)),h.le⟩
 ·have h1:=h.m;have h2:=h.c_;rw[e,h2] at h1;simp at h1
 ·have h1:=h.m;have h2:=h.s;rw[e,h2] at h1;simp at h1
theorem KN{w W:World}{Bc Bs:Nat}{v u:Value}(hne:¬Bc=Bs)(HB:Below w.heap.size w W)(HC:W.heap[Bc]?=some (.cells #[v] 3 (0,0)))(HS:W.heap[Bs]?=some (.cells #[u] 4 (0,0)))(x y:Value):
 ((W.setCell ⟨Bs,0,none⟩ x).setCell ⟨Bc,0,none⟩ y).heap[Bc]?=some (.cells #[y] 3 (0,0))/\((W.setCell ⟨Bs,0,none⟩ x).setCell ⟨Bc,0,none⟩ y).heap[Bs]?=some (.cells #[x] 4 (0,0))/\nP w ((W.setCell ⟨Bs,0,none⟩ x).setCell ⟨Bc,0,none⟩ y) Bc Bs:=
 ⟨one_setCell ((Below.heap_setCell _ _ _ _ hne).trans HC),(Below.heap_setCell _ _ _ _ (λe=>hne e.symm)).trans (one_setCell HS),((nP.of_below HB).setB 0 x).SQ 0 y⟩
set_option maxHeartbeats 8000000 in
set_option maxRecDepth 100000 in
theorem uC.calls(k:Nat)(Bm Bc Bs:Nat)(A:Option Addr)(c:Nat)(l:List Int)(set cnt:Int)(sm:Bool)(r1:Bool)(r2:Int)(w:World)(hcap:Cap w Bm Bc Bs A c l cnt sm)(h:uC.f k set l cnt=some (r1,r2)):
 Calls Try.prog 82 #[.int .u64 set, .pointer (some ⟨Bm,0,none⟩), .pointer (some ⟨Bc,0,none⟩), .pointer (some ⟨Bs,0,none⟩)] w λe w'=>e= .returned (.bool r1)/\w'.heap[Bc]?=some (.cells #[.int .i64 r2] 3 (0,0))/\w'.heap[Bs]?=some (.cells #[.bool r1] 4 (0,0))/\nP w w' Bc Bs:=by
 have uP:=dw.mk hcap
 have cm:=cell_of_one hcap.m
 have hcC:=dw.mk hcap.c_
 have hcS:=dw.mk hcap.s
 have hne:¬Bc=Bs:=λe=>by have h1:=hcap.c_;rw[e,hcap.s] at h1;simp at h1
 have hne':¬Bs=Bc:=λe=>hne e.symm
 have HR:=dw.mk (hcap.row w (Kept.refl _ _))
 clear hcap
 have HB:=dw.mk (Below.refl w.heap.size w)
 obtain⟨t,H0,H⟩:=Option.bind_eq_some_iff.mp h
 clear h
 have HF:=dw.mk H
 have H':=dw.mk H0
 clear H H0
 go_enter Try.func82,Try.ntmps82
 go_wp2
 go_loopg [6,11] k (λkq v6 v11 w'=>∃(DC:Int) (y5:Int),v6= .int .i64 DC/\v11= .int .i64 y5/\dw (uC.l0 kq set l DC y5=some t)/\dw (kq<=k)/\dw (Below w.heap.size w w'))
 case atStart=>exact⟨0,0,zF,zF,H',⟨Nat.le_refl _⟩,⟨zB HB.out⟩⟩
 clear H'
 obtain⟨DC,y5,rfl,rfl,HA,yX,HB⟩:=hrel
 cases gk with|zero=>exact absurd HA.out (by simp [uC.l0])|succ k1=>?_
 have H:=HA.out
 clear HA cm
 simp only[uC.l0] at H
 replace H:=jB H
 rcases H with⟨Xx,H⟩|⟨Xx,H⟩
 ·replace H:=iV H
  obtain⟨Pq,H⟩:=H
  replace H:=zi H
  have IC:0<=(y5:Int):=zd
  have Iz:y5<(l.length:Int):=zd
  obtain⟨Zf,WQ,I8⟩:=Kd.jG HR.out y5 IC Iz
  cases WQ
  replace I8:=(HB.out.cell (World.block_lt_of_cell? w _ I8)).trans I8
  replace IC:=eq_true IC
  replace Iz:=eq_true Iz
  rcases H with⟨c7,H⟩|⟨c7,H⟩
  ·have Xu:=beq_iff_eq.mpr c7
   clear c7
   have H':=dw.mk H
   clear H
   go_wp2
   go_roundg k1
   case measure=>have:=yX.out;omega
   case rel=>exact⟨(wrap64 (DC+1)),(wrap64 (y5+1)),zF,zF,H',⟨kP yX⟩,⟨zB HB.out⟩⟩
  have Xu:=beq_eq_false_iff_ne.mpr c7
  clear c7
  have H':=dw.mk H
  clear H
  go_wp2
  go_roundg k1
  case measure=>have:=yX.out;omega
  case rel=>exact⟨DC,(wrap64 (y5+1)),zF,zF,H',⟨kP yX⟩,⟨zB HB.out⟩⟩
 obtain rfl:=Option.some.inj H
 have hC:=(HB.out.block Bc (lt_of_block hcC.out)).trans hcC.out
 have hS:=(HB.out.block Bs (lt_of_block hcS.out)).trans hcS.out
 have cC:=cell_of_one hC
 have fC:=free_of_one hC
 have cS:=cell_of_one hS
 have fS:=free_of_one hS
 have HC:=dw.mk hC
 have HS:=dw.mk hS
 clear hC hS
 have H:=HF.out
 replace H:=jB H
 rcases H with⟨Xt,H⟩|⟨Xt,H⟩
 ·simp only[Option.some.injEq,Prod.mk.injEq] at H
  obtain⟨rfl,rfl⟩:=H
  go_wp2
  go_ret
  exact⟨zE,KN hne HB.out HC.out HS.out _ _⟩
 simp only[Option.some.injEq,Prod.mk.injEq] at H
 obtain⟨rfl,rfl⟩:=H
 go_wp2
 go_ret
 exact⟨zE,KN hne HB.out HC.out HS.out _ _⟩
set_option maxHeartbeats 8000000 in
set_option maxRecDepth 100000 in
theorem rD.calls(k:Nat)(Bm Bc Bs:Nat)(A:Option Addr)(c:Nat)(l:List Int):∀(n t low set cnt:Int) (sm:Bool) (r1:Bool) (r2:Int) (r3:Bool) (w:World) (hcap:Cap w Bm Bc Bs A c l cnt sm) (h:rD.f k n t low set l cnt sm=some (r1,r2,r3)),
 Calls Try.prog 81 #[.int .i64 n, .int .i64 t, .int .i64 low, .int .u64 set, .func (.func 82) #[] #[.pointer (some ⟨Bm,0,none⟩), .pointer (some ⟨Bc,0,none⟩), .pointer (some ⟨Bs,0,none⟩)]] w λe w'=>e= .returned (.bool r1)/\w'.heap[Bc]?=some (.cells #[.int .i64 r2] 3 (0,0))/\w'.heap[Bs]?=some (.cells #[.bool r3] 4 (0,0))/\nP w w' Bc Bs:=by
 induction k using Nat.strongRecOn with
 |_ k ih=>
 intro n t low set cnt sm r1 r2 r3 w hcap h
 cases k with
 |zero=>exact absurd h (by simp [rD.f])
 |succ k=>
 simp only[rD.f] at h
 have uP:=dw.mk hcap
 clear hcap
 replace h:=zi h
 rcases h with⟨c4,H⟩|⟨c4,H⟩
 ·have Pq:=beq_iff_eq.mpr c4
  have yQ:=bne_eq_false_iff_eq.mpr c4
  clear c4
  obtain⟨⟨t1,t2⟩,A5,H⟩:=Option.bind_eq_some_iff.mp H
  have A6:=dw.mk A5
  clear A5
  simp only[Option.some.injEq,Prod.mk.injEq] at H
  obtain⟨rfl,rfl,rfl⟩:=H
  go_enter Try.func81,Try.ntmps81
  go_wp2_with (first|(go_at_call 82;refine(uC.calls k Bm Bc Bs A c l set cnt sm t1 t2 _ uP.out A6.out).mono ?_;rintro e w2 ⟨rfl,h1,h2,h3⟩;have K1:=dw.mk h1;have K2:=dw.mk h2;have K3:=dw.mk h3;clear h1 h2 h3))
  go_ret
  exact⟨zE,K1.out,K2.out,K3.out⟩
 have Pq:=beq_eq_false_iff_ne.mpr c4
 have yQ:=bne_iff_ne.mpr c4
 have H':=dw.mk H
 clear H
 go_enter Try.func81,Try.ntmps81
 go_wp2
 go_loopg [11] k (λkq v11 w'=>∃(p:Int) (cn:Int) (s:Bool),v11= .int .i64 p/\dw (rD.l0 kq n t set l p cn s=some (r1,r2,r3))/\dw (kq<=k)/\dw (Cap w' Bm Bc Bs A c l cn s)/\dw (nP w w' Bc Bs))
 case atStart=>exact⟨low,cnt,sm,zF,H',⟨Nat.le_refl _⟩,uP,⟨nP.refl _ _ _⟩⟩
 clear H' uP
 obtain⟨p,cn,s,rfl,HA,yX,uP,BF⟩:=hrel
 cases gk with|zero=>exact absurd HA.out (by simp [rD.l0])|succ k1=>?_
 have H:=HA.out
 clear HA
 simp only[rD.l0] at H
 replace H:=jB H
 rcases H with⟨XB,H⟩|⟨XB,H⟩
 ·replace H:=iV H
  obtain⟨XA,H⟩:=H
  have Pv:=of_decide_eq_true XA
  have Ze:=eq_true Pv
  clear Pv
  obtain⟨zq,Jd⟩:∃j_:Int,(shl .u64 1 p)=j_:=⟨_,rfl⟩
  rw[Jd] at H
  have VZ:(IntKind.u64.wrap (1*2^min p.toNat 64))=zq:=Jd
  have VY:p<=64->(IntKind.u64.wrap (1*2^p.toNat))=zq:=Ic Jd
  have Za:(IntKind.u64.wrap (2^min p.toNat 64))=zq:=by have h_:=VZ;rw[Int.one_mul] at h_;exact h_
  have Y_:p<=64->(IntKind.u64.wrap (2^p.toNat))=zq:=λJc=>by have h_:=VY Jc;rw[Int.one_mul] at h_;exact h_
  obtain⟨⟨t1,t2,t3⟩,A5,H⟩:=Option.bind_eq_some_iff.mp H
  have A6:=dw.mk A5
  clear A5
  cases t1 with
  |true=>
   rw[if_pos rfl] at H
   have H':=dw.mk H
   clear H
   go_wp2_with (first|((with_reducible refine gC 81 ?_);refine zG (some 35) Try.func81 #[.int .i64 n, .int .i64 (wrap64 (t-1)), .int .i64 (wrap64 (p+1)), .int .u64 (Go.bits .or .u64 set zq), .func (.func 82) #[] #[.pointer (some ⟨Bm,0,none⟩), .pointer (some ⟨Bc,0,none⟩), .pointer (some ⟨Bs,0,none⟩)]] ?_;(with_reducible refine(ih k1 (kP yX) n (wrap64 (t-1)) (wrap64 (p+1)) (Go.bits .or .u64 set zq) cn s true t2 t3 _ uP.out A6.out).mono ?_);rintro e w12 ⟨rfl,h1,h2,h3⟩;refine⟨_,rfl,?_⟩;replace uP:=dw.mk (uP.out.step h3 h1 h2);replace BF:=dw.mk (BF.out.trans h3);clear h1 h2 h3))
   go_roundg k1
   case measure=>have:=yX.out;omega
   case rel=>exact⟨(wrap64 (p+1)),t2,t3,zF,H',⟨kP yX⟩,uP,BF⟩
  |false=>
   rw[if_neg Bool.false_ne_true] at H
   simp only[Option.some.injEq,Prod.mk.injEq] at H
   obtain⟨rfl,rfl,rfl⟩:=H
   go_wp2_with (first|((with_reducible refine gC 81 ?_);refine zG (some 35) Try.func81 #[.int .i64 n, .int .i64 (wrap64 (t-1)), .int .i64 (wrap64 (p+1)), .int .u64 (Go.bits .or .u64 set zq), .func (.func 82) #[] #[.pointer (some ⟨Bm,0,none⟩), .pointer (some ⟨Bc,0,none⟩), .pointer (some ⟨Bs,0,none⟩)]] ?_;(with_reducible refine(ih k1 (kP yX) n (wrap64 (t-1)) (wrap64 (p+1)) (Go.bits .or .u64 set zq) cn s false t2 t3 _ uP.out A6.out).mono ?_);rintro e w12 ⟨rfl,h1,h2,h3⟩;refine⟨_,rfl,?_⟩;replace uP:=dw.mk (uP.out.step h3 h1 h2);replace BF:=dw.mk (BF.out.trans h3);clear h1 h2 h3))
   go_ret
   exact⟨zE,uP.out.c_,uP.out.s,BF.out⟩
 simp only[Option.some.injEq,Prod.mk.injEq] at H
 obtain⟨rfl,rfl,rfl⟩:=H
 go_wp2
 go_ret
 exact⟨zE,uP.out.c_,uP.out.s,BF.out⟩
end Go.Proofs.Ytifkbghnmhineaa.qc
end
namespace Go.Proofs.Ytifkbghnmhineaa.qc
set_option maxHeartbeats 8000000
set_option maxRecDepth 100000
open Go.RowKit Go.Proofs.YtifkbghnmhineaaW.lJ Go.Proofs.YtifkbghnmhineaaW.rO Go.Proofs.YtifkbghnmhineaaW.uO
attribute [local go_sem] Aw Ap Aq Aj Ar Ak Au Am
set_option linter.unusedVariables false
set_option linter.unusedSimpArgs false
theorem jX.calls(k:Nat)(M:Nat->Prop)(A0:Option Addr)(c0:Nat)(l0:List Int)(r:List Int)(w:World)(ae:Kd.V (Kd.int .u32) 97 w w.heap.size (λk_=>M k_) (.slice A0 l0.length c0) l0)(h:jX.f k l0=some r):
 Calls Try.prog 118 #[.slice A0 l0.length c0] w λe w'=>∃a1:Value,e= .returned (a1)/\Kd.V (Kd.int .u32) 97 w' w.heap.size (λk_=>(M k_\/w.heap.size<=k_)) a1 r/\Below w.heap.size w w':=by
 have ab:=zk (show Kd.V (Kd.int .u32) 97 w w.heap.size (λk_=>(M k_\/w.heap.size<=k_)) (.slice A0 l0.length c0) l0 from Kd.jf ae (λk_ hk=> .inl hk))
 have HB:=zk (Below.refl w.heap.size w)
 have H:=h
 clear h
 unfold jX.f at H
 have H':=zk H
 clear H
 go_enter Try.func118,Try.ntmps118
 go_wp2
 go_loopg [3] k (λkq v3 w'=>∃(a:Int),v3= .int .i64 a/\dw (jX.l0 kq l0 a=some r)/\dw (kq<=k)/\dw (Kd.V (Kd.int .u32) 97 w' w.heap.size (λk_=>(M k_\/w.heap.size<=k_)) (.slice A0 l0.length c0) l0)/\dw (Below w.heap.size w w'))
 case atStart=>exact⟨((l0.length:Int)),zF,H',⟨Nat.le_refl _⟩,⟨zV ab.out⟩,⟨zB HB.out⟩⟩
 clear H'
 obtain⟨a,rfl,HA,a9,c,HB⟩:=hrel
 cases gk with|zero=>exact absurd HA.out (by simp [jX.l0])|succ k1=>?_
 have H:=HA.out
 clear HA
 simp only[jX.l0] at H
 replace H:=zi H
 rcases H with⟨c2,H⟩|⟨c2,H⟩
 ·have W:decide (0<a)=true:=decide_eq_true c2
  clear c2
  obtain⟨y,q⟩:∃j_:Int,(wrap64 (a-1))=j_:=⟨_,rfl⟩
  first|rw[q] at H|simp only[q] at H
  have a6:(IntKind.i64.wrap (a-1))=y:=(iI _).trans q
  replace H:=iV H
  obtain⟨af,H⟩:=H
  replace H:=iV H
  obtain⟨ad,H⟩:=H
  replace H:=zi H
  rcases H with⟨c6,H⟩|⟨c6,H⟩
  ·have Y:=beq_iff_eq.mpr c6
   have T:=bne_eq_false_iff_eq.mpr c6
   clear c6
   have H':=zk H
   clear H
   have b:0<=((y):Int):=zd
   have d:(y)<(l0.length:Int):=zd
   obtain⟨g,A,t⟩:=Kd.jG (Kd.jd c.out).2.2 (y) b d
   cases A
   replace b:=eq_true b
   replace d:=eq_true d
   go_wp2
   go_roundg k1
   case measure=>have:=a9.out;omega
   case rel=>exact⟨(y),(by first|rfl|(simp;done)|(simp only[<-q]<;>(first|rfl|simp))|(simp [*];done)),H',⟨kP a9⟩,⟨zV c.out⟩,⟨zB HB.out⟩⟩
  have Y:=beq_eq_false_iff_ne.mpr c6
  have T:=bne_iff_ne.mpr c6
  replace H:=zg H
  obtain⟨c7,H⟩:=H
  have ai:=eq_true c7
  have ag:=decide_eq_true c7
  clear c7
  replace H:=zg H
  obtain⟨c8,H⟩:=H
  have ak:=eq_true c8
  have ac:=decide_eq_true c8
  clear c8
  obtain⟨n,p⟩:∃y_:List Int,y_=(l0.take (a:Int).toNat):=⟨_,rfl⟩
  rw[<-p] at H
  have u:=zk p
  clear p
  obtain rfl:=Option.some.inj H
  have b:0<=((y):Int):=zd
  have d:(y)<(l0.length:Int):=zd
  obtain⟨g,A,t⟩:=Kd.jG (Kd.jd c.out).2.2 (y) b d
  cases A
  replace b:=eq_true b
  replace d:=eq_true d
  have q9:(a:Int)<=((l0.length:Int):Int):=zd
  obtain⟨al,I,_,O,_⟩:=info_parts rZ
  have s:l0.length<=c0:=(Kd.jd c.out).2.1
  have aa:Kd.F (Kd.int .u32) _ _ (some g) l0.length l0:=(Kd.Dk (base:=w.heap.size) c.out).2.2
  have K:=Mw.O8 (P:=Try.prog) 29 97 .i64 Try.underlying29 I (some g) l0.length c0 a zd q9 s
  have X:=Kd.QC (m:=(a:Int).toNat) aa (by omega)
  have Z:n.length=(a:Int).toNat:=(by rw[u.out,List.length_take];omega)
  rw[<-u.out] at X
  rw[<-Z] at K
  have J:=zk (show Kd.V (Kd.int .u32) 97 _ w.heap.size _ (.slice (some g) n.length n.length) n from Kd.lT (by omega) X)
  have a5:=zk (show n.length<=n.length from by omega)
  clear X aa s I O
  have am:=zk Z
  clear Z
  replace q9:=eq_true q9
  go_wp2
  go_ret
  exact⟨_,by first|rfl|(simp [kV,kU]<;>rfl)|(simp only[<-q];first|rfl|(simp [kV,kU]<;>rfl))|(simp [*,kV,kU]<;>rfl),zV J.out,zB HB.out⟩
 have W:decide (0<a)=false:=decide_eq_false c2
 clear c2
 replace H:=zg H
 obtain⟨c10,H⟩:=H
 have a2:=eq_true c10
 have a4:=decide_eq_true c10
 clear c10
 replace H:=zg H
 obtain⟨U,H⟩:=H
 have a3:=eq_true U
 have a8:=decide_eq_true U
 clear U
 obtain⟨l,o⟩:∃y_:List Int,y_=(l0.take (a:Int).toNat):=⟨_,rfl⟩
 rw[<-o] at H
 have x:=zk o
 clear o
 obtain rfl:=Option.some.inj H
 have a0:(a:Int)<=((l0.length:Int):Int):=zd
 obtain⟨ah,v,_,L,_⟩:=info_parts rZ
 have j:l0.length<=c0:=(Kd.jd c.out).2.1
 have E:Kd.F (Kd.int .u32) _ _ A0 l0.length l0:=(Kd.Dk (base:=w.heap.size) c.out).2.2
 have z:=Mw.O8 (P:=Try.prog) 29 97 .i64 Try.underlying29 v A0 l0.length c0 a zd a0 j
 have B:=Kd.QC (m:=(a:Int).toNat) E (by omega)
 have D:l.length=(a:Int).toNat:=(by rw[x.out,List.length_take];omega)
 rw[<-x.out] at B
 rw[<-D] at z
 have G:=zk (show Kd.V (Kd.int .u32) 97 _ w.heap.size _ (.slice A0 l.length l.length) l from Kd.lT (by omega) B)
 have a7:=zk (show l.length<=l.length from by omega)
 clear B E j v L
 have aj:=zk D
 clear D
 replace a0:=eq_true a0
 go_wp2
 go_ret
 exact⟨_,zE,zV G.out,zB HB.out⟩
theorem pU.calls(k:Nat)(A0:Option Addr)(c0:Nat)(l0:List Int)(r:List Int)(w:World)(p:Kd.C (Kd.int .u32) w A0 l0.length l0)(q:l0.length<=c0)(h:pU.f k l0=some r):
 Calls Try.prog 103 #[.slice A0 l0.length c0] w λe w'=>∃n:Value,e= .returned (n)/\Kd.R (Kd.int .u32) 97 w' w.heap.size (λ_=>True) n r/\Below w.heap.size w w':=by
 have t:=zk p
 have u:=zk q
 clear p q
 have HB:=zk (Below.refl w.heap.size w)
 have H:=h
 clear h
 unfold pU.f at H
 replace H:=zb H
 obtain⟨c,A2,H⟩:=H
 replace H:=zg H
 obtain⟨c3,H⟩:=H
 have l:=zk c3
 clear c3
 obtain⟨m,d⟩:∃y_:List Int,y_=(([]:List Int)++c):=⟨_,rfl⟩
 replace H:(some m)=some r:=zY d H
 have g:=zk d
 clear d
 obtain rfl:=Option.some.inj H
 go_enter Try.func103,Try.ntmps103
 go_wp2_with (first|((with_reducible refine gC 118 ?_);refine zG (some 4) Try.func118 #[.slice A0 l0.length c0] ?_;(with_reducible refine(jX.calls k (λk_=>k_<w.heap.size) _ _ l0 c _ ?ig A2.out).mono ?_);(case ig=>exact Kd.lT u.out (Kd.nZ (Kd.o6 (Kd.oW .u32) t.out) (zB HB.out)));rintro e w4 ⟨v,rfl,o,hb⟩;refine⟨_,rfl,?_⟩;have a:=ou o HB;replace HB:=yS HB hb;(try clear hb o);obtain⟨x,y,rfl⟩:=Kd.ku a.out)|((with_reducible refine qE (b:= .append) (xs:= #[.const (.slice none 0 0), .tmp 4]) rfl ?_);at_builtin;refine Kd.GX (Kd.int .u32) (w0:=w) w.heap.size rfl (.const (.slice none 0 0)) (.tmp 4) 29 97 (.int .u32 0) 4 rfl Try.underlying29 rZ rfl (by decide) (by omega) (.slice none 0 0) ([]:List Int) c _ _ _ (λ_=>True) (λ_=>False) rfl rfl ?aO ?aR (λ_ _ h=>h) (λ_ h=>h.elim) ?aF ?aB ?aS ?aL ?_;(case aR=>repeat(first|exact(Kd.jd a.out).2.2|(with_reducible refine Kd.uT ?_ _)|(with_reducible refine Kd.uQ ?_ _)|(with_reducible refine Kd.uS ?_)));(case aB=>exact(zB HB.out));(case aF=>exact(λ_ _=>trivial));(case aO=>exact((Kd.qN _ _ _ _ (λ_=>True))));(case aS=>exact(iQ (zB HB.out)));(case aL=>have:=l.out;omega);intro s w5 ho hb hg hat;rw[<-g.out] at ho;replace a:=zk (Kd.rJ (Kd.Yd (zV a.out)) hg hat);replace HB:=zk (hb);have j:=zk (ho);clear ho hb hg hat))
 go_ret
 exact⟨_,zE,zR j.out,zB HB.out⟩
end Go.Proofs.Ytifkbghnmhineaa.qc
