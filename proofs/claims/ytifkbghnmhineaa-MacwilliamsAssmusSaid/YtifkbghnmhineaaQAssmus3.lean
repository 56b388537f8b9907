/- What functions of the program do and come to, for the statement MacwilliamsAssmus, part 3. Conditions: as each theorem says. -/
import Derived.Test.YtifkbghnmhineaaQAssmus2

namespace Go.Proofs.Ytifkbghnmhineaa.qc
set_option maxHeartbeats 8000000
set_option maxRecDepth 100000
open Go.RowKit Go.Proofs.YtifkbghnmhineaaW.lJ Go.Proofs.YtifkbghnmhineaaW.rO Go.Proofs.YtifkbghnmhineaaW.uO
attribute [local go_sem] Aw Ap Aq Aj Ar Ak Au Am
set_option linter.unusedVariables false
set_option linter.unusedSimpArgs false
theorem oh.calls(k:Nat)(a0:Int)(A1:Option Addr)(c1:Nat)(l1:List (List Int))(r1:List (List Int))(r2:Int)(w:World)(bY:Kd.C (Kd.slice 97 (Kd.int .u32)) w A1 l1.length l1)(cl:l1.length<=c1)(h:oh.f k a0 l1=some (r1,r2)):
 Calls Try.prog 57 #[.int .i64 a0, .slice A1 l1.length c1] w λe w'=>∃cd:Value,e= .returned (.tuple #[cd, .int .i64 r2])/\Kd.N (Kd.slice 97 (Kd.int .u32)) 29 w' w.heap.size (λk_=>(w.heap.size<=k_)) cd r1/\Below w.heap.size w w':=by
 have cj:=Try.underlying113
 have ch:=zk bY
 have ct:=zk cl
 clear bY cl
 have HB:=zk (Below.refl w.heap.size w)
 have H:=h
 clear h
 unfold oh.f at H
 replace H:=zb H
 obtain⟨az,A3,H⟩:=H
 replace H:=zg H
 obtain⟨c4,H⟩:=H
 have bT:=beq_iff_eq.mpr c4
 have bI:=bne_eq_false_iff_eq.mpr c4
 clear c4
 replace H:=zb H
 obtain⟨u,A5,H⟩:=H
 replace H:=zh H
 obtain⟨c6,H⟩:=H
 have bM:=beq_eq_false_iff_ne.mpr c6
 have bF:=bne_iff_ne.mpr c6
 have bO:¬(u=[]):=λh_=>c6 (by rw[h_];rfl)
 have H':=zk H
 clear H
 go_enter Try.func57,Try.ntmps57
 go_wp2_with (first|((with_reducible refine gC 102 ?_);refine zG (some 20) Try.func102 #[.int .i64 a0, .int .i64 (l1.length:Int)] ?_;(with_reducible refine(Ai.calls a0 (l1.length:Int) az _ A3.out).mono ?_);rintro e w' ⟨rfl,⟨nd,rfl⟩⟩;refine⟨_,rfl,?_⟩)|((with_reducible refine gC 73 ?_);refine zG (some 25) Try.func73 #[.slice A1 l1.length c1] ?_;(with_reducible refine(rY.calls k _ _ l1 u _ ?ig ?ik A5.out).mono ?_);(case ig=>exact zC ch.out);(case ik=>exact ct.out);rintro e w7 ⟨cE,rfl,X,hb⟩;refine⟨_,rfl,?_⟩;replace X:=Kd.oD (M:=λk_=>(w.heap.size<=k_)) X (iQ (zB HB.out)) (λk_ h_=>h_);have av:=jm X HB;replace HB:=yS HB hb;(try clear hb X);obtain⟨U,W,rfl⟩:=Kd.iD av.out))
 go_loopg [8,31] k (λkq v8 cD w'=>∃(a7:List (jb)) (P:Int),cD= .int .i64 P/\dw (oh.l0 kq a0 u a7 l1 (l1.length:Int) P=some (r1,r2))/\dw (kq<=k)/\dw (Kd.R (Kd.int .u32) 97 w' w.heap.size (λk_=>(w.heap.size<=k_)) (.slice U u.length W) u)/\dw (Kd.N lq 113 w' w.heap.size (λk_=>(w.heap.size<=k_)/\some k_≠((.slice U u.length W):Value).ownBlock) v8 a7)/\dw (Below w.heap.size w w'))
 case atStart=>exact⟨(([]:List (jb))),(0),zF,H',⟨Nat.le_refl _⟩,⟨by(with_reducible repeat(first|apply Kd.iT|apply Kd.iU|apply Kd.iJ));exact Kd.iZ av.out (λ_ hk=>hk.1)⟩,⟨by first|exact Kd.tZ _ _ _ _ _|exact Kd.ui _ _ _ _ _|exact Kd.qX _ _ _ _ _|exact Kd.uh _ _ _ _ _|exact Kd.qN _ _ _ _ _⟩,⟨zB HB.out⟩⟩
 clear H'
 (try clear bT bI c6 bM bF bO)
 obtain⟨a7,P,rfl,HA,aH,s,T,HB⟩:=hrel
 cases gk with|zero=>exact absurd HA.out (by simp [oh.l0])|succ k1=>?_
 have H:=HA.out
 clear HA
 simp only[oh.l0] at H
 replace H:=jB H
 rcases H with⟨b4,H⟩|⟨b4,H⟩
 ·replace H:=iV H
  obtain⟨cf,H⟩:=H
  replace H:=iV H
  obtain⟨bW,H⟩:=H
  replace H:=zb H
  obtain⟨al,cq,H⟩:=H
  replace H:=zg H
  obtain⟨ca,H⟩:=H
  have b1:=zk ca
  clear ca
  obtain⟨bH,ah⟩:∃y_:List (jb),y_=(a7++[(⟨false,al⟩:jb)]):=⟨_,rfl⟩
  rw[<-ah] at H
  have b6:=zk ah
  clear ah
  have H':=zk H
  clear H
  have aC:0<=(P:Int):=zd
  have ay:P<(l1.length:Int):=zd
  obtain⟨cp,aD,aA,bJ,a2,ae,ag⟩:=wo ch.out P aC ay
  cases bJ
  replace a2:=(HB.out.cell (World.block_lt_of_cell? w _ a2)).trans a2
  have aq:=zk ag
  have ap:=zk ae
  clear ag ae
  replace aC:=eq_true aC
  replace ay:=eq_true ay
  go_wp2_with (first|((with_reducible refine gC 103 ?_);refine zG (some 37) Try.func103 #[.slice aD (kD l1 P).length aA] ?_;(with_reducible refine(pU.calls k1 _ _ (kD l1 P) al _ ?ig ?ik cq.out).mono ?_);(case ig=>exact zC (Kd.iR aq.out HB.out));(case ik=>exact ap.out);rintro e cF ⟨cr,rfl,X,hb⟩;refine⟨_,rfl,?_⟩;replace T:=o7 T X hb;replace X:=Kd.oD (M:=λk_=>(w.heap.size<=k_)) X (iQ (zB HB.out)) (λk_ h_=>h_);replace X:=yn X s;have af:=jm X HB;replace s:=iG s X hb;replace HB:=yS HB hb;(try clear hb X);obtain⟨bG,bK,rfl⟩:=Kd.iD af.out)|((with_reducible refine qE (b:= .append) (xs:= #[.tmp 35, .tmp 39]) rfl ?_);(try(refine vN (by rfl) ?_;dsimp only));at_builtin;refine Kd.BB lq (w0:=w) w.heap.size rfl (.tmp 35) (.tmp 39) 114 113 (.agg #[(.bool false),(.slice none 0 0)]) 32 rfl Try.underlying114 Gg rfl (by decide) (by omega) u8 a7 (⟨false,al⟩:jb) [.bool false, .slice bG al.length bK] (λk_=>(w.heap.size<=k_)/\some k_≠(.slice U u.length W:Value).ownBlock) (λk_=>((λk_=>(w.heap.size<=k_)/\some k_≠(.slice U u.length W:Value).ownBlock)) k_/\some k_≠(u8:Value).ownBlock) rfl rfl ?aP (λ_ hk=>hk) ?aF ?aO ?aB ?aS ?aL ?_;(case aP=>exact(AL _ _ (⟨false,al⟩:jb) (Kd.iw (Kd.iZ (ok':=(λk_=>((λk_=>(w.heap.size<=k_)/\some k_≠(.slice U u.length W:Value).ownBlock)) k_/\some k_≠(u8:Value).ownBlock)) (Kd.jL (af.out) (Kd.jQ T.out) (by decide)) (λk_ hk=>by exact⟨⟨hk.1.1.1,hk.1.2⟩,hk.2⟩))).2.1 (Kd.GY (Kd.iZ (ok':=(λk_=>((λk_=>(w.heap.size<=k_)/\some k_≠(.slice U u.length W:Value).ownBlock)) k_/\some k_≠(u8:Value).ownBlock)) (Kd.jL (af.out) (Kd.jQ T.out) (by decide)) (λk_ hk=>by exact⟨⟨hk.1.1.1,hk.1.2⟩,hk.2⟩)))));(case aB=>exact(zB HB.out));(case aF=>exact(λk_ hk=>⟨(Nat.le_trans (iQ (zB HB.out)) hk),Kd.fresh' (Kd.qZ (zR s.out)) k_ hk⟩));(case aO=>exact(by(with_reducible repeat(first|apply Kd.jK|apply Kd.jJ|apply Kd.jA));exact Kd.ji T.out (λ_ hk=>⟨hk.1.1,hk.1.2⟩)));(case aS=>exact(iQ (zB HB.out)));(case aL=>have:=b1.out;omega);intro cv cL ho hb hg hat;rw[<-b6.out] at ho;replace s:=zk (Kd.vz (zR s.out) (Kd.jQ (zN T.out)) (by decide) hg);replace HB:=zk (hb);have aK:=zk (ho);clear T af;clear ho hb hg hat))
  go_roundg k1
  case measure=>have:=aH.out;omega
  case rel=>exact⟨(bH),(wrap64 (P+1)),zF,H',⟨kP aH⟩,⟨by(with_reducible repeat(first|apply Kd.iT|apply Kd.iU|apply Kd.iJ));exact Kd.iZ s.out (λ_ hk=>hk.1)⟩,⟨zN aK.out⟩,⟨zB HB.out⟩⟩
 replace H:=zb H
 obtain⟨d,cu,H⟩:=H
 have H':=zk H
 clear H
 obtain⟨aU,b5,rfl⟩:=Kd.oG T.out
 go_wp2_with (first|((with_reducible refine gC 104 ?_);refine zG (some 44) Try.func104 #[.int .i64 a0, .slice aU a7.length b5] ?_;(with_reducible refine(mW.calls k1 a0 _ _ a7 d _ ?ig ?ik cu.out).mono ?_);(case ig=>exact zC (Kd.jR T.out).2.2);(case ik=>exact(Kd.jR T.out).2.1);rintro e cG ⟨cC,rfl,X,hb⟩;refine⟨_,rfl,?_⟩;have au:=zk (Kd.qf (Kd.ji (ok':=λk_=>(w.heap.size<=k_)/\some k_≠(.slice U u.length W:Value).ownBlock/\some k_≠(.slice aU a7.length b5:Value).ownBlock) X (λk_ iO=>⟨(Nat.le_trans (iQ (zB HB.out)) iO),(Kd.fresh' (Kd.qZ (zR s.out)) k_ iO),(Kd.fresh' (Kd.mQ (zN T.out)) k_ iO)⟩)) (iQ (zB HB.out)));replace s:=jl s hb;replace T:=zk (Kd.rf (zN T.out) (Kd.vC X) hb);replace HB:=yS HB hb;(try clear hb X);obtain⟨aX,A,rfl⟩:=Kd.oG au.out))
 go_loopg [11,46] k1 (λkq ce cB w'=>∃(D:List (List Int)) (c:Int),cB= .int .i64 c/\dw (oh.l1 kq u D d (d.length:Int) c=some (r1,r2))/\dw (kq<=k1)/\dw (Kd.R (Kd.int .u32) 97 w' w.heap.size (λk_=>(w.heap.size<=k_)) (.slice U u.length W) u)/\dw (Kd.N (Kd.slice 97 (Kd.int .u32)) 29 w' w.heap.size (λk_=>(w.heap.size<=k_)/\some k_≠((.slice aX d.length A):Value).ownBlock) ce D)/\dw (Kd.N lq 113 w' w.heap.size (λk_=>(w.heap.size<=k_)/\some k_≠((.slice U u.length W):Value).ownBlock/\some k_≠(ce:Value).ownBlock) (.slice aX d.length A) d)/\dw (Below w.heap.size w w'))
 case atStart=>exact⟨(([]:List (List Int))),(0),zF,H',⟨Nat.le_refl _⟩,⟨zR s.out⟩,⟨by first|exact Kd.tZ _ _ _ _ _|exact Kd.ui _ _ _ _ _|exact Kd.qX _ _ _ _ _|exact Kd.uh _ _ _ _ _|exact Kd.qN _ _ _ _ _⟩,⟨by(with_reducible repeat(first|apply Kd.jK|apply Kd.jJ|apply Kd.jA));exact Kd.ji au.out (λ_ hk=>⟨hk.1,⟨hk.2.1,(by simp [Value.ownBlock])⟩⟩)⟩,⟨zB HB.out⟩⟩
 clear H'
 (try clear b4)
 obtain⟨D,c,rfl,HA,be,s,m,j,HB⟩:=hrel
 cases gk with|zero=>exact absurd HA.out (by simp [oh.l1])|succ k2=>?_
 have H:=HA.out
 clear HA
 simp only[oh.l1] at H
 replace H:=jB H
 rcases H with⟨b8,H⟩|⟨b8,H⟩
 ·replace H:=iV H
  obtain⟨bV,H⟩:=H
  replace H:=iV H
  obtain⟨bX,H⟩:=H
  replace H:=zb H
  obtain⟨⟨a1,I,aT⟩,bZ,H⟩:=H
  dsimp only at H
  replace H:=zh H
  obtain⟨ck,H⟩:=H
  have cc:decide (0<(I.length:Int))=false:=decide_eq_false ck
  have cb:decide (0<I.length)=false:=decide_eq_false (by omega)
  clear ck
  obtain⟨a_,ai⟩:∃b_:Bool,b_=((iK d c).f0):=⟨_,rfl⟩
  replace H:(if a_=true then(if(((iK d c).f1).length:Int)>0 then(none) else(if D.length<5864062014805 then(oh.l1 k2 u (D++[a1]) d (d.length:Int) (wrap64 (c+1))) else(none))) else(if D.length<5864062014805 then(oh.l1 k2 u (D++[a1]) d (d.length:Int) (wrap64 (c+1))) else(none)))=some (r1,r2):=by rw[<-ai] at H;exact H
  have ar:=zk ai
  clear ai
  by_cases bk:a_=true
  ·subst bk
   rw[if_pos rfl] at H
   replace H:=zh H
   obtain⟨cn,H⟩:=H
   have cg:decide (0<(((iK d c).f1).length:Int))=false:=decide_eq_false cn
   have cm:decide (0<((iK d c).f1).length)=false:=decide_eq_false (by omega)
   clear cn
   replace H:=zg H
   obtain⟨ci,H⟩:=H
   have aW:=zk ci
   clear ci
   obtain⟨bR,aj⟩:∃y_:List (List Int),y_=(D++[a1]):=⟨_,rfl⟩
   rw[<-aj] at H
   have b0:=zk aj
   clear aj
   have H':=zk H
   clear H
   have a4:0<=(c:Int):=zd
   have a6:c<(d.length:Int):=zd
   obtain⟨x,r,q,ax,a3,a5,O,K⟩:=xW (Kd.jR j.out).2.2 c a4 a6
   (try rw[<-ar.out] at a3)
   cases ax
   obtain⟨aI,ab,a9,Y⟩:=Kd.BA j.out oN c a4 (by first|exact a6|exact zd|(have e_:=(Kd.jR j.out).1;omega))
   obtain⟨ao,am,rfl,G,E⟩:=wX a9
   have z:=Y 1 _ rfl
   rw[wz _ _ 1 (by omega)] at z
   replace z:=Option.some.inj (z.symm.trans a5)
   injection z with mF pV mD
   rw[mF] at E
   rw[mD] at G
   have n:=zk (show Kd.V (Kd.int .u32) 97 _ w.heap.size _ _ ((iK d c).f1) from Kd.lT G E)
   clear mF pV mD E G
   clear Y ab
   have B:=zk K
   have an:=zk O
   clear K O
   replace a4:=eq_true a4
   replace a6:=eq_true a6
   go_wp2_with (first|((with_reducible refine jc (N:=13) rfl ?_);(try(refine vN (by rfl) ?_;dsimp only));refine jM ?hg (N:=13) ?hd (cs:= #[.bool false, .slice none 0 0]) (t:=113) ?hr ?_;(case hd=>rfl);(case hg=>rfl);(case hr=>first|(go_simp;done)|(go_simp;rfl));intro a hg cx hbox hb;replace s:=jl s hb;replace m:=zk (Kd.vU (Kd.yV (zN m.out) a (Nat.le_of_eq hg.symm)) hb);replace j:=zk (Kd.vU (Kd.yV (zN j.out) a (Nat.le_of_eq hg.symm)) hb);replace n:=nJ n hg hb;(try replace B:=oO B hb);have l:=zk (hbox);have aV:=yg hg HB;have y:=yg hg HB;replace HB:=yS HB hb;clear hb hbox hg;obtain⟨b9,bc,ba,bB⟩:=oM l)|((with_reducible refine qM (t:=113) (p:=13) rfl ?_);refine qJ (t:=113) (p:=13) (v:=?YX) (w1:=((cx.setCell ⟨a,0,none⟩ (.bool true)).setCell ⟨a,1,none⟩ (.slice r ((iK d c).f1).length q))) ?hg ?ho ?hn ?hr ?_;(case ho=>rfl);(case hg=>rfl);(case hn=>rfl);(case hr=>first|(go_simp;done)|(go_simp;rfl));intro aE hw;have aR:dw (Kd.R (Kd.int .u32) 97 aE w.heap.size (λk_=>(w.heap.size<=k_)) (.slice U u.length W) u):=⟨(by rw[hw];exact(by(with_reducible repeat(first|apply Kd.iT|apply Kd.iU|apply Kd.iJ));exact Kd.iZ (Kd.rM (p:=⟨a,1,none⟩) (Kd.rM (p:=⟨a,0,none⟩) (Kd.mM s.out l.out (by decide)) (λ_ hk=>hk.2) (.bool true)) (λ_ hk=>hk.2) (.slice r ((iK d c).f1).length q)) (λ_ hk=>hk.1)))⟩;have aJ:dw (Kd.N (Kd.slice 97 (Kd.int .u32)) 29 aE w.heap.size (λk_=>(w.heap.size<=k_)/\some k_≠(.slice (some x) d.length A:Value).ownBlock/\k_≠a) u11 D):=⟨(by rw[hw];exact(by(with_reducible repeat(first|apply Kd.jK|apply Kd.jJ|apply Kd.jA));exact Kd.ji (Kd.qP (p:=⟨a,1,none⟩) (Kd.qP (p:=⟨a,0,none⟩) (Kd.ji m.out (λk_ hk=>(⟨hk,hk.2⟩:_/\k_≠a))) (λ_ hk=>hk.2) (.bool true)) (λ_ hk=>hk.2) (.slice r ((iK d c).f1).length q)) (λ_ hk=>⟨hk.1.1.1,⟨hk.1.1.2,hk.1.2⟩⟩)))⟩;have aQ:dw (Kd.N lq 113 aE w.heap.size (λk_=>(w.heap.size<=k_)/\some k_≠(.slice U u.length W:Value).ownBlock/\some k_≠(u11:Value).ownBlock/\k_≠a) (.slice (some x) d.length A) d):=⟨(by rw[hw];exact(by(with_reducible repeat(first|apply Kd.jK|apply Kd.jJ|apply Kd.jA));exact Kd.ji (Kd.qP (p:=⟨a,1,none⟩) (Kd.qP (p:=⟨a,0,none⟩) (Kd.ji j.out (λk_ hk=>(⟨hk,hk.2⟩:_/\k_≠a))) (λ_ hk=>hk.2) (.bool true)) (λ_ hk=>hk.2) (.slice r ((iK d c).f1).length q)) (λ_ hk=>⟨hk.1.1.1,⟨hk.1.1.2.1,⟨hk.1.1.2.2,hk.1.2⟩⟩⟩)))⟩;have aM:dw (Kd.V (Kd.int .u32) 97 aE w.heap.size (λk_=>(w.heap.size<=k_)/\some k_≠(.slice U u.length W:Value).ownBlock/\some k_≠(u11:Value).ownBlock/\some k_≠(.slice (some x) d.length A:Value).ownBlock/\k_≠a) (.slice r ((iK d c).f1).length q) ((iK d c).f1)):=⟨(by rw[hw];exact(by(with_reducible repeat(first|apply Kd.nH|apply Kd.nG|apply Kd.lV));exact Kd.jf (Kd.pJ (p:=⟨a,1,none⟩) (Kd.pJ (p:=⟨a,0,none⟩) (Kd.jf n.out (λk_ hk=>(⟨hk,hk.2⟩:_/\k_≠a))) (λ_ hk=>hk.2) (.bool true)) (λ_ hk=>hk.2) (.slice r ((iK d c).f1).length q)) (λ_ hk=>⟨hk.1.1.1.1,⟨hk.1.1.1.2.1,⟨hk.1.1.1.2.2,⟨hk.1.1.2,hk.1.2⟩⟩⟩⟩)))⟩;have aY:dw (aE.heap[a]?=some (.cells #[.bool true, .slice r ((iK d c).f1).length q] 113 (0,0))):=⟨(by rw[hw];exact(yl l.out))⟩;have b7:dw (Below w.heap.size w aE):=⟨(by rw[hw];exact(iH HB.out y.out))⟩;clear hw;clear s;clear m;clear j;clear n;clear l;clear HB;have s:=aR;have m:=aJ;have j:=aQ;have n:=aM;have l:=aY;have HB:=b7;clear aR aJ aQ aM aY b7;obtain⟨bA,bw,bo,bC⟩:=oM l)|((with_reducible refine gC 105 ?_);refine zG (some 54) Try.func105 #[.slice r ((iK d c).f1).length q, .slice U u.length W] ?_;(with_reducible refine(zn.calls k2 (λk_=>((w.heap.size<=k_)/\(some k_≠(.slice U u.length W:Value).ownBlock/\(some k_≠(u11:Value).ownBlock/\(some k_≠(.slice (some x) d.length A:Value).ownBlock/\k_≠a))))) _ _ ((iK d c).f1) (λk_=>some k_=(.slice U u.length W:Value).ownBlock) _ _ u a1 I aT _ ?ig ?ik bZ.out).mono ?_);(case ig=>exact n.out);(case ik=>exact Kd.vT (Kd.uf rfl (Kd.mM (Kd.jL (Kd.jL (s.out) (Kd.jQ m.out) (by decide)) (Kd.jQ j.out) (by decide)) l.out (by decide))));rintro e cK ⟨bS,aw,rfl,X,Z,hb⟩;refine⟨_,rfl,?_⟩;replace n:=mO n Z hb;have J:=zk (Kd.qp (Kd.jf (ok':=λk_=>(w.heap.size<=k_)/\some k_≠(aw:Value).ownBlock/\some k_≠(u11:Value).ownBlock/\some k_≠(.slice (some x) d.length A:Value).ownBlock/\k_≠a) X (λk_ iO=>⟨Or.elim iO.1 (λhs_=>Or.elim hs_ (λhs_=>hs_.1) (λhs_=>((Kd.mM (Kd.jL (Kd.jL (s.out) (Kd.jQ m.out) (by decide)) (Kd.jQ j.out) (by decide)) l.out (by decide)).1 k_ hs_.symm).1.1.1)) (λjF=>(Nat.le_trans (iQ (iH HB.out y.out)) jF)),iO.2,Or.elim iO.1 (λhs_=>Or.elim hs_ (λhs_=>hs_.2.2.1) (λhs_=>((Kd.mM (Kd.jL (Kd.jL (s.out) (Kd.jQ m.out) (by decide)) (Kd.jQ j.out) (by decide)) l.out (by decide)).1 k_ hs_.symm).1.1.2)) (λjF=>(Kd.fresh' (Kd.mQ (zN m.out)) k_ jF)),Or.elim iO.1 (λhs_=>Or.elim hs_ (λhs_=>hs_.2.2.2.1) (λhs_=>((Kd.mM (Kd.jL (Kd.jL (s.out) (Kd.jQ m.out) (by decide)) (Kd.jQ j.out) (by decide)) l.out (by decide)).1 k_ hs_.symm).1.2)) (λjF=>(Kd.fresh' (Kd.mQ (zN j.out)) k_ jF)),Or.elim iO.1 (λhs_=>Or.elim hs_ (λhs_=>hs_.2.2.2.2) (λhs_=>((Kd.mM (Kd.jL (Kd.jL (s.out) (Kd.jQ m.out) (by decide)) (Kd.jQ j.out) (by decide)) l.out (by decide)).1 k_ hs_.symm).2)) (λjF=>(Kd.kT (g:=a) (o:= .cells #[.bool true, .slice r ((iK d c).f1).length q] 113 (0,0)) (by(with_reducible repeat(first|refine iM ?_ _|refine iC ?_|refine iL ?_ _));exact l.out) k_ jF))⟩)) (iQ (iH HB.out y.out)));replace m:=o7 m Z hb;replace j:=o7 j Z hb;replace Z:=Kd.oD (M:=λk_=>(w.heap.size<=k_)) (yt Z) (iQ (iH HB.out y.out)) (λk_ h_=>h_);replace Z:=yn Z s;have L:=kY Z HB y;replace s:=iG s Z hb;(try replace B:=oO B hb);replace l:=yK l hb;replace HB:=jg HB y hb;(try clear hb X Z);obtain⟨ac,a8,rfl⟩:=Kd.iD L.out;obtain⟨bs,bD,bq,bu⟩:=oM l;obtain⟨bQ,bU,rfl⟩:=Kd.ku J.out)|((with_reducible refine qE (b:= .append) (xs:= #[.tmp 71, .tmp 73]) rfl ?_);(try(refine vN (by rfl) ?_;dsimp only));at_builtin;refine Kd.BB (Kd.slice 97 (Kd.int .u32)) (w0:=w) w.heap.size rfl (.tmp 71) (.tmp 73) 33 29 (.slice none 0 0) 24 rfl Try.underlying33 Gf rfl (by decide) (by omega) u11 D a1 [.slice bQ a1.length bU] (λk_=>(w.heap.size<=k_)/\some k_≠(.slice (some x) d.length A:Value).ownBlock/\some k_≠(.slice ac I.length a8:Value).ownBlock/\k_≠a) (λk_=>((λk_=>(w.heap.size<=k_)/\some k_≠(.slice (some x) d.length A:Value).ownBlock/\some k_≠(.slice ac I.length a8:Value).ownBlock/\k_≠a)) k_/\some k_≠(u11:Value).ownBlock) rfl rfl ?aP (λ_ hk=>hk) ?aF ?aO ?aB ?aS ?aL ?_;(case aP=>exact(Kd.yj (Kd.jd (Kd.jf (ok':=(λk_=>((λk_=>(w.heap.size<=k_)/\some k_≠(.slice (some x) d.length A:Value).ownBlock/\some k_≠(.slice ac I.length a8:Value).ownBlock/\k_≠a)) k_/\some k_≠(u11:Value).ownBlock)) (J.out) (λk_ hk=>by exact⟨⟨hk.1,⟨hk.2.2.2.1,⟨hk.2.1,hk.2.2.2.2⟩⟩⟩,hk.2.2.1⟩))).2.1 (Kd.xG (Kd.jf (ok':=(λk_=>((λk_=>(w.heap.size<=k_)/\some k_≠(.slice (some x) d.length A:Value).ownBlock/\some k_≠(.slice ac I.length a8:Value).ownBlock/\k_≠a)) k_/\some k_≠(u11:Value).ownBlock)) (J.out) (λk_ hk=>by exact⟨⟨hk.1,⟨hk.2.2.2.1,⟨hk.2.1,hk.2.2.2.2⟩⟩⟩,hk.2.2.1⟩)))));(case aB=>exact(iH HB.out y.out));(case aF=>exact(λk_ hk=>⟨(Nat.le_trans (iQ (iH HB.out y.out)) hk),Kd.fresh' (Kd.mQ (zN j.out)) k_ hk,Kd.fresh' (Kd.qZ (zR L.out)) k_ hk,Kd.kT (g:=a) (o:= .cells #[.bool true, .slice r ((iK d c).f1).length q] 113 (0,0)) (by(with_reducible repeat(first|refine iM ?_ _|refine iC ?_|refine iL ?_ _));exact l.out) k_ hk⟩));(case aO=>exact(by(with_reducible repeat(first|apply Kd.jK|apply Kd.jJ|apply Kd.jA));exact Kd.ji m.out (λ_ hk=>⟨hk.1.1,⟨hk.1.2.1,⟨hk.2,hk.1.2.2⟩⟩⟩)));(case aS=>exact(iQ (iH HB.out y.out)));(case aL=>have:=aW.out;omega);intro cz cI ho hb hg hat;rw[<-b0.out] at ho;replace s:=zk (Kd.vz (zR s.out) (Kd.jQ (zN m.out)) (by decide) hg);replace j:=zk (Kd.zJ (ok:=(λk_=>(w.heap.size<=k_)/\some k_≠(.slice U u.length W:Value).ownBlock/\some k_≠(.slice ac I.length a8:Value).ownBlock/\k_≠a)) (by(with_reducible repeat(first|apply Kd.jK|apply Kd.jJ|apply Kd.jA));exact Kd.ji j.out (λ_ hk=>⟨⟨hk.1.1,⟨hk.1.2.1,⟨hk.2,hk.1.2.2.2⟩⟩⟩,hk.1.2.2.1⟩)) hg hat);replace n:=zk (Kd.rJ (ok:=(λk_=>(w.heap.size<=k_)/\some k_≠(.slice U u.length W:Value).ownBlock/\some k_≠(.slice (some x) d.length A:Value).ownBlock/\some k_≠(.slice ac I.length a8:Value).ownBlock/\k_≠a)) (by(with_reducible repeat(first|apply Kd.nH|apply Kd.nG|apply Kd.lV));exact Kd.jf n.out (λ_ hk=>⟨⟨hk.1.1,⟨hk.1.2.1,⟨hk.1.2.2.2.1,⟨hk.2,hk.1.2.2.2.2⟩⟩⟩⟩,hk.1.2.2.1⟩)) hg hat);replace l:=zk (xU (g:=a) (o:= .cells #[.bool true, .slice r ((iK d c).f1).length q] 113 (0,0)) (by(with_reducible repeat(first|refine iM ?_ _|refine iC ?_|refine iL ?_ _));exact l.out) hg (Kd.Bz m.out l.out (by decide)));replace J:=zk (Kd.rJ (ok:=(λk_=>(w.heap.size<=k_)/\some k_≠(.slice (some x) d.length A:Value).ownBlock/\some k_≠(.slice ac I.length a8:Value).ownBlock/\k_≠a)) (by(with_reducible repeat(first|apply Kd.nH|apply Kd.nG|apply Kd.lV));exact Kd.jf J.out (λ_ hk=>⟨⟨hk.1,⟨hk.2.2.2.1,⟨hk.2.1,hk.2.2.2.2⟩⟩⟩,hk.2.2.1⟩)) hg hat);replace L:=zk (Kd.vz (zR L.out) (Kd.jQ (zN m.out)) (by decide) hg);replace HB:=zk (hb);have b2:=zk (ho);clear m;clear ho hb hg hat))
   go_roundg k2
   case measure=>have:=aH.out;have:=be.out;omega
   case rel=>exact⟨(bR),(wrap64 (c+1)),zF,H',⟨lW aH be⟩,⟨by(with_reducible repeat(first|apply Kd.iT|apply Kd.iU|apply Kd.iJ));exact Kd.iZ s.out (λ_ hk=>hk.1)⟩,⟨by(with_reducible repeat(first|apply Kd.jK|apply Kd.jJ|apply Kd.jA));exact Kd.ji b2.out (λ_ hk=>⟨hk.1,hk.2.1⟩)⟩,⟨by(with_reducible repeat(first|apply Kd.jK|apply Kd.jJ|apply Kd.jA));exact Kd.ji j.out (λ_ hk=>⟨hk.1.1,⟨hk.1.2.1,hk.2⟩⟩)⟩,⟨iH HB.out y.out⟩⟩
  replace bk:=Bool.eq_false_iff.mpr bk
  subst bk
  rw[if_neg Bool.false_ne_true] at H
  replace H:=zg H
  obtain⟨c0,H⟩:=H
  have aN:=zk c0
  clear c0
  obtain⟨bN,ak⟩:∃y_:List (List Int),y_=(D++[a1]):=⟨_,rfl⟩
  rw[<-ak] at H
  have b3:=zk ak
  clear ak
  have H':=zk H
  clear H
  have a4:0<=(c:Int):=zd
  have a6:c<(d.length:Int):=zd
  obtain⟨x,r,q,ax,a3,a5,O,K⟩:=xW (Kd.jR j.out).2.2 c a4 a6
  (try rw[<-ar.out] at a3)
  cases ax
  obtain⟨aI,ab,a9,Y⟩:=Kd.BA j.out oN c a4 (by first|exact a6|exact zd|(have e_:=(Kd.jR j.out).1;omega))
  obtain⟨ao,am,rfl,G,E⟩:=wX a9
  have z:=Y 1 _ rfl
  rw[wz _ _ 1 (by omega)] at z
  replace z:=Option.some.inj (z.symm.trans a5)
  injection z with mF pV mD
  rw[mF] at E
  rw[mD] at G
  have n:=zk (show Kd.V (Kd.int .u32) 97 _ w.heap.size _ _ ((iK d c).f1) from Kd.lT G E)
  clear mF pV mD E G
  clear Y ab
  have B:=zk K
  have an:=zk O
  clear K O
  replace a4:=eq_true a4
  replace a6:=eq_true a6
  go_wp2_with (first|((with_reducible refine jc (N:=13) rfl ?_);(try(refine vN (by rfl) ?_;dsimp only));refine jM ?hg (N:=13) ?hd (cs:= #[.bool false, .slice none 0 0]) (t:=113) ?hr ?_;(case hd=>rfl);(case hg=>rfl);(case hr=>first|(go_simp;done)|(go_simp;rfl));intro a hg cA hbox hb;replace s:=jl s hb;replace m:=zk (Kd.vU (Kd.yV (zN m.out) a (Nat.le_of_eq hg.symm)) hb);replace j:=zk (Kd.vU (Kd.yV (zN j.out) a (Nat.le_of_eq hg.symm)) hb);replace n:=nJ n hg hb;(try replace B:=oO B hb);have l:=zk (hbox);have aV:=yg hg HB;have y:=yg hg HB;replace HB:=yS HB hb;clear hb hbox hg;obtain⟨bv,bz,bb,bg⟩:=oM l)|((with_reducible refine qM (t:=113) (p:=13) rfl ?_);refine qJ (t:=113) (p:=13) (v:=?YW) (w1:=((cA.setCell ⟨a,0,none⟩ (.bool false)).setCell ⟨a,1,none⟩ (.slice r ((iK d c).f1).length q))) ?hg ?ho ?hn ?hr ?_;(case ho=>rfl);(case hg=>rfl);(case hn=>rfl);(case hr=>first|(go_simp;done)|(go_simp;rfl));intro aG hw;have aR:dw (Kd.R (Kd.int .u32) 97 aG w.heap.size (λk_=>(w.heap.size<=k_)) (.slice U u.length W) u):=⟨(by rw[hw];exact(by(with_reducible repeat(first|apply Kd.iT|apply Kd.iU|apply Kd.iJ));exact Kd.iZ (Kd.rM (p:=⟨a,1,none⟩) (Kd.rM (p:=⟨a,0,none⟩) (Kd.mM s.out l.out (by decide)) (λ_ hk=>hk.2) (.bool false)) (λ_ hk=>hk.2) (.slice r ((iK d c).f1).length q)) (λ_ hk=>hk.1)))⟩;have aJ:dw (Kd.N (Kd.slice 97 (Kd.int .u32)) 29 aG w.heap.size (λk_=>(w.heap.size<=k_)/\some k_≠(.slice (some x) d.length A:Value).ownBlock/\k_≠a) u11 D):=⟨(by rw[hw];exact(by(with_reducible repeat(first|apply Kd.jK|apply Kd.jJ|apply Kd.jA));exact Kd.ji (Kd.qP (p:=⟨a,1,none⟩) (Kd.qP (p:=⟨a,0,none⟩) (Kd.ji m.out (λk_ hk=>(⟨hk,hk.2⟩:_/\k_≠a))) (λ_ hk=>hk.2) (.bool false)) (λ_ hk=>hk.2) (.slice r ((iK d c).f1).length q)) (λ_ hk=>⟨hk.1.1.1,⟨hk.1.1.2,hk.1.2⟩⟩)))⟩;have aQ:dw (Kd.N lq 113 aG w.heap.size (λk_=>(w.heap.size<=k_)/\some k_≠(.slice U u.length W:Value).ownBlock/\some k_≠(u11:Value).ownBlock/\k_≠a) (.slice (some x) d.length A) d):=⟨(by rw[hw];exact(by(with_reducible repeat(first|apply Kd.jK|apply Kd.jJ|apply Kd.jA));exact Kd.ji (Kd.qP (p:=⟨a,1,none⟩) (Kd.qP (p:=⟨a,0,none⟩) (Kd.ji j.out (λk_ hk=>(⟨hk,hk.2⟩:_/\k_≠a))) (λ_ hk=>hk.2) (.bool false)) (λ_ hk=>hk.2) (.slice r ((iK d c).f1).length q)) (λ_ hk=>⟨hk.1.1.1,⟨hk.1.1.2.1,⟨hk.1.1.2.2,hk.1.2⟩⟩⟩)))⟩;have aM:dw (Kd.V (Kd.int .u32) 97 aG w.heap.size (λk_=>(w.heap.size<=k_)/\some k_≠(.slice U u.length W:Value).ownBlock/\some k_≠(u11:Value).ownBlock/\some k_≠(.slice (some x) d.length A:Value).ownBlock/\k_≠a) (.slice r ((iK d c).f1).length q) ((iK d c).f1)):=⟨(by rw[hw];exact(by(with_reducible repeat(first|apply Kd.nH|apply Kd.nG|apply Kd.lV));exact Kd.jf (Kd.pJ (p:=⟨a,1,none⟩) (Kd.pJ (p:=⟨a,0,none⟩) (Kd.jf n.out (λk_ hk=>(⟨hk,hk.2⟩:_/\k_≠a))) (λ_ hk=>hk.2) (.bool false)) (λ_ hk=>hk.2) (.slice r ((iK d c).f1).length q)) (λ_ hk=>⟨hk.1.1.1.1,⟨hk.1.1.1.2.1,⟨hk.1.1.1.2.2,⟨hk.1.1.2,hk.1.2⟩⟩⟩⟩)))⟩;have aY:dw (aG.heap[a]?=some (.cells #[.bool false, .slice r ((iK d c).f1).length q] 113 (0,0))):=⟨(by rw[hw];exact(yl l.out))⟩;have b7:dw (Below w.heap.size w aG):=⟨(by rw[hw];exact(iH HB.out y.out))⟩;clear hw;clear s;clear m;clear j;clear n;clear l;clear HB;have s:=aR;have m:=aJ;have j:=aQ;have n:=aM;have l:=aY;have HB:=b7;clear aR aJ aQ aM aY b7;obtain⟨bh,bE,bi,bf⟩:=oM l)|((with_reducible refine gC 105 ?_);refine zG (some 54) Try.func105 #[.slice r ((iK d c).f1).length q, .slice U u.length W] ?_;(with_reducible refine(zn.calls k2 (λk_=>((w.heap.size<=k_)/\(some k_≠(.slice U u.length W:Value).ownBlock/\(some k_≠(u11:Value).ownBlock/\(some k_≠(.slice (some x) d.length A:Value).ownBlock/\k_≠a))))) _ _ ((iK d c).f1) (λk_=>some k_=(.slice U u.length W:Value).ownBlock) _ _ u a1 I aT _ ?ig ?ik bZ.out).mono ?_);(case ig=>exact n.out);(case ik=>exact Kd.vT (Kd.uf rfl (Kd.mM (Kd.jL (Kd.jL (s.out) (Kd.jQ m.out) (by decide)) (Kd.jQ j.out) (by decide)) l.out (by decide))));rintro e cJ ⟨bS,aw,rfl,X,Z,hb⟩;refine⟨_,rfl,?_⟩;replace n:=mO n Z hb;have J:=zk (Kd.qp (Kd.jf (ok':=λk_=>(w.heap.size<=k_)/\some k_≠(aw:Value).ownBlock/\some k_≠(u11:Value).ownBlock/\some k_≠(.slice (some x) d.length A:Value).ownBlock/\k_≠a) X (λk_ iO=>⟨Or.elim iO.1 (λhs_=>Or.elim hs_ (λhs_=>hs_.1) (λhs_=>((Kd.mM (Kd.jL (Kd.jL (s.out) (Kd.jQ m.out) (by decide)) (Kd.jQ j.out) (by decide)) l.out (by decide)).1 k_ hs_.symm).1.1.1)) (λjF=>(Nat.le_trans (iQ (iH HB.out y.out)) jF)),iO.2,Or.elim iO.1 (λhs_=>Or.elim hs_ (λhs_=>hs_.2.2.1) (λhs_=>((Kd.mM (Kd.jL (Kd.jL (s.out) (Kd.jQ m.out) (by decide)) (Kd.jQ j.out) (by decide)) l.out (by decide)).1 k_ hs_.symm).1.1.2)) (λjF=>(Kd.fresh' (Kd.mQ (zN m.out)) k_ jF)),Or.elim iO.1 (λhs_=>Or.elim hs_ (λhs_=>hs_.2.2.2.1) (λhs_=>((Kd.mM (Kd.jL (Kd.jL (s.out) (Kd.jQ m.out) (by decide)) (Kd.jQ j.out) (by decide)) l.out (by decide)).1 k_ hs_.symm).1.2)) (λjF=>(Kd.fresh' (Kd.mQ (zN j.out)) k_ jF)),Or.elim iO.1 (λhs_=>Or.elim hs_ (λhs_=>hs_.2.2.2.2) (λhs_=>((Kd.mM (Kd.jL (Kd.jL (s.out) (Kd.jQ m.out) (by decide)) (Kd.jQ j.out) (by decide)) l.out (by decide)).1 k_ hs_.symm).2)) (λjF=>(Kd.kT (g:=a) (o:= .cells #[.bool false, .slice r ((iK d c).f1).length q] 113 (0,0)) (by(with_reducible repeat(first|refine iM ?_ _|refine iC ?_|refine iL ?_ _));exact l.out) k_ jF))⟩)) (iQ (iH HB.out y.out)));replace m:=o7 m Z hb;replace j:=o7 j Z hb;replace Z:=Kd.oD (M:=λk_=>(w.heap.size<=k_)) (yt Z) (iQ (iH HB.out y.out)) (λk_ h_=>h_);replace Z:=yn Z s;have L:=kY Z HB y;replace s:=iG s Z hb;(try replace B:=oO B hb);replace l:=yK l hb;replace HB:=jg HB y hb;(try clear hb X Z);obtain⟨aa,ad,rfl⟩:=Kd.iD L.out;obtain⟨br,bx,bj,bn⟩:=oM l;obtain⟨bP,bL,rfl⟩:=Kd.ku J.out)|((with_reducible refine qE (b:= .append) (xs:= #[.tmp 71, .tmp 73]) rfl ?_);(try(refine vN (by rfl) ?_;dsimp only));at_builtin;refine Kd.BB (Kd.slice 97 (Kd.int .u32)) (w0:=w) w.heap.size rfl (.tmp 71) (.tmp 73) 33 29 (.slice none 0 0) 24 rfl Try.underlying33 Gf rfl (by decide) (by omega) u11 D a1 [.slice bP a1.length bL] (λk_=>(w.heap.size<=k_)/\some k_≠(.slice (some x) d.length A:Value).ownBlock/\some k_≠(.slice aa I.length ad:Value).ownBlock/\k_≠a) (λk_=>((λk_=>(w.heap.size<=k_)/\some k_≠(.slice (some x) d.length A:Value).ownBlock/\some k_≠(.slice aa I.length ad:Value).ownBlock/\k_≠a)) k_/\some k_≠(u11:Value).ownBlock) rfl rfl ?aP (λ_ hk=>hk) ?aF ?aO ?aB ?aS ?aL ?_;(case aP=>exact(Kd.yj (Kd.jd (Kd.jf (ok':=(λk_=>((λk_=>(w.heap.size<=k_)/\some k_≠(.slice (some x) d.length A:Value).ownBlock/\some k_≠(.slice aa I.length ad:Value).ownBlock/\k_≠a)) k_/\some k_≠(u11:Value).ownBlock)) (J.out) (λk_ hk=>by exact⟨⟨hk.1,⟨hk.2.2.2.1,⟨hk.2.1,hk.2.2.2.2⟩⟩⟩,hk.2.2.1⟩))).2.1 (Kd.xG (Kd.jf (ok':=(λk_=>((λk_=>(w.heap.size<=k_)/\some k_≠(.slice (some x) d.length A:Value).ownBlock/\some k_≠(.slice aa I.length ad:Value).ownBlock/\k_≠a)) k_/\some k_≠(u11:Value).ownBlock)) (J.out) (λk_ hk=>by exact⟨⟨hk.1,⟨hk.2.2.2.1,⟨hk.2.1,hk.2.2.2.2⟩⟩⟩,hk.2.2.1⟩)))));(case aB=>exact(iH HB.out y.out));(case aF=>exact(λk_ hk=>⟨(Nat.le_trans (iQ (iH HB.out y.out)) hk),Kd.fresh' (Kd.mQ (zN j.out)) k_ hk,Kd.fresh' (Kd.qZ (zR L.out)) k_ hk,Kd.kT (g:=a) (o:= .cells #[.bool false, .slice r ((iK d c).f1).length q] 113 (0,0)) (by(with_reducible repeat(first|refine iM ?_ _|refine iC ?_|refine iL ?_ _));exact l.out) k_ hk⟩));(case aO=>exact(by(with_reducible repeat(first|apply Kd.jK|apply Kd.jJ|apply Kd.jA));exact Kd.ji m.out (λ_ hk=>⟨hk.1.1,⟨hk.1.2.1,⟨hk.2,hk.1.2.2⟩⟩⟩)));(case aS=>exact(iQ (iH HB.out y.out)));(case aL=>have:=aN.out;omega);intro cy cH ho hb hg hat;rw[<-b3.out] at ho;replace s:=zk (Kd.vz (zR s.out) (Kd.jQ (zN m.out)) (by decide) hg);replace j:=zk (Kd.zJ (ok:=(λk_=>(w.heap.size<=k_)/\some k_≠(.slice U u.length W:Value).ownBlock/\some k_≠(.slice aa I.length ad:Value).ownBlock/\k_≠a)) (by(with_reducible repeat(first|apply Kd.jK|apply Kd.jJ|apply Kd.jA));exact Kd.ji j.out (λ_ hk=>⟨⟨hk.1.1,⟨hk.1.2.1,⟨hk.2,hk.1.2.2.2⟩⟩⟩,hk.1.2.2.1⟩)) hg hat);replace n:=zk (Kd.rJ (ok:=(λk_=>(w.heap.size<=k_)/\some k_≠(.slice U u.length W:Value).ownBlock/\some k_≠(.slice (some x) d.length A:Value).ownBlock/\some k_≠(.slice aa I.length ad:Value).ownBlock/\k_≠a)) (by(with_reducible repeat(first|apply Kd.nH|apply Kd.nG|apply Kd.lV));exact Kd.jf n.out (λ_ hk=>⟨⟨hk.1.1,⟨hk.1.2.1,⟨hk.1.2.2.2.1,⟨hk.2,hk.1.2.2.2.2⟩⟩⟩⟩,hk.1.2.2.1⟩)) hg hat);replace l:=zk (xU (g:=a) (o:= .cells #[.bool false, .slice r ((iK d c).f1).length q] 113 (0,0)) (by(with_reducible repeat(first|refine iM ?_ _|refine iC ?_|refine iL ?_ _));exact l.out) hg (Kd.Bz m.out l.out (by decide)));replace J:=zk (Kd.rJ (ok:=(λk_=>(w.heap.size<=k_)/\some k_≠(.slice (some x) d.length A:Value).ownBlock/\some k_≠(.slice aa I.length ad:Value).ownBlock/\k_≠a)) (by(with_reducible repeat(first|apply Kd.nH|apply Kd.nG|apply Kd.lV));exact Kd.jf J.out (λ_ hk=>⟨⟨hk.1,⟨hk.2.2.2.1,⟨hk.2.1,hk.2.2.2.2⟩⟩⟩,hk.2.2.1⟩)) hg hat);replace L:=zk (Kd.vz (zR L.out) (Kd.jQ (zN m.out)) (by decide) hg);replace HB:=zk (hb);have aZ:=zk (ho);clear m;clear ho hb hg hat))
  go_roundg k2
  case measure=>have:=aH.out;have:=be.out;omega
  case rel=>exact⟨(bN),(wrap64 (c+1)),zF,H',⟨lW aH be⟩,⟨by(with_reducible repeat(first|apply Kd.iT|apply Kd.iU|apply Kd.iJ));exact Kd.iZ s.out (λ_ hk=>hk.1)⟩,⟨by(with_reducible repeat(first|apply Kd.jK|apply Kd.jJ|apply Kd.jA));exact Kd.ji aZ.out (λ_ hk=>⟨hk.1,hk.2.1⟩)⟩,⟨by(with_reducible repeat(first|apply Kd.jK|apply Kd.jJ|apply Kd.jA));exact Kd.ji j.out (λ_ hk=>⟨hk.1.1,⟨hk.1.2.1,hk.2⟩⟩)⟩,⟨iH HB.out y.out⟩⟩
 simp only[Option.some.injEq,Prod.mk.injEq] at H
 obtain⟨rfl,rfl⟩:=H
 go_wp2
 go_ret2
 exact⟨_,zE,by(with_reducible repeat(first|apply Kd.jK|apply Kd.jJ|apply Kd.jA));exact Kd.ji m.out (λ_ hk=>hk.1),zB HB.out⟩
theorem tq.calls(k:Nat)(A0:Option Addr)(c0:Nat)(l0:List (List Int))(a1:Int)(r:Int)(w:World)(z:Kd.C (Kd.slice 97 (Kd.int .u32)) w A0 l0.length l0)(A:l0.length<=c0)(h:tq.f k l0 a1=some r):
 Calls Try.prog 88 #[.slice A0 l0.length c0, .int .i64 a1] w λe w'=>e= .returned (.int .i64 r)/\Below w.heap.size w w':=by
 have y:=zk z
 have E:=zk A
 clear z A
 have HB:=zk (Below.refl w.heap.size w)
 have H:=h
 clear h
 unfold tq.f at H
 have H':=zk H
 clear H
 go_enter Try.func88,Try.ntmps88
 go_wp2
 go_loopg [5,6] k (λkq v5 v6 w'=>∃(p:Int) (b:Int),v5= .int .i64 p/\v6= .int .i64 b/\dw (tq.l0 kq l0 a1 p b=some r)/\dw (kq<=k)/\dw (Below w.heap.size w w'))
 case atStart=>exact⟨(0),(1),zF,zF,H',⟨Nat.le_refl _⟩,⟨zB HB.out⟩⟩
 clear H'
 obtain⟨p,b,rfl,rfl,HA,u,HB⟩:=hrel
 cases gk with|zero=>exact absurd HA.out (by simp [tq.l0])|succ k1=>?_
 have H:=HA.out
 clear HA
 simp only[tq.l0] at H
 replace H:=jB H
 rcases H with⟨x,H⟩|⟨x,H⟩
 ·replace H:=iV H
  obtain⟨D,H⟩:=H
  replace H:=iV H
  obtain⟨B,H⟩:=H
  replace H:=zb H
  obtain⟨q,A6,H⟩:=H
  replace H:=zi H
  rcases H with⟨c7,H⟩|⟨c7,H⟩
  ·have v:decide (0<q)=true:=decide_eq_true c7
   clear c7
   have H':=zk H
   clear H
   have o:0<=(b:Int):=zd
   have n:b<(l0.length:Int):=zd
   obtain⟨t,l,m,s,a,c,d⟩:=wo y.out b o n
   cases s
   replace a:=(HB.out.cell (World.block_lt_of_cell? w _ a)).trans a
   have g:=zk d
   have j:=zk c
   clear d c
   replace o:=eq_true o
   replace n:=eq_true n
   go_wp2_with (first|((with_reducible refine gC 87 ?_);refine zG (some 16) Try.func87 #[.slice l (kD l0 b).length m] ?_;(with_reducible refine(u_.calls k1 _ _ (kD l0 b) q _ ?ig ?ik A6.out).mono ?_);(case ig=>exact zC (Kd.iR g.out HB.out));(case ik=>exact j.out);rintro e w8 ⟨rfl,hb⟩;refine⟨_,rfl,?_⟩;replace HB:=yS HB hb;(try clear hb)))
   go_roundg k1
   case measure=>have:=u.out;omega
   case rel=>exact⟨(wrap64 (p+1)),(wrap64 (b+1)),zF,zF,H',⟨kP u⟩,⟨zB HB.out⟩⟩
  have v:decide (0<q)=false:=decide_eq_false c7
  clear c7
  have H':=zk H
  clear H
  have o:0<=(b:Int):=zd
  have n:b<(l0.length:Int):=zd
  obtain⟨t,l,m,s,a,c,d⟩:=wo y.out b o n
  cases s
  replace a:=(HB.out.cell (World.block_lt_of_cell? w _ a)).trans a
  have g:=zk d
  have j:=zk c
  clear d c
  replace o:=eq_true o
  replace n:=eq_true n
  go_wp2_with (first|((with_reducible refine gC 87 ?_);refine zG (some 16) Try.func87 #[.slice l (kD l0 b).length m] ?_;(with_reducible refine(u_.calls k1 _ _ (kD l0 b) q _ ?ig ?ik A6.out).mono ?_);(case ig=>exact zC (Kd.iR g.out HB.out));(case ik=>exact j.out);rintro e w9 ⟨rfl,hb⟩;refine⟨_,rfl,?_⟩;replace HB:=yS HB hb;(try clear hb)))
  go_roundg k1
  case measure=>have:=u.out;omega
  case rel=>exact⟨(p),(wrap64 (b+1)),zF,zF,H',⟨kP u⟩,⟨zB HB.out⟩⟩
 obtain rfl:=Option.some.inj H
 go_wp2
 go_ret
 exact⟨zE,zB HB.out⟩
theorem l7.calls(k:Nat)(a0:Int)(A1:Option Addr)(c1:Nat)(l1:List (List Int))(r1:Int)(r2:Int)(w:World)(a7:Kd.C (Kd.slice 97 (Kd.int .u32)) w A1 l1.length l1)(a9:l1.length<=c1)(h:l7.f k a0 l1=some (r1,r2)):
 Calls Try.prog 38 #[.int .i64 a0, .slice A1 l1.length c1] w λe w'=>e= .returned (.tuple #[.int .i64 r1, .int .i64 r2])/\Below w.heap.size w w':=by
 have U:=zk a7
 have ab:=zk a9
 clear a7 a9
 have HB:=zk (Below.refl w.heap.size w)
 have H:=h
 clear h
 unfold l7.f at H
 replace H:=zb H
 obtain⟨⟨l,a2⟩,A3,H⟩:=H
 dsimp only at H
 replace H:=zg H
 obtain⟨c4,H⟩:=H
 have G:=beq_iff_eq.mpr c4
 have E:=bne_eq_false_iff_eq.mpr c4
 clear c4
 have X:=zk H
 clear H
 go_enter Try.func38,Try.ntmps38
 go_upto_block 0 with(first|((with_reducible refine gC 57 ?_);refine zG (some 14) Try.func57 #[.int .i64 a0, .slice A1 l1.length c1] ?_;(with_reducible refine(oh.calls k a0 _ _ l1 l a2 _ ?ig ?ik A3.out).mono ?_);(case ig=>exact zC U.out);(case ik=>exact ab.out);rintro e w6 ⟨u,rfl,a3,hb⟩;refine⟨_,rfl,?_⟩;have M:=zk (Kd.qf (Kd.ji (ok':=λk_=>True) a3 (λk_ iO=>trivial)) (iQ (zB HB.out)));replace HB:=yS HB hb;(try clear hb a3)))
 (try simp only[Act.put,List.setIfInBounds_toArray,List.set_cons_zero,List.set_cons_succ])
 go_cut [9] (λv9 wc=>∃(kq:Nat) (q:Int),v9= .int .i64 q/\dw (l7.j1 kq l (wrap64 ((l1.length:Int)-1)) q=some (r1,r2))/\dw (kq<=k)/\dw (Kd.N (Kd.slice 97 (Kd.int .u32)) 29 wc w.heap.size (λ_=>True) u l)/\dw (Below w.heap.size w wc))
 case first=>
  have H:=X.out
  clear X
  have H':=zk H
  clear H
  go_wp2
  go_loopg [9] k (λkq v9 w'=>∃(j:Int),v9= .int .i64 j/\dw (l7.l0 kq l1 l (wrap64 ((l1.length:Int)-1)) j=some (r1,r2))/\dw (kq<=k)/\dw (Kd.N (Kd.slice 97 (Kd.int .u32)) 29 w' w.heap.size (λ_=>True) u l)/\dw (Below w.heap.size w w'))
  case atStart=>exact⟨(1),zF,H',⟨Nat.le_refl _⟩,⟨zN M.out⟩,⟨zB HB.out⟩⟩
  clear H'
  (try clear G E)
  obtain⟨j,rfl,HA,T,a,HB⟩:=hrel
  cases gk with|zero=>exact absurd HA.out (by simp [l7.l0])|succ k1=>?_
  have H:=HA.out
  clear HA
  simp only[l7.l0] at H
  replace H:=jB H
  rcases H with⟨r,H⟩|⟨r,H⟩
  ·(first|rw[r]|(simp only[iI,iP];rw[r])|rw[Jy]|skip)
   replace H:=iV H
   obtain⟨ae,H⟩:=H
   replace H:=iV H
   obtain⟨ac,H⟩:=H
   replace H:=zb H
   obtain⟨O,aa,H⟩:=H
   replace H:=zi H
   rcases H with⟨z,H⟩|⟨z,H⟩
   ·have A:=beq_iff_eq.mpr z
    have L:=bne_eq_false_iff_eq.mpr z
    clear z
    have H':=zk H
    clear H
    have p:0<=(j:Int):=zd
    have o:j<(l1.length:Int):=zd
    obtain⟨P,y,x,v,b,d,g⟩:=wo U.out j p o
    cases v
    replace b:=(HB.out.cell (World.block_lt_of_cell? w _ b)).trans b
    have n:=zk g
    have m:=zk d
    clear g d
    replace p:=eq_true p
    replace o:=eq_true o
    go_wp2_with (first|(go_at_call 87;(with_reducible refine(u_.calls k1 _ _ (kD l1 j) O _ ?ig ?ik aa.out).mono ?_);(case ig=>exact zC (Kd.iR n.out HB.out));(case ik=>exact m.out);rintro e ah ⟨rfl,hb⟩;replace a:=kG a hb;replace HB:=yS HB hb;(try clear hb)))
    go_roundg k1
    case measure=>have:=T.out;omega
    case rel=>exact⟨(wrap64 (j+1)),zF,H',⟨kP T⟩,⟨zN a.out⟩,⟨zB HB.out⟩⟩
   have A:=beq_eq_false_iff_ne.mpr z
   have L:=bne_iff_ne.mpr z
   have H':=zk H
   clear H
   have p:0<=(j:Int):=zd
   have o:j<(l1.length:Int):=zd
   obtain⟨P,y,x,v,b,d,g⟩:=wo U.out j p o
   cases v
   replace b:=(HB.out.cell (World.block_lt_of_cell? w _ b)).trans b
   have n:=zk g
   have m:=zk d
   clear g d
   replace p:=eq_true p
   replace o:=eq_true o
   go_wp2_with (first|(go_at_call 87;(with_reducible refine(u_.calls k1 _ _ (kD l1 j) O _ ?ig ?ik aa.out).mono ?_);(case ig=>exact zC (Kd.iR n.out HB.out));(case ik=>exact m.out);rintro e af ⟨rfl,hb⟩;replace a:=kG a hb;replace HB:=yS HB hb;(try clear hb)))
   go_meet
   case rel=>exact⟨_,(j),zF,H',⟨by have:=T.out;first|omega|exact Nat.le_refl _⟩,⟨zN a.out⟩,⟨zB HB.out⟩⟩
  (first|rw[r]|(simp only[iI,iP];rw[r])|rw[Jy]|skip)
  have H':=zk H
  clear H
  go_wp2
  go_meet
  case rel=>exact⟨_,(j),zF,H',⟨by have:=T.out;first|omega|exact Nat.le_refl _⟩,⟨zN a.out⟩,⟨zB HB.out⟩⟩
 clear X
 (try clear G E)
 obtain⟨kq,q,rfl,HA,a4,a,HB⟩:=hcut
 cases kq with|zero=>exact absurd HA.out (by simp [l7.j1])|succ a5=>?_
 have H:=HA.out
 clear HA
 simp only[l7.j1] at H
 replace H:=zi H
 rcases H with⟨K,H⟩|⟨K,H⟩
 ·have t:decide ((wrap64 ((l1.length:Int)-1))<q)=true:=decide_eq_true K
  clear K
  simp only[Option.some.injEq,Prod.mk.injEq] at H
  obtain⟨rfl,rfl⟩:=H
  go_wp2
  go_ret2
  exact⟨zE,zB HB.out⟩
 have t:decide ((wrap64 ((l1.length:Int)-1))<q)=false:=decide_eq_false K
 clear K
 have H':=zk H
 clear H
 go_wp2
 go_loopg [10] a5 (λkq ad w'=>∃(c:Int),ad= .int .i64 c/\dw (l7.l1 kq l (wrap64 ((l1.length:Int)-1)) q c=some (r1,r2))/\dw (kq<=a5)/\dw (Kd.N (Kd.slice 97 (Kd.int .u32)) 29 w' w.heap.size (λ_=>True) u l)/\dw (Below w.heap.size w w'))
 case atStart=>exact⟨(wrap64 (q-1)),zF,H',⟨Nat.le_refl _⟩,⟨zN a.out⟩,⟨zB HB.out⟩⟩
 clear H'
 (try clear t)
 obtain⟨c,rfl,HA,a8,a,HB⟩:=hrel
 cases gk with|zero=>exact absurd HA.out (by simp [l7.l1])|succ k2=>?_
 have H:=HA.out
 clear HA
 simp only[l7.l1] at H
 replace H:=zi H
 rcases H with⟨J,H⟩|⟨J,H⟩
 ·have I:decide (1<=c)=true:=decide_eq_true J
  clear J
  replace H:=zb H
  obtain⟨B,a6,H⟩:=H
  replace H:=jB H
  rcases H with⟨D,H⟩|⟨D,H⟩
  ·simp only[Option.some.injEq,Prod.mk.injEq] at H
   obtain⟨rfl,rfl⟩:=H
   obtain⟨Y,Z,rfl⟩:=Kd.oG a.out
   go_wp2_with (first|((with_reducible refine gC 88 ?_);refine zG (some 49) Try.func88 #[.slice Y l.length Z, .int .i64 (wrap64 ((wrap64 ((l1.length:Int)-1))-c))] ?_;(with_reducible refine(tq.calls k2 _ _ l (wrap64 ((wrap64 ((l1.length:Int)-1))-c)) B _ ?ig ?ik a6.out).mono ?_);(case ig=>exact zC (Kd.jR a.out).2.2);(case ik=>exact(Kd.jR a.out).2.1);rintro e ag ⟨rfl,hb⟩;refine⟨_,rfl,?_⟩;replace a:=kG a hb;replace HB:=yS HB hb;(try clear hb)))
   go_ret2
   exact⟨zE,zB HB.out⟩
  have H':=zk H
  clear H
  obtain⟨a1,W,rfl⟩:=Kd.oG a.out
  go_wp2_with (first|((with_reducible refine gC 88 ?_);refine zG (some 49) Try.func88 #[.slice a1 l.length W, .int .i64 (wrap64 ((wrap64 ((l1.length:Int)-1))-c))] ?_;(with_reducible refine(tq.calls k2 _ _ l (wrap64 ((wrap64 ((l1.length:Int)-1))-c)) B _ ?ig ?ik a6.out).mono ?_);(case ig=>exact zC (Kd.jR a.out).2.2);(case ik=>exact(Kd.jR a.out).2.1);rintro e ai ⟨rfl,hb⟩;refine⟨_,rfl,?_⟩;replace a:=kG a hb;replace HB:=yS HB hb;(try clear hb)))
  go_roundg k2
  case measure=>have:=a4.out;have:=a8.out;omega
  case rel=>exact⟨(wrap64 (c-1)),zF,H',⟨lW a4 a8⟩,⟨zN a.out⟩,⟨zB HB.out⟩⟩
 have I:decide (1<=c)=false:=decide_eq_false J
 clear J
 simp only[Option.some.injEq,Prod.mk.injEq] at H
 obtain⟨rfl,rfl⟩:=H
 go_wp2
 go_ret2
 exact⟨zE,zB HB.out⟩
theorem qB.calls(k:Nat)(A0:Option Addr)(c0:Nat)(l0:List Int)(r:Bool)(w:World)(c:Kd.C (Kd.int .u32) w A0 l0.length l0)(g:l0.length<=c0)(h:qB.f k l0=some r):
 Calls Try.prog 27 #[.slice A0 l0.length c0] w λe w'=>e= .returned (.bool r)/\Below w.heap.size w w':=by
 have j:=zk c
 have m:=zk g
 clear c g
 have HB:=zk (Below.refl w.heap.size w)
 have H:=h
 clear h
 unfold qB.f at H
 replace H:=zb H
 obtain⟨a,A2,H⟩:=H
 obtain rfl:=Option.some.inj H
 go_enter Try.func27,Try.ntmps27
 go_wp2_with (first|((with_reducible refine gC 75 ?_);refine zG (some 4) Try.func75 #[.slice A0 l0.length c0] ?_;(with_reducible refine(lF.calls k _ _ l0 a _ ?ig ?ik A2.out).mono ?_);(case ig=>exact zC j.out);(case ik=>exact m.out);rintro e w3 ⟨l,rfl,d,hb⟩;refine⟨_,rfl,?_⟩;have b:=jm d HB;replace HB:=yS HB hb;(try clear hb d);obtain⟨o,n,rfl⟩:=Kd.iD b.out))
 go_ret
 exact⟨zE,zB HB.out⟩
theorem Ae.calls(a0:Int)(r:Int)(w:World)(h:Ae.f a0=some r):
 Calls Try.prog 35 #[.int .i64 a0] w λe w'=>e= .returned (.int .i64 r)/\jh w w':=by
 have H:=h
 clear h
 unfold Ae.f at H
 replace H:=jB H
 rcases H with⟨b,H⟩|⟨b,H⟩
 ·obtain rfl:=Option.some.inj H
  go_enter Try.func35,Try.ntmps35
  go_wp2
  go_ret
  exact⟨zF,by repeat(first|exact jh.refl _|apply jh.step)⟩
 replace H:=zi H
 rcases H with⟨c3,H⟩|⟨c3,H⟩
 ·have a:decide (65<a0)=true:=decide_eq_true c3
  clear c3
  obtain rfl:=Option.some.inj H
  go_enter Try.func35,Try.ntmps35
  go_wp2
  go_ret
  exact⟨zF,by repeat(first|exact jh.refl _|apply jh.step)⟩
 have a:decide (65<a0)=false:=decide_eq_false c3
 clear c3
 obtain rfl:=Option.some.inj H
 go_enter Try.func35,Try.ntmps35
 go_wp2
 go_ret
 exact⟨zF,by repeat(first|exact jh.refl _|apply jh.step)⟩
theorem Af.calls(a0:Int)(r:Int)(w:World)(h:Af.f a0=some r):
 Calls Try.prog 43 #[.int .i64 a0] w λe w'=>e= .returned (.int .i64 r)/\jh w w':=by
 have H:=h
 clear h
 unfold Af.f at H
 replace H:=jB H
 rcases H with⟨b,H⟩|⟨b,H⟩
 ·obtain rfl:=Option.some.inj H
  go_enter Try.func43,Try.ntmps43
  go_wp2
  go_ret
  exact⟨zF,by repeat(first|exact jh.refl _|apply jh.step)⟩
 replace H:=zi H
 rcases H with⟨c3,H⟩|⟨c3,H⟩
 ·have a:decide (256<a0)=true:=decide_eq_true c3
  clear c3
  obtain rfl:=Option.some.inj H
  go_enter Try.func43,Try.ntmps43
  go_wp2
  go_ret
  exact⟨zF,by repeat(first|exact jh.refl _|apply jh.step)⟩
 have a:decide (256<a0)=false:=decide_eq_false c3
 clear c3
 obtain rfl:=Option.some.inj H
 go_enter Try.func43,Try.ntmps43
 go_wp2
 go_ret
 exact⟨zF,by repeat(first|exact jh.refl _|apply jh.step)⟩
theorem qC.calls(k:Nat)(A0:Option Addr)(c0:Nat)(l0:List Int)(r:Int)(w:World)(G:Kd.C (Kd.int .u32) w A0 l0.length l0)(J:l0.length<=c0)(h:qC.f k l0=some r):
 Calls Try.prog 76 #[.slice A0 l0.length c0] w λe w'=>e= .returned (.int .i64 r)/\Below w.heap.size w w':=by
 have A:=zk G
 have D:=zk J
 clear G J
 have HB:=zk (Below.refl w.heap.size w)
 have H:=h
 clear h
 unfold qC.f at H
 replace H:=zb H
 obtain⟨a,A2,H⟩:=H
 replace H:=zi H
 rcases H with⟨c3,H⟩|⟨c3,H⟩
 ·have s:=beq_iff_eq.mpr c3
  have t:=bne_eq_false_iff_eq.mpr c3
  clear c3
  obtain rfl:=Option.some.inj H
  go_enter Try.func76,Try.ntmps76
  go_wp2_with (first|((with_reducible refine gC 75 ?_);refine zG (some 6) Try.func75 #[.slice A0 l0.length c0] ?_;(with_reducible refine(lF.calls k _ _ l0 a _ ?ig ?ik A2.out).mono ?_);(case ig=>exact zC A.out);(case ik=>exact D.out);rintro e w4 ⟨y,rfl,o,hb⟩;refine⟨_,rfl,?_⟩;have c:=jm o HB;replace HB:=yS HB hb;(try clear hb o);obtain⟨O,M,rfl⟩:=Kd.iD c.out))
  go_ret
  exact⟨zE,zB HB.out⟩
 have s:=beq_eq_false_iff_ne.mpr c3
 have t:=bne_iff_ne.mpr c3
 have u:¬(a=[]):=λh_=>c3 (by rw[h_];rfl)
 obtain⟨n,b⟩:∃j_:Int,(wrap64 ((a.length:Int)-1))=j_:=⟨_,rfl⟩
 first|rw[b] at H|simp only[b] at H
 (try rw[b] at A2)
 have B:(IntKind.i64.wrap ((a.length:Int)-1))=n:=(iI _).trans b
 replace H:=iV H
 obtain⟨x,H⟩:=H
 replace H:=iV H
 obtain⟨z,H⟩:=H
 have H':=zk H
 clear H
 go_enter Try.func76,Try.ntmps76
 go_wp2_with (first|((with_reducible refine gC 75 ?_);refine zG (some 6) Try.func75 #[.slice A0 l0.length c0] ?_;(with_reducible refine(lF.calls k _ _ l0 a _ ?ig ?ik A2.out).mono ?_);(case ig=>exact zC A.out);(case ik=>exact D.out);rintro e w9 ⟨y,rfl,o,hb⟩;refine⟨_,rfl,?_⟩;have c:=jm o HB;replace HB:=yS HB hb;(try clear hb o);obtain⟨K,L,rfl⟩:=Kd.iD c.out;have j:0<=((n):Int):=zd;have l:(n)<(a.length:Int):=zd;obtain⟨I,v,g⟩:=Kd.jG (Kd.iw c.out).2.2 (n) j l;cases v;replace j:=eq_true j;replace l:=eq_true l))
 go_loopg [3,4] k (λkq v3 v4 w'=>∃(m:Int) (d:Int),v3= .int .i64 m/\v4= .int .u32 d/\dw (qC.l0 kq m d=some r)/\dw (kq<=k)/\dw (Below w.heap.size w w'))
 case atStart=>exact⟨(wrap64 (32*(n))),(rd a (n)),(by first|rfl|(simp;done)|(simp only[<-b]<;>(first|rfl|simp))|(simp [*];done)),(by first|rfl|(simp;done)|(simp only[<-b]<;>(first|rfl|simp))|(simp [*];done)),H',⟨Nat.le_refl _⟩,⟨zB HB.out⟩⟩
 clear H'
 (try clear c3 s t u x z g j l)
 obtain⟨m,d,rfl,rfl,HA,E,HB⟩:=hrel
 cases gk with|zero=>exact absurd HA.out (by simp [qC.l0])|succ k1=>?_
 have H:=HA.out
 clear HA
 simp only[qC.l0] at H
 replace H:=zi H
 rcases H with⟨q,H⟩|⟨q,H⟩
 ·have p:decide (0<d)=true:=decide_eq_true q
  clear q
  have H':=zk H
  clear H
  go_wp2
  go_roundg k1
  case measure=>have:=E.out;omega
  case rel=>exact⟨(wrap64 (m+1)),((Int.tdiv d 2) % 4294967296),zF,zF,H',⟨kP E⟩,⟨zB HB.out⟩⟩
 have p:decide (0<d)=false:=decide_eq_false q
 clear q
 obtain rfl:=Option.some.inj H
 go_wp2
 go_ret
 exact⟨by first|rfl|(simp [kV,kU]<;>rfl)|(simp only[<-b];first|rfl|(simp [kV,kU]<;>rfl))|(simp [*,kV,kU]<;>rfl),zB HB.out⟩
theorem oU.calls(A0:Option Addr)(c0:Nat)(l0:List Int)(a1:Int)(r:Int)(w:World)(k:Kd.C (Kd.int .u32) w A0 l0.length l0)(l:l0.length<=c0)(h:oU.f l0 a1=some r):
 Calls Try.prog 119 #[.slice A0 l0.length c0, .int .i64 a1] w λe w'=>e= .returned (.int .u64 r)/\jh w w':=by
 have m:=zk k
 have o:=zk l
 clear k l
 have H:=h
 clear h
 unfold oU.f at H
 replace H:=jB H
 rcases H with⟨g,H⟩|⟨g,H⟩
 ·replace H:=iV H
  obtain⟨n,H⟩:=H
  obtain rfl:=Option.some.inj H
  have a:0<=(a1:Int):=zd
  have b:a1<(l0.length:Int):=zd
  obtain⟨j,d,c⟩:=Kd.jG m.out a1 a b
  cases d
  replace a:=eq_true a
  replace b:=eq_true b
  go_enter Try.func119,Try.ntmps119
  go_wp2
  go_ret
  exact⟨zF,by repeat(first|exact jh.refl _|apply jh.step)⟩
 obtain rfl:=Option.some.inj H
 go_enter Try.func119,Try.ntmps119
 go_wp2
 go_ret
 exact⟨zF,by repeat(first|exact jh.refl _|apply jh.step)⟩
theorem rC.calls(k:Nat)(A0:Option Addr)(c0:Nat)(l0:List Int)(A1:Option Addr)(c1:Nat)(l1:List Int)(r:Int)(w:World)(z:Kd.C (Kd.int .u32) w A0 l0.length l0)(B:l0.length<=c0)(A:Kd.C (Kd.int .u32) w A1 l1.length l1)(x:l1.length<=c1)(h:rC.f k l0 l1=some r):
 Calls Try.prog 77 #[.slice A0 l0.length c0, .slice A1 l1.length c1] w λe w'=>e= .returned (.int .i64 r)/\Below w.heap.size w w':=by
 have l:=zk z
 have p:=zk B
 clear z B
 have o:=zk A
 have q:=zk x
 clear A x
 have HB:=zk (Below.refl w.heap.size w)
 have H:=h
 clear h
 unfold rC.f at H
 obtain⟨s,b⟩:∃j_:Int,(mx (l0.length:Int) (l1.length:Int))=j_:=⟨_,rfl⟩
 first|rw[b] at H|simp only[b] at H
 (try(have v:0<=s:=by(rw[<-b];unfold mx;(repeat' split)<;>omega)))
 (try(have E:0<=s:=by omega))
 have m:(if(l0.length:Int)<(l1.length:Int) then(l1.length:Int) else(l0.length:Int))=s:=b
 have D:(if l0.length<l1.length then(l1.length:Int) else(l0.length:Int))=s:=by rw[<-m];simp only[Int.ofNat_lt]
 have H':=zk H
 clear H
 go_enter Try.func77,Try.ntmps77
 go_wp2
 go_loopg [5] k (λkq v5 w'=>∃(a:Int),v5= .int .i64 a/\dw (rC.l0 kq l0 l1 a=some r)/\dw (kq<=k)/\dw (Below w.heap.size w w'))
 case atStart=>exact⟨(wrap64 ((s)-1)),(by first|rfl|(simp;done)|(simp only[<-b]<;>(first|rfl|simp))|(simp [*];done)),H',⟨Nat.le_refl _⟩,⟨zB HB.out⟩⟩
 clear H'
 obtain⟨a,rfl,HA,y,HB⟩:=hrel
 cases gk with|zero=>exact absurd HA.out (by simp [rC.l0])|succ k1=>?_
 have H:=HA.out
 clear HA
 simp only[rC.l0] at H
 replace H:=zi H
 rcases H with⟨c4,H⟩|⟨c4,H⟩
 ·have u:decide (0<=a)=true:=decide_eq_true c4
  clear c4
  replace H:=zb H
  obtain⟨g,A5,H⟩:=H
  replace H:=zb H
  obtain⟨j,A6,H⟩:=H
  replace H:=jB H
  rcases H with⟨t,H⟩|⟨t,H⟩
  ·obtain rfl:=Option.some.inj H
   go_wp2_with (first|((with_reducible refine gC 119 ?_);refine zG (some 18) Try.func119 #[.slice A0 l0.length c0, .int .i64 a] ?_;(with_reducible refine(oU.calls _ _ l0 a g _ ?ig ?ik A5.out).mono ?_);(case ig=>exact zC (Kd.iR l.out HB.out));(case ik=>exact p.out);rintro e w' ⟨rfl,⟨nd,rfl⟩⟩;refine⟨_,rfl,?_⟩)|((with_reducible refine gC 119 ?_);refine zG (some 21) Try.func119 #[.slice A1 l1.length c1, .int .i64 a] ?_;(with_reducible refine(oU.calls _ _ l1 a j _ ?ig ?ik A6.out).mono ?_);(case ig=>exact zC (Kd.iR o.out (zB HB.out)));(case ik=>exact q.out);rintro e w' ⟨rfl,⟨nd,rfl⟩⟩;refine⟨_,rfl,?_⟩))
   go_ret
   exact⟨by first|rfl|(simp [kV,kU]<;>rfl)|(simp only[<-b];first|rfl|(simp [kV,kU]<;>rfl))|(simp [*,kV,kU]<;>rfl),zB HB.out⟩
  replace H:=zb H
  obtain⟨c,A8,H⟩:=H
  replace H:=zb H
  obtain⟨d,A9,H⟩:=H
  replace H:=zi H
  rcases H with⟨c10,H⟩|⟨c10,H⟩
  ·have n:decide (d<c)=true:=decide_eq_true c10
   clear c10
   obtain rfl:=Option.some.inj H
   go_wp2_with (first|((with_reducible refine gC 119 ?_);refine zG (some 18) Try.func119 #[.slice A0 l0.length c0, .int .i64 a] ?_;(with_reducible refine(oU.calls _ _ l0 a g _ ?ig ?ik A5.out).mono ?_);(case ig=>exact zC (Kd.iR l.out HB.out));(case ik=>exact p.out);rintro e w' ⟨rfl,⟨nd,rfl⟩⟩;refine⟨_,rfl,?_⟩)|((with_reducible refine gC 119 ?_);refine zG (some 21) Try.func119 #[.slice A1 l1.length c1, .int .i64 a] ?_;(with_reducible refine(oU.calls _ _ l1 a j _ ?ig ?ik A6.out).mono ?_);(case ig=>exact zC (Kd.iR o.out (zB HB.out)));(case ik=>exact q.out);rintro e w' ⟨rfl,⟨nd,rfl⟩⟩;refine⟨_,rfl,?_⟩)|((with_reducible refine gC 119 ?_);refine zG (some 25) Try.func119 #[.slice A0 l0.length c0, .int .i64 a] ?_;(with_reducible refine(oU.calls _ _ l0 a c _ ?ig ?ik A8.out).mono ?_);(case ig=>exact zC (Kd.iR l.out (zB HB.out)));(case ik=>exact p.out);rintro e w' ⟨rfl,⟨nd,rfl⟩⟩;refine⟨_,rfl,?_⟩)|((with_reducible refine gC 119 ?_);refine zG (some 28) Try.func119 #[.slice A1 l1.length c1, .int .i64 a] ?_;(with_reducible refine(oU.calls _ _ l1 a d _ ?ig ?ik A9.out).mono ?_);(case ig=>exact zC (Kd.iR o.out (zB HB.out)));(case ik=>exact q.out);rintro e w' ⟨rfl,⟨nd,rfl⟩⟩;refine⟨_,rfl,?_⟩))
   go_ret
   exact⟨by first|rfl|(simp [kV,kU]<;>rfl)|(simp only[<-b];first|rfl|(simp [kV,kU]<;>rfl))|(simp [*,kV,kU]<;>rfl),zB HB.out⟩
  have n:decide (d<c)=false:=decide_eq_false c10
  clear c10
  have H':=zk H
  clear H
  go_wp2_with (first|((with_reducible refine gC 119 ?_);refine zG (some 18) Try.func119 #[.slice A0 l0.length c0, .int .i64 a] ?_;(with_reducible refine(oU.calls _ _ l0 a g _ ?ig ?ik A5.out).mono ?_);(case ig=>exact zC (Kd.iR l.out HB.out));(case ik=>exact p.out);rintro e w' ⟨rfl,⟨nd,rfl⟩⟩;refine⟨_,rfl,?_⟩)|((with_reducible refine gC 119 ?_);refine zG (some 21) Try.func119 #[.slice A1 l1.length c1, .int .i64 a] ?_;(with_reducible refine(oU.calls _ _ l1 a j _ ?ig ?ik A6.out).mono ?_);(case ig=>exact zC (Kd.iR o.out (zB HB.out)));(case ik=>exact q.out);rintro e w' ⟨rfl,⟨nd,rfl⟩⟩;refine⟨_,rfl,?_⟩)|((with_reducible refine gC 119 ?_);refine zG (some 25) Try.func119 #[.slice A0 l0.length c0, .int .i64 a] ?_;(with_reducible refine(oU.calls _ _ l0 a c _ ?ig ?ik A8.out).mono ?_);(case ig=>exact zC (Kd.iR l.out (zB HB.out)));(case ik=>exact p.out);rintro e w' ⟨rfl,⟨nd,rfl⟩⟩;refine⟨_,rfl,?_⟩)|((with_reducible refine gC 119 ?_);refine zG (some 28) Try.func119 #[.slice A1 l1.length c1, .int .i64 a] ?_;(with_reducible refine(oU.calls _ _ l1 a d _ ?ig ?ik A9.out).mono ?_);(case ig=>exact zC (Kd.iR o.out (zB HB.out)));(case ik=>exact q.out);rintro e w' ⟨rfl,⟨nd,rfl⟩⟩;refine⟨_,rfl,?_⟩))
  go_roundg k1
  case measure=>have:=y.out;omega
  case rel=>exact⟨(wrap64 (a-1)),zF,H',⟨kP y⟩,⟨zB HB.out⟩⟩
 have u:decide (0<=a)=false:=decide_eq_false c4
 clear c4
 obtain rfl:=Option.some.inj H
 go_wp2
 go_ret
 exact⟨by first|rfl|(simp [kV,kU]<;>rfl)|(simp only[<-b];first|rfl|(simp [kV,kU]<;>rfl))|(simp [*,kV,kU]<;>rfl),zB HB.out⟩
theorem ny.calls(k:Nat)(A0:Option Addr)(c0:Nat)(l0:List Int)(A1:Option Addr)(c1:Nat)(l1:List Int)(r:List Int)(w:World)(J:Kd.C (Kd.int .u32) w A0 l0.length l0)(M:l0.length<=c0)(L:Kd.C (Kd.int .u32) w A1 l1.length l1)(G:l1.length<=c1)(h:ny.f k l0 l1=some r):
 Calls Try.prog 86 #[.slice A0 l0.length c0, .slice A1 l1.length c1] w λe w'=>∃E:Value,e= .returned (E)/\Kd.R (Kd.int .u32) 97 w' w.heap.size (λ_=>True) E r/\Below w.heap.size w w':=by
 have T:=zk J
 have W:=zk M
 clear J M
 have U:=zk L
 have Z:=zk G
 clear L G
 have HB:=zk (Below.refl w.heap.size w)
 have H:=h
 clear h
 unfold ny.f at H
 have H':=zk H
 clear H
 go_enter Try.func86,Try.ntmps86
 go_wp2
 go_loopg [5,6,7] k (λkq v5 v6 v7 w'=>∃(g:List Int) (c:Int) (d:Int),v6= .int .u64 c/\v7= .int .i64 d/\dw (ny.l0 kq l0 l1 g c d=some r)/\dw (kq<=k)/\dw (Kd.R (Kd.int .u32) 97 w' w.heap.size (λ_=>True) v5 g)/\dw (Below w.heap.size w w'))
 case atStart=>exact⟨(([]:List Int)),(0),(0),zF,zF,H',⟨Nat.le_refl _⟩,⟨z0⟩,⟨zB HB.out⟩⟩
 clear H'
 obtain⟨g,c,d,rfl,rfl,HA,t,a,HB⟩:=hrel
 cases gk with|zero=>exact absurd HA.out (by simp [ny.l0])|succ k1=>?_
 have H:=HA.out
 clear HA
 simp only[ny.l0] at H
 have B:=zk H
 clear H
 go_upto_region 4 with(fail)
 go_cut [22] (λP wc=>∃(kq:Nat) (j:Bool),P= .bool j/\dw (ny.j1 kq l0 l1 g c d j=some r)/\dw (kq<=k1)/\dw (Kd.R (Kd.int .u32) 97 wc w.heap.size (λ_=>True) u5 g)/\dw (Below w.heap.size w wc))
 case first=>
  have H:=B.out
  clear B
  replace H:=jB H
  rcases H with⟨o,H⟩|⟨o,H⟩
  ·(first|rw[o]|(simp only[iI,iP];rw[o])|rw[yQ]|skip)
   have H':=zk H
   clear H
   go_wp2
   go_meet
   case rel=>exact⟨_,(true),zF,H',⟨by have:=t.out;first|omega|exact Nat.le_refl _⟩,⟨zR a.out⟩,⟨zB HB.out⟩⟩
  (first|rw[o]|(simp only[iI,iP];rw[o])|rw[yQ]|skip)
  replace H:=jB H
  rcases H with⟨y,H⟩|⟨y,H⟩
  ·have H':=zk H
   clear H
   go_wp2
   go_meet
   case rel=>exact⟨_,(true),zF,H',⟨by have:=t.out;first|omega|exact Nat.le_refl _⟩,⟨zR a.out⟩,⟨zB HB.out⟩⟩
  have H':=zk H
  clear H
  go_wp2
  go_meet
  case rel=>exact⟨_,(decide (c>0)),zF,H',⟨by have:=t.out;first|omega|exact Nat.le_refl _⟩,⟨zR a.out⟩,⟨zB HB.out⟩⟩
 clear B
 obtain⟨kq,j,rfl,HA,K,a,HB⟩:=hcut
 cases kq with|zero=>exact absurd HA.out (by simp [ny.j1])|succ I=>?_
 have H:=HA.out
 clear HA
 simp only[ny.j1] at H
 by_cases c6:j=true
 ·subst c6
  rw[if_pos rfl] at H
  replace H:=zb H
  obtain⟨l,A7,H⟩:=H
  replace H:=zb H
  obtain⟨n,A8,H⟩:=H
  replace H:=zg H
  obtain⟨c9,H⟩:=H
  have x:=zk c9
  clear c9
  obtain⟨z,m⟩:∃y_:List Int,y_=(g++[(Int.tmod (IntKind.u64.wrap ((IntKind.u64.wrap (l+n))+c)) 4294967296) % 4294967296]):=⟨_,rfl⟩
  rw[<-m] at H
  have q:=zk m
  clear m
  have H':=zk H
  clear H
  go_wp2_with (first|((with_reducible refine gC 119 ?_);refine zG (some 27) Try.func119 #[.slice A0 l0.length c0, .int .i64 d] ?_;(with_reducible refine(oU.calls _ _ l0 d l _ ?ig ?ik A7.out).mono ?_);(case ig=>exact zC (Kd.iR T.out HB.out));(case ik=>exact W.out);rintro e w' ⟨rfl,⟨nd,rfl⟩⟩;refine⟨_,rfl,?_⟩)|((with_reducible refine gC 119 ?_);refine zG (some 30) Try.func119 #[.slice A1 l1.length c1, .int .i64 d] ?_;(with_reducible refine(oU.calls _ _ l1 d n _ ?ig ?ik A8.out).mono ?_);(case ig=>exact zC (Kd.iR U.out (zB HB.out)));(case ik=>exact Z.out);rintro e w' ⟨rfl,⟨nd,rfl⟩⟩;refine⟨_,rfl,?_⟩)|((with_reducible refine qE (b:= .append) (xs:= #[.tmp 34, .tmp 38]) rfl ?_);(try(refine vN (by rfl) ?_;dsimp only));at_builtin;refine Kd.yU (Kd.int .u32) (w0:=w) w.heap.size rfl (.tmp 34) (.tmp 38) 29 97 (.int .u32 0) 4 rfl Try.underlying29 rZ rfl (by decide) (by omega) u5 g ((Int.tmod (IntKind.u64.wrap ((IntKind.u64.wrap (l+n))+c)) 4294967296) % 4294967296) [.int .u32 ((Int.tmod (IntKind.u64.wrap ((IntKind.u64.wrap (l+n))+c)) 4294967296) % 4294967296)] (λ_=>True) (λ_=>False) rfl rfl ?aP (λ_ hk=>hk.elim) ?aF ?aO ?aB ?aS ?aL ?_;(case aP=>exact rfl);(case aB=>exact(zB HB.out));(case aF=>exact(λ_ _=>trivial));(case aO=>exact(zR a.out));(case aS=>exact(iQ (zB HB.out)));(case aL=>have:=x.out;omega);intro Y a1 ho hb hg hat;rw[<-q.out] at ho;replace HB:=zk (hb);have u:=zk (ho);clear a;clear ho hb hg hat))
  go_roundg I
  case measure=>have:=t.out;have:=K.out;omega
  case rel=>exact⟨(z),(IntKind.u64.wrap (Int.tdiv (IntKind.u64.wrap ((IntKind.u64.wrap (l+n))+c)) 4294967296)),(wrap64 (d+1)),zF,zF,H',⟨lW t K⟩,⟨zR u.out⟩,⟨zB HB.out⟩⟩
 replace c6:=Bool.eq_false_iff.mpr c6
 subst c6
 rw[if_neg Bool.false_ne_true] at H
 replace H:=zb H
 obtain⟨A,O,H⟩:=H
 obtain rfl:=Option.some.inj H
 obtain⟨D,v,rfl⟩:=Kd.iD a.out
 go_wp2_with (first|((with_reducible refine gC 75 ?_);refine zG (some 43) Try.func75 #[.slice D g.length v] ?_;(with_reducible refine(lF.calls I _ _ g A _ ?ig ?ik O.out).mono ?_);(case ig=>exact zC (Kd.iw a.out).2.2);(case ik=>exact(Kd.iw a.out).2.1);rintro e a0 ⟨X,rfl,p,hb⟩;refine⟨_,rfl,?_⟩;replace p:=yn p a;have s:=jm p HB;replace a:=iG a p hb;replace HB:=yS HB hb;(try clear hb p)))
 go_ret
 exact⟨_,zE,by(with_reducible repeat(first|apply Kd.iT|apply Kd.iU|apply Kd.iJ));exact Kd.iZ s.out (λ_ hk=>trivial),zB HB.out⟩
theorem ry.calls(k:Nat)(A0:Option Addr)(c0:Nat)(l0:List Int)(A1:Option Addr)(c1:Nat)(l1:List Int)(r:List Int)(w:World)(y:Kd.C (Kd.int .u32) w A0 l0.length l0)(A:l0.length<=c0)(z:Kd.C (Kd.int .u32) w A1 l1.length l1)(B:l1.length<=c1)(h:ry.f k l0 l1=some r):
 Calls Try.prog 100 #[.slice A0 l0.length c0, .slice A1 l1.length c1] w λe w'=>∃x:Value,e= .returned (x)/\Kd.R (Kd.int .u32) 97 w' w.heap.size (λ_=>True) x r/\Below w.heap.size w w':=by
 have E:=zk y
 have K:=zk A
 clear y A
 have G:=zk z
 have J:=zk B
 clear z B
 have HB:=zk (Below.refl w.heap.size w)
 have H:=h
 clear h
 unfold ry.f at H
 have H':=zk H
 clear H
 go_enter Try.func100,Try.ntmps100
 go_wp2
 go_loopg [5,6,7] k (λkq v5 v6 v7 w'=>∃(g:List Int) (d:Int) (a:Int),v6= .int .u64 d/\v7= .int .i64 a/\dw (ry.l0 kq l0 l1 g d a=some r)/\dw (kq<=k)/\dw (Kd.R (Kd.int .u32) 97 w' w.heap.size (λ_=>True) v5 g)/\dw (Below w.heap.size w w'))
 case atStart=>exact⟨(([]:List Int)),(0),(0),zF,zF,H',⟨Nat.le_refl _⟩,⟨z0⟩,⟨zB HB.out⟩⟩
 clear H'
 obtain⟨g,d,a,rfl,rfl,HA,D,c,HB⟩:=hrel
 cases gk with|zero=>exact absurd HA.out (by simp [ry.l0])|succ k1=>?_
 have H:=HA.out
 clear HA
 simp only[ry.l0] at H
 replace H:=jB H
 rcases H with⟨s,H⟩|⟨s,H⟩
 ·replace H:=zb H
  obtain⟨j,A4,H⟩:=H
  replace H:=zb H
  obtain⟨m,A5,H⟩:=H
  replace H:=zg H
  obtain⟨c6,H⟩:=H
  have v:=zk c6
  clear c6
  obtain⟨t,l⟩:∃y_:List Int,y_=(g++[(Int.tmod (IntKind.u64.wrap ((IntKind.u64.wrap ((IntKind.u64.wrap (j+4294967296))-m))-d)) 4294967296) % 4294967296]):=⟨_,rfl⟩
  rw[<-l] at H
  have p:=zk l
  clear l
  have H':=zk H
  clear H
  go_wp2_with (first|((with_reducible refine gC 119 ?_);refine zG (some 17) Try.func119 #[.slice A0 l0.length c0, .int .i64 a] ?_;(with_reducible refine(oU.calls _ _ l0 a j _ ?ig ?ik A4.out).mono ?_);(case ig=>exact zC (Kd.iR E.out HB.out));(case ik=>exact K.out);rintro e w' ⟨rfl,⟨nd,rfl⟩⟩;refine⟨_,rfl,?_⟩)|((with_reducible refine gC 119 ?_);refine zG (some 21) Try.func119 #[.slice A1 l1.length c1, .int .i64 a] ?_;(with_reducible refine(oU.calls _ _ l1 a m _ ?ig ?ik A5.out).mono ?_);(case ig=>exact zC (Kd.iR G.out (zB HB.out)));(case ik=>exact J.out);rintro e w' ⟨rfl,⟨nd,rfl⟩⟩;refine⟨_,rfl,?_⟩)|((with_reducible refine qE (b:= .append) (xs:= #[.tmp 25, .tmp 29]) rfl ?_);at_builtin;refine Kd.yU (Kd.int .u32) (w0:=w) w.heap.size rfl (.tmp 25) (.tmp 29) 29 97 (.int .u32 0) 4 rfl Try.underlying29 rZ rfl (by decide) (by omega) u5 g ((Int.tmod (IntKind.u64.wrap ((IntKind.u64.wrap ((IntKind.u64.wrap (j+4294967296))-m))-d)) 4294967296) % 4294967296) [.int .u32 ((Int.tmod (IntKind.u64.wrap ((IntKind.u64.wrap ((IntKind.u64.wrap (j+4294967296))-m))-d)) 4294967296) % 4294967296)] (λ_=>True) (λ_=>False) rfl rfl ?aP (λ_ hk=>hk.elim) ?aF ?aO ?aB ?aS ?aL ?_;(case aP=>exact rfl);(case aB=>exact(zB HB.out));(case aF=>exact(λ_ _=>trivial));(case aO=>exact(zR c.out));(case aS=>exact(iQ (zB HB.out)));(case aL=>have:=v.out;omega);intro M w7 ho hb hg hat;rw[<-p.out] at ho;replace HB:=zk (hb);have q:=zk (ho);clear c;clear ho hb hg hat))
  go_roundg k1
  case measure=>have:=D.out;omega
  case rel=>exact⟨(t),(IntKind.u64.wrap (1-(IntKind.u64.wrap (Int.tdiv (IntKind.u64.wrap ((IntKind.u64.wrap ((IntKind.u64.wrap (j+4294967296))-m))-d)) 4294967296)))),(wrap64 (a+1)),zF,zF,H',⟨kP D⟩,⟨zR q.out⟩,⟨zB HB.out⟩⟩
 replace H:=zb H
 obtain⟨u,A8,H⟩:=H
 obtain rfl:=Option.some.inj H
 obtain⟨O,L,rfl⟩:=Kd.iD c.out
 go_wp2_with (first|((with_reducible refine gC 75 ?_);refine zG (some 35) Try.func75 #[.slice O g.length L] ?_;(with_reducible refine(lF.calls k1 _ _ g u _ ?ig ?ik A8.out).mono ?_);(case ig=>exact zC (Kd.iw c.out).2.2);(case ik=>exact(Kd.iw c.out).2.1);rintro e P ⟨I,rfl,n,hb⟩;refine⟨_,rfl,?_⟩;replace n:=yn n c;have o:=jm n HB;replace c:=iG c n hb;replace HB:=yS HB hb;(try clear hb n)))
 go_ret
 exact⟨_,zE,by(with_reducible repeat(first|apply Kd.iT|apply Kd.iU|apply Kd.iJ));exact Kd.iZ o.out (λ_ hk=>trivial),zB HB.out⟩
theorem rX.calls(k:Nat)(A0:Option Addr)(c0:Nat)(l0:List Int)(a1:Int)(r:List Int)(w:World)(a9:Kd.C (Kd.int .u32) w A0 l0.length l0)(aa:l0.length<=c0)(h:rX.f k l0 a1=some r):
 Calls Try.prog 136 #[.slice A0 l0.length c0, .int .i64 a1] w λe w'=>∃a7:Value,e= .returned (a7)/\Kd.R (Kd.int .u32) 97 w' w.heap.size (λ_=>True) a7 r/\Below w.heap.size w w':=by
 have ai:=zk a9
 have aq:=zk aa
 clear a9 aa
 have HB:=zk (Below.refl w.heap.size w)
 have H:=h
 clear h
 unfold rX.f at H
 obtain⟨M,s⟩:∃j_:Int,(wrap64 (Int.tdiv a1 32))=j_:=⟨_,rfl⟩
 first|rw[s] at H|simp only[s] at H
 have ac:(IntKind.i64.wrap (Int.tdiv a1 32))=M:=(iI _).trans s
 replace H:=zg H
 obtain⟨c4,H⟩:=H
 have Y:=eq_true c4
 have U:=decide_eq_true c4
 clear c4
 replace H:=zg H
 obtain⟨c5,H⟩:=H
 have T:=eq_true c5
 have W:=decide_eq_true c5
 clear c5
 obtain⟨a5,n⟩:∃y_:List Int,y_=(List.replicate (M:Int).toNat 0):=⟨_,rfl⟩
 rw[<-n] at H
 have u:=zk n
 clear n
 have H':=zk H
 clear H
 go_enter Try.func136,Try.ntmps136
 go_wp2_with (first|((with_reducible refine jc (N:=11) rfl ?_);refine Kd.ug (Kd.int .u32) _ 97 rfl (N:=11) rfl 29 _ _ rfl M rfl rfl Try.underlying29 (.int .u32 0) 4 rZ rfl (by decide) (by omega) 0 (ok:=λ_=>True) (je:=λ_=>True) rfl (λ_ hk=>hk) trivial zd (Nat.le_trans (Nat.mul_le_mul_right _ (zd:M.toNat<=70368744177664)) (by omega)) (Below.refl _ _) (Nat.le_refl _) ?_;intro ak w6 A hb jw jv;clear jw jv;(first|rw[<-u.out] at A|(simp only[Int.reduceToNat] at A;rw[<-u.out] at A));have K:=jm A HB;replace HB:=yS HB hb;clear hb A))
 go_loopg [5,6,7] k (λkq v5 v6 v7 w'=>∃(l:List Int) (a:Int) (c:Int),v6= .int .u64 a/\v7= .int .i64 c/\dw (rX.l0 kq l0 a1 l a c=some r)/\dw (kq<=k)/\dw (Kd.R (Kd.int .u32) 97 w' w.heap.size (λ_=>True) v5 l)/\dw (Below w.heap.size w w'))
 case atStart=>exact⟨(a5),(0),(0),zF,zF,H',⟨Nat.le_refl _⟩,⟨zR K.out⟩,⟨zB HB.out⟩⟩
 clear H'
 (try clear Y U T W)
 obtain⟨l,a,c,rfl,rfl,HA,af,t,HB⟩:=hrel
 cases gk with|zero=>exact absurd HA.out (by simp [rX.l0])|succ k1=>?_
 have H:=HA.out
 clear HA
 simp only[rX.l0] at H
 replace H:=jB H
 rcases H with⟨a0,H⟩|⟨a0,H⟩
 ·replace H:=iV H
  obtain⟨an,H⟩:=H
  obtain⟨q,v⟩:∃j_:Int,(Int.tmod a1 32)=j_:=⟨_,rfl⟩
  first|rw[v] at H|simp only[v] at H
  replace H:=zg H
  obtain⟨P,H⟩:=H
  have a8:=eq_true P
  have ae:=decide_eq_true P
  clear P
  obtain⟨m,j⟩:∃j_:Int,(shl .u64 (IntKind.u64.wrap (rd l0 c)) (q))=j_:=⟨_,rfl⟩
  first|rw[j] at H|simp only[j] at H
  have Z:(IntKind.u64.wrap ((IntKind.u64.wrap (rd l0 c))*2^min (q).toNat 64))=m:=j
  have a6:(q)<=64->(IntKind.u64.wrap ((IntKind.u64.wrap (rd l0 c))*2^(q).toNat))=m:=Ic j
  replace H:=zg H
  obtain⟨ab,H⟩:=H
  have B:=zk ab
  clear ab
  obtain⟨X,o⟩:∃y_:List Int,y_=(l++[(Int.tmod (IntKind.u64.wrap ((m)+a)) 4294967296) % 4294967296]):=⟨_,rfl⟩
  rw[<-o] at H
  have E:=zk o
  clear o
  have H':=zk H
  clear H
  have x:0<=(c:Int):=zd
  have y:c<(l0.length:Int):=zd
  obtain⟨ag,O,g⟩:=Kd.jG ai.out c x y
  cases O
  replace g:=(HB.out.cell (World.block_lt_of_cell? w _ g)).trans g
  replace x:=eq_true x
  replace y:=eq_true y
  go_wp2_with (first|((with_reducible refine qE (b:= .append) (xs:= #[.tmp 28, .tmp 32]) rfl ?_);at_builtin;refine Kd.yU (Kd.int .u32) (w0:=w) w.heap.size rfl (.tmp 28) (.tmp 32) 29 97 (.int .u32 0) 4 rfl Try.underlying29 rZ rfl (by decide) (by omega) u5 l ((Int.tmod (IntKind.u64.wrap ((m)+a)) 4294967296) % 4294967296) [.int .u32 ((Int.tmod (IntKind.u64.wrap ((m)+a)) 4294967296) % 4294967296)] (λ_=>True) (λ_=>False) rfl rfl ?aP (λ_ hk=>hk.elim) ?aF ?aO ?aB ?aS ?aL ?_;(case aP=>exact rfl);(case aB=>exact(zB HB.out));(case aF=>exact(λ_ _=>trivial));(case aO=>exact(zR t.out));(case aS=>exact(iQ (zB HB.out)));(case aL=>have:=B.out;omega);intro am ao ho hb hg hat;rw[<-E.out] at ho;replace HB:=zk (hb);have G:=zk (ho);clear t;clear ho hb hg hat))
  go_roundg k1
  case measure=>have:=af.out;omega
  case rel=>exact⟨(X),(IntKind.u64.wrap (Int.tdiv (IntKind.u64.wrap ((m)+a)) 4294967296)),(wrap64 (c+1)),(by first|rfl|(simp;done)|(simp only[<-j]<;>(first|rfl|simp))|(simp [*];done)),zF,H',⟨kP af⟩,⟨zR G.out⟩,⟨zB HB.out⟩⟩
 replace H:=zg H
 obtain⟨ad,H⟩:=H
 have I:=zk ad
 clear ad
 obtain⟨J,p⟩:∃y_:List Int,y_=(l++[(a) % 4294967296]):=⟨_,rfl⟩
 rw[<-p] at H
 have D:=zk p
 clear p
 replace H:=zb H
 obtain⟨a2,al,H⟩:=H
 obtain rfl:=Option.some.inj H
 go_wp2_with (first|((with_reducible refine qE (b:= .append) (xs:= #[.tmp 36, .tmp 39]) rfl ?_);at_builtin;refine Kd.yU (Kd.int .u32) (w0:=w) w.heap.size rfl (.tmp 36) (.tmp 39) 29 97 (.int .u32 0) 4 rfl Try.underlying29 rZ rfl (by decide) (by omega) u5 l ((a) % 4294967296) [.int .u32 ((a) % 4294967296)] (λ_=>True) (λ_=>False) rfl rfl ?aP (λ_ hk=>hk.elim) ?aF ?aO ?aB ?aS ?aL ?_;(case aP=>exact rfl);(case aB=>exact(zB HB.out));(case aF=>exact(λ_ _=>trivial));(case aO=>exact(zR t.out));(case aS=>exact(iQ (zB HB.out)));(case aL=>have:=I.out;omega);intro ah ar ho hb hg hat;rw[<-D.out] at ho;replace HB:=zk (hb);have d:=zk (ho);clear t;clear ho hb hg hat;obtain⟨a3,a4,rfl⟩:=Kd.iD d.out)|((with_reducible refine gC 75 ?_);refine zG (some 41) Try.func75 #[.slice a3 J.length a4] ?_;(with_reducible refine(lF.calls k1 _ _ J a2 _ ?ig ?ik al.out).mono ?_);(case ig=>exact zC (Kd.iw d.out).2.2);(case ik=>exact(Kd.iw d.out).2.1);rintro e ap ⟨aj,rfl,z,hb⟩;refine⟨_,rfl,?_⟩;replace z:=yn z d;have L:=jm z HB;replace d:=iG d z hb;replace HB:=yS HB hb;(try clear hb z)))
 go_ret
 exact⟨_,by first|rfl|(simp [kV,kU]<;>rfl)|(simp only[<-s];first|rfl|(simp [kV,kU]<;>rfl))|(simp [*,kV,kU]<;>rfl),by(with_reducible repeat(first|apply Kd.iT|apply Kd.iU|apply Kd.iJ));exact Kd.iZ L.out (λ_ hk=>trivial),zB HB.out⟩
theorem qj.calls(k:Nat)(A0:Option Addr)(c0:Nat)(l0:List Int)(A1:Option Addr)(c1:Nat)(l1:List Int)(r1:List Int)(r2:List Int)(w:World)(af:Kd.C (Kd.int .u32) w A0 l0.length l0)(ah:l0.length<=c0)(ag:Kd.C (Kd.int .u32) w A1 l1.length l1)(aj:l1.length<=c1)(h:qj.f k l0 l1=some (r1,r2)):
 Calls Try.prog 123 #[.slice A0 l0.length c0, .slice A1 l1.length c1] w λe w'=>∃U ab:Value,e= .returned (.tuple #[U,ab])/\Kd.R (Kd.int .u32) 97 w' w.heap.size (λk_=>some k_≠(ab:Value).ownBlock) U r1/\Kd.R (Kd.int .u32) 97 w' w.heap.size (λk_=>some k_≠(U:Value).ownBlock) ab r2/\Below w.heap.size w w':=by
 have ae:=zk af
 have ak:=zk ah
 clear af ah
 have Y:=zk ag
 have a5:=zk aj
 clear ag aj
 have HB:=zk (Below.refl w.heap.size w)
 have H:=h
 clear h
 unfold qj.f at H
 replace H:=zb H
 obtain⟨t,A3,H⟩:=H
 replace H:=zb H
 obtain⟨v,A4,H⟩:=H
 replace H:=zb H
 obtain⟨u,A5,H⟩:=H
 have H':=zk H
 clear H
 go_enter Try.func123,Try.ntmps123
 go_wp2_with (first|((with_reducible refine gC 75 ?_);refine zG (some 10) Try.func75 #[.slice A0 l0.length c0] ?_;(with_reducible refine(lF.calls k _ _ l0 t _ ?ig ?ik A3.out).mono ?_);(case ig=>exact zC ae.out);(case ik=>exact ak.out);rintro e w6 ⟨aq,rfl,a,hb⟩;refine⟨_,rfl,?_⟩;have r:=jm a HB;replace HB:=yS HB hb;(try clear hb a))|((with_reducible refine gC 76 ?_);refine zG (some 12) Try.func76 #[.slice A0 l0.length c0] ?_;(with_reducible refine(qC.calls k _ _ l0 v _ ?ig ?ik A4.out).mono ?_);(case ig=>exact zC (Kd.iR ae.out HB.out));(case ik=>exact ak.out);rintro e w7 ⟨rfl,hb⟩;refine⟨_,rfl,?_⟩;replace r:=jl r hb;replace HB:=yS HB hb;(try clear hb))|((with_reducible refine gC 76 ?_);refine zG (some 14) Try.func76 #[.slice A1 l1.length c1] ?_;(with_reducible refine(qC.calls k _ _ l1 u _ ?ig ?ik A5.out).mono ?_);(case ig=>exact zC (Kd.iR Y.out HB.out));(case ik=>exact a5.out);rintro e w8 ⟨rfl,hb⟩;refine⟨_,rfl,?_⟩;replace r:=jl r hb;replace HB:=yS HB hb;(try clear hb)))
 go_loopg [4,5,7] k (λkq v4 v5 v7 w'=>∃(q:List Int) (n:List Int) (m:Int),v7= .int .i64 m/\dw (qj.l0 kq l1 q n m=some (r1,r2))/\dw (kq<=k)/\dw (Kd.R (Kd.int .u32) 97 w' w.heap.size (λk_=>some k_≠(v5:Value).ownBlock) v4 q)/\dw (Kd.R (Kd.int .u32) 97 w' w.heap.size (λk_=>some k_≠(v4:Value).ownBlock) v5 n)/\dw (Below w.heap.size w w'))
 case atStart=>exact⟨(([]:List Int)),(t),(wrap64 (v-u)),zF,H',⟨Nat.le_refl _⟩,⟨z0⟩,⟨by(with_reducible repeat(first|apply Kd.iT|apply Kd.iU|apply Kd.iJ));exact Kd.iZ r.out (λ_ hk=>(by simp [Value.ownBlock]))⟩,⟨zB HB.out⟩⟩
 clear H'
 obtain⟨q,n,m,rfl,HA,T,d,c,HB⟩:=hrel
 cases gk with|zero=>exact absurd HA.out (by simp [qj.l0])|succ k1=>?_
 have H:=HA.out
 clear HA
 simp only[qj.l0] at H
 replace H:=zi H
 rcases H with⟨c9,H⟩|⟨c9,H⟩
 ·have aa:decide (0<=m)=true:=decide_eq_true c9
  clear c9
  replace H:=zb H
  obtain⟨p,al,H⟩:=H
  replace H:=zb H
  obtain⟨x,ai,H⟩:=H
  replace H:=zi H
  rcases H with⟨K,H⟩|⟨K,H⟩
  ·have O:decide (0<=x)=true:=decide_eq_true K
   clear K
   replace H:=zb H
   obtain⟨G,ao,H⟩:=H
   obtain⟨E,s⟩:∃y_:List Int,y_=(([1]:List Int)):=⟨_,rfl⟩
   rw[<-s] at H
   have y:=zk s
   clear s
   replace H:=zb H
   obtain⟨z,an,H⟩:=H
   replace H:=zb H
   obtain⟨I,am,H⟩:=H
   have H':=zk H
   clear H
   go_wp2_with (first|((with_reducible refine gC 136 ?_);refine zG (some 23) Try.func136 #[.slice A1 l1.length c1, .int .i64 m] ?_;(with_reducible refine(rX.calls k1 _ _ l1 m p _ ?ig ?ik al.out).mono ?_);(case ig=>exact zC (Kd.iR Y.out HB.out));(case ik=>exact a5.out);rintro e aF ⟨a7,rfl,a,hb⟩;refine⟨_,rfl,?_⟩;replace a:=yn a d;replace a:=yn a c;have b:=jm a HB;replace d:=iG d a hb;replace c:=iG c a hb;replace HB:=yS HB hb;(try clear hb a);obtain⟨D,A,rfl⟩:=Kd.iD c.out;obtain⟨J,L,rfl⟩:=Kd.iD b.out)|((with_reducible refine gC 77 ?_);refine zG (some 26) Try.func77 #[.slice D n.length A, .slice J p.length L] ?_;(with_reducible refine(rC.calls k1 _ _ n _ _ p x _ ?ig ?ik ?iF ?iE ai.out).mono ?_);(case ig=>exact zC (Kd.iw c.out).2.2);(case ik=>exact(Kd.iw c.out).2.1);(case iF=>exact zC (Kd.iw b.out).2.2);(case iE=>exact(Kd.iw b.out).2.1);rintro e aC ⟨rfl,hb⟩;refine⟨_,rfl,?_⟩;replace d:=jl d hb;replace c:=jl c hb;replace b:=jl b hb;replace HB:=yS HB hb;(try clear hb))|((with_reducible refine gC 100 ?_);refine zG (some 30) Try.func100 #[.slice D n.length A, .slice J p.length L] ?_;(with_reducible refine(ry.calls k1 _ _ n _ _ p G _ ?ig ?ik ?iF ?iE ao.out).mono ?_);(case ig=>exact zC (Kd.iw c.out).2.2);(case ik=>exact(Kd.iw c.out).2.1);(case iF=>exact zC (Kd.iw b.out).2.2);(case iE=>exact(Kd.iw b.out).2.1);rintro e aD ⟨au,rfl,a,hb⟩;refine⟨_,rfl,?_⟩;replace a:=yn a d;replace a:=yn a c;replace a:=yn a b;have j:=jm a HB;replace d:=iG d a hb;replace c:=iG c a hb;replace b:=iG b a hb;replace HB:=yS HB hb;(try clear hb a))|((with_reducible refine jc (N:=32) rfl ?_);refine Kd.qG (Kd.int .u32) _ 97 ?hg (N:=32) ?hd (xs:=([1]:List Int)) (inner:=[.int .u32 1]) (ok:=λ_=>True) (je:=λ_=>True) ?hr ?hp (λ_ hk=>hk) trivial (Below.refl _ _) (Nat.le_refl _) (by simp) ?_;(case hd=>rfl);(case hg=>rfl);(case hr=>first|(go_simp;done)|(go_simp;rfl));(case hp=>exact(iY.one (show Kd.M (Kd.int .u32) _ _ _ 1 [.int .u32 1] from rfl) (iY.none _ _)));intro ar aG g hb jw jv;clear jw jv;(first|rw[<-y.out] at g|(simp only[Int.reduceToNat] at g;rw[<-y.out] at g));replace g:=yn g d;replace g:=yn g c;replace g:=yn g b;replace g:=yn g j;have l:=jm g HB;replace d:=iG d g hb;replace c:=iG c g hb;replace b:=iG b g hb;replace j:=iG j g hb;replace HB:=yS HB hb;clear hb g;obtain⟨a9,Z,rfl⟩:=Kd.iD l.out)|((with_reducible refine gC 136 ?_);refine zG (some 34) Try.func136 #[.slice a9 E.length Z, .int .i64 m] ?_;(with_reducible refine(rX.calls k1 _ _ E m z _ ?ig ?ik an.out).mono ?_);(case ig=>exact zC (Kd.iw l.out).2.2);(case ik=>exact(Kd.iw l.out).2.1);rintro e aB ⟨aw,rfl,a,hb⟩;refine⟨_,rfl,?_⟩;replace a:=yn a d;replace a:=yn a c;replace a:=yn a b;replace a:=yn a j;replace a:=yn a l;have o:=jm a HB;replace d:=iG d a hb;replace c:=iG c a hb;replace b:=iG b a hb;replace j:=iG j a hb;replace l:=iG l a hb;replace HB:=yS HB hb;(try clear hb a);obtain⟨a2,W,rfl⟩:=Kd.iD d.out;obtain⟨ad,a1,rfl⟩:=Kd.iD o.out)|((with_reducible refine gC 86 ?_);refine zG (some 35) Try.func86 #[.slice a2 q.length W, .slice ad z.length a1] ?_;(with_reducible refine(ny.calls k1 _ _ q _ _ z I _ ?ig ?ik ?iF ?iE am.out).mono ?_);(case ig=>exact zC (Kd.iw d.out).2.2);(case ik=>exact(Kd.iw d.out).2.1);(case iF=>exact zC (Kd.iw o.out).2.2);(case iE=>exact(Kd.iw o.out).2.1);rintro e ay ⟨av,rfl,a,hb⟩;refine⟨_,rfl,?_⟩;replace a:=yn a d;replace a:=yn a c;replace a:=yn a b;replace a:=yn a j;replace a:=yn a l;replace a:=yn a o;have P:=jm a HB;replace d:=iG d a hb;replace c:=iG c a hb;replace b:=iG b a hb;replace j:=iG j a hb;replace l:=iG l a hb;replace o:=iG o a hb;replace HB:=yS HB hb;(try clear hb a)))
   go_roundg k1
   case measure=>have:=T.out;omega
   case rel=>exact⟨(I),(G),(wrap64 (m-1)),zF,H',⟨kP T⟩,⟨by(with_reducible repeat(first|apply Kd.iT|apply Kd.iU|apply Kd.iJ));exact Kd.iZ P.out (λ_ hk=>hk.1.1.2)⟩,⟨by(with_reducible repeat(first|apply Kd.iT|apply Kd.iU|apply Kd.iJ));exact Kd.iZ j.out (λ_ hk=>hk.2)⟩,⟨zB HB.out⟩⟩
  have O:decide (0<=x)=false:=decide_eq_false K
  clear K
  have H':=zk H
  clear H
  go_wp2_with (first|((with_reducible refine gC 136 ?_);refine zG (some 23) Try.func136 #[.slice A1 l1.length c1, .int .i64 m] ?_;(with_reducible refine(rX.calls k1 _ _ l1 m p _ ?ig ?ik al.out).mono ?_);(case ig=>exact zC (Kd.iR Y.out HB.out));(case ik=>exact a5.out);rintro e az ⟨a7,rfl,a,hb⟩;refine⟨_,rfl,?_⟩;replace a:=yn a d;replace a:=yn a c;have b:=jm a HB;replace d:=iG d a hb;replace c:=iG c a hb;replace HB:=yS HB hb;(try clear hb a);obtain⟨a8,a6,rfl⟩:=Kd.iD c.out;obtain⟨X,a0,rfl⟩:=Kd.iD b.out)|((with_reducible refine gC 77 ?_);refine zG (some 26) Try.func77 #[.slice a8 n.length a6, .slice X p.length a0] ?_;(with_reducible refine(rC.calls k1 _ _ n _ _ p x _ ?ig ?ik ?iF ?iE ai.out).mono ?_);(case ig=>exact zC (Kd.iw c.out).2.2);(case ik=>exact(Kd.iw c.out).2.1);(case iF=>exact zC (Kd.iw b.out).2.2);(case iE=>exact(Kd.iw b.out).2.1);rintro e aA ⟨rfl,hb⟩;refine⟨_,rfl,?_⟩;replace d:=jl d hb;replace c:=jl c hb;replace b:=jl b hb;replace HB:=yS HB hb;(try clear hb)))
  go_roundg k1
  case measure=>have:=T.out;omega
  case rel=>exact⟨(q),(n),(wrap64 (m-1)),zF,H',⟨kP T⟩,⟨by(with_reducible repeat(first|apply Kd.iT|apply Kd.iU|apply Kd.iJ));exact Kd.iZ d.out (λ_ hk=>hk.1)⟩,⟨by(with_reducible repeat(first|apply Kd.iT|apply Kd.iU|apply Kd.iJ));exact Kd.iZ c.out (λ_ hk=>hk.1)⟩,⟨zB HB.out⟩⟩
 have aa:decide (0<=m)=false:=decide_eq_false c9
 clear c9
 replace H:=zb H
 obtain⟨ac,ax,H⟩:=H
 simp only[Option.some.injEq,Prod.mk.injEq] at H
 obtain⟨rfl,rfl⟩:=H
 obtain⟨a3,a4,rfl⟩:=Kd.iD d.out
 go_wp2_with (first|((with_reducible refine gC 75 ?_);refine zG (some 37) Try.func75 #[.slice a3 q.length a4] ?_;(with_reducible refine(lF.calls k1 _ _ q ac _ ?ig ?ik ax.out).mono ?_);(case ig=>exact zC (Kd.iw d.out).2.2);(case ik=>exact(Kd.iw d.out).2.1);rintro e aE ⟨ap,rfl,a,hb⟩;refine⟨_,rfl,?_⟩;replace a:=yn a d;replace a:=yn a c;have B:=jm a HB;replace d:=iG d a hb;replace c:=iG c a hb;replace HB:=yS HB hb;(try clear hb a)))
 go_ret2
 exact⟨_,_,zE,by(with_reducible repeat(first|apply Kd.iT|apply Kd.iU|apply Kd.iJ));exact Kd.iZ B.out (λ_ hk=>hk.2),by(with_reducible repeat(first|apply Kd.iT|apply Kd.iU|apply Kd.iJ));exact Kd.iZ c.out (λ_ hk=>hk.2),zB HB.out⟩
theorem sS.calls(k:Nat)(n:Nat->Prop)(A0:Option Addr)(c0:Nat)(l0:List Int)(s:Nat->Prop)(A1:Option Addr)(c1:Nat)(l1:List Int)(r:List Int)(w:World)(J:Kd.V (Kd.int .u32) 97 w w.heap.size (λk_=>n k_) (.slice A0 l0.length c0) l0)(W:Kd.V (Kd.int .u32) 97 w w.heap.size (λk_=>s k_) (.slice A1 l1.length c1) l1)(h:sS.f k l0 l1=some r):
 Calls Try.prog 122 #[.slice A0 l0.length c0, .slice A1 l1.length c1] w λe w'=>∃z:Value,e= .returned (z)/\Kd.R (Kd.int .u32) 97 w' w.heap.size (λk_=>(w.heap.size<=k_)) z r/\Below w.heap.size w w':=by
 have E:=zk (show Kd.V (Kd.int .u32) 97 w w.heap.size (λk_=>((n k_\/s k_)\/w.heap.size<=k_)) (.slice A0 l0.length c0) l0 from Kd.jf J (λk_ hk=> .inl (.inl hk)))
 have P:=zk (show Kd.V (Kd.int .u32) 97 w w.heap.size (λk_=>((n k_\/s k_)\/w.heap.size<=k_)) (.slice A1 l1.length c1) l1 from Kd.jf W (λk_ hk=> .inl (.inr hk)))
 have HB:=zk (Below.refl w.heap.size w)
 have H:=h
 clear h
 unfold sS.f at H
 have H':=zk H
 clear H
 go_enter Try.func122,Try.ntmps122
 go_wp2
 go_loopg [0,1] k (λkq v0 v1 w'=>∃(d:List Int) (c:List Int),dw (sS.l0 kq d c=some r)/\dw (kq<=k)/\dw (Kd.V (Kd.int .u32) 97 w' w.heap.size (λk_=>((n k_\/s k_)\/w.heap.size<=k_)) v0 d)/\dw (Kd.V (Kd.int .u32) 97 w' w.heap.size (λk_=>((n k_\/s k_)\/w.heap.size<=k_)) v1 c)/\dw (Below w.heap.size w w'))
 case atStart=>exact⟨(l0),(l1),H',⟨Nat.le_refl _⟩,⟨zV E.out⟩,⟨zV P.out⟩,⟨zB HB.out⟩⟩
 clear H'
 obtain⟨d,c,HA,B,b,a,HB⟩:=hrel
 cases gk with|zero=>exact absurd HA.out (by simp [sS.l0])|succ k1=>?_
 have H:=HA.out
 clear HA
 simp only[sS.l0] at H
 replace H:=zb H
 obtain⟨u,A3,H⟩:=H
 by_cases c4:u=true
 ·subst c4
  rw[if_pos rfl] at H
  replace H:=zb H
  obtain⟨x,A5,H⟩:=H
  obtain rfl:=Option.some.inj H
  obtain⟨K,L,rfl⟩:=Kd.ku a.out
  go_wp2_with (first|((with_reducible refine gC 27 ?_);refine zG (some 8) Try.func27 #[.slice K c.length L] ?_;(with_reducible refine(qB.calls k1 _ _ c true _ ?ig ?ik A3.out).mono ?_);(case ig=>exact zC (Kd.jd a.out).2.2);(case ik=>exact(Kd.jd a.out).2.1);rintro e w7 ⟨rfl,hb⟩;refine⟨_,rfl,?_⟩;replace b:=jy b hb;replace a:=jy a hb;replace HB:=yS HB hb;(try clear hb);obtain⟨G,T,rfl⟩:=Kd.ku b.out)|((with_reducible refine gC 75 ?_);refine zG (some 19) Try.func75 #[.slice G d.length T] ?_;(with_reducible refine(lF.calls k1 _ _ d x _ ?ig ?ik A5.out).mono ?_);(case ig=>exact zC (Kd.jd b.out).2.2);(case ik=>exact(Kd.jd b.out).2.1);rintro e w9 ⟨O,rfl,g,hb⟩;refine⟨_,rfl,?_⟩;replace b:=mO b g hb;replace a:=mO a g hb;replace g:=Kd.oD (M:=λk_=>(w.heap.size<=k_)) g (iQ (zB HB.out)) (λk_ h_=>h_);have q:=jm g HB;replace HB:=yS HB hb;(try clear hb g)))
  go_ret
  exact⟨_,zE,by(with_reducible repeat(first|apply Kd.iT|apply Kd.iU|apply Kd.iJ));exact Kd.iZ q.out (λ_ hk=>hk.1),zB HB.out⟩
 replace c4:=Bool.eq_false_iff.mpr c4
 subst c4
 rw[if_neg Bool.false_ne_true] at H
 replace H:=zb H
 obtain⟨⟨v,o⟩,U,H⟩:=H
 dsimp only at H
 have H':=zk H
 clear H
 obtain⟨l,p,rfl⟩:=Kd.ku a.out
 go_wp2_with (first|((with_reducible refine gC 27 ?_);refine zG (some 8) Try.func27 #[.slice l c.length p] ?_;(with_reducible refine(qB.calls k1 _ _ c false _ ?ig ?ik A3.out).mono ?_);(case ig=>exact zC (Kd.jd a.out).2.2);(case ik=>exact(Kd.jd a.out).2.1);rintro e Y ⟨rfl,hb⟩;refine⟨_,rfl,?_⟩;replace b:=jy b hb;replace a:=jy a hb;replace HB:=yS HB hb;(try clear hb);obtain⟨y,t,rfl⟩:=Kd.ku b.out)|((with_reducible refine gC 123 ?_);refine zG (some 13) Try.func123 #[.slice y d.length t, .slice l c.length p] ?_;(with_reducible refine(qj.calls k1 _ _ d _ _ c v o _ ?ig ?ik ?iF ?iE U.out).mono ?_);(case ig=>exact zC (Kd.jd b.out).2.2);(case ik=>exact(Kd.jd b.out).2.1);(case iF=>exact zC (Kd.jd a.out).2.2);(case iE=>exact(Kd.jd a.out).2.1);rintro e X ⟨I,D,rfl,g,j,hb⟩;refine⟨_,rfl,?_⟩;replace b:=J4 b hb g j;replace a:=J4 a hb g j;replace g:=Kd.oD (M:=λk_=>(w.heap.size<=k_)) g (iQ (zB HB.out)) (λk_ h_=>h_);have A:=jm g HB;replace j:=Kd.oD (M:=λk_=>(w.heap.size<=k_)) j (iQ (zB HB.out)) (λk_ h_=>h_);have m:=jm j HB;replace HB:=yS HB hb;(try clear hb g j)))
 go_roundg k1
 case measure=>have:=B.out;omega
 case rel=>exact⟨(c),(o),H',⟨kP B⟩,⟨by(with_reducible repeat(first|apply Kd.nH|apply Kd.nG|apply Kd.lV));exact Kd.jf a.out (λ_ hk=>hk.1.1)⟩,⟨Kd.jf (Kd.vT (by(with_reducible repeat(first|apply Kd.iT|apply Kd.iU|apply Kd.iJ));exact Kd.iZ m.out (λ_ hk=>hk.1))) (λk_ hk=>by first|exact⟨(.inr (hk.1)),hk.2⟩|exact(.inr (hk)))⟩,⟨zB HB.out⟩⟩
theorem mP.calls(k:Nat)(a0:Bool)(A1:Option Addr)(c1:Nat)(l1:List Int)(A2:Option Addr)(c2:Nat)(l2:List Int)(r1:Bool)(r2:List Int)(r3:List Int)(w:World)(ao:Kd.C (Kd.int .u32) w A1 l1.length l1)(aq:l1.length<=c1)(an:Kd.C (Kd.int .u32) w A2 l2.length l2)(ar:l2.length<=c2)(h:mP.f k a0 l1 l2=some (r1,r2,r3)):
 Calls Try.prog 90 #[.bool a0, .slice A1 l1.length c1, .slice A2 l2.length c2] w λe w'=>∃ak ae:Value,e= .returned (.agg #[.bool r1,ak,ae])/\Kd.R (Kd.int .u32) 97 w' w.heap.size (λk_=>some k_≠(ae:Value).ownBlock) ak r2/\Kd.R (Kd.int .u32) 97 w' w.heap.size (λk_=>some k_≠(ak:Value).ownBlock) ae r3/\Below w.heap.size w w':=by
 have az:=Try.underlying60
 have T:=zk ao
 have X:=zk aq
 clear ao aq
 have aj:=zk an
 have a6:=zk ar
 clear an ar
 have HB:=zk (Below.refl w.heap.size w)
 have H:=h
 clear h
 unfold mP.f at H
 have a7:=zk H
 clear H
 go_enter Try.func90,Try.ntmps90
 go_upto_region 1 with(first|((with_reducible refine jc (N:=6) rfl ?_);refine jM ?hg (N:=6) ?hd (cs:= #[.bool false, .slice none 0 0, .slice none 0 0]) (t:=60) ?hr ?_;(case hd=>rfl);(case hg=>rfl);(case hr=>first|(go_simp;done)|(go_simp;rfl));intro p hg w5 hbox hb;have a:=zk (hbox);have ap:=yg hg HB;have b:=yg hg HB;replace HB:=yS HB hb;clear hb hbox hg))
 (try simp only[Act.put,List.setIfInBounds_toArray,List.set_cons_zero,List.set_cons_succ])
 go_cut [17] (λaF wc=>∃(kq:Nat) (o:Bool),aF= .bool o/\dw (mP.j0 kq a0 l1 l2 o=some (r1,r2,r3))/\dw (kq<=k)/\dw (wc.heap[p]?=some (.cells #[.bool false,(.slice none 0 0),(.slice none 0 0)] 60 (0,0)))/\dw (Below w.heap.size w wc))
 case first=>
  have H:=a7.out
  clear a7
  replace H:=zb H
  obtain⟨B,A6,H⟩:=H
  by_cases c7:B=true
  ·subst c7
   rw[if_pos rfl] at H
   have H':=zk H
   clear H
   go_wp2_with (first|((with_reducible refine gC 27 ?_);refine zG (some 13) Try.func27 #[.slice A1 l1.length c1] ?_;(with_reducible refine(qB.calls k _ _ l1 true _ ?ig ?ik A6.out).mono ?_);(case ig=>exact zC (Kd.iR T.out HB.out));(case ik=>exact X.out);rintro e w8 ⟨rfl,hb⟩;refine⟨_,rfl,?_⟩;replace a:=yK a hb;replace HB:=jg HB b hb;(try clear hb)))
   go_meet
   case rel=>exact⟨_,(true),zF,H',⟨zO⟩,⟨by(with_reducible repeat(first|refine iM ?_ _|refine iC ?_|refine iL ?_ _));exact a.out⟩,⟨iH HB.out b.out⟩⟩
  replace c7:=Bool.eq_false_iff.mpr c7
  subst c7
  rw[if_neg Bool.false_ne_true] at H
  replace H:=zb H
  obtain⟨v,A9,H⟩:=H
  have H':=zk H
  clear H
  go_wp2_with (first|((with_reducible refine gC 27 ?_);refine zG (some 13) Try.func27 #[.slice A1 l1.length c1] ?_;(with_reducible refine(qB.calls k _ _ l1 false _ ?ig ?ik A6.out).mono ?_);(case ig=>exact zC (Kd.iR T.out HB.out));(case ik=>exact X.out);rintro e aL ⟨rfl,hb⟩;refine⟨_,rfl,?_⟩;replace a:=yK a hb;replace HB:=jg HB b hb;(try clear hb))|(go_at_call 27;(with_reducible refine(qB.calls k _ _ l2 v _ ?ig ?ik A9.out).mono ?_);(case ig=>exact zC (Kd.iR aj.out HB.out));(case ik=>exact a6.out);rintro e aH ⟨rfl,hb⟩;replace a:=yK a hb;replace HB:=jg HB b hb;(try clear hb)))
  go_meet
  case rel=>exact⟨_,(v),zF,H',⟨zO⟩,⟨by(with_reducible repeat(first|refine iM ?_ _|refine iC ?_|refine iL ?_ _));exact a.out⟩,⟨iH HB.out b.out⟩⟩
 clear a7
 obtain⟨kq,o,rfl,HA,aM,a,HB⟩:=hcut
 cases kq with|zero=>exact absurd HA.out (by simp [mP.j0])|succ ah=>?_
 have H:=HA.out
 clear HA
 simp only[mP.j0] at H
 by_cases a3:o=true
 ·subst a3
  rw[if_pos rfl] at H
  obtain⟨E,s⟩:∃y_:List Int,y_=(([]:List Int)):=⟨_,rfl⟩
  replace H:(some (false,E,(([1]:List Int))))=some (r1,r2,r3):=zY s H
  have x:=zk s
  clear s
  obtain⟨ac,q⟩:∃y_:List Int,y_=(([1]:List Int)):=⟨_,rfl⟩
  rw[<-q] at H
  have A:=zk q
  clear q
  simp only[Option.some.injEq,Prod.mk.injEq] at H
  obtain⟨rfl,rfl,rfl⟩:=H
  go_wp2_with (first|((with_reducible refine jc (N:=18) rfl ?_);refine Kd.qG (Kd.int .u32) _ 97 ?hg (N:=18) ?hd (xs:=([]:List Int)) (inner:=[]) (ok:=λ_=>True) (je:=λ_=>True) ?hr ?hp (λ_ hk=>hk) trivial (Below.refl _ _) (Nat.le_refl _) (by simp) ?_;(case hd=>rfl);(case hg=>rfl);(case hr=>first|(go_simp;done)|(go_simp;rfl));(case hp=>exact(iY.none _ _));intro aA aN u hb jw jv;clear jw jv;(first|rw[<-x.out] at u|(simp only[Int.reduceToNat] at u;rw[<-x.out] at u));have m:=kY u HB b;replace a:=yK a hb;replace HB:=jg HB b hb;clear hb u)|((with_reducible refine jc (N:=19) rfl ?_);refine Kd.qG (Kd.int .u32) _ 97 ?hg (N:=19) ?hd (xs:=([1]:List Int)) (inner:=[.int .u32 1]) (ok:=λ_=>True) (je:=λ_=>True) ?hr ?hp (λ_ hk=>hk) trivial (Below.refl _ _) (Nat.le_refl _) (by simp) ?_;(case hd=>rfl);(case hg=>rfl);(case hr=>first|(go_simp;done)|(go_simp;rfl));(case hp=>exact(iY.one (show Kd.M (Kd.int .u32) _ _ _ 1 [.int .u32 1] from rfl) (iY.none _ _)));intro ay aO j hb jw jv;clear jw jv;(first|rw[<-A.out] at j|(simp only[Int.reduceToNat] at j;rw[<-A.out] at j));replace j:=yn j m;have y:=kY j HB b;replace m:=iG m j hb;replace a:=yK a hb;replace HB:=jg HB b hb;clear hb j;obtain⟨ad,aa,rfl⟩:=Kd.iD y.out;obtain⟨ag,ai,rfl⟩:=Kd.iD m.out;obtain⟨a1,a4,a2,W,Z,O⟩:=ja a))
  refine bodyPost_ret (results_cell_row rfl _ _ p 60 #[.bool false, .slice ag E.length ai, .slice ad ac.length aa] (0,0) _ rfl (sG a.out) Try.underlying60 rfl (by kernel_rfl)) rfl ?_
  exact⟨_,_,zE,by(with_reducible repeat(first|apply Kd.iT|apply Kd.iU|apply Kd.iJ));exact yf m.out a.out (λ_ hk=>hk.1.2),by(with_reducible repeat(first|apply Kd.iT|apply Kd.iU|apply Kd.iJ));exact yf y.out a.out (λ_ hk=>hk.1.2),iH HB.out b.out⟩
 replace a3:=Bool.eq_false_iff.mpr a3
 subst a3
 rw[if_neg Bool.false_ne_true] at H
 replace H:=zb H
 obtain⟨r,ax,H⟩:=H
 replace H:=zb H
 obtain⟨⟨G,a9⟩,aC,H⟩:=H
 dsimp only at H
 replace H:=zb H
 obtain⟨⟨J,a8⟩,av,H⟩:=H
 dsimp only at H
 simp only[Option.some.injEq,Prod.mk.injEq] at H
 obtain⟨rfl,rfl,rfl⟩:=H
 go_wp2_with (first|((with_reducible refine gC 122 ?_);refine zG (some 23) Try.func122 #[.slice A1 l1.length c1, .slice A2 l2.length c2] ?_;(with_reducible refine(sS.calls ah (λk_=>k_<w.heap.size) _ _ l1 (λk_=>k_<w.heap.size) _ _ l2 r _ ?ig ?ik ax.out).mono ?_);(case ig=>exact Kd.lT X.out (Kd.nZ (Kd.o6 (Kd.oW .u32) T.out) (iH HB.out b.out)));(case ik=>exact Kd.lT a6.out (Kd.nZ (Kd.o6 (Kd.oW .u32) aj.out) (iH HB.out b.out)));rintro e aI ⟨aG,rfl,d,hb⟩;refine⟨_,rfl,?_⟩;replace d:=yt d;have c:=kY d HB b;replace a:=yK a hb;replace HB:=jg HB b hb;(try clear hb d);obtain⟨D,I,rfl⟩:=Kd.iD c.out)|((with_reducible refine gC 123 ?_);refine zG (some 27) Try.func123 #[.slice A1 l1.length c1, .slice D r.length I] ?_;(with_reducible refine(qj.calls ah _ _ l1 _ _ r G a9 _ ?ig ?ik ?iF ?iE aC.out).mono ?_);(case ig=>exact zC (Kd.iR T.out HB.out));(case ik=>exact X.out);(case iF=>exact zC (Kd.iw c.out).2.2);(case iE=>exact(Kd.iw c.out).2.1);rintro e aK ⟨aw,aB,rfl,d,l,hb⟩;refine⟨_,rfl,?_⟩;replace d:=yn d c;have g:=kY d HB b;replace l:=yn l c;have n:=kY l HB b;replace c:=jS c hb d l;replace a:=yK a hb;replace HB:=jg HB b hb;(try clear hb d l))|((with_reducible refine gC 123 ?_);refine zG (some 33) Try.func123 #[.slice A2 l2.length c2, .slice D r.length I] ?_;(with_reducible refine(qj.calls ah _ _ l2 _ _ r J a8 _ ?ig ?ik ?iF ?iE av.out).mono ?_);(case ig=>exact zC (Kd.iR aj.out HB.out));(case ik=>exact a6.out);(case iF=>exact zC (Kd.iw c.out).2.2);(case iE=>exact(Kd.iw c.out).2.1);rintro e aJ ⟨aE,aD,rfl,d,l,hb⟩;refine⟨_,rfl,?_⟩;replace d:=yn d c;replace d:=yn d g;replace d:=yn d n;have z:=kY d HB b;replace l:=yn l c;replace l:=yn l g;replace l:=yn l n;have au:=kY l HB b;replace c:=jS c hb d l;replace g:=jS g hb d l;replace n:=jS n hb d l;replace a:=yK a hb;replace HB:=jg HB b hb;(try clear hb d l);obtain⟨am,al,rfl⟩:=Kd.iD z.out;obtain⟨af,ab,rfl⟩:=Kd.iD g.out;obtain⟨a5,Y,U,K,P,L⟩:=ja a))
 refine bodyPost_ret (results_cell_row rfl _ _ p 60 #[.bool a0, .slice af G.length ab, .slice am J.length al] (0,0) _ rfl (sG a.out) Try.underlying60 rfl (by kernel_rfl)) rfl ?_
 exact⟨_,_,zE,by(with_reducible repeat(first|apply Kd.iT|apply Kd.iU|apply Kd.iJ));exact yf g.out a.out (λ_ hk=>hk.1.1.2),by(with_reducible repeat(first|apply Kd.iT|apply Kd.iU|apply Kd.iJ));exact yf z.out a.out (λ_ hk=>hk.1.1.2),iH HB.out b.out⟩
theorem yF.calls(k:Nat)(a0:Int)(r:List Int)(w:World)(h:yF.f k a0=some r):
 Calls Try.prog 127 #[.int .i64 a0] w λe w'=>∃t:Value,e= .returned (t)/\Kd.R (Kd.int .u32) 97 w' w.heap.size (λ_=>True) t r/\Below w.heap.size w w':=by
 have HB:=zk (Below.refl w.heap.size w)
 have H:=h
 clear h
 unfold yF.f at H
 replace H:=jB H
 rcases H with⟨s,H⟩|⟨s,H⟩
 ·replace H:=zb H
  obtain⟨d,A3,H⟩:=H
  obtain⟨q,g⟩:∃y_:List Int,y_=(([1]:List Int)):=⟨_,rfl⟩
  rw[<-g] at H
  have j:=zk g
  clear g
  replace H:=zb H
  obtain⟨n,A4,H⟩:=H
  obtain rfl:=Option.some.inj H
  go_enter Try.func127,Try.ntmps127
  go_wp2_with (first|((with_reducible refine gC 23 ?_);refine zG (some 9) Try.func23 #[.int .u64 (IntKind.u64.wrap (wrap64 (-(wrap64 (a0+1)))))] ?_;(with_reducible refine(uA.calls k (IntKind.u64.wrap (wrap64 (-(wrap64 (a0+1))))) d _ A3.out).mono ?_);rintro e w5 ⟨D,rfl,c,hb⟩;refine⟨_,rfl,?_⟩;have a:=jm c HB;replace HB:=yS HB hb;(try clear hb c))|((with_reducible refine jc (N:=10) rfl ?_);refine Kd.qG (Kd.int .u32) _ 97 ?hg (N:=10) ?hd (xs:=([1]:List Int)) (inner:=[.int .u32 1]) (ok:=λ_=>True) (je:=λ_=>True) ?hr ?hp (λ_ hk=>hk) trivial (Below.refl _ _) (Nat.le_refl _) (by simp) ?_;(case hd=>rfl);(case hg=>rfl);(case hr=>first|(go_simp;done)|(go_simp;rfl));(case hp=>exact(iY.one (show Kd.M (Kd.int .u32) _ _ _ 1 [.int .u32 1] from rfl) (iY.none _ _)));intro u w6 l hb jw jv;clear jw jv;(first|rw[<-j.out] at l|(simp only[Int.reduceToNat] at l;rw[<-j.out] at l));replace l:=yn l a;have b:=jm l HB;replace a:=iG a l hb;replace HB:=yS HB hb;clear hb l;obtain⟨y,B,rfl⟩:=Kd.iD a.out;obtain⟨E,z,rfl⟩:=Kd.iD b.out)|((with_reducible refine gC 86 ?_);refine zG (some 11) Try.func86 #[.slice y d.length B, .slice E q.length z] ?_;(with_reducible refine(ny.calls k _ _ d _ _ q n _ ?ig ?ik ?iF ?iE A4.out).mono ?_);(case ig=>exact zC (Kd.iw a.out).2.2);(case ik=>exact(Kd.iw a.out).2.1);(case iF=>exact zC (Kd.iw b.out).2.2);(case iE=>exact(Kd.iw b.out).2.1);rintro e G ⟨x,rfl,c,hb⟩;refine⟨_,rfl,?_⟩;replace c:=yn c a;replace c:=yn c b;have p:=jm c HB;replace a:=iG a c hb;replace b:=iG b c hb;replace HB:=yS HB hb;(try clear hb c)))
  go_ret
  exact⟨_,zE,by(with_reducible repeat(first|apply Kd.iT|apply Kd.iU|apply Kd.iJ));exact Kd.iZ p.out (λ_ hk=>trivial),zB HB.out⟩
 replace H:=zb H
 obtain⟨m,v,H⟩:=H
 obtain rfl:=Option.some.inj H
 go_enter Try.func127,Try.ntmps127
 go_wp2_with (first|((with_reducible refine gC 23 ?_);refine zG (some 14) Try.func23 #[.int .u64 (IntKind.u64.wrap (a0))] ?_;(with_reducible refine(uA.calls k (IntKind.u64.wrap (a0)) m _ v.out).mono ?_);rintro e I ⟨A,rfl,c,hb⟩;refine⟨_,rfl,?_⟩;have o:=jm c HB;replace HB:=yS HB hb;(try clear hb c)))
 go_ret
 exact⟨_,zE,zR o.out,zB HB.out⟩
theorem Cc.calls(k:Nat)(a0:Int)(a1:Int)(r1:Bool)(r2:List Int)(r3:List Int)(w:World)(h:Cc.f k a0 a1=some (r1,r2,r3)):
 Calls Try.prog 97 #[.int .i64 a0, .int .i64 a1] w λe w'=>∃L G:Value,e= .returned (.agg #[.bool r1,L,G])/\Kd.R (Kd.int .u32) 97 w' w.heap.size (λk_=>some k_≠(G:Value).ownBlock) L r2/\Kd.R (Kd.int .u32) 97 w' w.heap.size (λk_=>some k_≠(L:Value).ownBlock) G r3/\Below w.heap.size w w':=by
 have T:=Try.underlying60
 have HB:=zk (Below.refl w.heap.size w)
 have H:=h
 clear h
 unfold Cc.f at H
 replace H:=zb H
 obtain⟨l,A3,H⟩:=H
 replace H:=zb H
 obtain⟨j,A4,H⟩:=H
 replace H:=zb H
 obtain⟨⟨s,r,u⟩,A5,H⟩:=H
 dsimp only at H
 simp only[Option.some.injEq,Prod.mk.injEq] at H
 obtain⟨rfl,rfl,rfl⟩:=H
 go_enter Try.func97,Try.ntmps97
 go_wp2_with (first|((with_reducible refine jc (N:=4) rfl ?_);refine jM ?hg (N:=4) ?hd (cs:= #[.bool false, .slice none 0 0, .slice none 0 0]) (t:=60) ?hr ?_;(case hd=>rfl);(case hg=>rfl);(case hr=>first|(go_simp;done)|(go_simp;rfl));intro q hg w6 hbox hb;have a:=zk (hbox);have O:=yg hg HB;have c:=yg hg HB;replace HB:=yS HB hb;clear hb hbox hg)|((with_reducible refine gC 127 ?_);refine zG (some 11) Try.func127 #[.int .i64 a0] ?_;(with_reducible refine(yF.calls k a0 l _ A3.out).mono ?_);rintro e w7 ⟨X,rfl,g,hb⟩;refine⟨_,rfl,?_⟩;have b:=kY g HB c;replace a:=yK a hb;replace HB:=jg HB c hb;(try clear hb g))|((with_reducible refine gC 127 ?_);refine zG (some 13) Try.func127 #[.int .i64 a1] ?_;(with_reducible refine(yF.calls k a1 j _ A4.out).mono ?_);rintro e w8 ⟨W,rfl,g,hb⟩;refine⟨_,rfl,?_⟩;replace g:=yn g b;have d:=kY g HB c;replace b:=iG b g hb;replace a:=yK a hb;replace HB:=jg HB c hb;(try clear hb g);obtain⟨Z,Y,rfl⟩:=Kd.iD b.out;obtain⟨J,M,rfl⟩:=Kd.iD d.out)|((with_reducible refine gC 90 ?_);refine zG (some 14) Try.func90 #[.bool ((decide (a0<0)) != (decide (a1<0))), .slice Z l.length Y, .slice J j.length M] ?_;(with_reducible refine(mP.calls k ((decide (a0<0)) != (decide (a1<0))) _ _ l _ _ j s r u _ ?ig ?ik ?iF ?iE A5.out).mono ?_);(case ig=>exact zC (Kd.iw b.out).2.2);(case ik=>exact(Kd.iw b.out).2.1);(case iF=>exact zC (Kd.iw d.out).2.2);(case iE=>exact(Kd.iw d.out).2.1);rintro e a2 ⟨U,P,rfl,g,p,hb⟩;refine⟨_,rfl,?_⟩;replace g:=yn g b;replace g:=yn g d;have o:=kY g HB c;replace p:=yn p b;replace p:=yn p d;have n:=kY p HB c;replace b:=jS b hb g p;replace d:=jS d hb g p;replace a:=yK a hb;replace HB:=jg HB c hb;(try clear hb g p);obtain⟨y,A,z,B,v,x⟩:=ja a;obtain⟨K,E,rfl⟩:=Kd.iD o.out;obtain⟨D,I,rfl⟩:=Kd.iD n.out))
 refine bodyPost_ret (results_cell_row rfl _ _ q 60 #[.bool s, .slice K r.length E, .slice D u.length I] (0,0) _ rfl (sG a.out) Try.underlying60 rfl (by kernel_rfl)) rfl ?_
 exact⟨_,_,zE,by(with_reducible repeat(first|apply Kd.iT|apply Kd.iU|apply Kd.iJ));exact yf o.out a.out (λ_ hk=>hk.1.1.1),by(with_reducible repeat(first|apply Kd.iT|apply Kd.iU|apply Kd.iJ));exact yf n.out a.out (λ_ hk=>hk.1.1.1),iH HB.out c.out⟩
theorem yG.calls(k:Nat)(a0:Int)(r1:Bool)(r2:List Int)(r3:List Int)(w:World)(h:yG.f k a0=some (r1,r2,r3)):
 Calls Try.prog 48 #[.int .i64 a0] w λe w'=>∃q u:Value,e= .returned (.agg #[.bool r1,q,u])/\Kd.R (Kd.int .u32) 97 w' w.heap.size (λk_=>some k_≠(u:Value).ownBlock) q r2/\Kd.R (Kd.int .u32) 97 w' w.heap.size (λk_=>some k_≠(q:Value).ownBlock) u r3/\Below w.heap.size w w':=by
 have G:=Try.underlying60
 have HB:=zk (Below.refl w.heap.size w)
 have H:=h
 clear h
 unfold yG.f at H
 replace H:=zb H
 obtain⟨⟨m,n,l⟩,A2,H⟩:=H
 dsimp only at H
 simp only[Option.some.injEq,Prod.mk.injEq] at H
 obtain⟨rfl,rfl,rfl⟩:=H
 go_enter Try.func48,Try.ntmps48
 go_wp2_with (first|((with_reducible refine jc (N:=2) rfl ?_);refine jM ?hg (N:=2) ?hd (cs:= #[.bool false, .slice none 0 0, .slice none 0 0]) (t:=60) ?hr ?_;(case hd=>rfl);(case hg=>rfl);(case hr=>first|(go_simp;done)|(go_simp;rfl));intro j hg w3 hbox hb;have a:=zk (hbox);have y:=yg hg HB;have b:=yg hg HB;replace HB:=yS HB hb;clear hb hbox hg)|((with_reducible refine gC 97 ?_);refine zG (some 4) Try.func97 #[.int .i64 a0, .int .i64 1] ?_;(with_reducible refine(Cc.calls k a0 1 m n l _ A2.out).mono ?_);rintro e w4 ⟨K,I,rfl,z,A,hb⟩;refine⟨_,rfl,?_⟩;have g:=kY z HB b;have d:=kY A HB b;replace a:=yK a hb;replace HB:=jg HB b hb;(try clear hb z A);obtain⟨x,s,r,v,o,p⟩:=ja a;obtain⟨D,E,rfl⟩:=Kd.iD g.out;obtain⟨J,B,rfl⟩:=Kd.iD d.out))
 refine bodyPost_ret (results_cell_row rfl _ _ j 60 #[.bool m, .slice D n.length E, .slice J l.length B] (0,0) _ rfl (sG a.out) Try.underlying60 rfl (by kernel_rfl)) rfl ?_
 exact⟨_,_,zE,by(with_reducible repeat(first|apply Kd.iT|apply Kd.iU|apply Kd.iJ));exact yf g.out a.out (λ_ hk=>hk.1),by(with_reducible repeat(first|apply Kd.iT|apply Kd.iU|apply Kd.iJ));exact yf d.out a.out (λ_ hk=>hk.1),iH HB.out b.out⟩
theorem kC.calls(k:Nat)(A0:Option Addr)(c0:Nat)(l0:List Int)(A1:Option Addr)(c1:Nat)(l1:List Int)(r:List Int)(w:World)(b0:Kd.C (Kd.int .u32) w A0 l0.length l0)(aU:l0.length<=c0)(aT:Kd.C (Kd.int .u32) w A1 l1.length l1)(b3:l1.length<=c1)(h:kC.f k l0 l1=some r):
 Calls Try.prog 26 #[.slice A0 l0.length c0, .slice A1 l1.length c1] w λe w'=>∃aZ:Value,e= .returned (aZ)/\Kd.R (Kd.int .u32) 97 w' w.heap.size (λ_=>True) aZ r/\Below w.heap.size w w':=by
 have b6:=zk b0
 have bi:=zk aU
 clear b0 aU
 have bc:=zk aT
 have bh:=zk b3
 clear aT b3
 have HB:=zk (Below.refl w.heap.size w)
 have H:=h
 clear h
 unfold kC.f at H
 obtain⟨a5,a1⟩:∃j_:Int,(wrap64 ((l0.length:Int)+(l1.length:Int)))=j_:=⟨_,rfl⟩
 first|rw[a1] at H|simp only[a1] at H
 have b1:(IntKind.i64.wrap ((l0.length:Int)+(l1.length:Int)))=a5:=(iI _).trans a1
 replace H:=zg H
 obtain⟨c4,H⟩:=H
 have aL:=eq_true c4
 have az:=decide_eq_true c4
 clear c4
 replace H:=zg H
 obtain⟨c5,H⟩:=H
 have ax:=eq_true c5
 have aA:=decide_eq_true c5
 clear c5
 obtain⟨aD,K⟩:∃y_:List Int,y_=(List.replicate (a5:Int).toNat 0):=⟨_,rfl⟩
 rw[<-K] at H
 have s:=zk K
 clear K
 have H':=zk H
 clear H
 go_enter Try.func26,Try.ntmps26
 go_wp2_with (first|((with_reducible refine jc (N:=15) rfl ?_);refine Kd.ug (Kd.int .u32) _ 97 rfl (N:=15) rfl 29 _ _ rfl a5 rfl rfl Try.underlying29 (.int .u32 0) 4 rZ rfl (by decide) (by omega) 0 (ok:=λ_=>True) (je:=λ_=>True) rfl (λ_ hk=>hk) trivial zd (Nat.le_trans (Nat.mul_le_mul_right _ (zd:a5.toNat<=70368744177664)) (by omega)) (Below.refl _ _) (Nat.le_refl _) ?_;intro a3 w6 A hb jw jv;clear jw jv;(first|rw[<-s.out] at A|(simp only[Int.reduceToNat] at A;rw[<-s.out] at A));have Z:=jm A HB;replace HB:=yS HB hb;clear hb A))
 repeat(go_quiet (first|((with_reducible refine jc (N:=15) rfl ?_);refine Kd.ug (Kd.int .u32) _ 97 rfl (N:=15) rfl 29 _ _ rfl a5 rfl rfl Try.underlying29 (.int .u32 0) 4 rZ rfl (by decide) (by omega) 0 (ok:=λ_=>True) (je:=λ_=>True) rfl (λ_ hk=>hk) trivial zd (Nat.le_trans (Nat.mul_le_mul_right _ (zd:a5.toNat<=70368744177664)) (by omega)) (Below.refl _ _) (Nat.le_refl _) ?_;intro a3 w6 A hb jw jv;clear jw jv;(first|rw[<-s.out] at A|(simp only[Int.reduceToNat] at A;rw[<-s.out] at A));have Z:=jm A HB;replace HB:=yS HB hb;clear hb A));try go_wp2_with (first|((with_reducible refine jc (N:=15) rfl ?_);refine Kd.ug (Kd.int .u32) _ 97 rfl (N:=15) rfl 29 _ _ rfl a5 rfl rfl Try.underlying29 (.int .u32 0) 4 rZ rfl (by decide) (by omega) 0 (ok:=λ_=>True) (je:=λ_=>True) rfl (λ_ hk=>hk) trivial zd (Nat.le_trans (Nat.mul_le_mul_right _ (zd:a5.toNat<=70368744177664)) (by omega)) (Below.refl _ _) (Nat.le_refl _) ?_;intro a3 w6 A hb jw jv;clear jw jv;(first|rw[<-s.out] at A|(simp only[Int.reduceToNat] at A;rw[<-s.out] at A));have n:=jm A HB;have m:=yS HB hb;clear HB;have Z:=n;have HB:=m;clear n m;clear hb A)))
 go_loopg [6] k (λkq v6 w'=>∃(D:List Int) (d:Int),v6= .int .i64 d/\dw (kC.l0 kq l0 l1 D d=some r)/\dw (kq<=k)/\dw (Kd.R (Kd.int .u32) 97 w' w.heap.size (λ_=>True) a3 D)/\dw (Below w.heap.size w w'))
 case atStart=>exact⟨(aD),(0),zF,H',⟨Nat.le_refl _⟩,⟨zR Z.out⟩,⟨zB HB.out⟩⟩
 clear H'
 (try clear aL az ax aA)
 obtain⟨D,d,rfl,HA,aq,a,HB⟩:=hrel
 cases gk with|zero=>exact absurd HA.out (by simp [kC.l0])|succ k1=>?_
 have H:=HA.out
 clear HA
 simp only[kC.l0] at H
 replace H:=jB H
 rcases H with⟨ao,H⟩|⟨ao,H⟩
 ·have H':=zk H
  clear H
  go_wp2
  repeat(go_quiet (fail);try go_wp2)
  go_loopg [7,8] k1 (λkq v7 v8 w'=>∃(c:List Int) (g:Int) (j:Int),v7= .int .u64 g/\v8= .int .i64 j/\dw (kC.l1 kq l0 l1 c d g j=some r)/\dw (kq<=k1)/\dw (Kd.R (Kd.int .u32) 97 w' w.heap.size (λ_=>True) a3 c)/\dw (Below w.heap.size w w'))
  case atStart=>exact⟨(D),(0),(0),zF,zF,H',⟨Nat.le_refl _⟩,⟨zR a.out⟩,⟨zB HB.out⟩⟩
  clear H'
  (try clear ao)
  obtain⟨c,g,j,rfl,rfl,HA,ap,a,HB⟩:=hrel
  cases gk with|zero=>exact absurd HA.out (by simp [kC.l1])|succ k2=>?_
  have H:=HA.out
  clear HA
  simp only[kC.l1] at H
  replace H:=jB H
  rcases H with⟨aN,H⟩|⟨aN,H⟩
  ·replace H:=iV H
   obtain⟨a_,H⟩:=H
   replace H:=iV H
   obtain⟨aR,H⟩:=H
   replace H:=iV H
   obtain⟨b4,H⟩:=H
   obtain⟨b,E⟩:∃j_:Int,(wrap64 (d+j))=j_:=⟨_,rfl⟩
   first|rw[E] at H|simp only[E] at H
   have aK:(IntKind.i64.wrap (d+j))=b:=(iI _).trans E
   replace H:=iV H
   obtain⟨aX,H⟩:=H
   replace H:=iV H
   obtain⟨b2,H⟩:=H
   obtain⟨a0,Y⟩:∃y_:List Int,y_=(c.set ((b):Int).toNat ((Int.tmod (IntKind.u64.wrap ((IntKind.u64.wrap ((IntKind.u64.wrap ((IntKind.u64.wrap (rd l0 d))*(IntKind.u64.wrap (rd l1 j))))+(IntKind.u64.wrap (rd c (b)))))+g)) 4294967296) % 4294967296)):=⟨_,rfl⟩
   rw[<-Y] at H
   have X:=zk Y
   clear Y
   have H':=zk H
   clear H
   have ac:0<=(d:Int):=zd
   have a9:d<(l0.length:Int):=zd
   obtain⟨aV,aJ,y⟩:=Kd.jG b6.out d ac a9
   cases aJ
   replace y:=(HB.out.cell (World.block_lt_of_cell? w _ y)).trans y
   replace ac:=eq_true ac
   replace a9:=eq_true a9
   have af:0<=(j:Int):=zd
   have ag:j<(l1.length:Int):=zd
   obtain⟨aS,av,u⟩:=Kd.jG bc.out j af ag
   cases av
   replace u:=(HB.out.cell (World.block_lt_of_cell? w _ u)).trans u
   replace af:=eq_true af
   replace ag:=eq_true ag
   obtain⟨b7,a7,rfl⟩:=Kd.iD a.out
   have a6:0<=((b):Int):=zd
   have ab:(b)<(c.length:Int):=zd
   obtain⟨aY,aO,a2⟩:=Kd.jG (Kd.iw a.out).2.2 (b) a6 ab
   cases aO
   replace a6:=eq_true a6
   replace ab:=eq_true ab
   have ay:0<=((b):Int):=zd
   have ar:((b):Int)<((c.length:Int):Int):=zd
   obtain⟨z,bg,al,aj,aF,be,an⟩:=Kd.qO a.out (by omega)
   (first|cases al|(injection al with iW kL kM;(first|subst iW|(injection iW with iW;subst iW));subst kM;clear kL))
   have ae:=zk aj
   have bf:=zk an
   clear aj aF an
   (first|simp only[add_plain] at a2|skip)
   obtain⟨aH,aw⟩:=Kd.nT 0 a.out ((b):Int) ay ar
   replace ay:=eq_true ay
   replace ar:=eq_true ar
   obtain⟨P,G⟩:=Kd.nT 0 a.out ((b):Int) zd zd
   have o:=Kd.qY a.out ((b):Int) ((Int.tmod (IntKind.u64.wrap ((IntKind.u64.wrap ((IntKind.u64.wrap ((IntKind.u64.wrap (rd l0 d))*(IntKind.u64.wrap (rd l1 j))))+(IntKind.u64.wrap (rd c (b)))))+g)) 4294967296) % 4294967296)
   go_wp2_with (first|((with_reducible refine qM (t:=97) (p:=56) rfl ?_);(try(rw[AX wr];generalize oK:World.drewN wr _=wr;have n:=zk (Kd.Dt oK a.out);have m:=zk (Di oK HB.out);clear oK a HB;have a:=n;have HB:=m;clear n m;(try(obtain⟨P,G⟩:=Kd.nT 0 a.out ((b):Int) zd zd));(try(have o:=Kd.qY a.out ((b):Int) ((Int.tmod (IntKind.u64.wrap ((IntKind.u64.wrap ((IntKind.u64.wrap ((IntKind.u64.wrap (rd l0 d))*(IntKind.u64.wrap (rd l1 j))))+(IntKind.u64.wrap (rd c (b)))))+g)) 4294967296) % 4294967296)))));refine qJ (t:=97) (p:=56) (v:=?Hr) (w1:=(wr.setCell ⟨z,((b):Int).toNat,none⟩ (.int .u32 ((Int.tmod (IntKind.u64.wrap ((IntKind.u64.wrap ((IntKind.u64.wrap ((IntKind.u64.wrap (rd l0 d))*(IntKind.u64.wrap (rd l1 j))))+(IntKind.u64.wrap (rd c (b)))))+g)) 4294967296) % 4294967296)))) ?hg ?ho ?hn ?hr ?_;(case ho=>rfl);(case hg=>rfl);(case hn=>rfl);(case hr=>first|(go_simp;done)|(go_simp;rfl));intro J hw;have hg:wr.grownBy J (some z):=(by rw[hw];exact o.2);have jY:Kd.R (Kd.int .u32) 97 J w.heap.size (λ_=>True) (.slice (some ⟨z,0,none⟩) c.length a7) a0:=(by rw[hw,X.out];exact o.1);clear o;replace a:=zk (jY);replace HB:=zk ((by rw[hw];exact lS (HB.out) ae.out:Below w.heap.size w J));clear hg hw jY))
   repeat(go_quiet (first|((with_reducible refine qM (t:=97) (p:=56) rfl ?_);(try(rw[AX wr];generalize oK:World.drewN wr _=wr;have n:=zk (Kd.Dt oK a.out);have m:=zk (Di oK HB.out);clear oK a HB;have a:=n;have HB:=m;clear n m;(try(obtain⟨P,G⟩:=Kd.nT 0 a.out ((b):Int) zd zd));(try(have o:=Kd.qY a.out ((b):Int) ((Int.tmod (IntKind.u64.wrap ((IntKind.u64.wrap ((IntKind.u64.wrap ((IntKind.u64.wrap (rd l0 d))*(IntKind.u64.wrap (rd l1 j))))+(IntKind.u64.wrap (rd c (b)))))+g)) 4294967296) % 4294967296)))));refine qJ (t:=97) (p:=56) (v:=?Hr) (w1:=(wr.setCell ⟨z,((b):Int).toNat,none⟩ (.int .u32 ((Int.tmod (IntKind.u64.wrap ((IntKind.u64.wrap ((IntKind.u64.wrap ((IntKind.u64.wrap (rd l0 d))*(IntKind.u64.wrap (rd l1 j))))+(IntKind.u64.wrap (rd c (b)))))+g)) 4294967296) % 4294967296)))) ?hg ?ho ?hn ?hr ?_;(case ho=>rfl);(case hg=>rfl);(case hn=>rfl);(case hr=>first|(go_simp;done)|(go_simp;rfl));intro J hw;have hg:wr.grownBy J (some z):=(by rw[hw];exact o.2);have jY:Kd.R (Kd.int .u32) 97 J w.heap.size (λ_=>True) (.slice (some ⟨z,0,none⟩) c.length a7) a0:=(by rw[hw,X.out];exact o.1);clear o;replace a:=zk (jY);replace HB:=zk ((by rw[hw];exact lS (HB.out) ae.out:Below w.heap.size w J));clear hg hw jY));try go_wp2_with (first|((with_reducible refine qM (t:=97) (p:=56) rfl ?_);(try(rw[AX wr];generalize oK:World.drewN wr _=wr;have n:=zk (Kd.Dt oK a.out);have m:=zk (Di oK HB.out);clear oK a HB;have a:=n;have HB:=m;clear n m;(try(obtain⟨P,G⟩:=Kd.nT 0 a.out ((b):Int) zd zd));(try(have o:=Kd.qY a.out ((b):Int) ((Int.tmod (IntKind.u64.wrap ((IntKind.u64.wrap ((IntKind.u64.wrap ((IntKind.u64.wrap (rd l0 d))*(IntKind.u64.wrap (rd l1 j))))+(IntKind.u64.wrap (rd c (b)))))+g)) 4294967296) % 4294967296)))));refine qJ (t:=97) (p:=56) (v:=?Hr) (w1:=(wr.setCell ⟨z,((b):Int).toNat,none⟩ (.int .u32 ((Int.tmod (IntKind.u64.wrap ((IntKind.u64.wrap ((IntKind.u64.wrap ((IntKind.u64.wrap (rd l0 d))*(IntKind.u64.wrap (rd l1 j))))+(IntKind.u64.wrap (rd c (b)))))+g)) 4294967296) % 4294967296)))) ?hg ?ho ?hn ?hr ?_;(case ho=>rfl);(case hg=>rfl);(case hn=>rfl);(case hr=>first|(go_simp;done)|(go_simp;rfl));intro J hw;have hg:wr.grownBy J (some z):=(by rw[hw];exact o.2);have jY:Kd.R (Kd.int .u32) 97 J w.heap.size (λ_=>True) (.slice (some ⟨z,0,none⟩) c.length a7) a0:=(by rw[hw,X.out];exact o.1);clear o;have n:=zk (jY);have m:=zk ((by rw[hw];exact lS (HB.out) ae.out:Below w.heap.size w J));clear a;clear HB;have a:=n;have HB:=m;clear n m;clear hg hw jY)))
   go_roundg k2
   case measure=>have:=aq.out;have:=ap.out;omega
   case rel=>exact⟨(a0),(IntKind.u64.wrap (Int.tdiv (IntKind.u64.wrap ((IntKind.u64.wrap ((IntKind.u64.wrap ((IntKind.u64.wrap (rd l0 d))*(IntKind.u64.wrap (rd l1 j))))+(IntKind.u64.wrap (rd c (b)))))+g)) 4294967296)),(wrap64 (j+1)),(by first|rfl|(simp;done)|(simp only[<-E]<;>(first|rfl|simp))|(simp [*];done)),zF,H',⟨lW aq ap⟩,⟨zR a.out⟩,⟨zB HB.out⟩⟩
  obtain⟨l,W⟩:∃j_:Int,(wrap64 (d+(l1.length:Int)))=j_:=⟨_,rfl⟩
  first|rw[W] at H|simp only[W] at H
  have au:(IntKind.i64.wrap (d+(l1.length:Int)))=l:=(iI _).trans W
  replace H:=iV H
  obtain⟨b5,H⟩:=H
  replace H:=iV H
  obtain⟨aP,H⟩:=H
  obtain⟨a4,T⟩:∃y_:List Int,y_=(c.set ((l):Int).toNat ((g) % 4294967296)):=⟨_,rfl⟩
  rw[<-T] at H
  have O:=zk T
  clear T
  have H':=zk H
  clear H
  have aM:0<=((l):Int):=zd
  have aB:((l):Int)<((c.length:Int):Int):=zd
  obtain⟨x,a8,ai,am,aC,bb,ah⟩:=Kd.qO a.out (by omega)
  (first|cases ai|(injection ai with iW kL kM;(first|subst iW|(injection iW with iW;subst iW));subst kM;clear kL))
  have aa:=zk am
  have b8:=zk ah
  clear am aC ah
  obtain⟨aE,aG⟩:=Kd.nT 0 a.out ((l):Int) aM aB
  replace aM:=eq_true aM
  replace aB:=eq_true aB
  obtain⟨U,L⟩:=Kd.nT 0 a.out ((l):Int) zd zd
  have q:=Kd.qY a.out ((l):Int) ((g) % 4294967296)
  go_wp2_with (first|((with_reducible refine qM (t:=97) (p:=66) rfl ?_);(try(rw[AX wr];generalize oK:World.drewN wr _=wr;have n:=zk (Kd.Dt oK a.out);have m:=zk (Di oK HB.out);clear oK a HB;have a:=n;have HB:=m;clear n m;(try(obtain⟨U,L⟩:=Kd.nT 0 a.out ((l):Int) zd zd));(try(have q:=Kd.qY a.out ((l):Int) ((g) % 4294967296)))));refine qJ (t:=97) (p:=66) (v:=?KL) (w1:=(wr.setCell ⟨x,((l):Int).toNat,none⟩ (.int .u32 ((g) % 4294967296)))) ?hg ?ho ?hn ?hr ?_;(case ho=>rfl);(case hg=>rfl);(case hn=>rfl);(case hr=>first|(go_simp;done)|(go_simp;rfl));intro I hw;have hg:wr.grownBy I (some x):=(by rw[hw];exact q.2);have jY:Kd.R (Kd.int .u32) 97 I w.heap.size (λ_=>True) (.slice (some ⟨x,0,none⟩) c.length a8) a4:=(by rw[hw,O.out];exact q.1);clear q;replace a:=zk (jY);replace HB:=zk ((by rw[hw];exact lS (HB.out) aa.out:Below w.heap.size w I));clear hg hw jY))
  repeat(go_quiet (first|((with_reducible refine qM (t:=97) (p:=66) rfl ?_);(try(rw[AX wr];generalize oK:World.drewN wr _=wr;have n:=zk (Kd.Dt oK a.out);have m:=zk (Di oK HB.out);clear oK a HB;have a:=n;have HB:=m;clear n m;(try(obtain⟨U,L⟩:=Kd.nT 0 a.out ((l):Int) zd zd));(try(have q:=Kd.qY a.out ((l):Int) ((g) % 4294967296)))));refine qJ (t:=97) (p:=66) (v:=?KL) (w1:=(wr.setCell ⟨x,((l):Int).toNat,none⟩ (.int .u32 ((g) % 4294967296)))) ?hg ?ho ?hn ?hr ?_;(case ho=>rfl);(case hg=>rfl);(case hn=>rfl);(case hr=>first|(go_simp;done)|(go_simp;rfl));intro I hw;have hg:wr.grownBy I (some x):=(by rw[hw];exact q.2);have jY:Kd.R (Kd.int .u32) 97 I w.heap.size (λ_=>True) (.slice (some ⟨x,0,none⟩) c.length a8) a4:=(by rw[hw,O.out];exact q.1);clear q;replace a:=zk (jY);replace HB:=zk ((by rw[hw];exact lS (HB.out) aa.out:Below w.heap.size w I));clear hg hw jY));try go_wp2_with (first|((with_reducible refine qM (t:=97) (p:=66) rfl ?_);(try(rw[AX wr];generalize oK:World.drewN wr _=wr;have n:=zk (Kd.Dt oK a.out);have m:=zk (Di oK HB.out);clear oK a HB;have a:=n;have HB:=m;clear n m;(try(obtain⟨U,L⟩:=Kd.nT 0 a.out ((l):Int) zd zd));(try(have q:=Kd.qY a.out ((l):Int) ((g) % 4294967296)))));refine qJ (t:=97) (p:=66) (v:=?KL) (w1:=(wr.setCell ⟨x,((l):Int).toNat,none⟩ (.int .u32 ((g) % 4294967296)))) ?hg ?ho ?hn ?hr ?_;(case ho=>rfl);(case hg=>rfl);(case hn=>rfl);(case hr=>first|(go_simp;done)|(go_simp;rfl));intro I hw;have hg:wr.grownBy I (some x):=(by rw[hw];exact q.2);have jY:Kd.R (Kd.int .u32) 97 I w.heap.size (λ_=>True) (.slice (some ⟨x,0,none⟩) c.length a8) a4:=(by rw[hw,O.out];exact q.1);clear q;have n:=zk (jY);have m:=zk ((by rw[hw];exact lS (HB.out) aa.out:Below w.heap.size w I));clear a;clear HB;have a:=n;have HB:=m;clear n m;clear hg hw jY)))
  go_roundg k2
  case measure=>have:=aq.out;have:=ap.out;omega
  case rel=>exact⟨(a4),(wrap64 (d+1)),zF,H',⟨lW aq ap⟩,⟨zR a.out⟩,⟨zB HB.out⟩⟩
 replace H:=zb H
 obtain⟨ad,aI,H⟩:=H
 obtain rfl:=Option.some.inj H
 obtain⟨ba,b9,rfl⟩:=Kd.iD a.out
 go_wp2_with (first|(go_at_call 75;(with_reducible refine(lF.calls k1 _ _ D ad _ ?ig ?ik aI.out).mono ?_);(case ig=>exact zC (Kd.iw a.out).2.2);(case ik=>exact(Kd.iw a.out).2.1);rintro e aQ ⟨ak,rfl,B,hb⟩;replace B:=yn B a;have M:=jm B HB;replace a:=iG a B hb;replace HB:=yS HB hb;(try clear hb B)))
 repeat(go_quiet (first|(go_at_call 75;(with_reducible refine(lF.calls k1 _ _ D ad _ ?ig ?ik aI.out).mono ?_);(case ig=>exact zC (Kd.iw a.out).2.2);(case ik=>exact(Kd.iw a.out).2.1);rintro e aQ ⟨ak,rfl,B,hb⟩;replace B:=yn B a;have M:=jm B HB;replace a:=iG a B hb;replace HB:=yS HB hb;(try clear hb B)));try go_wp2_with (first|(go_at_call 75;(with_reducible refine(lF.calls k1 _ _ D ad _ ?ig ?ik aI.out).mono ?_);(case ig=>exact zC (Kd.iw a.out).2.2);(case ik=>exact(Kd.iw a.out).2.1);rintro e aQ ⟨ak,rfl,B,hb⟩;have n:=iG a B hb;have m:=zk (Kd.zI (Kd.GV B (Kd.qZ (zR a.out))) (iQ (zB HB.out)));have aW:=yS HB hb;clear a;clear HB;have a:=n;have M:=m;have HB:=aW;clear n m aW;(try clear hb B))))
 go_ret
 exact⟨_,by first|rfl|(simp [kV,kU]<;>rfl)|(simp only[<-a1];first|rfl|(simp [kV,kU]<;>rfl))|(simp [*,kV,kU]<;>rfl),by(with_reducible repeat(first|apply Kd.iT|apply Kd.iU|apply Kd.iJ));exact Kd.iZ M.out (λ_ hk=>trivial),zB HB.out⟩
theorem qA.calls(k:Nat)(n:Bool)(q:Option Addr)(r:Nat)(g:List Int)(s:Option Addr)(p:Nat)(d:List Int)(r1:Bool)(r2:List Int)(r3:List Int)(w:World)(v:Kd.C (Kd.int .u32) w q g.length g)(u:g.length<=r)(x:Kd.C (Kd.int .u32) w s d.length d)(y:d.length<=p)(h:qA.f k n g d=some (r1,r2,r3)):
 Calls Try.prog 99 #[.agg #[.bool n, .slice q g.length r, .slice s d.length p]] w λe w'=>∃a4 Z:Value,e= .returned (.agg #[.bool r1,a4,Z])/\Kd.R (Kd.int .u32) 97 w' w.heap.size (λk_=>some k_≠(Z:Value).ownBlock) a4 r2/\Kd.R (Kd.int .u32) 97 w' w.heap.size (λk_=>some k_≠(a4:Value).ownBlock) Z r3/\Below w.heap.size w w':=by
 have ae:=Try.underlying60
 have I:=zk v
 have B:=zk u
 clear v u
 have D:=zk x
 have E:=zk y
 clear x y
 have HB:=zk (Below.refl w.heap.size w)
 have H:=h
 clear h
 unfold qA.f at H
 replace H:=zb H
 obtain⟨⟨L,K,G⟩,A2,H⟩:=H
 dsimp only at H
 simp only[Option.some.injEq,Prod.mk.injEq] at H
 obtain⟨rfl,rfl,rfl⟩:=H
 go_enter Try.func99,Try.ntmps99
 go_wp2_with (first|((with_reducible refine jc (N:=1) rfl ?_);refine jM ?hg (N:=1) ?hd (cs:= #[.bool n, .slice q g.length r, .slice s d.length p]) (t:=60) ?hr ?_;(case hd=>rfl);(case hg=>rfl);(case hr=>first|(go_simp;done)|(go_simp;rfl));intro a7 hg w3 hbox hb;have a:=zk (hbox);have aa:=yg hg HB;have b:=yg hg HB;replace HB:=yS HB hb;clear hb hbox hg)|((with_reducible refine jc (N:=2) rfl ?_);refine jM ?hg (N:=2) ?hd (cs:= #[.bool false, .slice none 0 0, .slice none 0 0]) (t:=60) ?hr ?_;(case hd=>rfl);(case hg=>rfl);(case hr=>first|(go_simp;done)|(go_simp;rfl));intro J hg w4 hbox hb;have c:=zk (hbox);have a9:=qg hg HB b;have j:=qg hg HB b;replace HB:=jg HB b hb;have m:=mZ hg a;have l:=ng hg a;replace a:=yK a hb;clear hb hbox hg;have ac:=m.out;have af:=l.out;obtain⟨Y,M,X,a0,a2,T⟩:=ja a)|((with_reducible refine gC 90 ?_);refine zG (some 9) Try.func90 #[.bool n, .slice q g.length r, .slice s d.length p] ?_;(with_reducible refine(mP.calls k n _ _ g _ _ d L K G _ ?ig ?ik ?iF ?iE A2.out).mono ?_);(case ig=>exact zC (Kd.iR I.out HB.out));(case ik=>exact B.out);(case iF=>exact zC (Kd.iR D.out HB.out));(case iE=>exact E.out);rintro e w7 ⟨ag,ad,rfl,a8,ab,hb⟩;refine⟨_,rfl,?_⟩;have A:=qI a8 HB b j;have z:=qI ab HB b j;replace a:=yK a hb;replace c:=yK c hb;replace HB:=oH HB b j hb;(try clear hb a8 ab);obtain⟨O,W,a6,P,U,a1⟩:=ja c;obtain⟨ai,ah,rfl⟩:=Kd.iD A.out;obtain⟨a3,a5,rfl⟩:=Kd.iD z.out))
 refine bodyPost_ret (results_cell_row rfl _ _ J 60 #[.bool L, .slice ai K.length ah, .slice a3 G.length a5] (0,0) _ rfl (sG c.out) Try.underlying60 rfl (by kernel_rfl)) rfl ?_
 exact⟨_,_,zE,by(with_reducible repeat(first|apply Kd.iT|apply Kd.iU|apply Kd.iJ));exact yf A.out c.out (λ_ hk=>hk.1),by(with_reducible repeat(first|apply Kd.iT|apply Kd.iU|apply Kd.iJ));exact yf z.out c.out (λ_ hk=>hk.1),yu HB.out b.out j.out⟩
def lY.T7:Bool×List (List Nat×List Nat):=(true,[([],[]),([0],[0]),([],[]),([],[]),([2,3],[2,3]),([],[]),([1,4,5,4],[1,4,5]),([6,6,0,1,2,3,4,5,6],[6])])
def lY.B7:List Nat:=[0,1,0,0,12,0,63,127]
theorem lY.RD:lM .any (opsOf Try.f50 7)=lY.T7:=by kernel_rfl
theorem lY.XL:qh lY.T7.2 lY.B7=true:=by kernel_rfl
def lY.T9:Bool×List (List Nat×List Nat):=(true,[([],[]),([0],[0]),([],[]),([],[]),([2,3],[2,3]),([],[]),([1,4,5,4],[1,4,5]),([6,6,0,1,2,3,4,5,6],[6])])
def lY.B9:List Nat:=[0,1,0,0,12,0,63,127]
theorem lY.BU:lM .any (opsOf Try.f50 9)=lY.T9:=by kernel_rfl
theorem lY.Dh:qh lY.T9.2 lY.B9=true:=by kernel_rfl
def lY.T10:Bool×List (List Nat×List Nat):=(true,[([],[]),([0],[0]),([],[]),([],[]),([2,3],[2,3]),([],[]),([1,4,5,4],[1,4,5]),([6,6,0,1,2,3,4,5,6],[6])])
def lY.B10:List Nat:=[0,1,0,0,12,0,63,127]
theorem lY.DZ:lM .any (opsOf Try.f50 10)=lY.T10:=by kernel_rfl
theorem lY.EP:qh lY.T10.2 lY.B10=true:=by kernel_rfl
theorem lY.calls(k:Nat)(a9:Bool)(al:Option Addr)(am:Nat)(a1:List Int)(ak:Option Addr)(af:Nat)(a2:List Int)(aa:Bool)(ai:Option Addr)(ao:Nat)(a0:List Int)(aj:Option Addr)(ag:Nat)(Z:List Int)(r1:Bool)(r2:List Int)(r3:List Int)(w:World)(b8:Kd.C (Kd.int .u32) w al a1.length a1)(aW:a1.length<=am)(bi:Kd.C (Kd.int .u32) w ak a2.length a2)(bf:a2.length<=af)(a_:Kd.C (Kd.int .u32) w ai a0.length a0)(b6:a0.length<=ao)(aZ:Kd.C (Kd.int .u32) w aj Z.length Z)(b4:Z.length<=ag)(h:lY.f k a9 a1 a2 aa a0 Z=some (r1,r2,r3)):
 Calls Try.prog 50 #[.agg #[.bool a9, .slice al a1.length am, .slice ak a2.length af], .agg #[.bool aa, .slice ai a0.length ao, .slice aj Z.length ag]] w λe w'=>∃gH gv:Value,e= .returned (.agg #[.bool r1,gH,gv])/\Kd.R (Kd.int .u32) 97 w' w.heap.size (λk_=>some k_≠(gv:Value).ownBlock) gH r2/\Kd.R (Kd.int .u32) 97 w' w.heap.size (λk_=>some k_≠(gH:Value).ownBlock) gv r3/\Below w.heap.size w w':=by
 have hq:=Try.underlying60
 have aH:=zk b8
 have az:=zk aW
 clear b8 aW
 have aG:=zk bi
 have aN:=zk bf
 clear bi bf
 have aJ:=zk a_
 have aQ:=zk b6
 clear a_ b6
 have aF:=zk aZ
 have aP:=zk b4
 clear aZ b4
 have HB:=zk (Below.refl w.heap.size w)
 have H:=h
 clear h
 unfold lY.f at H
 replace H:=zb H
 obtain⟨⟨Y,W,L⟩,A3,H⟩:=H
 dsimp only at H
 replace H:=zb H
 obtain⟨⟨a6,X,M⟩,A4,H⟩:=H
 dsimp only at H
 replace H:=zb H
 obtain⟨U,A5,H⟩:=H
 replace H:=zb H
 obtain⟨T,A6,H⟩:=H
 replace H:=zb H
 obtain⟨a4,A7,H⟩:=H
 replace H:=zi H
 rcases H with⟨c8,H⟩|⟨c8,H⟩
 ·have gB:(Y==a6)=true:=c8
  (try(have gk:decide (Y=a6)=true:=by simpa using c8))
  (try(have gq:(Y==a6)=true:=by simpa using c8))
  clear c8
  replace H:=zb H
  obtain⟨aD,A9,H⟩:=H
  replace H:=zb H
  obtain⟨⟨cN,cY,bX⟩,hy,H⟩:=H
  dsimp only at H
  simp only[Option.some.injEq,Prod.mk.injEq] at H
  obtain⟨rfl,rfl,rfl⟩:=H
  go_enter Try.func50,Try.ntmps50
  try go_wp2_with (first|((with_reducible refine jc (N:=2) rfl ?_);refine jM ?hg (N:=2) ?hd (cs:= #[.bool a9, .slice al a1.length am, .slice ak a2.length af]) (t:=60) ?hr ?_;(case hd=>rfl);(case hg=>rfl);(case hr=>first|(go_simp;done)|(go_simp;rfl));intro a8 hg hU hbox hb;have a:=zk (hbox);have b0:=yg hg HB;have m:=yg hg HB;replace HB:=yS HB hb;clear hb hbox hg)|((with_reducible refine jc (N:=3) rfl ?_);refine jM ?hg (N:=3) ?hd (cs:= #[.bool aa, .slice ai a0.length ao, .slice aj Z.length ag]) (t:=60) ?hr ?_;(case hd=>rfl);(case hg=>rfl);(case hr=>first|(go_simp;done)|(go_simp;rfl));intro an hg h_ hbox hb;have b:=zk (hbox);have bk:=qg hg HB m;have r:=qg hg HB m;replace HB:=jg HB m hb;have I:=mZ hg a;have J:=ng hg a;replace a:=yK a hb;clear hb hbox hg)|((with_reducible refine jc (N:=4) rfl ?_);refine jM ?hg (N:=4) ?hd (cs:= #[.bool false, .slice none 0 0, .slice none 0 0]) (t:=60) ?hr ?_;(case hd=>rfl);(case hg=>rfl);(case hr=>first|(go_simp;done)|(go_simp;rfl));intro D hg i5 hbox hb;have j:=zk (hbox);have b9:=qH hg HB m r;have x:=qH hg HB m r;replace HB:=oH HB m r hb;have q:=mZ hg a;have E:=ng hg a;replace a:=yK a hb;have z:=mZ hg b;have B:=ng hg b;replace b:=yK b hb;clear hb hbox hg;have h2:=I.out;have hi:=J.out;have h0:=q.out;have h6:=E.out;obtain⟨et,dE,gi,dH,ff,fr⟩:=ja a)|((with_reducible refine gC 99 ?_);refine zG (some 9) Try.func99 #[.agg #[.bool a9, .slice al a1.length am, .slice ak a2.length af]] ?_;(with_reducible refine(qA.calls k a9 _ _ a1 _ _ a2 Y W L _ ?ig ?ik ?iF ?iE A3.out).mono ?_);(case ig=>exact zC (Kd.iR aH.out HB.out));(case ik=>exact az.out);(case iF=>exact zC (Kd.iR aG.out HB.out));(case iE=>exact aN.out);rintro e ie ⟨bT,c0,rfl,d,G,hb⟩;refine⟨_,rfl,?_⟩;have l:=kX d HB m r x;have g:=kX G HB m r x;replace a:=yK a hb;replace b:=yK b hb;replace j:=yK j hb;replace HB:=lX HB m r x hb;(try clear hb d G);obtain⟨er,fw,f9,eg,fI,fp⟩:=ja a;obtain⟨bv,aS,rfl⟩:=Kd.iD l.out;obtain⟨aL,aA,rfl⟩:=Kd.iD g.out;have hj:=z.out;have h4:=B.out;obtain⟨fg,eu,eI,dQ,ft,eP⟩:=ja b)|((with_reducible refine gC 99 ?_);refine zG (some 11) Try.func99 #[.agg #[.bool aa, .slice ai a0.length ao, .slice aj Z.length ag]] ?_;(with_reducible refine(qA.calls k aa _ _ a0 _ _ Z a6 X M _ ?ig ?ik ?iF ?iE A4.out).mono ?_);(case ig=>exact Kd.iR aJ.out (nI HB.out m.out r.out x.out));(case ik=>exact aQ.out);(case iF=>exact Kd.iR aF.out (nI HB.out m.out r.out x.out));(case iE=>exact aP.out);rintro e ic ⟨d3,dh,rfl,d,G,hb⟩;refine⟨_,rfl,?_⟩;replace d:=jk d l a;replace d:=jk d g a;have s:=kX d HB m r x;replace G:=jk G l a;replace G:=jk G g a;have o:=kX G HB m r x;replace l:=lL l a hb d G;replace g:=lL g a hb d G;replace a:=wI a hb;replace b:=qR b J hb;replace j:=qR j E hb;replace HB:=lX HB m r x hb;(try clear hb d G);obtain⟨eQ,dP,ef,eK,eb,fW⟩:=ja b;obtain⟨bs,bq,rfl⟩:=Kd.iD s.out;obtain⟨bx,aT,rfl⟩:=Kd.iD o.out;obtain⟨fz,ew,fB,e3,eM,eG⟩:=ja a)|((with_reducible refine gC 26 ?_);refine zG (some 16) Try.func26 #[.slice bv W.length aS, .slice bx M.length aT] ?_;(with_reducible refine(kC.calls k _ _ W _ _ M U _ ?ig ?ik ?iF ?iE A5.out).mono ?_);(case ig=>refine(Kd.iw (e:=97) (base:=w.heap.size) (ok:=λk_=>((some k_≠(.slice aL L.length aA:Value).ownBlock/\some k_≠(.slice bs X.length bq:Value).ownBlock)/\some k_≠(.slice bx M.length aT:Value).ownBlock)) (n:=W.length) (c:=aS) ?_).2.2;exact(zf l.out b.out));(case ik=>exact(Kd.iw l.out).2.1);(case iF=>refine(Kd.iw (e:=97) (base:=w.heap.size) (ok:=λk_=>((some k_≠(.slice bs X.length bq:Value).ownBlock/\some k_≠(.slice bv W.length aS:Value).ownBlock)/\some k_≠(.slice aL L.length aA:Value).ownBlock)) (n:=M.length) (c:=aT) ?_).2.2;exact(zf o.out b.out));(case iE=>exact(Kd.iw o.out).2.1);rintro e hV ⟨bQ,rfl,d,hb⟩;refine⟨_,rfl,?_⟩;replace d:=jk d l b;replace d:=jk d g b;replace d:=jk d s b;replace d:=jk d o b;have u:=kX d HB m r x;replace l:=vF l b d hb;replace g:=vF g b d hb;replace s:=vF s b d hb;replace o:=vF o b d hb;replace a:=qR a I hb;replace b:=wI b hb;replace j:=qR j B hb;replace HB:=lX HB m r x hb;(try clear hb d);obtain⟨eS,ey,fL,eW,f4,fD⟩:=ja b;obtain⟨dD,dF,dM,ga,fN,e4⟩:=ja a)|((with_reducible refine gC 26 ?_);refine zG (some 21) Try.func26 #[.slice bs X.length bq, .slice aL L.length aA] ?_;(with_reducible refine(kC.calls k _ _ X _ _ L T _ ?ig ?ik ?iF ?iE A6.out).mono ?_);(case ig=>exact zC (Kd.iw s.out).2.2);(case ik=>exact(Kd.iw s.out).2.1);(case iF=>exact zC (Kd.iw g.out).2.2);(case iE=>exact(Kd.iw g.out).2.1);rintro e id ⟨cn,rfl,d,hb⟩;refine⟨_,rfl,?_⟩;replace d:=yn d l;replace d:=yn d g;replace d:=yn d s;replace d:=yn d o;replace d:=yn d u;have y:=kX d HB m r x;replace l:=iG l d hb;replace g:=iG g d hb;replace s:=iG s d hb;replace o:=iG o d hb;replace u:=iG u d hb;replace a:=yK a hb;replace b:=yK b hb;replace j:=yK j hb;replace HB:=lX HB m r x hb;(try clear hb d);obtain⟨g8,eE,f5,fY,eH,eT⟩:=ja a;obtain⟨g5,fX,eU,e0,g9,ed⟩:=ja b)|((with_reducible refine gC 26 ?_);refine zG (some 26) Try.func26 #[.slice aL L.length aA, .slice bx M.length aT] ?_;(with_reducible refine(kC.calls k _ _ L _ _ M a4 _ ?ig ?ik ?iF ?iE A7.out).mono ?_);(case ig=>exact zC (Kd.iw g.out).2.2);(case ik=>exact(Kd.iw g.out).2.1);(case iF=>exact zC (Kd.iw o.out).2.2);(case iE=>exact(Kd.iw o.out).2.1);rintro e hD ⟨ca,rfl,d,hb⟩;refine⟨_,rfl,?_⟩;replace d:=yn d l;replace d:=yn d g;replace d:=yn d s;replace d:=yn d o;replace d:=yn d u;replace d:=yn d y;have A:=kX d HB m r x;replace l:=iG l d hb;replace g:=iG g d hb;replace s:=iG s d hb;replace o:=iG o d hb;replace u:=iG u d hb;replace y:=iG y d hb;replace a:=yK a hb;replace b:=yK b hb;replace j:=yK j hb;replace HB:=lX HB m r x hb;(try clear hb d);obtain⟨ej,eh,fC,dT,dK,g6⟩:=ja a;obtain⟨eo,gc,dN,fE,fP,eV⟩:=ja b))
  replace l:=zk (Kd.iJ l.out)
  replace g:=zk (Kd.iJ g.out)
  replace s:=zk (Kd.iJ s.out)
  replace o:=zk (Kd.iJ o.out)
  replace u:=zk (Kd.iJ u.out)
  replace y:=zk (Kd.iJ y.out)
  replace A:=zk (Kd.iJ A.out)
  replace a:=zk (iC a.out)
  replace b:=zk (iC b.out)
  replace j:=zk (iC j.out)
  replace HB:=zk (l9 HB.out)
  obtain⟨gt,gD,cZ⟩:=Kd.iD u.out
  (first|subst cZ|(injection cZ with P a7 O;have a5:=P.symm;have a3:=O.symm;clear P a7 O;subst a5;subst a3))
  obtain⟨gp,gn,cv⟩:=Kd.iD y.out
  (first|subst cv|(injection cv with P a7 O;have a5:=P.symm;have a3:=O.symm;clear P a7 O;subst a5;subst a3))
  refine qi (n:=8) (S:=λw'=>w'.cell? ⟨a8,0,none⟩=some (.bool Y)/\w'.cell? ⟨a8,1,none⟩=some (.slice bv W.length aS)/\w'.cell? ⟨a8,2,none⟩=some (.slice aL L.length aA)) (ds:=[]) #[false,false,false,false,false,false,false,false] (by kernel_rfl) rfl rfl ⟨(iy a.out 0).trans rfl,(iy a.out 1).trans rfl,(iy a.out 2).trans rfl⟩ (λhHeld=>?_);refine qx lY.RD lY.XL (λiq jq=>?_)
  generalize hD.drew=i8 at l g s o u y A a b j HB hHeld ⊢
  refine zp (i:=0) (N:=some 32) iq ?_
  refine zp (i:=2) (N:=some 34) iq ?_
  refine zp (i:=3) (N:=some 35) iq ?_
  refine zp (i:=5) (N:=some 37) iq ?_
  refine jI (i:=1) (N:=some 33) (v:=?_) (a':=?_) #[true,true,true,true,false,true,false,false] rfl rfl (jO iq.out jq.out (by kernel_rfl)) (λ_ _ _ h=>h) (Or.inl ⟨by rfl,?_⟩) hHeld ?_ ?_
  rotate_left
  ·rintro w' ⟨s0,s1,s2⟩
   go_simp
   with_reducible rfl
  rotate_left
  ·simp only[Act.put,List.setIfInBounds_toArray,List.set_cons_zero,List.set_cons_succ,iI,iP]
   rfl
  refine lN (i:=4) (N:=some 36) #[true,true,true,true,true,true,false,false] rfl rfl (kH iq.out (by kernel_rfl)) (by decide) (λK hK=>?_)
  refine nS Try.func86 (by kernel_rfl) rfl #[.slice gt U.length gD, .slice gp T.length gn] (by rfl) rfl rfl (by(try simp only[List.map_toArray,List.map_cons,List.map_nil]);first|done|rfl|(simp only[List.length_drop,List.length_take];rfl)) ?_
  with_reducible refine(ny.calls k _ _ U _ _ T aD _ ?ig ?ik ?iF ?iE A9.out).mono ?_
  (case ig=>exact zC (Kd.iw u.out).2.2)
  (case ik=>exact(Kd.iw u.out).2.1)
  (case iF=>exact zC (Kd.iw y.out).2.2)
  (case iE=>exact(Kd.iw y.out).2.1)
  rintro e i0 ⟨hz,rfl,d,hb⟩
  refine⟨_,rfl,?_⟩
  replace d:=yn d l
  replace d:=yn d g
  replace d:=yn d s
  replace d:=yn d o
  replace d:=yn d u
  replace d:=yn d y
  replace d:=yn d A
  have ac:=kX d HB m r x
  replace l:=iG l d hb
  replace g:=iG g d hb
  replace s:=iG s d hb
  replace o:=iG o d hb
  replace u:=iG u d hb
  replace y:=iG y d hb
  replace A:=iG A d hb
  replace a:=yK a hb
  replace b:=yK b hb
  replace j:=yK j hb
  replace HB:=lX HB m r x hb
  (try clear hb)
  (try clear d)
  obtain⟨gm,gz,bC⟩:=Kd.iD ac.out
  (first|subst bC|(injection bC with P a7 O;have a5:=P.symm;have a3:=O.symm;clear P a7 O;subst a5;subst a3))
  obtain⟨gl,gQ,bK⟩:=Kd.iD A.out
  (first|subst bK|(injection bK with P a7 O;have a5:=P.symm;have a3:=O.symm;clear P a7 O;subst a5;subst a3))
  refine hK.out _ _ ⟨(iy a.out 0).trans rfl,(iy a.out 1).trans rfl,(iy a.out 2).trans rfl⟩ (λhHeld=>?_)
  clear hK K
  refine mr (a':=?_) ?_ ?_
  rotate_left
  ·show Act.put _ (some 36) _=_
   simp only[Act.put,List.setIfInBounds_toArray,List.set_cons_zero,List.set_cons_succ,iI,iP]
   rfl
  refine lN (i:=6) (N:=some 38) #[true,true,true,true,true,true,true,false] rfl rfl (kH iq.out (by kernel_rfl)) (by decide) (λK hK=>?_)
  refine nS Try.func90 (by kernel_rfl) rfl #[.bool Y, .slice gm aD.length gz, .slice gl a4.length gQ] (by rfl) rfl rfl (by(try simp only[List.map_toArray,List.map_cons,List.map_nil]);first|done|rfl|(simp only[List.length_drop,List.length_take];rfl)) ?_
  with_reducible refine(mP.calls k Y _ _ aD _ _ a4 cN cY bX _ ?ig ?ik ?iF ?iE hy.out).mono ?_
  (case ig=>exact zC (Kd.iw ac.out).2.2)
  (case ik=>exact(Kd.iw ac.out).2.1)
  (case iF=>exact zC (Kd.iw A.out).2.2)
  (case iE=>exact(Kd.iw A.out).2.1)
  rintro e gA ⟨hA,hC,rfl,d,G,hb⟩
  refine⟨_,rfl,?_⟩
  replace d:=yn d l
  replace d:=yn d g
  replace d:=yn d s
  replace d:=yn d o
  replace d:=yn d u
  replace d:=yn d y
  replace d:=yn d A
  replace d:=yn d ac
  have b1:=kX d HB m r x
  replace G:=yn G l
  replace G:=yn G g
  replace G:=yn G s
  replace G:=yn G o
  replace G:=yn G u
  replace G:=yn G y
  replace G:=yn G A
  replace G:=yn G ac
  have b7:=kX G HB m r x
  replace l:=jS l hb d G
  replace g:=jS g hb d G
  replace s:=jS s hb d G
  replace o:=jS o hb d G
  replace u:=jS u hb d G
  replace y:=jS y hb d G
  replace A:=jS A hb d G
  replace ac:=jS ac hb d G
  replace a:=yK a hb
  replace b:=yK b hb
  replace j:=yK j hb
  replace HB:=lX HB m r x hb
  (try clear hb)
  (try clear d)
  (try clear G)
  obtain⟨gF,gu,cG⟩:=Kd.iD b1.out
  (first|subst cG|(injection cG with P a7 O;have a5:=P.symm;have a3:=O.symm;clear P a7 O;subst a5;subst a3))
  obtain⟨gR,gK,bW⟩:=Kd.iD b7.out
  (first|subst bW|(injection bW with P a7 O;have a5:=P.symm;have a3:=O.symm;clear P a7 O;subst a5;subst a3))
  refine hK.out _ _ ⟨(iy a.out 0).trans rfl,(iy a.out 1).trans rfl,(iy a.out 2).trans rfl⟩ (λhHeld=>?_)
  clear hK K
  refine mr (a':=?_) ?_ ?_
  rotate_left
  ·show Act.put _ (some 38) _=_
   simp only[Act.put,List.setIfInBounds_toArray,List.set_cons_zero,List.set_cons_succ,iI,iP]
   rfl
  refine lN (i:=7) (N:=none) #[true,true,true,true,true,true,true,true] rfl rfl (kH iq.out (by kernel_rfl)) (by decide) (λK hK=>?_)
  have hv:gA.cell? ⟨D,0,none⟩=some (.bool false):=(iy j.out 0).trans rfl
  have h1:=pY j.out 0
  have fc:=q.out
  have dW:=z.out
  have dL:=E.out
  have fj:=B.out
  have hs:gA.cell? ⟨D,1,none⟩=some (.slice none 0 0):=(iy j.out 1).trans rfl
  have hh:=pY j.out 1
  have dO:=q.out
  have fe:=z.out
  have fK:=E.out
  have fG:=B.out
  have hQ:gA.cell? ⟨D,2,none⟩=some (.slice none 0 0):=(iy j.out 2).trans rfl
  have hl:=pY j.out 2
  have fs:=q.out
  have f_:=z.out
  have eF:=E.out
  have dG:=B.out
  refine vH (w1:=?_) (by rfl) rfl ?_ ?_
  rotate_left
  ·go_simp
   rfl
  refine hK.out _ _ ⟨((cell_far (p:=⟨D,_,none⟩) q.out _).trans (((cell_far (p:=⟨D,_,none⟩) q.out _).trans (((cell_far (p:=⟨D,_,none⟩) q.out _).trans (hHeld.1)))))),((cell_far (p:=⟨D,_,none⟩) q.out _).trans (((cell_far (p:=⟨D,_,none⟩) q.out _).trans (((cell_far (p:=⟨D,_,none⟩) q.out _).trans (hHeld.2.1)))))),((cell_far (p:=⟨D,_,none⟩) q.out _).trans (((cell_far (p:=⟨D,_,none⟩) q.out _).trans (((cell_far (p:=⟨D,_,none⟩) q.out _).trans (hHeld.2.2))))))⟩ (λhHeld=>?_)
  clear hK K
  refine ql (qF iq.out (by kernel_rfl)) ?_
  try go_wp2
  refine bodyPost_ret (results_cell_row rfl _ _ D 60 #[.bool cN, .slice gF cY.length gu, .slice gR bX.length gK] (0,0) _ rfl (sG j.out) Try.underlying60 rfl (by kernel_rfl)) rfl ?_
  exact⟨_,_,zE,by(with_reducible repeat(first|apply Kd.iT|apply Kd.iU|apply Kd.iJ));exact yf b1.out j.out (λ_ hk=>hk.1.1.1.1.1.1.1.1.1),by(with_reducible repeat(first|apply Kd.iT|apply Kd.iU|apply Kd.iJ));exact yf b7.out j.out (λ_ hk=>hk.1.1.1.1.1.1.1.1.1),nI HB.out m.out r.out x.out⟩
 have gB:(Y==a6)=false:=by simpa using c8
 (try(have gk:decide (Y=a6)=false:=by simpa using c8))
 (try(have gq:(Y==a6)=false:=by simpa using c8))
 (try(have hB:¬(Y=a6):=by simpa using c8))
 clear c8
 replace H:=zb H
 obtain⟨ax,he,H⟩:=H
 replace H:=zi H
 rcases H with⟨cL,H⟩|⟨cL,H⟩
 ·have du:decide (0<=ax)=true:=decide_eq_true cL
  clear cL
  replace H:=zb H
  obtain⟨aB,hw,H⟩:=H
  replace H:=zb H
  obtain⟨⟨cc,cD,db⟩,hJ,H⟩:=H
  dsimp only at H
  simp only[Option.some.injEq,Prod.mk.injEq] at H
  obtain⟨rfl,rfl,rfl⟩:=H
  go_enter Try.func50,Try.ntmps50
  try go_wp2_with (first|((with_reducible refine jc (N:=2) rfl ?_);refine jM ?hg (N:=2) ?hd (cs:= #[.bool a9, .slice al a1.length am, .slice ak a2.length af]) (t:=60) ?hr ?_;(case hd=>rfl);(case hg=>rfl);(case hr=>first|(go_simp;done)|(go_simp;rfl));intro a8 hg hZ hbox hb;have a:=zk (hbox);have b0:=yg hg HB;have m:=yg hg HB;replace HB:=yS HB hb;clear hb hbox hg)|((with_reducible refine jc (N:=3) rfl ?_);refine jM ?hg (N:=3) ?hd (cs:= #[.bool aa, .slice ai a0.length ao, .slice aj Z.length ag]) (t:=60) ?hr ?_;(case hd=>rfl);(case hg=>rfl);(case hr=>first|(go_simp;done)|(go_simp;rfl));intro an hg hY hbox hb;have b:=zk (hbox);have bk:=qg hg HB m;have r:=qg hg HB m;replace HB:=jg HB m hb;have I:=mZ hg a;have J:=ng hg a;replace a:=yK a hb;clear hb hbox hg)|((with_reducible refine jc (N:=4) rfl ?_);refine jM ?hg (N:=4) ?hd (cs:= #[.bool false, .slice none 0 0, .slice none 0 0]) (t:=60) ?hr ?_;(case hd=>rfl);(case hg=>rfl);(case hr=>first|(go_simp;done)|(go_simp;rfl));intro D hg hX hbox hb;have j:=zk (hbox);have b9:=qH hg HB m r;have x:=qH hg HB m r;replace HB:=oH HB m r hb;have q:=mZ hg a;have E:=ng hg a;replace a:=yK a hb;have z:=mZ hg b;have B:=ng hg b;replace b:=yK b hb;clear hb hbox hg;have hf:=I.out;have gV:=J.out;have hc:=q.out;have h7:=E.out;obtain⟨ee,f6,f1,e8,dC,eR⟩:=ja a)|((with_reducible refine gC 99 ?_);refine zG (some 9) Try.func99 #[.agg #[.bool a9, .slice al a1.length am, .slice ak a2.length af]] ?_;(with_reducible refine(qA.calls k a9 _ _ a1 _ _ a2 Y W L _ ?ig ?ik ?iF ?iE A3.out).mono ?_);(case ig=>exact zC (Kd.iR aH.out HB.out));(case ik=>exact az.out);(case iF=>exact zC (Kd.iR aG.out HB.out));(case iE=>exact aN.out);rintro e i1 ⟨bT,c0,rfl,d,G,hb⟩;refine⟨_,rfl,?_⟩;have l:=kX d HB m r x;have g:=kX G HB m r x;replace a:=yK a hb;replace b:=yK b hb;replace j:=yK j hb;replace HB:=lX HB m r x hb;(try clear hb d G);obtain⟨g4,f8,fQ,fU,fM,e7⟩:=ja a;obtain⟨bn,aU,rfl⟩:=Kd.iD l.out;obtain⟨aC,ay,rfl⟩:=Kd.iD g.out;have gU:=z.out;have g_:=B.out;obtain⟨eC,e1,g2,fv,dY,gh⟩:=ja b)|((with_reducible refine gC 99 ?_);refine zG (some 11) Try.func99 #[.agg #[.bool aa, .slice ai a0.length ao, .slice aj Z.length ag]] ?_;(with_reducible refine(qA.calls k aa _ _ a0 _ _ Z a6 X M _ ?ig ?ik ?iF ?iE A4.out).mono ?_);(case ig=>exact Kd.iR aJ.out (nI HB.out m.out r.out x.out));(case ik=>exact aQ.out);(case iF=>exact Kd.iR aF.out (nI HB.out m.out r.out x.out));(case iE=>exact aP.out);rintro e ia ⟨d3,dh,rfl,d,G,hb⟩;refine⟨_,rfl,?_⟩;replace d:=jk d l a;replace d:=jk d g a;have s:=kX d HB m r x;replace G:=jk G l a;replace G:=jk G g a;have o:=kX G HB m r x;replace l:=lL l a hb d G;replace g:=lL g a hb d G;replace a:=wI a hb;replace b:=qR b J hb;replace j:=qR j E hb;replace HB:=lX HB m r x hb;(try clear hb d G);obtain⟨gb,fm,dR,fa,fl,fo⟩:=ja b;obtain⟨br,bo,rfl⟩:=Kd.iD s.out;obtain⟨bw,aR,rfl⟩:=Kd.iD o.out;obtain⟨fR,eJ,g1,ei,ez,g7⟩:=ja a)|((with_reducible refine gC 26 ?_);refine zG (some 16) Try.func26 #[.slice bn W.length aU, .slice bw M.length aR] ?_;(with_reducible refine(kC.calls k _ _ W _ _ M U _ ?ig ?ik ?iF ?iE A5.out).mono ?_);(case ig=>refine(Kd.iw (e:=97) (base:=w.heap.size) (ok:=λk_=>((some k_≠(.slice aC L.length ay:Value).ownBlock/\some k_≠(.slice br X.length bo:Value).ownBlock)/\some k_≠(.slice bw M.length aR:Value).ownBlock)) (n:=W.length) (c:=aU) ?_).2.2;exact(zf l.out b.out));(case ik=>exact(Kd.iw l.out).2.1);(case iF=>refine(Kd.iw (e:=97) (base:=w.heap.size) (ok:=λk_=>((some k_≠(.slice br X.length bo:Value).ownBlock/\some k_≠(.slice bn W.length aU:Value).ownBlock)/\some k_≠(.slice aC L.length ay:Value).ownBlock)) (n:=M.length) (c:=aR) ?_).2.2;exact(zf o.out b.out));(case iE=>exact(Kd.iw o.out).2.1);rintro e i7 ⟨bQ,rfl,d,hb⟩;refine⟨_,rfl,?_⟩;replace d:=jk d l b;replace d:=jk d g b;replace d:=jk d s b;replace d:=jk d o b;have u:=kX d HB m r x;replace l:=vF l b d hb;replace g:=vF g b d hb;replace s:=vF s b d hb;replace o:=vF o b d hb;replace a:=qR a I hb;replace b:=wI b hb;replace j:=qR j B hb;replace HB:=lX HB m r x hb;(try clear hb d);obtain⟨em,fk,ek,f7,f0,dX⟩:=ja b;obtain⟨eO,e9,e5,fx,ev,fi⟩:=ja a)|((with_reducible refine gC 26 ?_);refine zG (some 21) Try.func26 #[.slice br X.length bo, .slice aC L.length ay] ?_;(with_reducible refine(kC.calls k _ _ X _ _ L T _ ?ig ?ik ?iF ?iE A6.out).mono ?_);(case ig=>exact zC (Kd.iw s.out).2.2);(case ik=>exact(Kd.iw s.out).2.1);(case iF=>exact zC (Kd.iw g.out).2.2);(case iE=>exact(Kd.iw g.out).2.1);rintro e i4 ⟨cn,rfl,d,hb⟩;refine⟨_,rfl,?_⟩;replace d:=yn d l;replace d:=yn d g;replace d:=yn d s;replace d:=yn d o;replace d:=yn d u;have y:=kX d HB m r x;replace l:=iG l d hb;replace g:=iG g d hb;replace s:=iG s d hb;replace o:=iG o d hb;replace u:=iG u d hb;replace a:=yK a hb;replace b:=yK b hb;replace j:=yK j hb;replace HB:=lX HB m r x hb;(try clear hb d);obtain⟨e6,fq,fA,fS,fZ,ep⟩:=ja a;obtain⟨fd,ea,fy,ec,dZ,dI⟩:=ja b)|((with_reducible refine gC 26 ?_);refine zG (some 26) Try.func26 #[.slice aC L.length ay, .slice bw M.length aR] ?_;(with_reducible refine(kC.calls k _ _ L _ _ M a4 _ ?ig ?ik ?iF ?iE A7.out).mono ?_);(case ig=>exact zC (Kd.iw g.out).2.2);(case ik=>exact(Kd.iw g.out).2.1);(case iF=>exact zC (Kd.iw o.out).2.2);(case iE=>exact(Kd.iw o.out).2.1);rintro e i3 ⟨ca,rfl,d,hb⟩;refine⟨_,rfl,?_⟩;replace d:=yn d l;replace d:=yn d g;replace d:=yn d s;replace d:=yn d o;replace d:=yn d u;replace d:=yn d y;have A:=kX d HB m r x;replace l:=iG l d hb;replace g:=iG g d hb;replace s:=iG s d hb;replace o:=iG o d hb;replace u:=iG u d hb;replace y:=iG y d hb;replace a:=yK a hb;replace b:=yK b hb;replace j:=yK j hb;replace HB:=lX HB m r x hb;(try clear hb d);obtain⟨dU,fV,dV,en,fJ,fF⟩:=ja a;obtain⟨eX,f3,eA,e_,fn,fh⟩:=ja b;obtain⟨ct,cX,rfl⟩:=Kd.iD u.out;obtain⟨dc,cQ,rfl⟩:=Kd.iD y.out)|((with_reducible refine gC 77 ?_);refine zG (some 41) Try.func77 #[.slice ct U.length cX, .slice dc T.length cQ] ?_;(with_reducible refine(rC.calls k _ _ U _ _ T ax _ ?ig ?ik ?iF ?iE he.out).mono ?_);(case ig=>exact zC (Kd.iw u.out).2.2);(case ik=>exact(Kd.iw u.out).2.1);(case iF=>exact zC (Kd.iw y.out).2.2);(case iE=>exact(Kd.iw y.out).2.1);rintro e hF ⟨rfl,hb⟩;refine⟨_,rfl,?_⟩;replace l:=jl l hb;replace g:=jl g hb;replace s:=jl s hb;replace o:=jl o hb;replace u:=jl u hb;replace y:=jl y hb;replace A:=jl A hb;replace a:=yK a hb;replace b:=yK b hb;replace j:=yK j hb;replace HB:=lX HB m r x hb;(try clear hb)))
  replace l:=zk (Kd.iJ l.out)
  replace g:=zk (Kd.iJ g.out)
  replace s:=zk (Kd.iJ s.out)
  replace o:=zk (Kd.iJ o.out)
  replace u:=zk (Kd.iJ u.out)
  replace y:=zk (Kd.iJ y.out)
  replace A:=zk (Kd.iJ A.out)
  replace a:=zk (iC a.out)
  replace b:=zk (iC b.out)
  replace j:=zk (iC j.out)
  replace HB:=zk (l9 HB.out)
  refine qi (n:=8) (S:=λw'=>w'.cell? ⟨a8,0,none⟩=some (.bool Y)/\w'.cell? ⟨a8,1,none⟩=some (.slice bn W.length aU)/\w'.cell? ⟨a8,2,none⟩=some (.slice aC L.length ay)) (ds:=[]) #[false,false,false,false,false,false,false,false] (by kernel_rfl) rfl rfl ⟨(iy a.out 0).trans rfl,(iy a.out 1).trans rfl,(iy a.out 2).trans rfl⟩ (λhHeld=>?_);refine qx lY.BU lY.Dh (λiq jq=>?_)
  generalize hF.drew=i9 at l g s o u y A a b j HB hHeld ⊢
  refine zp (i:=0) (N:=some 43) iq ?_
  refine zp (i:=2) (N:=some 45) iq ?_
  refine zp (i:=3) (N:=some 46) iq ?_
  refine zp (i:=5) (N:=some 48) iq ?_
  refine jI (i:=1) (N:=some 44) (v:=?_) (a':=?_) #[true,true,true,true,false,true,false,false] rfl rfl (jO iq.out jq.out (by kernel_rfl)) (λ_ _ _ h=>h) (Or.inl ⟨by rfl,?_⟩) hHeld ?_ ?_
  rotate_left
  ·rintro w' ⟨s0,s1,s2⟩
   go_simp
   with_reducible rfl
  rotate_left
  ·simp only[Act.put,List.setIfInBounds_toArray,List.set_cons_zero,List.set_cons_succ,iI,iP]
   rfl
  refine lN (i:=4) (N:=some 47) #[true,true,true,true,true,true,false,false] rfl rfl (kH iq.out (by kernel_rfl)) (by decide) (λK hK=>?_)
  refine nS Try.func100 (by kernel_rfl) rfl #[.slice ct U.length cX, .slice dc T.length cQ] (by rfl) rfl rfl (by(try simp only[List.map_toArray,List.map_cons,List.map_nil]);first|done|rfl|(simp only[List.length_drop,List.length_take];rfl)) ?_
  with_reducible refine(ry.calls k _ _ U _ _ T aB _ ?ig ?ik ?iF ?iE hw.out).mono ?_
  (case ig=>exact zC (Kd.iw u.out).2.2)
  (case ik=>exact(Kd.iw u.out).2.1)
  (case iF=>exact zC (Kd.iw y.out).2.2)
  (case iE=>exact(Kd.iw y.out).2.1)
  rintro e i2 ⟨hG,rfl,d,hb⟩
  refine⟨_,rfl,?_⟩
  replace d:=yn d l
  replace d:=yn d g
  replace d:=yn d s
  replace d:=yn d o
  replace d:=yn d u
  replace d:=yn d y
  replace d:=yn d A
  have ad:=kX d HB m r x
  replace l:=iG l d hb
  replace g:=iG g d hb
  replace s:=iG s d hb
  replace o:=iG o d hb
  replace u:=iG u d hb
  replace y:=iG y d hb
  replace A:=iG A d hb
  replace a:=yK a hb
  replace b:=yK b hb
  replace j:=yK j hb
  replace HB:=lX HB m r x hb
  (try clear hb)
  (try clear d)
  obtain⟨gN,gG,ce⟩:=Kd.iD ad.out
  (first|subst ce|(injection ce with P a7 O;have a5:=P.symm;have a3:=O.symm;clear P a7 O;subst a5;subst a3))
  obtain⟨gP,gy,cf⟩:=Kd.iD A.out
  (first|subst cf|(injection cf with P a7 O;have a5:=P.symm;have a3:=O.symm;clear P a7 O;subst a5;subst a3))
  refine hK.out _ _ ⟨(iy a.out 0).trans rfl,(iy a.out 1).trans rfl,(iy a.out 2).trans rfl⟩ (λhHeld=>?_)
  clear hK K
  refine mr (a':=?_) ?_ ?_
  rotate_left
  ·show Act.put _ (some 47) _=_
   simp only[Act.put,List.setIfInBounds_toArray,List.set_cons_zero,List.set_cons_succ,iI,iP]
   rfl
  refine lN (i:=6) (N:=some 49) #[true,true,true,true,true,true,true,false] rfl rfl (kH iq.out (by kernel_rfl)) (by decide) (λK hK=>?_)
  refine nS Try.func90 (by kernel_rfl) rfl #[.bool Y, .slice gN aB.length gG, .slice gP a4.length gy] (by rfl) rfl rfl (by(try simp only[List.map_toArray,List.map_cons,List.map_nil]);first|done|rfl|(simp only[List.length_drop,List.length_take];rfl)) ?_
  with_reducible refine(mP.calls k Y _ _ aB _ _ a4 cc cD db _ ?ig ?ik ?iF ?iE hJ.out).mono ?_
  (case ig=>exact zC (Kd.iw ad.out).2.2)
  (case ik=>exact(Kd.iw ad.out).2.1)
  (case iF=>exact zC (Kd.iw A.out).2.2)
  (case iE=>exact(Kd.iw A.out).2.1)
  rintro e gE ⟨hS,hI,rfl,d,G,hb⟩
  refine⟨_,rfl,?_⟩
  replace d:=yn d l
  replace d:=yn d g
  replace d:=yn d s
  replace d:=yn d o
  replace d:=yn d u
  replace d:=yn d y
  replace d:=yn d A
  replace d:=yn d ad
  have b3:=kX d HB m r x
  replace G:=yn G l
  replace G:=yn G g
  replace G:=yn G s
  replace G:=yn G o
  replace G:=yn G u
  replace G:=yn G y
  replace G:=yn G A
  replace G:=yn G ad
  have b2:=kX G HB m r x
  replace l:=jS l hb d G
  replace g:=jS g hb d G
  replace s:=jS s hb d G
  replace o:=jS o hb d G
  replace u:=jS u hb d G
  replace y:=jS y hb d G
  replace A:=jS A hb d G
  replace ad:=jS ad hb d G
  replace a:=yK a hb
  replace b:=yK b hb
  replace j:=yK j hb
  replace HB:=lX HB m r x hb
  (try clear hb)
  (try clear d)
  (try clear G)
  obtain⟨gs,gM,bM⟩:=Kd.iD b3.out
  (first|subst bM|(injection bM with P a7 O;have a5:=P.symm;have a3:=O.symm;clear P a7 O;subst a5;subst a3))
  obtain⟨gO,gL,cx⟩:=Kd.iD b2.out
  (first|subst cx|(injection cx with P a7 O;have a5:=P.symm;have a3:=O.symm;clear P a7 O;subst a5;subst a3))
  refine hK.out _ _ ⟨(iy a.out 0).trans rfl,(iy a.out 1).trans rfl,(iy a.out 2).trans rfl⟩ (λhHeld=>?_)
  clear hK K
  refine mr (a':=?_) ?_ ?_
  rotate_left
  ·show Act.put _ (some 49) _=_
   simp only[Act.put,List.setIfInBounds_toArray,List.set_cons_zero,List.set_cons_succ,iI,iP]
   rfl
  refine lN (i:=7) (N:=none) #[true,true,true,true,true,true,true,true] rfl rfl (kH iq.out (by kernel_rfl)) (by decide) (λK hK=>?_)
  have hL:gE.cell? ⟨D,0,none⟩=some (.bool false):=(iy j.out 0).trans rfl
  have gZ:=pY j.out 0
  have fb:=q.out
  have eY:=z.out
  have d_:=E.out
  have fH:=B.out
  have hx:gE.cell? ⟨D,1,none⟩=some (.slice none 0 0):=(iy j.out 1).trans rfl
  have h5:=pY j.out 1
  have e2:=q.out
  have dB:=z.out
  have gg:=E.out
  have dJ:=B.out
  have hp:gE.cell? ⟨D,2,none⟩=some (.slice none 0 0):=(iy j.out 2).trans rfl
  have h9:=pY j.out 2
  have g0:=q.out
  have fT:=z.out
  have es:=E.out
  have fO:=B.out
  refine vH (w1:=?_) (by rfl) rfl ?_ ?_
  rotate_left
  ·go_simp
   rfl
  refine hK.out _ _ ⟨((cell_far (p:=⟨D,_,none⟩) q.out _).trans (((cell_far (p:=⟨D,_,none⟩) q.out _).trans (((cell_far (p:=⟨D,_,none⟩) q.out _).trans (hHeld.1)))))),((cell_far (p:=⟨D,_,none⟩) q.out _).trans (((cell_far (p:=⟨D,_,none⟩) q.out _).trans (((cell_far (p:=⟨D,_,none⟩) q.out _).trans (hHeld.2.1)))))),((cell_far (p:=⟨D,_,none⟩) q.out _).trans (((cell_far (p:=⟨D,_,none⟩) q.out _).trans (((cell_far (p:=⟨D,_,none⟩) q.out _).trans (hHeld.2.2))))))⟩ (λhHeld=>?_)
  clear hK K
  refine ql (qF iq.out (by kernel_rfl)) ?_
  try go_wp2
  refine bodyPost_ret (results_cell_row rfl _ _ D 60 #[.bool cc, .slice gs cD.length gM, .slice gO db.length gL] (0,0) _ rfl (sG j.out) Try.underlying60 rfl (by kernel_rfl)) rfl ?_
  exact⟨_,_,zE,by(with_reducible repeat(first|apply Kd.iT|apply Kd.iU|apply Kd.iJ));exact yf b3.out j.out (λ_ hk=>hk.1.1.1.1.1.1.1.1.1),by(with_reducible repeat(first|apply Kd.iT|apply Kd.iU|apply Kd.iJ));exact yf b2.out j.out (λ_ hk=>hk.1.1.1.1.1.1.1.1.1),nI HB.out m.out r.out x.out⟩
 have du:decide (0<=ax)=false:=decide_eq_false cL
 clear cL
 replace H:=zb H
 obtain⟨aI,hP,H⟩:=H
 replace H:=zb H
 obtain⟨⟨c1,cM,bR⟩,hM,H⟩:=H
 dsimp only at H
 simp only[Option.some.injEq,Prod.mk.injEq] at H
 obtain⟨rfl,rfl,rfl⟩:=H
 go_enter Try.func50,Try.ntmps50
 try go_wp2_with (first|((with_reducible refine jc (N:=2) rfl ?_);refine jM ?hg (N:=2) ?hd (cs:= #[.bool a9, .slice al a1.length am, .slice ak a2.length af]) (t:=60) ?hr ?_;(case hd=>rfl);(case hg=>rfl);(case hr=>first|(go_simp;done)|(go_simp;rfl));intro a8 hg ib hbox hb;have a:=zk (hbox);have b0:=yg hg HB;have m:=yg hg HB;replace HB:=yS HB hb;clear hb hbox hg)|((with_reducible refine jc (N:=3) rfl ?_);refine jM ?hg (N:=3) ?hd (cs:= #[.bool aa, .slice ai a0.length ao, .slice aj Z.length ag]) (t:=60) ?hr ?_;(case hd=>rfl);(case hg=>rfl);(case hr=>first|(go_simp;done)|(go_simp;rfl));intro an hg i6 hbox hb;have b:=zk (hbox);have bk:=qg hg HB m;have r:=qg hg HB m;replace HB:=jg HB m hb;have I:=mZ hg a;have J:=ng hg a;replace a:=yK a hb;clear hb hbox hg)|((with_reducible refine jc (N:=4) rfl ?_);refine jM ?hg (N:=4) ?hd (cs:= #[.bool false, .slice none 0 0, .slice none 0 0]) (t:=60) ?hr ?_;(case hd=>rfl);(case hg=>rfl);(case hr=>first|(go_simp;done)|(go_simp;rfl));intro D hg hW hbox hb;have j:=zk (hbox);have b9:=qH hg HB m r;have x:=qH hg HB m r;replace HB:=oH HB m r hb;have q:=mZ hg a;have E:=ng hg a;replace a:=yK a hb;have z:=mZ hg b;have B:=ng hg b;replace b:=yK b hb;clear hb hbox hg;have hm:=I.out;have h3:=J.out;have gY:=q.out;have gX:=E.out;obtain⟨g3,f2,dS,ex,ge,eq⟩:=ja a)|((with_reducible refine gC 99 ?_);refine zG (some 9) Try.func99 #[.agg #[.bool a9, .slice al a1.length am, .slice ak a2.length af]] ?_;(with_reducible refine(qA.calls k a9 _ _ a1 _ _ a2 Y W L _ ?ig ?ik ?iF ?iE A3.out).mono ?_);(case ig=>exact zC (Kd.iR aH.out HB.out));(case ik=>exact az.out);(case iF=>exact zC (Kd.iR aG.out HB.out));(case iE=>exact aN.out);rintro e hT ⟨bT,c0,rfl,d,G,hb⟩;refine⟨_,rfl,?_⟩;have l:=kX d HB m r x;have g:=kX G HB m r x;replace a:=yK a hb;replace b:=yK b hb;replace j:=yK j hb;replace HB:=lX HB m r x hb;(try clear hb d G);obtain⟨cy,cH,dv,bD,cg,ch⟩:=ja a;obtain⟨aV,aK,rfl⟩:=Kd.iD l.out;obtain⟨av,ar,rfl⟩:=Kd.iD g.out;have gj:=z.out;have gI:=B.out;obtain⟨cC,bY,cj,bA,dm,cb⟩:=ja b)|((with_reducible refine gC 99 ?_);refine zG (some 11) Try.func99 #[.agg #[.bool aa, .slice ai a0.length ao, .slice aj Z.length ag]] ?_;(with_reducible refine(qA.calls k aa _ _ a0 _ _ Z a6 X M _ ?ig ?ik ?iF ?iE A4.out).mono ?_);(case ig=>exact Kd.iR aJ.out (nI HB.out m.out r.out x.out));(case ik=>exact aQ.out);(case iF=>exact Kd.iR aF.out (nI HB.out m.out r.out x.out));(case iE=>exact aP.out);rintro e hu ⟨d3,dh,rfl,d,G,hb⟩;refine⟨_,rfl,?_⟩;replace d:=jk d l a;replace d:=jk d g a;have s:=kX d HB m r x;replace G:=jk G l a;replace G:=jk G g a;have o:=kX G HB m r x;replace l:=lL l a hb d G;replace g:=lL g a hb d G;replace a:=wI a hb;replace b:=qR b J hb;replace j:=qR j E hb;replace HB:=lX HB m r x hb;(try clear hb d G);obtain⟨bP,dr,bZ,bF,cU,de⟩:=ja b;obtain⟨aw,au,rfl⟩:=Kd.iD s.out;obtain⟨aq,ap,rfl⟩:=Kd.iD o.out;obtain⟨dx,d9,cA,cu,bz,bV⟩:=ja a)|((with_reducible refine gC 26 ?_);refine zG (some 16) Try.func26 #[.slice aV W.length aK, .slice aq M.length ap] ?_;(with_reducible refine(kC.calls k _ _ W _ _ M U _ ?ig ?ik ?iF ?iE A5.out).mono ?_);(case ig=>refine(Kd.iw (e:=97) (base:=w.heap.size) (ok:=λk_=>((some k_≠(.slice av L.length ar:Value).ownBlock/\some k_≠(.slice aw X.length au:Value).ownBlock)/\some k_≠(.slice aq M.length ap:Value).ownBlock)) (n:=W.length) (c:=aK) ?_).2.2;exact(zf l.out b.out));(case ik=>exact(Kd.iw l.out).2.1);(case iF=>refine(Kd.iw (e:=97) (base:=w.heap.size) (ok:=λk_=>((some k_≠(.slice aw X.length au:Value).ownBlock/\some k_≠(.slice aV W.length aK:Value).ownBlock)/\some k_≠(.slice av L.length ar:Value).ownBlock)) (n:=M.length) (c:=ap) ?_).2.2;exact(zf o.out b.out));(case iE=>exact(Kd.iw o.out).2.1);rintro e ho ⟨bQ,rfl,d,hb⟩;refine⟨_,rfl,?_⟩;replace d:=jk d l b;replace d:=jk d g b;replace d:=jk d s b;replace d:=jk d o b;have u:=kX d HB m r x;replace l:=vF l b d hb;replace g:=vF g b d hb;replace s:=vF s b d hb;replace o:=vF o b d hb;replace a:=qR a I hb;replace b:=wI b hb;replace j:=qR j B hb;replace HB:=lX HB m r x hb;(try clear hb d);obtain⟨bI,dd,dq,cW,di,dt⟩:=ja b;obtain⟨cE,ck,d5,b_,cR,cp⟩:=ja a)|((with_reducible refine gC 26 ?_);refine zG (some 21) Try.func26 #[.slice aw X.length au, .slice av L.length ar] ?_;(with_reducible refine(kC.calls k _ _ X _ _ L T _ ?ig ?ik ?iF ?iE A6.out).mono ?_);(case ig=>exact zC (Kd.iw s.out).2.2);(case ik=>exact(Kd.iw s.out).2.1);(case iF=>exact zC (Kd.iw g.out).2.2);(case iE=>exact(Kd.iw g.out).2.1);rintro e hO ⟨cn,rfl,d,hb⟩;refine⟨_,rfl,?_⟩;replace d:=yn d l;replace d:=yn d g;replace d:=yn d s;replace d:=yn d o;replace d:=yn d u;have y:=kX d HB m r x;replace l:=iG l d hb;replace g:=iG g d hb;replace s:=iG s d hb;replace o:=iG o d hb;replace u:=iG u d hb;replace a:=yK a hb;replace b:=yK b hb;replace j:=yK j hb;replace HB:=lX HB m r x hb;(try clear hb d);obtain⟨d4,cF,cS,bN,d7,cJ⟩:=ja a;obtain⟨bL,df,cO,cm,cd,cl⟩:=ja b)|((with_reducible refine gC 26 ?_);refine zG (some 26) Try.func26 #[.slice av L.length ar, .slice aq M.length ap] ?_;(with_reducible refine(kC.calls k _ _ L _ _ M a4 _ ?ig ?ik ?iF ?iE A7.out).mono ?_);(case ig=>exact zC (Kd.iw g.out).2.2);(case ik=>exact(Kd.iw g.out).2.1);(case iF=>exact zC (Kd.iw o.out).2.2);(case iE=>exact(Kd.iw o.out).2.1);rintro e hR ⟨ca,rfl,d,hb⟩;refine⟨_,rfl,?_⟩;replace d:=yn d l;replace d:=yn d g;replace d:=yn d s;replace d:=yn d o;replace d:=yn d u;replace d:=yn d y;have A:=kX d HB m r x;replace l:=iG l d hb;replace g:=iG g d hb;replace s:=iG s d hb;replace o:=iG o d hb;replace u:=iG u d hb;replace y:=iG y d hb;replace a:=yK a hb;replace b:=yK b hb;replace j:=yK j hb;replace HB:=lX HB m r x hb;(try clear hb d);obtain⟨d8,cP,cT,d0,ci,dj⟩:=ja a;obtain⟨bE,bJ,dn,cr,cV,d2⟩:=ja b;obtain⟨aX,b5,rfl⟩:=Kd.iD u.out;obtain⟨bg,ba,rfl⟩:=Kd.iD y.out)|((with_reducible refine gC 77 ?_);refine zG (some 41) Try.func77 #[.slice aX U.length b5, .slice bg T.length ba] ?_;(with_reducible refine(rC.calls k _ _ U _ _ T ax _ ?ig ?ik ?iF ?iE he.out).mono ?_);(case ig=>exact zC (Kd.iw u.out).2.2);(case ik=>exact(Kd.iw u.out).2.1);(case iF=>exact zC (Kd.iw y.out).2.2);(case iE=>exact(Kd.iw y.out).2.1);rintro e gw ⟨rfl,hb⟩;refine⟨_,rfl,?_⟩;replace l:=jl l hb;replace g:=jl g hb;replace s:=jl s hb;replace o:=jl o hb;replace u:=jl u hb;replace y:=jl y hb;replace A:=jl A hb;replace a:=yK a hb;replace b:=yK b hb;replace j:=yK j hb;replace HB:=lX HB m r x hb;(try clear hb)))
 replace l:=zk (Kd.iJ l.out)
 replace g:=zk (Kd.iJ g.out)
 replace s:=zk (Kd.iJ s.out)
 replace o:=zk (Kd.iJ o.out)
 replace u:=zk (Kd.iJ u.out)
 replace y:=zk (Kd.iJ y.out)
 replace A:=zk (Kd.iJ A.out)
 replace a:=zk (iC a.out)
 replace b:=zk (iC b.out)
 replace j:=zk (iC j.out)
 replace HB:=zk (l9 HB.out)
 refine qi (n:=8) (S:=λw'=>w'.cell? ⟨an,0,none⟩=some (.bool a6)/\w'.cell? ⟨an,1,none⟩=some (.slice aw X.length au)/\w'.cell? ⟨an,2,none⟩=some (.slice aq M.length ap)) (ds:=[]) #[false,false,false,false,false,false,false,false] (by kernel_rfl) rfl rfl ⟨(iy b.out 0).trans rfl,(iy b.out 1).trans rfl,(iy b.out 2).trans rfl⟩ (λhHeld=>?_);refine qx lY.DZ lY.EP (λiq jq=>?_)
 generalize gw.drew=ht at l g s o u y A a b j HB hHeld ⊢
 refine zp (i:=0) (N:=some 50) iq ?_
 refine zp (i:=2) (N:=some 52) iq ?_
 refine zp (i:=3) (N:=some 53) iq ?_
 refine zp (i:=5) (N:=some 55) iq ?_
 refine jI (i:=1) (N:=some 51) (v:=?_) (a':=?_) #[true,true,true,true,false,true,false,false] rfl rfl (jO iq.out jq.out (by kernel_rfl)) (λ_ _ _ h=>h) (Or.inl ⟨by rfl,?_⟩) hHeld ?_ ?_
 rotate_left
 ·rintro w' ⟨s0,s1,s2⟩
  go_simp
  with_reducible rfl
 rotate_left
 ·simp only[Act.put,List.setIfInBounds_toArray,List.set_cons_zero,List.set_cons_succ,iI,iP]
  rfl
 refine lN (i:=4) (N:=some 54) #[true,true,true,true,true,true,false,false] rfl rfl (kH iq.out (by kernel_rfl)) (by decide) (λK hK=>?_)
 refine nS Try.func100 (by kernel_rfl) rfl #[.slice bg T.length ba, .slice aX U.length b5] (by rfl) rfl rfl (by(try simp only[List.map_toArray,List.map_cons,List.map_nil]);first|done|rfl|(simp only[List.length_drop,List.length_take];rfl)) ?_
 with_reducible refine(ry.calls k _ _ T _ _ U aI _ ?ig ?ik ?iF ?iE hP.out).mono ?_
 (case ig=>exact zC (Kd.iw y.out).2.2)
 (case ik=>exact(Kd.iw y.out).2.1)
 (case iF=>exact zC (Kd.iw u.out).2.2)
 (case iE=>exact(Kd.iw u.out).2.1)
 rintro e hE ⟨hN,rfl,d,hb⟩
 refine⟨_,rfl,?_⟩
 replace d:=yn d l
 replace d:=yn d g
 replace d:=yn d s
 replace d:=yn d o
 replace d:=yn d u
 replace d:=yn d y
 replace d:=yn d A
 have ab:=kX d HB m r x
 replace l:=iG l d hb
 replace g:=iG g d hb
 replace s:=iG s d hb
 replace o:=iG o d hb
 replace u:=iG u d hb
 replace y:=iG y d hb
 replace A:=iG A d hb
 replace a:=yK a hb
 replace b:=yK b hb
 replace j:=yK j hb
 replace HB:=lX HB m r x hb
 (try clear hb)
 (try clear d)
 obtain⟨cI,bB,be⟩:=Kd.iD ab.out
 (first|subst be|(injection be with P a7 O;have a5:=P.symm;have a3:=O.symm;clear P a7 O;subst a5;subst a3))
 obtain⟨dz,bS,bh⟩:=Kd.iD A.out
 (first|subst bh|(injection bh with P a7 O;have a5:=P.symm;have a3:=O.symm;clear P a7 O;subst a5;subst a3))
 refine hK.out _ _ ⟨(iy b.out 0).trans rfl,(iy b.out 1).trans rfl,(iy b.out 2).trans rfl⟩ (λhHeld=>?_)
 clear hK K
 refine mr (a':=?_) ?_ ?_
 rotate_left
 ·show Act.put _ (some 54) _=_
  simp only[Act.put,List.setIfInBounds_toArray,List.set_cons_zero,List.set_cons_succ,iI,iP]
  rfl
 refine lN (i:=6) (N:=some 56) #[true,true,true,true,true,true,true,false] rfl rfl (kH iq.out (by kernel_rfl)) (by decide) (λK hK=>?_)
 refine nS Try.func90 (by kernel_rfl) rfl #[.bool a6, .slice cI aI.length bB, .slice dz a4.length bS] (by rfl) rfl rfl (by(try simp only[List.map_toArray,List.map_cons,List.map_nil]);first|done|rfl|(simp only[List.length_drop,List.length_take];rfl)) ?_
 with_reducible refine(mP.calls k a6 _ _ aI _ _ a4 c1 cM bR _ ?ig ?ik ?iF ?iE hM.out).mono ?_
 (case ig=>exact zC (Kd.iw ab.out).2.2)
 (case ik=>exact(Kd.iw ab.out).2.1)
 (case iF=>exact zC (Kd.iw A.out).2.2)
 (case iE=>exact(Kd.iw A.out).2.1)
 rintro e bu ⟨hH,hn,rfl,d,G,hb⟩
 refine⟨_,rfl,?_⟩
 replace d:=yn d l
 replace d:=yn d g
 replace d:=yn d s
 replace d:=yn d o
 replace d:=yn d u
 replace d:=yn d y
 replace d:=yn d A
 replace d:=yn d ab
 have bb:=kX d HB m r x
 replace G:=yn G l
 replace G:=yn G g
 replace G:=yn G s
 replace G:=yn G o
 replace G:=yn G u
 replace G:=yn G y
 replace G:=yn G A
 replace G:=yn G ab
 have bc:=kX G HB m r x
 replace l:=jS l hb d G
 replace g:=jS g hb d G
 replace s:=jS s hb d G
 replace o:=jS o hb d G
 replace u:=jS u hb d G
 replace y:=jS y hb d G
 replace A:=jS A hb d G
 replace ab:=jS ab hb d G
 replace a:=yK a hb
 replace b:=yK b hb
 replace j:=yK j hb
 replace HB:=lX HB m r x hb
 (try clear hb)
 (try clear d)
 (try clear G)
 obtain⟨dA,cK,bj⟩:=Kd.iD bb.out
 (first|subst bj|(injection bj with P a7 O;have a5:=P.symm;have a3:=O.symm;clear P a7 O;subst a5;subst a3))
 obtain⟨dp,cB,aY⟩:=Kd.iD bc.out
 (first|subst aY|(injection aY with P a7 O;have a5:=P.symm;have a3:=O.symm;clear P a7 O;subst a5;subst a3))
 refine hK.out _ _ ⟨(iy b.out 0).trans rfl,(iy b.out 1).trans rfl,(iy b.out 2).trans rfl⟩ (λhHeld=>?_)
 clear hK K
 refine mr (a':=?_) ?_ ?_
 rotate_left
 ·show Act.put _ (some 56) _=_
  simp only[Act.put,List.setIfInBounds_toArray,List.set_cons_zero,List.set_cons_succ,iI,iP]
  rfl
 refine lN (i:=7) (N:=none) #[true,true,true,true,true,true,true,true] rfl rfl (kH iq.out (by kernel_rfl)) (by decide) (λK hK=>?_)
 have h8:bu.cell? ⟨D,0,none⟩=some (.bool false):=(iy j.out 0).trans rfl
 have go:=pY j.out 0
 have da:=q.out
 have d6:=z.out
 have bG:=E.out
 have bH:=B.out
 have ha:bu.cell? ⟨D,1,none⟩=some (.slice none 0 0):=(iy j.out 1).trans rfl
 have gx:=pY j.out 1
 have bO:=q.out
 have dy:=z.out
 have bU:=E.out
 have cz:=B.out
 have gW:bu.cell? ⟨D,2,none⟩=some (.slice none 0 0):=(iy j.out 2).trans rfl
 have gJ:=pY j.out 2
 have dk:=q.out
 have d1:=z.out
 have cq:=E.out
 have c_:=B.out
 refine vH (w1:=?_) (by rfl) rfl ?_ ?_
 rotate_left
 ·go_simp
  rfl
 refine hK.out _ _ ⟨((cell_far (p:=⟨D,_,none⟩) z.out _).trans (((cell_far (p:=⟨D,_,none⟩) z.out _).trans (((cell_far (p:=⟨D,_,none⟩) z.out _).trans (hHeld.1)))))),((cell_far (p:=⟨D,_,none⟩) z.out _).trans (((cell_far (p:=⟨D,_,none⟩) z.out _).trans (((cell_far (p:=⟨D,_,none⟩) z.out _).trans (hHeld.2.1)))))),((cell_far (p:=⟨D,_,none⟩) z.out _).trans (((cell_far (p:=⟨D,_,none⟩) z.out _).trans (((cell_far (p:=⟨D,_,none⟩) z.out _).trans (hHeld.2.2))))))⟩ (λhHeld=>?_)
 clear hK K
 refine ql (qF iq.out (by kernel_rfl)) ?_
 try go_wp2
 refine bodyPost_ret (results_cell_row rfl _ _ D 60 #[.bool c1, .slice dA cM.length cK, .slice dp bR.length cB] (0,0) _ rfl (sG j.out) Try.underlying60 rfl (by kernel_rfl)) rfl ?_
 exact⟨_,_,zE,by(with_reducible repeat(first|apply Kd.iT|apply Kd.iU|apply Kd.iJ));exact yf bb.out j.out (λ_ hk=>hk.1.1.1.1.1.1.1.1.1),by(with_reducible repeat(first|apply Kd.iT|apply Kd.iU|apply Kd.iJ));exact yf bc.out j.out (λ_ hk=>hk.1.1.1.1.1.1.1.1.1),nI HB.out m.out r.out x.out⟩
theorem sQ.calls(k:Nat)(A0:Option Addr)(c0:Nat)(l0:List Int)(a1:Int)(r1:List Int)(r2:Int)(w:World)(ad:Kd.C (Kd.int .u32) w A0 l0.length l0)(ai:l0.length<=c0)(h:sQ.f k l0 a1=some (r1,r2)):
 Calls Try.prog 22 #[.slice A0 l0.length c0, .int .i64 a1] w λe w'=>∃aa:Value,e= .returned (.tuple #[aa, .int .i64 r2])/\Kd.R (Kd.int .u32) 97 w' w.heap.size (λ_=>True) aa r1/\Below w.heap.size w w':=by
 have a0:=zk ad
 have a7:=zk ai
 clear ad ai
 have HB:=zk (Below.refl w.heap.size w)
 have H:=h
 clear h
 unfold sQ.f at H
 replace H:=zh H
 obtain⟨c3,H⟩:=H
 have a6:=decide_eq_false c3
 clear c3
 replace H:=zb H
 obtain⟨d,A4,H⟩:=H
 replace H:=zi H
 rcases H with⟨c5,H⟩|⟨c5,H⟩
 ·have E:=beq_iff_eq.mpr c5
  have L:=bne_eq_false_iff_eq.mpr c5
  clear c5
  obtain⟨ar,p⟩:∃y_:List Int,y_=(([1]:List Int)):=⟨_,rfl⟩
  rw[<-p] at H
  have x:=zk p
  clear p
  simp only[Option.some.injEq,Prod.mk.injEq] at H
  obtain⟨rfl,rfl⟩:=H
  go_enter Try.func22,Try.ntmps22
  go_wp2_with (first|((with_reducible refine gC 75 ?_);refine zG (some 11) Try.func75 #[.slice A0 l0.length c0] ?_;(with_reducible refine(lF.calls k _ _ l0 d _ ?ig ?ik A4.out).mono ?_);(case ig=>exact zC a0.out);(case ik=>exact a7.out);rintro e w6 ⟨K,rfl,c,hb⟩;refine⟨_,rfl,?_⟩;have a:=jm c HB;replace HB:=yS HB hb;(try clear hb c))|((with_reducible refine jc (N:=14) rfl ?_);refine Kd.qG (Kd.int .u32) _ 97 ?hg (N:=14) ?hd (xs:=([1]:List Int)) (inner:=[.int .u32 1]) (ok:=λ_=>True) (je:=λ_=>True) ?hr ?hp (λ_ hk=>hk) trivial (Below.refl _ _) (Nat.le_refl _) (by simp) ?_;(case hd=>rfl);(case hg=>rfl);(case hr=>first|(go_simp;done)|(go_simp;rfl));(case hp=>exact(iY.one (show Kd.M (Kd.int .u32) _ _ _ 1 [.int .u32 1] from rfl) (iY.none _ _)));intro ax w7 y hb jw jv;clear jw jv;(first|rw[<-x.out] at y|(simp only[Int.reduceToNat] at y;rw[<-x.out] at y));replace y:=yn y a;have U:=jm y HB;replace a:=iG a y hb;replace HB:=yS HB hb;clear hb y))
  go_ret2
  exact⟨_,zE,by(with_reducible repeat(first|apply Kd.iT|apply Kd.iU|apply Kd.iJ));exact Kd.iZ U.out (λ_ hk=>trivial),zB HB.out⟩
 have E:=beq_eq_false_iff_ne.mpr c5
 have L:=bne_iff_ne.mpr c5
 replace H:=zb H
 obtain⟨s,A9,H⟩:=H
 replace H:=jB H
 rcases H with⟨v,H⟩|⟨v,H⟩
 ·simp only[Option.some.injEq,Prod.mk.injEq] at H
  obtain⟨rfl,rfl⟩:=H
  go_enter Try.func22,Try.ntmps22
  go_wp2_with (first|((with_reducible refine gC 75 ?_);refine zG (some 11) Try.func75 #[.slice A0 l0.length c0] ?_;(with_reducible refine(lF.calls k _ _ l0 d _ ?ig ?ik A4.out).mono ?_);(case ig=>exact zC a0.out);(case ik=>exact a7.out);rintro e aA ⟨K,rfl,c,hb⟩;refine⟨_,rfl,?_⟩;have a:=jm c HB;replace HB:=yS HB hb;(try clear hb c);obtain⟨a5,a8,rfl⟩:=Kd.iD a.out)|((with_reducible refine gC 76 ?_);refine zG (some 16) Try.func76 #[.slice a5 d.length a8] ?_;(with_reducible refine(qC.calls k _ _ d s _ ?ig ?ik A9.out).mono ?_);(case ig=>exact zC (Kd.iw a.out).2.2);(case ik=>exact(Kd.iw a.out).2.1);rintro e aD ⟨rfl,hb⟩;refine⟨_,rfl,?_⟩;replace a:=jl a hb;replace HB:=yS HB hb;(try clear hb)))
  go_ret2
  exact⟨_,zE,zR a.out,zB HB.out⟩
 replace H:=zh H
 obtain⟨al,H⟩:=H
 have X:decide (131072<a1)=false:=decide_eq_false al
 clear al
 obtain⟨a9,q⟩:∃y_:List Int,y_=(([1]:List Int)):=⟨_,rfl⟩
 rw[<-q] at H
 have z:=zk q
 clear q
 have H':=zk H
 clear H
 go_enter Try.func22,Try.ntmps22
 go_wp2_with (first|((with_reducible refine gC 75 ?_);refine zG (some 11) Try.func75 #[.slice A0 l0.length c0] ?_;(with_reducible refine(lF.calls k _ _ l0 d _ ?ig ?ik A4.out).mono ?_);(case ig=>exact zC a0.out);(case ik=>exact a7.out);rintro e aE ⟨K,rfl,c,hb⟩;refine⟨_,rfl,?_⟩;have a:=jm c HB;replace HB:=yS HB hb;(try clear hb c);obtain⟨t,u,rfl⟩:=Kd.iD a.out)|((with_reducible refine gC 76 ?_);refine zG (some 16) Try.func76 #[.slice t d.length u] ?_;(with_reducible refine(qC.calls k _ _ d s _ ?ig ?ik A9.out).mono ?_);(case ig=>exact zC (Kd.iw a.out).2.2);(case ik=>exact(Kd.iw a.out).2.1);rintro e aG ⟨rfl,hb⟩;refine⟨_,rfl,?_⟩;replace a:=jl a hb;replace HB:=yS HB hb;(try clear hb))|((with_reducible refine jc (N:=21) rfl ?_);refine Kd.qG (Kd.int .u32) _ 97 ?hg (N:=21) ?hd (xs:=([1]:List Int)) (inner:=[.int .u32 1]) (ok:=λ_=>True) (je:=λ_=>True) ?hr ?hp (λ_ hk=>hk) trivial (Below.refl _ _) (Nat.le_refl _) (by simp) ?_;(case hd=>rfl);(case hg=>rfl);(case hr=>first|(go_simp;done)|(go_simp;rfl));(case hp=>exact(iY.one (show Kd.M (Kd.int .u32) _ _ _ 1 [.int .u32 1] from rfl) (iY.none _ _)));intro ao aF m hb jw jv;clear jw jv;(first|rw[<-z.out] at m|(simp only[Int.reduceToNat] at m;rw[<-z.out] at m));replace m:=yn m a;have P:=jm m HB;replace a:=iG a m hb;replace HB:=yS HB hb;clear hb m))
 go_loopg [6,7] k (λkq v6 v7 w'=>∃(l:List Int) (n:Int),v7= .int .i64 n/\dw (sQ.l0 kq d a1 l n=some (r1,r2))/\dw (kq<=k)/\dw (Kd.R (Kd.int .u32) 97 w' w.heap.size (λk_=>some k_≠(v6:Value).ownBlock) (.slice t d.length u) d)/\dw (Kd.R (Kd.int .u32) 97 w' w.heap.size (λk_=>some k_≠((.slice t d.length u):Value).ownBlock) v6 l)/\dw (Below w.heap.size w w'))
 case atStart=>exact⟨(a9),(262144),zF,H',⟨Nat.le_refl _⟩,⟨by(with_reducible repeat(first|apply Kd.iT|apply Kd.iU|apply Kd.iJ));exact Kd.iZ a.out (λ_ hk=>hk.2)⟩,⟨by(with_reducible repeat(first|apply Kd.iT|apply Kd.iU|apply Kd.iJ));exact Kd.iZ P.out (λ_ hk=>hk.2)⟩,⟨zB HB.out⟩⟩
 clear H'
 (try clear a6 c5 E L v X)
 obtain⟨l,n,rfl,HA,Z,j,b,HB⟩:=hrel
 cases gk with|zero=>exact absurd HA.out (by simp [sQ.l0])|succ k1=>?_
 have H:=HA.out
 clear HA
 simp only[sQ.l0] at H
 replace H:=zi H
 rcases H with⟨D,H⟩|⟨D,H⟩
 ·have J:decide (0<n)=true:=decide_eq_true D
  clear D
  replace H:=zb H
  obtain⟨o,ak,H⟩:=H
  replace H:=zh H
  obtain⟨ae,H⟩:=H
  have ac:=beq_eq_false_iff_ne.mpr ae
  have ab:=bne_iff_ne.mpr ae
  replace H:=zi H
  rcases H with⟨B,H⟩|⟨B,H⟩
  ·have I:=beq_iff_eq.mpr B
   have T:=bne_eq_false_iff_eq.mpr B
   clear B
   replace H:=zb H
   obtain⟨r,aw,H⟩:=H
   replace H:=zh H
   obtain⟨af,H⟩:=H
   have am:decide (4096<(r.length:Int))=false:=decide_eq_false af
   have aj:decide (4096<r.length)=false:=decide_eq_false (by omega)
   clear af
   have H':=zk H
   clear H
   obtain⟨Y,G,rfl⟩:=Kd.iD b.out
   go_wp2_with (first|((with_reducible refine gC 26 ?_);refine zG (some 28) Try.func26 #[.slice Y l.length G, .slice Y l.length G] ?_;(with_reducible refine(kC.calls k1 _ _ l _ _ l o _ ?ig ?ik ?iF ?iE ak.out).mono ?_);(case ig=>exact zC (Kd.iw b.out).2.2);(case ik=>exact(Kd.iw b.out).2.1);(case iF=>exact zC (Kd.iw b.out).2.2);(case iE=>exact(Kd.iw b.out).2.1);rintro e az ⟨a3,rfl,c,hb⟩;refine⟨_,rfl,?_⟩;replace c:=yn c j;replace c:=yn c b;have g:=jm c HB;replace j:=iG j c hb;replace b:=iG b c hb;replace HB:=yS HB hb;(try clear hb c);obtain⟨a4,a2,rfl⟩:=Kd.iD g.out)|((with_reducible refine gC 26 ?_);refine zG (some 36) Try.func26 #[.slice a4 o.length a2, .slice t d.length u] ?_;(with_reducible refine(kC.calls k1 _ _ o _ _ d r _ ?ig ?ik ?iF ?iE aw.out).mono ?_);(case ig=>exact zC (Kd.iw g.out).2.2);(case ik=>exact(Kd.iw g.out).2.1);(case iF=>exact zC (Kd.iw j.out).2.2);(case iE=>exact(Kd.iw j.out).2.1);rintro e aB ⟨ap,rfl,c,hb⟩;refine⟨_,rfl,?_⟩;replace c:=yn c j;replace c:=yn c b;replace c:=yn c g;have A:=jm c HB;replace j:=iG j c hb;replace b:=iG b c hb;replace g:=iG g c hb;replace HB:=yS HB hb;(try clear hb c);obtain⟨aq,au,rfl⟩:=Kd.iD A.out))
   go_roundg k1
   case measure=>have:=Z.out;omega
   case rel=>exact⟨(r),(wrap64 (Int.tdiv n 2)),zF,H',⟨kP Z⟩,⟨by(with_reducible repeat(first|apply Kd.iT|apply Kd.iU|apply Kd.iJ));exact Kd.iZ j.out (λ_ hk=>hk.2)⟩,⟨by(with_reducible repeat(first|apply Kd.iT|apply Kd.iU|apply Kd.iJ));exact Kd.iZ A.out (λ_ hk=>hk.1.1.2)⟩,⟨zB HB.out⟩⟩
  have I:=beq_eq_false_iff_ne.mpr B
  have T:=bne_iff_ne.mpr B
  replace H:=zh H
  obtain⟨ah,H⟩:=H
  have ag:decide (4096<(o.length:Int))=false:=decide_eq_false ah
  have an:decide (4096<o.length)=false:=decide_eq_false (by omega)
  clear ah
  have H':=zk H
  clear H
  obtain⟨O,W,rfl⟩:=Kd.iD b.out
  go_wp2_with (first|((with_reducible refine gC 26 ?_);refine zG (some 28) Try.func26 #[.slice O l.length W, .slice O l.length W] ?_;(with_reducible refine(kC.calls k1 _ _ l _ _ l o _ ?ig ?ik ?iF ?iE ak.out).mono ?_);(case ig=>exact zC (Kd.iw b.out).2.2);(case ik=>exact(Kd.iw b.out).2.1);(case iF=>exact zC (Kd.iw b.out).2.2);(case iE=>exact(Kd.iw b.out).2.1);rintro e aC ⟨a3,rfl,c,hb⟩;refine⟨_,rfl,?_⟩;replace c:=yn c j;replace c:=yn c b;have g:=jm c HB;replace j:=iG j c hb;replace b:=iG b c hb;replace HB:=yS HB hb;(try clear hb c);obtain⟨ay,av,rfl⟩:=Kd.iD g.out))
  go_roundg k1
  case measure=>have:=Z.out;omega
  case rel=>exact⟨(o),(wrap64 (Int.tdiv n 2)),zF,H',⟨kP Z⟩,⟨by(with_reducible repeat(first|apply Kd.iT|apply Kd.iU|apply Kd.iJ));exact Kd.iZ j.out (λ_ hk=>hk.2)⟩,⟨by(with_reducible repeat(first|apply Kd.iT|apply Kd.iU|apply Kd.iJ));exact Kd.iZ g.out (λ_ hk=>hk.1.2)⟩,⟨zB HB.out⟩⟩
 have J:decide (0<n)=false:=decide_eq_false D
 clear D
 simp only[Option.some.injEq,Prod.mk.injEq] at H
 obtain⟨rfl,rfl⟩:=H
 go_wp2
 go_ret2
 exact⟨_,zE,by(with_reducible repeat(first|apply Kd.iT|apply Kd.iU|apply Kd.iJ));exact Kd.iZ b.out (λ_ hk=>trivial),zB HB.out⟩
theorem uy.calls(k:Nat)(A0:Option Addr)(c0:Nat)(l0:List Int)(a1:Int)(a2:Int)(r:List Int)(w:World)(ak:Kd.C (Kd.int .u32) w A0 l0.length l0)(al:l0.length<=c0)(h:uy.f k l0 a1 a2=some r):
 Calls Try.prog 120 #[.slice A0 l0.length c0, .int .i64 a1, .int .i64 a2] w λe w'=>∃ah:Value,e= .returned (ah)/\Kd.R (Kd.int .u32) 97 w' w.heap.size (λ_=>True) ah r/\Below w.heap.size w w':=by
 have ar:=zk ak
 have az:=zk al
 clear ak al
 have HB:=zk (Below.refl w.heap.size w)
 have H:=h
 clear h
 unfold uy.f at H
 replace H:=zb H
 obtain⟨u,A4,H⟩:=H
 replace H:=zb H
 obtain⟨a,A5,H⟩:=H
 replace H:=zg H
 obtain⟨c6,H⟩:=H
 have ab:=eq_true c6
 have a3:=decide_eq_true c6
 clear c6
 replace H:=zg H
 obtain⟨c7,H⟩:=H
 have ae:=eq_true c7
 have aa:=decide_eq_true c7
 clear c7
 obtain⟨a7,s⟩:∃y_:List Int,y_=(List.replicate ((a.length:Int):Int).toNat 0):=⟨_,rfl⟩
 rw[<-s] at H
 have y:=zk s
 clear s
 have H':=zk H
 clear H
 go_enter Try.func120,Try.ntmps120
 go_wp2_with (first|((with_reducible refine gC 23 ?_);refine zG (some 14) Try.func23 #[.int .u64 (IntKind.u64.wrap (a1))] ?_;(with_reducible refine(uA.calls k (IntKind.u64.wrap (a1)) u _ A4.out).mono ?_);rintro e w8 ⟨aw,rfl,l,hb⟩;refine⟨_,rfl,?_⟩;have c:=jm l HB;replace HB:=yS HB hb;(try clear hb l);obtain⟨aC,aB,rfl⟩:=Kd.iD c.out)|((with_reducible refine gC 26 ?_);refine zG (some 15) Try.func26 #[.slice A0 l0.length c0, .slice aC u.length aB] ?_;(with_reducible refine(kC.calls k _ _ l0 _ _ u a _ ?ig ?ik ?iF ?iE A5.out).mono ?_);(case ig=>exact zC (Kd.iR ar.out HB.out));(case ik=>exact az.out);(case iF=>exact zC (Kd.iw c.out).2.2);(case iE=>exact(Kd.iw c.out).2.1);rintro e aD ⟨ax,rfl,l,hb⟩;refine⟨_,rfl,?_⟩;replace l:=yn l c;have m:=jm l HB;replace c:=iG c l hb;replace HB:=yS HB hb;(try clear hb l);obtain⟨G,E,rfl⟩:=Kd.iD m.out)|((with_reducible refine jc (N:=18) rfl ?_);refine Kd.ug (Kd.int .u32) _ 97 rfl (N:=18) rfl 29 _ _ rfl (a.length:Int) rfl rfl Try.underlying29 (.int .u32 0) 4 rZ rfl (by decide) (by omega) 0 (ok:=λ_=>True) (je:=λ_=>True) rfl (λ_ hk=>hk) trivial zd (Nat.le_trans (Nat.mul_le_mul_right _ (zd:(a.length:Int).toNat<=70368744177664)) (by omega)) (Below.refl _ _) (Nat.le_refl _) ?_;intro L aF d hb jw jv;clear jw jv;(first|rw[<-y.out] at d|(simp only[Int.reduceToNat] at d;rw[<-y.out] at d));replace d:=yn d c;replace d:=yn d m;have P:=jm d HB;replace c:=iG c d hb;replace m:=iG m d hb;replace HB:=yS HB hb;clear hb d))
 go_loopg [8,9] k (λkq v8 v9 w'=>∃(j:List Int) (o:Int) (b:Int),v8= .int .u64 o/\v9= .int .i64 b/\dw (uy.l0 kq a a2 j o b=some r)/\dw (kq<=k)/\dw (Kd.R (Kd.int .u32) 97 w' w.heap.size (λk_=>some k_≠(L:Value).ownBlock) (.slice G a.length E) a)/\dw (Kd.R (Kd.int .u32) 97 w' w.heap.size (λk_=>some k_≠((.slice G a.length E):Value).ownBlock) L j)/\dw (Below w.heap.size w w'))
 case atStart=>exact⟨(a7),(0),(wrap64 ((a.length:Int)-1)),zF,zF,H',⟨Nat.le_refl _⟩,⟨by(with_reducible repeat(first|apply Kd.iT|apply Kd.iU|apply Kd.iJ));exact Kd.iZ m.out (λ_ hk=>hk.2)⟩,⟨by(with_reducible repeat(first|apply Kd.iT|apply Kd.iU|apply Kd.iJ));exact Kd.iZ P.out (λ_ hk=>hk.2)⟩,⟨zB HB.out⟩⟩
 clear H'
 (try clear ab a3 ae aa)
 obtain⟨j,o,b,rfl,rfl,HA,aq,n,g,HB⟩:=hrel
 cases gk with|zero=>exact absurd HA.out (by simp [uy.l0])|succ k1=>?_
 have H:=HA.out
 clear HA
 simp only[uy.l0] at H
 replace H:=zi H
 rcases H with⟨T,H⟩|⟨T,H⟩
 ·have X:decide (0<=b)=true:=decide_eq_true T
  clear T
  replace H:=iV H
  obtain⟨an,H⟩:=H
  replace H:=iV H
  obtain⟨am,H⟩:=H
  replace H:=zh H
  obtain⟨ao,H⟩:=H
  have aj:=beq_eq_false_iff_ne.mpr ao
  have ai:=bne_iff_ne.mpr ao
  replace H:=iV H
  obtain⟨ap,H⟩:=H
  obtain⟨M,q⟩:∃y_:List Int,y_=(j.set (b:Int).toNat ((IntKind.u64.wrap (Int.tdiv (IntKind.u64.wrap ((IntKind.u64.wrap (o*4294967296))+(IntKind.u64.wrap (rd a b)))) (IntKind.u64.wrap (a2)))) % 4294967296)):=⟨_,rfl⟩
  rw[<-q] at H
  have W:=zk q
  clear q
  have H':=zk H
  clear H
  have B:0<=(b:Int):=zd
  have A:b<(a.length:Int):=zd
  obtain⟨K,a8,Y⟩:=Kd.jG (Kd.iw n.out).2.2 b B A
  cases a8
  replace B:=eq_true B
  replace A:=eq_true A
  have a0:0<=(b:Int):=zd
  have a9:(b:Int)<((j.length:Int):Int):=zd
  obtain⟨x,D,U,J,a5,aA,O⟩:=Kd.qO g.out (by omega)
  (first|cases U|(injection U with iW kL kM;(first|subst iW|(injection iW with iW;subst iW));subst kM;clear kL))
  have Z:=zk J
  have ay:=zk O
  clear J a5 O
  obtain⟨a4,ad⟩:=Kd.nT 0 g.out (b:Int) a0 a9
  replace a0:=eq_true a0
  replace a9:=eq_true a9
  have z:=Kd.qY g.out (b:Int) ((IntKind.u64.wrap (Int.tdiv (IntKind.u64.wrap ((IntKind.u64.wrap (o*4294967296))+(IntKind.u64.wrap (rd a b)))) (IntKind.u64.wrap (a2)))) % 4294967296)
  go_wp2_with (first|((with_reducible refine qM (t:=97) (p:=41) rfl ?_);refine qJ (t:=97) (p:=41) (v:=?Q8) (w1:=(wr.setCell ⟨x,(b:Int).toNat,none⟩ (.int .u32 ((IntKind.u64.wrap (Int.tdiv (IntKind.u64.wrap ((IntKind.u64.wrap (o*4294967296))+(IntKind.u64.wrap (rd a b)))) (IntKind.u64.wrap (a2)))) % 4294967296)))) ?hg ?ho ?hn ?hr ?_;(case ho=>rfl);(case hg=>rfl);(case hn=>rfl);(case hr=>first|(go_simp;done)|(go_simp;rfl));intro af hw;have hg:wr.grownBy af (some x):=(by rw[hw];exact z.2);have jY:Kd.R (Kd.int .u32) 97 af w.heap.size (λk_=>some k_≠(.slice (some K) a.length E:Value).ownBlock) (.slice (some ⟨x,0,none⟩) j.length D) M:=(by rw[hw,W.out];exact z.1);clear z;replace n:=zk (Kd.JK (v:=(.slice (some ⟨x,0,none⟩) j.length D)) (v1:=(.slice (some ⟨x,0,none⟩) j.length D)) (ok:=(λ_=>True)) (by(with_reducible repeat(first|apply Kd.iT|apply Kd.iU|apply Kd.iJ));exact Kd.iZ n.out (λ_ hk=>⟨trivial,hk⟩)) hg (.inl rfl));replace g:=zk (jY);replace HB:=zk ((by rw[hw];exact lS (HB.out) Z.out:Below w.heap.size w af));clear hg hw jY))
  go_roundg k1
  case measure=>have:=aq.out;omega
  case rel=>exact⟨(M),(Int.tmod (IntKind.u64.wrap ((IntKind.u64.wrap (o*4294967296))+(IntKind.u64.wrap (rd a b)))) (IntKind.u64.wrap (a2))),(wrap64 (b-1)),zF,zF,H',⟨kP aq⟩,⟨by(with_reducible repeat(first|apply Kd.iT|apply Kd.iU|apply Kd.iJ));exact Kd.iZ n.out (λ_ hk=>hk.2)⟩,⟨zR g.out⟩,⟨zB HB.out⟩⟩
 have X:decide (0<=b)=false:=decide_eq_false T
 clear T
 replace H:=zb H
 obtain⟨ag,au,H⟩:=H
 obtain rfl:=Option.some.inj H
 obtain⟨ac,a6,rfl⟩:=Kd.iD g.out
 go_wp2_with (first|((with_reducible refine gC 75 ?_);refine zG (some 47) Try.func75 #[.slice ac j.length a6] ?_;(with_reducible refine(lF.calls k1 _ _ j ag _ ?ig ?ik au.out).mono ?_);(case ig=>exact zC (Kd.iw g.out).2.2);(case ik=>exact(Kd.iw g.out).2.1);rintro e aE ⟨av,rfl,l,hb⟩;refine⟨_,rfl,?_⟩;replace l:=yn l n;replace l:=yn l g;have I:=jm l HB;replace n:=iG n l hb;replace g:=iG g l hb;replace HB:=yS HB hb;(try clear hb l)))
 go_ret
 exact⟨_,zE,by(with_reducible repeat(first|apply Kd.iT|apply Kd.iU|apply Kd.iJ));exact Kd.iZ I.out (λ_ hk=>trivial),zB HB.out⟩
theorem oJ.calls(k:Nat)(a0:Int)(a1:Int)(r:List Int)(w:World)(h:oJ.f k a0 a1=some r):
 Calls Try.prog 78 #[.int .i64 a0, .int .i64 a1] w λe w'=>∃E:Value,e= .returned (E)/\Kd.R (Kd.int .u32) 97 w' w.heap.size (λ_=>True) E r/\Below w.heap.size w w':=by
 have HB:=zk (Below.refl w.heap.size w)
 have H:=h
 clear h
 unfold oJ.f at H
 have z:=zk H
 clear H
 go_enter Try.func78,Try.ntmps78
 go_upto_region 1 with(fail)
 go_cut [13] (λL wc=>∃(kq:Nat) (c:Bool),L= .bool c/\dw (oJ.j0 kq a0 a1 c=some r)/\dw (kq<=k)/\dw (Below w.heap.size w wc))
 case first=>
  have H:=z.out
  clear z
  replace H:=jB H
  rcases H with⟨g,H⟩|⟨g,H⟩
  ·(first|rw[g]|(simp only[iI,iP];rw[g])|rw[yQ]|skip)
   have H':=zk H
   clear H
   go_wp2
   go_meet
   case rel=>exact⟨_,(true),zF,H',⟨zO⟩,⟨zB HB.out⟩⟩
  (first|rw[g]|(simp only[iI,iP];rw[g])|rw[yQ]|skip)
  have H':=zk H
  clear H
  go_wp2
  go_meet
  case rel=>exact⟨_,(decide (a1>a0)),zF,H',⟨zO⟩,⟨zB HB.out⟩⟩
 clear z
 obtain⟨kq,c,rfl,HA,I,HB⟩:=hcut
 cases kq with|zero=>exact absurd HA.out (by simp [oJ.j0])|succ G=>?_
 have H:=HA.out
 clear HA
 simp only[oJ.j0] at H
 by_cases c5:c=true
 ·subst c5
  rw[if_pos rfl] at H
  obtain⟨B,j⟩:∃y_:List Int,y_=(([]:List Int)):=⟨_,rfl⟩
  replace H:(some B)=some r:=zY j H
  have n:=zk j
  clear j
  obtain rfl:=Option.some.inj H
  go_wp2_with (first|((with_reducible refine jc (N:=14) rfl ?_);refine Kd.qG (Kd.int .u32) _ 97 ?hg (N:=14) ?hd (xs:=([]:List Int)) (inner:=[]) (ok:=λ_=>True) (je:=λ_=>True) ?hr ?hp (λ_ hk=>hk) trivial (Below.refl _ _) (Nat.le_refl _) (by simp) ?_;(case hd=>rfl);(case hg=>rfl);(case hr=>first|(go_simp;done)|(go_simp;rfl));(case hp=>exact(iY.none _ _));intro O w6 s hb jw jv;clear jw jv;(first|rw[<-n.out] at s|(simp only[Int.reduceToNat] at s;rw[<-n.out] at s));have x:=jm s HB;replace HB:=yS HB hb;clear hb s))
  go_ret
  exact⟨_,zE,zR x.out,zB HB.out⟩
 replace c5:=Bool.eq_false_iff.mpr c5
 subst c5
 rw[if_neg Bool.false_ne_true] at H
 obtain⟨y,l⟩:∃y_:List Int,y_=(([1]:List Int)):=⟨_,rfl⟩
 rw[<-l] at H
 have m:=zk l
 clear l
 have H':=zk H
 clear H
 go_wp2_with (first|((with_reducible refine jc (N:=15) rfl ?_);refine Kd.qG (Kd.int .u32) _ 97 ?hg (N:=15) ?hd (xs:=([1]:List Int)) (inner:=[.int .u32 1]) (ok:=λ_=>True) (je:=λ_=>True) ?hr ?hp (λ_ hk=>hk) trivial (Below.refl _ _) (Nat.le_refl _) (by simp) ?_;(case hd=>rfl);(case hg=>rfl);(case hr=>first|(go_simp;done)|(go_simp;rfl));(case hp=>exact(iY.one (show Kd.M (Kd.int .u32) _ _ _ 1 [.int .u32 1] from rfl) (iY.none _ _)));intro P w8 t hb jw jv;clear jw jv;(first|rw[<-m.out] at t|(simp only[Int.reduceToNat] at t;rw[<-m.out] at t));have v:=jm t HB;replace HB:=yS HB hb;clear hb t))
 go_loopg [5,6] G (λkq v5 v6 w'=>∃(d:List Int) (a:Int),v6= .int .i64 a/\dw (oJ.l0 kq a0 a1 d a=some r)/\dw (kq<=G)/\dw (Kd.R (Kd.int .u32) 97 w' w.heap.size (λ_=>True) v5 d)/\dw (Below w.heap.size w w'))
 case atStart=>exact⟨(y),(0),zF,H',⟨Nat.le_refl _⟩,⟨zR v.out⟩,⟨zB HB.out⟩⟩
 clear H'
 (try clear c5)
 obtain⟨d,a,rfl,HA,J,b,HB⟩:=hrel
 cases gk with|zero=>exact absurd HA.out (by simp [oJ.l0])|succ k2=>?_
 have H:=HA.out
 clear HA
 simp only[oJ.l0] at H
 replace H:=jB H
 rcases H with⟨o,H⟩|⟨o,H⟩
 ·replace H:=zb H
  obtain⟨q,T,H⟩:=H
  have H':=zk H
  clear H
  obtain⟨D,A,rfl⟩:=Kd.iD b.out
  go_wp2_with (first|((with_reducible refine gC 120 ?_);refine zG (some 27) Try.func120 #[.slice D d.length A, .int .i64 (wrap64 (a0-a)), .int .i64 (wrap64 (a+1))] ?_;(with_reducible refine(uy.calls k2 _ _ d (wrap64 (a0-a)) (wrap64 (a+1)) q _ ?ig ?ik T.out).mono ?_);(case ig=>exact zC (Kd.iw b.out).2.2);(case ik=>exact(Kd.iw b.out).2.1);rintro e U ⟨K,rfl,p,hb⟩;refine⟨_,rfl,?_⟩;replace p:=yn p b;have u:=jm p HB;replace b:=iG b p hb;replace HB:=yS HB hb;(try clear hb p)))
  go_roundg k2
  case measure=>have:=I.out;have:=J.out;omega
  case rel=>exact⟨(q),(wrap64 (a+1)),zF,H',⟨lW I J⟩,⟨by(with_reducible repeat(first|apply Kd.iT|apply Kd.iU|apply Kd.iJ));exact Kd.iZ u.out (λ_ hk=>trivial)⟩,⟨zB HB.out⟩⟩
 obtain rfl:=Option.some.inj H
 go_wp2
 go_ret
 exact⟨_,zE,zR b.out,zB HB.out⟩
theorem zl.calls(k:Nat)(A0:Option Addr)(c0:Nat)(l0:List Int)(r1:Bool)(r2:List Int)(r3:List Int)(w:World)(K:Kd.C (Kd.int .u32) w A0 l0.length l0)(L:l0.length<=c0)(h:zl.f k l0=some (r1,r2,r3)):
 Calls Try.prog 95 #[.slice A0 l0.length c0] w λe w'=>∃G B:Value,e= .returned (.agg #[.bool r1,G,B])/\Kd.R (Kd.int .u32) 97 w' w.heap.size (λk_=>some k_≠(B:Value).ownBlock) G r2/\Kd.R (Kd.int .u32) 97 w' w.heap.size (λk_=>some k_≠(G:Value).ownBlock) B r3/\Below w.heap.size w w':=by
 have T:=Try.underlying60
 have P:=zk K
 have Y:=zk L
 clear K L
 have HB:=zk (Below.refl w.heap.size w)
 have H:=h
 clear h
 unfold zl.f at H
 obtain⟨s,g⟩:∃y_:List Int,y_=(([1]:List Int)):=⟨_,rfl⟩
 rw[<-g] at H
 have l:=zk g
 clear g
 replace H:=zb H
 obtain⟨⟨p,v,r⟩,A2,H⟩:=H
 dsimp only at H
 simp only[Option.some.injEq,Prod.mk.injEq] at H
 obtain⟨rfl,rfl,rfl⟩:=H
 go_enter Try.func95,Try.ntmps95
 go_wp2_with (first|((with_reducible refine jc (N:=2) rfl ?_);refine jM ?hg (N:=2) ?hd (cs:= #[.bool false, .slice none 0 0, .slice none 0 0]) (t:=60) ?hr ?_;(case hd=>rfl);(case hg=>rfl);(case hr=>first|(go_simp;done)|(go_simp;rfl));intro n hg w3 hbox hb;have a:=zk (hbox);have O:=yg hg HB;have c:=yg hg HB;replace HB:=yS HB hb;clear hb hbox hg)|((with_reducible refine jc (N:=4) rfl ?_);refine Kd.qG (Kd.int .u32) _ 97 ?hg (N:=4) ?hd (xs:=([1]:List Int)) (inner:=[.int .u32 1]) (ok:=λ_=>True) (je:=λ_=>True) ?hr ?hp (λ_ hk=>hk) trivial (Below.refl _ _) (Nat.le_refl _) (by simp) ?_;(case hd=>rfl);(case hg=>rfl);(case hr=>first|(go_simp;done)|(go_simp;rfl));(case hp=>exact(iY.one (show Kd.M (Kd.int .u32) _ _ _ 1 [.int .u32 1] from rfl) (iY.none _ _)));intro a0 w4 q hb jw jv;clear jw jv;(first|rw[<-l.out] at q|(simp only[Int.reduceToNat] at q;rw[<-l.out] at q));have b:=kY q HB c;replace a:=yK a hb;replace HB:=jg HB c hb;clear hb q;obtain⟨X,Z,rfl⟩:=Kd.iD b.out)|((with_reducible refine gC 90 ?_);refine zG (some 5) Try.func90 #[.bool false, .slice A0 l0.length c0, .slice X s.length Z] ?_;(with_reducible refine(mP.calls k false _ _ l0 _ _ s p v r _ ?ig ?ik ?iF ?iE A2.out).mono ?_);(case ig=>exact zC (Kd.iR P.out HB.out));(case ik=>exact Y.out);(case iF=>exact zC (Kd.iw b.out).2.2);(case iE=>exact(Kd.iw b.out).2.1);rintro e w7 ⟨U,W,rfl,o,u,hb⟩;refine⟨_,rfl,?_⟩;replace o:=yn o b;have j:=kY o HB c;replace u:=yn u b;have m:=kY u HB c;replace b:=jS b hb o u;replace a:=yK a hb;replace HB:=jg HB c hb;(try clear hb o u);obtain⟨x,A,J,y,z,D⟩:=ja a;obtain⟨a2,a1,rfl⟩:=Kd.iD j.out;obtain⟨E,I,rfl⟩:=Kd.iD m.out))
 refine bodyPost_ret (results_cell_row rfl _ _ n 60 #[.bool p, .slice a2 v.length a1, .slice E r.length I] (0,0) _ rfl (sG a.out) Try.underlying60 rfl (by kernel_rfl)) rfl ?_
 exact⟨_,_,zE,by(with_reducible repeat(first|apply Kd.iT|apply Kd.iU|apply Kd.iJ));exact yf j.out a.out (λ_ hk=>hk.1.1),by(with_reducible repeat(first|apply Kd.iT|apply Kd.iU|apply Kd.iJ));exact yf m.out a.out (λ_ hk=>hk.1.1),iH HB.out c.out⟩
theorem Ad.calls(k:Nat)(r:Bool)(B:Option Addr)(D:Nat)(p:List Int)(E:Option Addr)(A:Nat)(o:List Int)(r1:Bool)(r2:List Int)(r3:List Int)(w:World)(I:Kd.C (Kd.int .u32) w B p.length p)(G:p.length<=D)(J:Kd.C (Kd.int .u32) w E o.length o)(K:o.length<=A)(h:Ad.f k r p o=some (r1,r2,r3)):
 Calls Try.prog 96 #[.agg #[.bool r, .slice B p.length D, .slice E o.length A]] w λe w'=>∃ap aj:Value,e= .returned (.agg #[.bool r1,ap,aj])/\Kd.R (Kd.int .u32) 97 w' w.heap.size (λk_=>some k_≠(aj:Value).ownBlock) ap r2/\Kd.R (Kd.int .u32) 97 w' w.heap.size (λk_=>some k_≠(ap:Value).ownBlock) aj r3/\Below w.heap.size w w':=by
 have aC:=Try.underlying60
 have a0:=zk I
 have W:=zk G
 clear I G
 have X:=zk J
 have Z:=zk K
 clear J K
 have HB:=zk (Below.refl w.heap.size w)
 have H:=h
 clear h
 unfold Ad.f at H
 replace H:=zb H
 obtain⟨⟨T,z,u⟩,A2,H⟩:=H
 dsimp only at H
 replace H:=zb H
 obtain⟨⟨a3,a2,Y⟩,A3,H⟩:=H
 dsimp only at H
 simp only[Option.some.injEq,Prod.mk.injEq] at H
 obtain⟨rfl,rfl,rfl⟩:=H
 go_enter Try.func96,Try.ntmps96
 go_wp2_with (first|((with_reducible refine jc (N:=1) rfl ?_);refine jM ?hg (N:=1) ?hd (cs:= #[.bool r, .slice B p.length D, .slice E o.length A]) (t:=60) ?hr ?_;(case hd=>rfl);(case hg=>rfl);(case hr=>first|(go_simp;done)|(go_simp;rfl));intro av hg w4 hbox hb;have a:=zk (hbox);have ax:=yg hg HB;have b:=yg hg HB;replace HB:=yS HB hb;clear hb hbox hg)|((with_reducible refine jc (N:=2) rfl ?_);refine jM ?hg (N:=2) ?hd (cs:= #[.bool false, .slice none 0 0, .slice none 0 0]) (t:=60) ?hr ?_;(case hd=>rfl);(case hg=>rfl);(case hr=>first|(go_simp;done)|(go_simp;rfl));intro a1 hg w5 hbox hb;have d:=zk (hbox);have aw:=qg hg HB b;have g:=qg hg HB b;replace HB:=jg HB b hb;have q:=mZ hg a;have m:=ng hg a;replace a:=yK a hb;clear hb hbox hg;have ay:=q.out;have aA:=m.out;obtain⟨ak,ag,af,au,ai,ar⟩:=ja a)|((with_reducible refine gC 99 ?_);refine zG (some 4) Try.func99 #[.agg #[.bool r, .slice B p.length D, .slice E o.length A]] ?_;(with_reducible refine(qA.calls k r _ _ p _ _ o T z u _ ?ig ?ik ?iF ?iE A2.out).mono ?_);(case ig=>exact zC (Kd.iR a0.out HB.out));(case ik=>exact W.out);(case iF=>exact zC (Kd.iR X.out HB.out));(case iE=>exact Z.out);rintro e w8 ⟨aE,aB,rfl,s,y,hb⟩;refine⟨_,rfl,?_⟩;have l:=qI s HB b g;have j:=qI y HB b g;replace a:=yK a hb;replace d:=yK d hb;replace HB:=oH HB b g hb;(try clear hb s y);obtain⟨ad,ae,ab,aq,al,ao⟩:=ja a;obtain⟨a4,P,rfl⟩:=Kd.iD l.out;obtain⟨U,O,rfl⟩:=Kd.iD j.out)|((with_reducible refine gC 90 ?_);refine zG (some 12) Try.func90 #[.bool (!T), .slice a4 z.length P, .slice U u.length O] ?_;(with_reducible refine(mP.calls k (!T) _ _ z _ _ u a3 a2 Y _ ?ig ?ik ?iF ?iE A3.out).mono ?_);(case ig=>refine(Kd.iw (e:=97) (base:=w.heap.size) (ok:=λk_=>some k_≠(.slice U u.length O:Value).ownBlock) (n:=z.length) (c:=P) ?_).2.2;exact(zf l.out a.out));(case ik=>exact(Kd.iw l.out).2.1);(case iF=>refine(Kd.iw (e:=97) (base:=w.heap.size) (ok:=λk_=>some k_≠(.slice a4 z.length P:Value).ownBlock) (n:=u.length) (c:=O) ?_).2.2;exact(zf j.out a.out));(case iE=>exact(Kd.iw j.out).2.1);rintro e aF ⟨aD,az,rfl,s,y,hb⟩;refine⟨_,rfl,?_⟩;replace s:=jk s l a;replace s:=jk s j a;have M:=qI s HB b g;replace y:=jk y l a;replace y:=jk y j a;have L:=qI y HB b g;replace l:=lL l a hb s y;replace j:=lL j a hb s y;replace a:=wI a hb;replace d:=qR d m hb;replace HB:=oH HB b g hb;(try clear hb s y);obtain⟨a7,a9,a5,aa,a6,a8⟩:=ja d;obtain⟨ac,am,rfl⟩:=Kd.iD M.out;obtain⟨ah,an,rfl⟩:=Kd.iD L.out))
 refine bodyPost_ret (results_cell_row rfl _ _ a1 60 #[.bool a3, .slice ac a2.length am, .slice ah Y.length an] (0,0) _ rfl (sG d.out) Try.underlying60 rfl (by kernel_rfl)) rfl ?_
 exact⟨_,_,zE,by(with_reducible repeat(first|apply Kd.iT|apply Kd.iU|apply Kd.iJ));exact yf M.out d.out (λ_ hk=>hk.1.1.1),by(with_reducible repeat(first|apply Kd.iT|apply Kd.iU|apply Kd.iJ));exact yf L.out d.out (λ_ hk=>hk.1.1.1),yu HB.out b.out g.out⟩
theorem tK.calls(k:Nat)(a0:Int)(a1:Int)(a2:Int)(a3:Int)(r1:Bool)(r2:List Int)(r3:List Int)(w:World)(h:tK.f k a0 a1 a2 a3=some (r1,r2,r3)):
 Calls Try.prog 46 #[.int .i64 a0, .int .i64 a1, .int .i64 a2, .int .i64 a3] w λe w'=>∃cF cN:Value,e= .returned (.agg #[.bool r1,cF,cN])/\Kd.R (Kd.int .u32) 97 w' w.heap.size (λk_=>some k_≠(cN:Value).ownBlock) cF r2/\Kd.R (Kd.int .u32) 97 w' w.heap.size (λk_=>some k_≠(cF:Value).ownBlock) cN r3/\Below w.heap.size w w':=by
 have ds:=Try.underlying60
 have HB:=zk (Below.refl w.heap.size w)
 have H:=h
 clear h
 unfold tK.f at H
 replace H:=zb H
 obtain⟨⟨bi,bb,be⟩,A5,H⟩:=H
 dsimp only at H
 have H':=zk H
 clear H
 go_enter Try.func46,Try.ntmps46
 go_wp2_with (first|((with_reducible refine jc (N:=8) rfl ?_);refine jM ?hg (N:=8) ?hd (cs:= #[.bool false, .slice none 0 0, .slice none 0 0]) (t:=60) ?hr ?_;(case hd=>rfl);(case hg=>rfl);(case hr=>first|(go_simp;done)|(go_simp;rfl));intro b6 hg w6 hbox hb;have m:=zk (hbox);have d6:=yg hg HB;have p:=yg hg HB;replace HB:=yS HB hb;clear hb hbox hg)|((with_reducible refine gC 48 ?_);refine zG (some 14) Try.func48 #[.int .i64 0] ?_;(with_reducible refine(yG.calls k 0 bi bb be _ A5.out).mono ?_);rintro e w7 ⟨dz,dt,rfl,d,q,hb⟩;refine⟨_,rfl,?_⟩;have ao:=kY d HB p;have an:=kY q HB p;replace m:=yK m hb;replace HB:=jg HB p hb;(try clear hb d q))|((with_reducible refine jc (N:=9) rfl ?_);refine jM ?hg (N:=9) ?hd (cs:= #[.bool false, .slice none 0 0, .slice none 0 0]) (t:=60) ?hr ?_;(case hd=>rfl);(case hg=>rfl);(case hr=>first|(go_simp;done)|(go_simp;rfl));intro bq hg w8 hbox hb;replace ao:=jl ao hb;replace an:=jl an hb;have l:=zk (hbox);have d7:=qg hg HB p;have r:=qg hg HB p;replace HB:=jg HB p hb;have E:=mZ hg m;have L:=ng hg m;replace m:=yK m hb;clear hb hbox hg;have dv:=L.out;have du:=E.out;obtain⟨aY,aX,a_,aP,aQ,aW⟩:=ja l;obtain⟨cJ,cW,rfl⟩:=Kd.iD ao.out;obtain⟨cP,cU,rfl⟩:=Kd.iD an.out))
 go_loopg [10] k (λkq dA w'=>∃(G:Int) (D:Bool) (x:List Int) (v:List Int) (BO:Value) (BN:Value),dA= .int .i64 G/\dw (tK.l0 kq a0 a1 a2 a3 G D x v=some (r1,r2,r3))/\dw (kq<=k)/\dw (Kd.R (Kd.int .u32) 97 w' w.heap.size (λk_=>some k_≠(BN:Value).ownBlock) BO x)/\dw (Kd.R (Kd.int .u32) 97 w' w.heap.size (λk_=>some k_≠(BO:Value).ownBlock) BN v)/\dw (w'.heap[b6]?=some (.cells #[.bool false,(.slice none 0 0),(.slice none 0 0)] 60 (0,0)))/\dw (w'.heap[bq]?=some (.cells #[.bool D,BO,BN] 60 (0,0)))/\dw (Below w.heap.size w w'))
 case atStart=>exact⟨(0),(bi),(bb),(be),(.slice cJ bb.length cW),(.slice cP be.length cU),zF,H',⟨Nat.le_refl _⟩,⟨by(with_reducible repeat(first|apply Kd.iT|apply Kd.iU|apply Kd.iJ));exact yf ao.out l.out (λ_ hk=>hk.1)⟩,⟨by(with_reducible repeat(first|apply Kd.iT|apply Kd.iU|apply Kd.iJ));exact yf an.out l.out (λ_ hk=>hk.1)⟩,⟨Dz m.out E.out⟩,⟨sG l.out⟩,⟨yu HB.out p.out r.out⟩⟩
 clear H'
 (try clear aY aX a_ aP aQ aW)
 obtain⟨G,D,x,v,BO,BN,rfl,HA,cr,a,b,m,l,HB⟩:=hrel
 cases gk with|zero=>exact absurd HA.out (by simp [tK.l0])|succ k1=>?_
 have H:=HA.out
 clear HA
 simp only[tK.l0] at H
 replace H:=jB H
 rcases H with⟨bh,H⟩|⟨bh,H⟩
 ·replace H:=zb H
  obtain⟨P,cY,H⟩:=H
  replace H:=zb H
  obtain⟨⟨O,bg⟩,d8,H⟩:=H
  dsimp only at H
  replace H:=zb H
  obtain⟨X,d2,H⟩:=H
  replace H:=zb H
  obtain⟨W,d3,H⟩:=H
  replace H:=zb H
  obtain⟨T,di,H⟩:=H
  replace H:=zb H
  obtain⟨Y,db,H⟩:=H
  replace H:=zb H
  obtain⟨⟨ar,U,M⟩,cZ,H⟩:=H
  dsimp only at H
  replace H:=zi H
  rcases H with⟨bf,H⟩|⟨bf,H⟩
  ·have bs:=beq_iff_eq.mpr bf
   have bk:=bne_eq_false_iff_eq.mpr bf
   clear bf
   replace H:=zb H
   obtain⟨⟨b7,ac,ag⟩,dC,H⟩:=H
   dsimp only at H
   replace H:=zb H
   obtain⟨⟨br,bc,b8⟩,dy,H⟩:=H
   dsimp only at H
   have H':=zk H
   clear H
   go_wp2_with (first|((with_reducible refine gC 23 ?_);refine zG (some 24) Try.func23 #[.int .u64 (IntKind.u64.wrap (wrap64 (a0-1)))] ?_;(with_reducible refine(uA.calls k1 (IntKind.u64.wrap (wrap64 (a0-1))) P _ cY.out).mono ?_);rintro e dP ⟨cH,rfl,d,hb⟩;refine⟨_,rfl,?_⟩;replace d:=yn d a;replace d:=yn d b;have j:=qI d HB p r;replace a:=iG a d hb;replace b:=iG b d hb;replace m:=yK m hb;replace l:=yK l hb;replace HB:=oH HB p r hb;(try clear hb d);obtain⟨a8,ae,rfl⟩:=Kd.iD j.out)|((with_reducible refine gC 22 ?_);refine zG (some 28) Try.func22 #[.slice a8 P.length ae, .int .i64 (wrap64 (a2-G))] ?_;(with_reducible refine(sQ.calls k1 _ _ P (wrap64 (a2-G)) O bg _ ?ig ?ik d8.out).mono ?_);(case ig=>exact zC (Kd.iw j.out).2.2);(case ik=>exact(Kd.iw j.out).2.1);rintro e dL ⟨cL,rfl,d,hb⟩;refine⟨_,rfl,?_⟩;replace d:=yn d a;replace d:=yn d b;replace d:=yn d j;have o:=qI d HB p r;replace a:=iG a d hb;replace b:=iG b d hb;replace j:=iG j d hb;replace m:=yK m hb;replace l:=yK l hb;replace HB:=oH HB p r hb;(try clear hb d))|((with_reducible refine gC 78 ?_);refine zG (some 34) Try.func78 #[.int .i64 a3, .int .i64 G] ?_;(with_reducible refine(oJ.calls k1 a3 G X _ d2.out).mono ?_);rintro e dD ⟨cQ,rfl,d,hb⟩;refine⟨_,rfl,?_⟩;replace d:=yn d a;replace d:=yn d b;replace d:=yn d j;replace d:=yn d o;have s:=qI d HB p r;replace a:=iG a d hb;replace b:=iG b d hb;replace j:=iG j d hb;replace o:=iG o d hb;replace m:=yK m hb;replace l:=yK l hb;replace HB:=oH HB p r hb;(try clear hb d))|((with_reducible refine gC 78 ?_);refine zG (some 41) Try.func78 #[.int .i64 (wrap64 (a1-a3)), .int .i64 (wrap64 (a2-G))] ?_;(with_reducible refine(oJ.calls k1 (wrap64 (a1-a3)) (wrap64 (a2-G)) W _ d3.out).mono ?_);rintro e dF ⟨cC,rfl,d,hb⟩;refine⟨_,rfl,?_⟩;replace d:=yn d a;replace d:=yn d b;replace d:=yn d j;replace d:=yn d o;replace d:=yn d s;have u:=qI d HB p r;replace a:=iG a d hb;replace b:=iG b d hb;replace j:=iG j d hb;replace o:=iG o d hb;replace s:=iG s d hb;replace m:=yK m hb;replace l:=yK l hb;replace HB:=oH HB p r hb;(try clear hb d);obtain⟨ab,a9,rfl⟩:=Kd.iD s.out;obtain⟨af,ah,rfl⟩:=Kd.iD u.out)|((with_reducible refine gC 26 ?_);refine zG (some 42) Try.func26 #[.slice ab X.length a9, .slice af W.length ah] ?_;(with_reducible refine(kC.calls k1 _ _ X _ _ W T _ ?ig ?ik ?iF ?iE di.out).mono ?_);(case ig=>exact zC (Kd.iw s.out).2.2);(case ik=>exact(Kd.iw s.out).2.1);(case iF=>exact zC (Kd.iw u.out).2.2);(case iE=>exact(Kd.iw u.out).2.1);rintro e dO ⟨cz,rfl,d,hb⟩;refine⟨_,rfl,?_⟩;replace d:=yn d a;replace d:=yn d b;replace d:=yn d j;replace d:=yn d o;replace d:=yn d s;replace d:=yn d u;have y:=qI d HB p r;replace a:=iG a d hb;replace b:=iG b d hb;replace j:=iG j d hb;replace o:=iG o d hb;replace s:=iG s d hb;replace u:=iG u d hb;replace m:=yK m hb;replace l:=yK l hb;replace HB:=oH HB p r hb;(try clear hb d);obtain⟨aa,al,rfl⟩:=Kd.iD o.out;obtain⟨ai,aj,rfl⟩:=Kd.iD y.out)|((with_reducible refine gC 26 ?_);refine zG (some 43) Try.func26 #[.slice aa O.length al, .slice ai T.length aj] ?_;(with_reducible refine(kC.calls k1 _ _ O _ _ T Y _ ?ig ?ik ?iF ?iE db.out).mono ?_);(case ig=>exact zC (Kd.iw o.out).2.2);(case ik=>exact(Kd.iw o.out).2.1);(case iF=>exact zC (Kd.iw y.out).2.2);(case iE=>exact(Kd.iw y.out).2.1);rintro e dT ⟨cA,rfl,d,hb⟩;refine⟨_,rfl,?_⟩;replace d:=yn d a;replace d:=yn d b;replace d:=yn d j;replace d:=yn d o;replace d:=yn d s;replace d:=yn d u;replace d:=yn d y;have z:=qI d HB p r;replace a:=iG a d hb;replace b:=iG b d hb;replace j:=iG j d hb;replace o:=iG o d hb;replace s:=iG s d hb;replace u:=iG u d hb;replace y:=iG y d hb;replace m:=yK m hb;replace l:=yK l hb;replace HB:=oH HB p r hb;(try clear hb d);obtain⟨ad,a7,rfl⟩:=Kd.iD z.out)|((with_reducible refine gC 95 ?_);refine zG (some 44) Try.func95 #[.slice ad Y.length a7] ?_;(with_reducible refine(zl.calls k1 _ _ Y ar U M _ ?ig ?ik cZ.out).mono ?_);(case ig=>exact zC (Kd.iw z.out).2.2);(case ik=>exact(Kd.iw z.out).2.1);rintro e dV ⟨cR,cV,rfl,d,q,hb⟩;refine⟨_,rfl,?_⟩;replace d:=yn d a;replace d:=yn d b;replace d:=yn d j;replace d:=yn d o;replace d:=yn d s;replace d:=yn d u;replace d:=yn d y;replace d:=yn d z;have A:=qI d HB p r;replace q:=yn q a;replace q:=yn q b;replace q:=yn q j;replace q:=yn q o;replace q:=yn q s;replace q:=yn q u;replace q:=yn q y;replace q:=yn q z;have B:=qI q HB p r;replace a:=jS a hb d q;replace b:=jS b hb d q;replace j:=jS j hb d q;replace o:=jS o hb d q;replace s:=jS s hb d q;replace u:=jS u hb d q;replace y:=jS y hb d q;replace z:=jS z hb d q;replace m:=yK m hb;replace l:=yK l hb;replace HB:=oH HB p r hb;(try clear hb d q))|((with_reducible refine jc (N:=13) rfl ?_);refine jM ?hg (N:=13) ?hd (cs:= #[.bool false, .slice none 0 0, .slice none 0 0]) (t:=60) ?hr ?_;(case hd=>rfl);(case hg=>rfl);(case hr=>first|(go_simp;done)|(go_simp;rfl));intro bo hg dI hbox hb;replace a:=jl a hb;replace b:=jl b hb;replace j:=jl j hb;replace o:=jl o hb;replace s:=jl s hb;replace u:=jl u hb;replace y:=jl y hb;replace z:=jl z hb;replace A:=jl A hb;replace B:=jl B hb;have g:=zk (hbox);have bj:=qH hg HB p r;have K:=qH hg HB p r;replace HB:=oH HB p r hb;have I:=mZ hg m;have a4:=ng hg m;replace m:=yK m hb;have J:=mZ hg l;have Z:=ng hg l;replace l:=yK l hb;clear hb hbox hg;have dh:=a4.out;have dc:=I.out;have dk:=Z.out;have da:=J.out;obtain⟨bB,ca,bV,ck,bx,bu⟩:=ja g;obtain⟨aq,ak,rfl⟩:=Kd.iD A.out;obtain⟨ap,am,rfl⟩:=Kd.iD B.out)|((with_reducible refine gC 96 ?_);refine zG (some 49) Try.func96 #[.agg #[.bool ar, .slice aq U.length ak, .slice ap M.length am]] ?_;(with_reducible refine(Ad.calls k1 ar _ _ U _ _ M b7 ac ag _ ?ig ?ik ?iF ?iE dC.out).mono ?_);(case ig=>refine(Kd.iw (e:=97) (base:=w.heap.size) (ok:=λk_=>((((((((some k_≠(.slice ap M.length am:Value).ownBlock/\some k_≠(BO:Value).ownBlock)/\some k_≠(BN:Value).ownBlock)/\some k_≠(.slice a8 P.length ae:Value).ownBlock)/\some k_≠(.slice aa O.length al:Value).ownBlock)/\some k_≠(.slice ab X.length a9:Value).ownBlock)/\some k_≠(.slice af W.length ah:Value).ownBlock)/\some k_≠(.slice ai T.length aj:Value).ownBlock)/\some k_≠(.slice ad Y.length a7:Value).ownBlock)) (n:=U.length) (c:=ak) ?_).2.2;exact(zf A.out g.out));(case ik=>exact(Kd.iw A.out).2.1);(case iF=>refine(Kd.iw (e:=97) (base:=w.heap.size) (ok:=λk_=>((((((((some k_≠(.slice aq U.length ak:Value).ownBlock/\some k_≠(BO:Value).ownBlock)/\some k_≠(BN:Value).ownBlock)/\some k_≠(.slice a8 P.length ae:Value).ownBlock)/\some k_≠(.slice aa O.length al:Value).ownBlock)/\some k_≠(.slice ab X.length a9:Value).ownBlock)/\some k_≠(.slice af W.length ah:Value).ownBlock)/\some k_≠(.slice ai T.length aj:Value).ownBlock)/\some k_≠(.slice ad Y.length a7:Value).ownBlock)) (n:=M.length) (c:=am) ?_).2.2;exact(zf B.out g.out));(case iE=>exact(Kd.iw B.out).2.1);rintro e dQ ⟨dr,dB,rfl,d,q,hb⟩;refine⟨_,rfl,?_⟩;replace d:=jk d a g;replace d:=jk d b g;replace d:=jk d j g;replace d:=jk d o g;replace d:=jk d s g;replace d:=jk d u g;replace d:=jk d y g;replace d:=jk d z g;replace d:=jk d A g;replace d:=jk d B g;have a5:=kX d HB p r K;replace q:=jk q a g;replace q:=jk q b g;replace q:=jk q j g;replace q:=jk q o g;replace q:=jk q s g;replace q:=jk q u g;replace q:=jk q y g;replace q:=jk q z g;replace q:=jk q A g;replace q:=jk q B g;have a6:=kX q HB p r K;replace a:=lL a g hb d q;replace b:=lL b g hb d q;replace j:=lL j g hb d q;replace o:=lL o g hb d q;replace s:=lL s g hb d q;replace u:=lL u g hb d q;replace y:=lL y g hb d q;replace z:=lL z g hb d q;replace A:=lL A g hb d q;replace B:=lL B g hb d q;replace m:=qR m I hb;replace l:=qR l J hb;replace g:=wI g hb;replace HB:=lX HB p r K hb;(try clear hb d q);obtain⟨cp,cm,cn,bW,bz,c0⟩:=ja g;obtain⟨aU,aK,rfl⟩:=Kd.iD a5.out;obtain⟨aS,aB,rfl⟩:=Kd.iD a6.out;have c_:=L.out;have d9:=E.out;obtain⟨bZ,cu,cj,cd,bK,bT⟩:=ja l;obtain⟨aT,av,rfl⟩:=Kd.iD a.out;obtain⟨aR,aE,rfl⟩:=Kd.iD b.out)|((with_reducible refine gC 50 ?_);refine zG (some 52) Try.func50 #[.agg #[.bool D, .slice aT x.length av, .slice aR v.length aE], .agg #[.bool b7, .slice aU ac.length aK, .slice aS ag.length aB]] ?_;(with_reducible refine(lY.calls k1 D _ _ x _ _ v b7 _ _ ac _ _ ag br bc b8 _ ?ig ?ik ?iF ?iE ?xk ?yB ?zX ?zW dy.out).mono ?_);(case ig=>refine(Kd.iw (e:=97) (base:=w.heap.size) (ok:=λk_=>((((((((((some k_≠(.slice aR v.length aE:Value).ownBlock/\some k_≠(.slice a8 P.length ae:Value).ownBlock)/\some k_≠(.slice aa O.length al:Value).ownBlock)/\some k_≠(.slice ab X.length a9:Value).ownBlock)/\some k_≠(.slice af W.length ah:Value).ownBlock)/\some k_≠(.slice ai T.length aj:Value).ownBlock)/\some k_≠(.slice ad Y.length a7:Value).ownBlock)/\some k_≠(.slice aq U.length ak:Value).ownBlock)/\some k_≠(.slice ap M.length am:Value).ownBlock)/\some k_≠(.slice aU ac.length aK:Value).ownBlock)/\some k_≠(.slice aS ag.length aB:Value).ownBlock)) (n:=x.length) (c:=av) ?_).2.2;exact(zf a.out g.out));(case ik=>exact(Kd.iw a.out).2.1);(case iF=>refine(Kd.iw (e:=97) (base:=w.heap.size) (ok:=λk_=>((((((((((some k_≠(.slice aT x.length av:Value).ownBlock/\some k_≠(.slice a8 P.length ae:Value).ownBlock)/\some k_≠(.slice aa O.length al:Value).ownBlock)/\some k_≠(.slice ab X.length a9:Value).ownBlock)/\some k_≠(.slice af W.length ah:Value).ownBlock)/\some k_≠(.slice ai T.length aj:Value).ownBlock)/\some k_≠(.slice ad Y.length a7:Value).ownBlock)/\some k_≠(.slice aq U.length ak:Value).ownBlock)/\some k_≠(.slice ap M.length am:Value).ownBlock)/\some k_≠(.slice aU ac.length aK:Value).ownBlock)/\some k_≠(.slice aS ag.length aB:Value).ownBlock)) (n:=v.length) (c:=aE) ?_).2.2;exact(zf b.out g.out));(case iE=>exact(Kd.iw b.out).2.1);(case xk=>refine(Kd.iw (e:=97) (base:=w.heap.size) (ok:=λk_=>((((((((((some k_≠(.slice aS ag.length aB:Value).ownBlock/\some k_≠(.slice aT x.length av:Value).ownBlock)/\some k_≠(.slice aR v.length aE:Value).ownBlock)/\some k_≠(.slice a8 P.length ae:Value).ownBlock)/\some k_≠(.slice aa O.length al:Value).ownBlock)/\some k_≠(.slice ab X.length a9:Value).ownBlock)/\some k_≠(.slice af W.length ah:Value).ownBlock)/\some k_≠(.slice ai T.length aj:Value).ownBlock)/\some k_≠(.slice ad Y.length a7:Value).ownBlock)/\some k_≠(.slice aq U.length ak:Value).ownBlock)/\some k_≠(.slice ap M.length am:Value).ownBlock)) (n:=ac.length) (c:=aK) ?_).2.2;exact(zf a5.out g.out));(case yB=>exact(Kd.iw a5.out).2.1);(case zX=>refine(Kd.iw (e:=97) (base:=w.heap.size) (ok:=λk_=>((((((((((some k_≠(.slice aU ac.length aK:Value).ownBlock/\some k_≠(.slice aT x.length av:Value).ownBlock)/\some k_≠(.slice aR v.length aE:Value).ownBlock)/\some k_≠(.slice a8 P.length ae:Value).ownBlock)/\some k_≠(.slice aa O.length al:Value).ownBlock)/\some k_≠(.slice ab X.length a9:Value).ownBlock)/\some k_≠(.slice af W.length ah:Value).ownBlock)/\some k_≠(.slice ai T.length aj:Value).ownBlock)/\some k_≠(.slice ad Y.length a7:Value).ownBlock)/\some k_≠(.slice aq U.length ak:Value).ownBlock)/\some k_≠(.slice ap M.length am:Value).ownBlock)) (n:=ag.length) (c:=aB) ?_).2.2;exact(zf a6.out g.out));(case zW=>exact(Kd.iw a6.out).2.1);rintro e dJ ⟨dp,dx,rfl,d,q,hb⟩;refine⟨_,rfl,?_⟩;replace d:=jk d a g;replace d:=jk d b g;replace d:=jk d j g;replace d:=jk d o g;replace d:=jk d s g;replace d:=jk d u g;replace d:=jk d y g;replace d:=jk d z g;replace d:=jk d A g;replace d:=jk d B g;replace d:=jk d a5 g;replace d:=jk d a6 g;have b5:=kX d HB p r K;replace q:=jk q a g;replace q:=jk q b g;replace q:=jk q j g;replace q:=jk q o g;replace q:=jk q s g;replace q:=jk q u g;replace q:=jk q y g;replace q:=jk q z g;replace q:=jk q A g;replace q:=jk q B g;replace q:=jk q a5 g;replace q:=jk q a6 g;have b3:=kX q HB p r K;replace a:=lL a g hb d q;replace b:=lL b g hb d q;replace j:=lL j g hb d q;replace o:=lL o g hb d q;replace s:=lL s g hb d q;replace u:=lL u g hb d q;replace y:=lL y g hb d q;replace z:=lL z g hb d q;replace A:=lL A g hb d q;replace B:=lL B g hb d q;replace a5:=lL a5 g hb d q;replace a6:=lL a6 g hb d q;replace m:=qR m I hb;replace l:=qR l J hb;replace g:=wI g hb;replace HB:=lX HB p r K hb;(try clear hb d q);obtain⟨bE,cb,ch,bH,bw,ci⟩:=ja l;obtain⟨cX,cD,rfl⟩:=Kd.iD b5.out;obtain⟨cI,cM,rfl⟩:=Kd.iD b3.out))
   go_roundg k1
   case measure=>have:=cr.out;omega
   case rel=>exact⟨(wrap64 (G+1)),(br),(bc),(b8),(.slice cX bc.length cD),(.slice cI b8.length cM),zF,H',⟨kP cr⟩,⟨by(with_reducible repeat(first|apply Kd.iT|apply Kd.iU|apply Kd.iJ));exact yf b5.out l.out (λ_ hk=>hk.1.1.1.1.1.1.1.1.1.1.1.1.1)⟩,⟨by(with_reducible repeat(first|apply Kd.iT|apply Kd.iU|apply Kd.iJ));exact yf b3.out l.out (λ_ hk=>hk.1.1.1.1.1.1.1.1.1.1.1.1.1)⟩,⟨Dz m.out E.out⟩,⟨sG l.out⟩,⟨nI HB.out p.out r.out K.out⟩⟩
  have bs:=beq_eq_false_iff_ne.mpr bf
  have bk:=bne_iff_ne.mpr bf
  replace H:=zb H
  obtain⟨⟨bn,ba,b9⟩,dm,H⟩:=H
  dsimp only at H
  have H':=zk H
  clear H
  go_wp2_with (first|((with_reducible refine gC 23 ?_);refine zG (some 24) Try.func23 #[.int .u64 (IntKind.u64.wrap (wrap64 (a0-1)))] ?_;(with_reducible refine(uA.calls k1 (IntKind.u64.wrap (wrap64 (a0-1))) P _ cY.out).mono ?_);rintro e dR ⟨cH,rfl,d,hb⟩;refine⟨_,rfl,?_⟩;replace d:=yn d a;replace d:=yn d b;have j:=qI d HB p r;replace a:=iG a d hb;replace b:=iG b d hb;replace m:=yK m hb;replace l:=yK l hb;replace HB:=oH HB p r hb;(try clear hb d);obtain⟨az,aH,rfl⟩:=Kd.iD j.out)|((with_reducible refine gC 22 ?_);refine zG (some 28) Try.func22 #[.slice az P.length aH, .int .i64 (wrap64 (a2-G))] ?_;(with_reducible refine(sQ.calls k1 _ _ P (wrap64 (a2-G)) O bg _ ?ig ?ik d8.out).mono ?_);(case ig=>exact zC (Kd.iw j.out).2.2);(case ik=>exact(Kd.iw j.out).2.1);rintro e dU ⟨cL,rfl,d,hb⟩;refine⟨_,rfl,?_⟩;replace d:=yn d a;replace d:=yn d b;replace d:=yn d j;have o:=qI d HB p r;replace a:=iG a d hb;replace b:=iG b d hb;replace j:=iG j d hb;replace m:=yK m hb;replace l:=yK l hb;replace HB:=oH HB p r hb;(try clear hb d))|((with_reducible refine gC 78 ?_);refine zG (some 34) Try.func78 #[.int .i64 a3, .int .i64 G] ?_;(with_reducible refine(oJ.calls k1 a3 G X _ d2.out).mono ?_);rintro e dN ⟨cQ,rfl,d,hb⟩;refine⟨_,rfl,?_⟩;replace d:=yn d a;replace d:=yn d b;replace d:=yn d j;replace d:=yn d o;have s:=qI d HB p r;replace a:=iG a d hb;replace b:=iG b d hb;replace j:=iG j d hb;replace o:=iG o d hb;replace m:=yK m hb;replace l:=yK l hb;replace HB:=oH HB p r hb;(try clear hb d))|((with_reducible refine gC 78 ?_);refine zG (some 41) Try.func78 #[.int .i64 (wrap64 (a1-a3)), .int .i64 (wrap64 (a2-G))] ?_;(with_reducible refine(oJ.calls k1 (wrap64 (a1-a3)) (wrap64 (a2-G)) W _ d3.out).mono ?_);rintro e dG ⟨cC,rfl,d,hb⟩;refine⟨_,rfl,?_⟩;replace d:=yn d a;replace d:=yn d b;replace d:=yn d j;replace d:=yn d o;replace d:=yn d s;have u:=qI d HB p r;replace a:=iG a d hb;replace b:=iG b d hb;replace j:=iG j d hb;replace o:=iG o d hb;replace s:=iG s d hb;replace m:=yK m hb;replace l:=yK l hb;replace HB:=oH HB p r hb;(try clear hb d);obtain⟨au,aN,rfl⟩:=Kd.iD s.out;obtain⟨aJ,aw,rfl⟩:=Kd.iD u.out)|((with_reducible refine gC 26 ?_);refine zG (some 42) Try.func26 #[.slice au X.length aN, .slice aJ W.length aw] ?_;(with_reducible refine(kC.calls k1 _ _ X _ _ W T _ ?ig ?ik ?iF ?iE di.out).mono ?_);(case ig=>exact zC (Kd.iw s.out).2.2);(case ik=>exact(Kd.iw s.out).2.1);(case iF=>exact zC (Kd.iw u.out).2.2);(case iE=>exact(Kd.iw u.out).2.1);rintro e dK ⟨cz,rfl,d,hb⟩;refine⟨_,rfl,?_⟩;replace d:=yn d a;replace d:=yn d b;replace d:=yn d j;replace d:=yn d o;replace d:=yn d s;replace d:=yn d u;have y:=qI d HB p r;replace a:=iG a d hb;replace b:=iG b d hb;replace j:=iG j d hb;replace o:=iG o d hb;replace s:=iG s d hb;replace u:=iG u d hb;replace m:=yK m hb;replace l:=yK l hb;replace HB:=oH HB p r hb;(try clear hb d);obtain⟨aC,aL,rfl⟩:=Kd.iD o.out;obtain⟨aD,aM,rfl⟩:=Kd.iD y.out)|((with_reducible refine gC 26 ?_);refine zG (some 43) Try.func26 #[.slice aC O.length aL, .slice aD T.length aM] ?_;(with_reducible refine(kC.calls k1 _ _ O _ _ T Y _ ?ig ?ik ?iF ?iE db.out).mono ?_);(case ig=>exact zC (Kd.iw o.out).2.2);(case ik=>exact(Kd.iw o.out).2.1);(case iF=>exact zC (Kd.iw y.out).2.2);(case iE=>exact(Kd.iw y.out).2.1);rintro e dH ⟨cA,rfl,d,hb⟩;refine⟨_,rfl,?_⟩;replace d:=yn d a;replace d:=yn d b;replace d:=yn d j;replace d:=yn d o;replace d:=yn d s;replace d:=yn d u;replace d:=yn d y;have z:=qI d HB p r;replace a:=iG a d hb;replace b:=iG b d hb;replace j:=iG j d hb;replace o:=iG o d hb;replace s:=iG s d hb;replace u:=iG u d hb;replace y:=iG y d hb;replace m:=yK m hb;replace l:=yK l hb;replace HB:=oH HB p r hb;(try clear hb d);obtain⟨aO,ay,rfl⟩:=Kd.iD z.out)|((with_reducible refine gC 95 ?_);refine zG (some 44) Try.func95 #[.slice aO Y.length ay] ?_;(with_reducible refine(zl.calls k1 _ _ Y ar U M _ ?ig ?ik cZ.out).mono ?_);(case ig=>exact zC (Kd.iw z.out).2.2);(case ik=>exact(Kd.iw z.out).2.1);rintro e dE ⟨cR,cV,rfl,d,q,hb⟩;refine⟨_,rfl,?_⟩;replace d:=yn d a;replace d:=yn d b;replace d:=yn d j;replace d:=yn d o;replace d:=yn d s;replace d:=yn d u;replace d:=yn d y;replace d:=yn d z;have A:=qI d HB p r;replace q:=yn q a;replace q:=yn q b;replace q:=yn q j;replace q:=yn q o;replace q:=yn q s;replace q:=yn q u;replace q:=yn q y;replace q:=yn q z;have B:=qI q HB p r;replace a:=jS a hb d q;replace b:=jS b hb d q;replace j:=jS j hb d q;replace o:=jS o hb d q;replace s:=jS s hb d q;replace u:=jS u hb d q;replace y:=jS y hb d q;replace z:=jS z hb d q;replace m:=yK m hb;replace l:=yK l hb;replace HB:=oH HB p r hb;(try clear hb d q))|((with_reducible refine jc (N:=13) rfl ?_);refine jM ?hg (N:=13) ?hd (cs:= #[.bool false, .slice none 0 0, .slice none 0 0]) (t:=60) ?hr ?_;(case hd=>rfl);(case hg=>rfl);(case hr=>first|(go_simp;done)|(go_simp;rfl));intro bo hg dM hbox hb;replace a:=jl a hb;replace b:=jl b hb;replace j:=jl j hb;replace o:=jl o hb;replace s:=jl s hb;replace u:=jl u hb;replace y:=jl y hb;replace z:=jl z hb;replace A:=jl A hb;replace B:=jl B hb;have g:=zk (hbox);have bj:=qH hg HB p r;have K:=qH hg HB p r;replace HB:=oH HB p r hb;have I:=mZ hg m;have a4:=ng hg m;replace m:=yK m hb;have J:=mZ hg l;have Z:=ng hg l;replace l:=yK l hb;clear hb hbox hg;have de:=a4.out;have d4:=I.out;have dd:=Z.out;have d5:=J.out;obtain⟨cq,bS,bR,bP,ce,bC⟩:=ja g;obtain⟨b1,aF,rfl⟩:=Kd.iD A.out;obtain⟨b0,aG,rfl⟩:=Kd.iD B.out;have df:=L.out;have dj:=E.out;obtain⟨bL,cx,bJ,bG,bY,bD⟩:=ja l;obtain⟨aZ,aA,rfl⟩:=Kd.iD a.out;obtain⟨aV,ax,rfl⟩:=Kd.iD b.out)|((with_reducible refine gC 50 ?_);refine zG (some 52) Try.func50 #[.agg #[.bool D, .slice aZ x.length aA, .slice aV v.length ax], .agg #[.bool ar, .slice b1 U.length aF, .slice b0 M.length aG]] ?_;(with_reducible refine(lY.calls k1 D _ _ x _ _ v ar _ _ U _ _ M bn ba b9 _ ?ig ?ik ?iF ?iE ?xk ?yB ?zX ?zW dm.out).mono ?_);(case ig=>refine(Kd.iw (e:=97) (base:=w.heap.size) (ok:=λk_=>((((((((some k_≠(.slice aV v.length ax:Value).ownBlock/\some k_≠(.slice az P.length aH:Value).ownBlock)/\some k_≠(.slice aC O.length aL:Value).ownBlock)/\some k_≠(.slice au X.length aN:Value).ownBlock)/\some k_≠(.slice aJ W.length aw:Value).ownBlock)/\some k_≠(.slice aD T.length aM:Value).ownBlock)/\some k_≠(.slice aO Y.length ay:Value).ownBlock)/\some k_≠(.slice b1 U.length aF:Value).ownBlock)/\some k_≠(.slice b0 M.length aG:Value).ownBlock)) (n:=x.length) (c:=aA) ?_).2.2;exact(zf a.out g.out));(case ik=>exact(Kd.iw a.out).2.1);(case iF=>refine(Kd.iw (e:=97) (base:=w.heap.size) (ok:=λk_=>((((((((some k_≠(.slice aZ x.length aA:Value).ownBlock/\some k_≠(.slice az P.length aH:Value).ownBlock)/\some k_≠(.slice aC O.length aL:Value).ownBlock)/\some k_≠(.slice au X.length aN:Value).ownBlock)/\some k_≠(.slice aJ W.length aw:Value).ownBlock)/\some k_≠(.slice aD T.length aM:Value).ownBlock)/\some k_≠(.slice aO Y.length ay:Value).ownBlock)/\some k_≠(.slice b1 U.length aF:Value).ownBlock)/\some k_≠(.slice b0 M.length aG:Value).ownBlock)) (n:=v.length) (c:=ax) ?_).2.2;exact(zf b.out g.out));(case iE=>exact(Kd.iw b.out).2.1);(case xk=>refine(Kd.iw (e:=97) (base:=w.heap.size) (ok:=λk_=>((((((((some k_≠(.slice b0 M.length aG:Value).ownBlock/\some k_≠(.slice aZ x.length aA:Value).ownBlock)/\some k_≠(.slice aV v.length ax:Value).ownBlock)/\some k_≠(.slice az P.length aH:Value).ownBlock)/\some k_≠(.slice aC O.length aL:Value).ownBlock)/\some k_≠(.slice au X.length aN:Value).ownBlock)/\some k_≠(.slice aJ W.length aw:Value).ownBlock)/\some k_≠(.slice aD T.length aM:Value).ownBlock)/\some k_≠(.slice aO Y.length ay:Value).ownBlock)) (n:=U.length) (c:=aF) ?_).2.2;exact(zf A.out g.out));(case yB=>exact(Kd.iw A.out).2.1);(case zX=>refine(Kd.iw (e:=97) (base:=w.heap.size) (ok:=λk_=>((((((((some k_≠(.slice b1 U.length aF:Value).ownBlock/\some k_≠(.slice aZ x.length aA:Value).ownBlock)/\some k_≠(.slice aV v.length ax:Value).ownBlock)/\some k_≠(.slice az P.length aH:Value).ownBlock)/\some k_≠(.slice aC O.length aL:Value).ownBlock)/\some k_≠(.slice au X.length aN:Value).ownBlock)/\some k_≠(.slice aJ W.length aw:Value).ownBlock)/\some k_≠(.slice aD T.length aM:Value).ownBlock)/\some k_≠(.slice aO Y.length ay:Value).ownBlock)) (n:=M.length) (c:=aG) ?_).2.2;exact(zf B.out g.out));(case zW=>exact(Kd.iw B.out).2.1);rintro e dS ⟨dn,dq,rfl,d,q,hb⟩;refine⟨_,rfl,?_⟩;replace d:=jk d a g;replace d:=jk d b g;replace d:=jk d j g;replace d:=jk d o g;replace d:=jk d s g;replace d:=jk d u g;replace d:=jk d y g;replace d:=jk d z g;replace d:=jk d A g;replace d:=jk d B g;have b2:=kX d HB p r K;replace q:=jk q a g;replace q:=jk q b g;replace q:=jk q j g;replace q:=jk q o g;replace q:=jk q s g;replace q:=jk q u g;replace q:=jk q y g;replace q:=jk q z g;replace q:=jk q A g;replace q:=jk q B g;have b4:=kX q HB p r K;replace a:=lL a g hb d q;replace b:=lL b g hb d q;replace j:=lL j g hb d q;replace o:=lL o g hb d q;replace s:=lL s g hb d q;replace u:=lL u g hb d q;replace y:=lL y g hb d q;replace z:=lL z g hb d q;replace A:=lL A g hb d q;replace B:=lL B g hb d q;replace m:=qR m I hb;replace l:=qR l J hb;replace g:=wI g hb;replace HB:=lX HB p r K hb;(try clear hb d q);obtain⟨bQ,cl,c1,bO,bv,bU⟩:=ja l;obtain⟨cO,cy,rfl⟩:=Kd.iD b2.out;obtain⟨cT,cK,rfl⟩:=Kd.iD b4.out))
  go_roundg k1
  case measure=>have:=cr.out;omega
  case rel=>exact⟨(wrap64 (G+1)),(bn),(ba),(b9),(.slice cO ba.length cy),(.slice cT b9.length cK),zF,H',⟨kP cr⟩,⟨by(with_reducible repeat(first|apply Kd.iT|apply Kd.iU|apply Kd.iJ));exact yf b2.out l.out (λ_ hk=>hk.1.1.1.1.1.1.1.1.1.1.1)⟩,⟨by(with_reducible repeat(first|apply Kd.iT|apply Kd.iU|apply Kd.iJ));exact yf b4.out l.out (λ_ hk=>hk.1.1.1.1.1.1.1.1.1.1.1)⟩,⟨Dz m.out E.out⟩,⟨sG l.out⟩,⟨nI HB.out p.out r.out K.out⟩⟩
 simp only[Option.some.injEq,Prod.mk.injEq] at H
 obtain⟨rfl,rfl,rfl⟩:=H
 have d0:=L.out
 have d1:=E.out
 obtain⟨ct,b_,bM,bF,cf,cv⟩:=ja l
 obtain⟨bA,bX,cg,bI,bN,cc⟩:=ja m
 obtain⟨cE,cG,rfl⟩:=Kd.iD a.out
 obtain⟨cS,cB,rfl⟩:=Kd.iD b.out
 go_wp2
 refine bodyPost_ret (results_cell_row rfl _ _ b6 60 #[.bool D, .slice cE x.length cG, .slice cS v.length cB] (0,0) _ rfl (sG m.out) Try.underlying60 rfl (by kernel_rfl)) rfl ?_
 exact⟨_,_,zE,by(with_reducible repeat(first|apply Kd.iT|apply Kd.iU|apply Kd.iJ));exact yf a.out m.out (λ_ hk=>hk.1),by(with_reducible repeat(first|apply Kd.iT|apply Kd.iU|apply Kd.iJ));exact yf b.out m.out (λ_ hk=>hk.1),yu HB.out p.out r.out⟩
def um.T3:Bool×List (List Nat×List Nat):=(true,[([],[]),([0],[0]),([],[]),([2],[2]),([1,3],[1,3]),([],[]),([5],[5]),([],[]),([7],[7]),([6,8],[6,8]),([],[]),([10],[10]),([],[]),([12],[12]),([11,13,9],[11,13]),([4,9,14,14],[4,9,14]),([15,15,0,1,2,3,4,5,6,7,8,9,10,11,12,13,14,15],[15])])
def um.B3:List Nat:=[0,1,0,4,15,0,32,0,128,480,0,1024,0,4096,16352,32767,65535]
theorem um.RF:lM .any (opsOf Try.f51 3)=um.T3:=by kernel_rfl
theorem um.XN:qh um.T3.2 um.B3=true:=by kernel_rfl
theorem um.calls(k:Nat)(a7:Bool)(al:Option Addr)(am:Nat)(Z:List Int)(ak:Option Addr)(ah:Nat)(a0:List Int)(a8:Bool)(an:Option Addr)(ap:Nat)(Y:List Int)(ao:Option Addr)(aj:Nat)(a1:List Int)(r1:Bool)(r2:List Int)(r3:List Int)(w:World)(az:Kd.C (Kd.int .u32) w al Z.length Z)(aq:Z.length<=am)(aA:Kd.C (Kd.int .u32) w ak a0.length a0)(aw:a0.length<=ah)(av:Kd.C (Kd.int .u32) w an Y.length Y)(ay:Y.length<=ap)(au:Kd.C (Kd.int .u32) w ao a1.length a1)(ax:a1.length<=aj)(h:um.f k a7 Z a0 a8 Y a1=some (r1,r2,r3)):
 Calls Try.prog 51 #[.agg #[.bool a7, .slice al Z.length am, .slice ak a0.length ah], .agg #[.bool a8, .slice an Y.length ap, .slice ao a1.length aj]] w λe w'=>∃bK bN:Value,e= .returned (.agg #[.bool r1,bK,bN])/\Kd.R (Kd.int .u32) 97 w' w.heap.size (λk_=>some k_≠(bN:Value).ownBlock) bK r2/\Kd.R (Kd.int .u32) 97 w' w.heap.size (λk_=>some k_≠(bK:Value).ownBlock) bN r3/\Below w.heap.size w w':=by
 have cc:=Try.underlying60
 have aJ:=zk az
 have aF:=zk aq
 clear az aq
 have aG:=zk aA
 have aM:=zk aw
 clear aA aw
 have aK:=zk av
 have aT:=zk ay
 clear av ay
 have aP:=zk au
 have aR:=zk ax
 clear au ax
 have HB:=zk (Below.refl w.heap.size w)
 have H:=h
 clear h
 unfold um.f at H
 replace H:=zb H
 obtain⟨⟨a9,T,U⟩,A3,H⟩:=H
 dsimp only at H
 replace H:=zb H
 obtain⟨⟨O,D,B⟩,A4,H⟩:=H
 dsimp only at H
 replace H:=zb H
 obtain⟨ae,A5,H⟩:=H
 replace H:=zb H
 obtain⟨ab,A6,H⟩:=H
 replace H:=zb H
 obtain⟨⟨aH,aO,aL⟩,A7,H⟩:=H
 dsimp only at H
 simp only[Option.some.injEq,Prod.mk.injEq] at H
 obtain⟨rfl,rfl,rfl⟩:=H
 go_enter Try.func51,Try.ntmps51
 try go_wp2_with (first|((with_reducible refine jc (N:=2) rfl ?_);refine jM ?hg (N:=2) ?hd (cs:= #[.bool a7, .slice al Z.length am, .slice ak a0.length ah]) (t:=60) ?hr ?_;(case hd=>rfl);(case hg=>rfl);(case hr=>first|(go_simp;done)|(go_simp;rfl));intro a6 hg w8 hbox hb;have a:=zk (hbox);have bV:=yg hg HB;have o:=yg hg HB;replace HB:=yS HB hb;clear hb hbox hg)|((with_reducible refine jc (N:=3) rfl ?_);refine jM ?hg (N:=3) ?hd (cs:= #[.bool a8, .slice an Y.length ap, .slice ao a1.length aj]) (t:=60) ?hr ?_;(case hd=>rfl);(case hg=>rfl);(case hr=>first|(go_simp;done)|(go_simp;rfl));intro g hg w9 hbox hb;have b:=zk (hbox);have bY:=qg hg HB o;have s:=qg hg HB o;replace HB:=jg HB o hb;have W:=mZ hg a;have X:=ng hg a;replace a:=yK a hb;clear hb hbox hg)|((with_reducible refine jc (N:=4) rfl ?_);refine jM ?hg (N:=4) ?hd (cs:= #[.bool false, .slice none 0 0, .slice none 0 0]) (t:=60) ?hr ?_;(case hd=>rfl);(case hg=>rfl);(case hr=>first|(go_simp;done)|(go_simp;rfl));intro m hg cu hbox hb;have j:=zk (hbox);have c0:=qH hg HB o s;have y:=qH hg HB o s;replace HB:=oH HB o s hb;have d:=mZ hg a;have A:=ng hg a;replace a:=yK a hb;have c:=mZ hg b;have z:=ng hg b;replace b:=yK b hb;clear hb hbox hg;have bT:=W.out;have bU:=X.out;have bZ:=d.out;have c1:=A.out;obtain⟨b6,bw,aU,bc,bo,bb⟩:=ja a)|((with_reducible refine gC 99 ?_);refine zG (some 6) Try.func99 #[.agg #[.bool a7, .slice al Z.length am, .slice ak a0.length ah]] ?_;(with_reducible refine(qA.calls k a7 _ _ Z _ _ a0 a9 T U _ ?ig ?ik ?iF ?iE A3.out).mono ?_);(case ig=>exact zC (Kd.iR aJ.out HB.out));(case ik=>exact aF.out);(case iF=>exact zC (Kd.iR aG.out HB.out));(case iE=>exact aM.out);rintro e cp ⟨ce,cf,rfl,r,M,hb⟩;refine⟨_,rfl,?_⟩;have q:=kX r HB o s y;have l:=kX M HB o s y;replace a:=yK a hb;replace b:=yK b hb;replace j:=yK j hb;replace HB:=lX HB o s y hb;(try clear hb r M);obtain⟨ba,b9,aX,b8,bj,aY⟩:=ja a;obtain⟨a4,a5,rfl⟩:=Kd.iD q.out;obtain⟨a3,a2,rfl⟩:=Kd.iD l.out;have bS:=c.out;have bW:=z.out;obtain⟨b5,bs,bq,a_,bk,bh⟩:=ja b)|((with_reducible refine gC 99 ?_);refine zG (some 8) Try.func99 #[.agg #[.bool a8, .slice an Y.length ap, .slice ao a1.length aj]] ?_;(with_reducible refine(qA.calls k a8 _ _ Y _ _ a1 O D B _ ?ig ?ik ?iF ?iE A4.out).mono ?_);(case ig=>exact Kd.iR aK.out (nI HB.out o.out s.out y.out));(case ik=>exact aT.out);(case iF=>exact Kd.iR aP.out (nI HB.out o.out s.out y.out));(case iE=>exact aR.out);rintro e ai ⟨ci,cm,rfl,r,M,hb⟩;refine⟨_,rfl,?_⟩;replace r:=jk r q a;replace r:=jk r l a;have u:=kX r HB o s y;replace M:=jk M q a;replace M:=jk M l a;have x:=kX M HB o s y;replace q:=lL q a hb r M;replace l:=lL l a hb r M;replace a:=wI a hb;replace b:=qR b X hb;replace j:=qR j A hb;replace HB:=lX HB o s y hb;(try clear hb r M);obtain⟨b0,br,bn,b3,be,bi⟩:=ja b;obtain⟨J,I,rfl⟩:=Kd.iD u.out;obtain⟨G,E,rfl⟩:=Kd.iD x.out))
 have bH:dw (Kd.R (Kd.int .u32) 97 (((ai.setCell ⟨g,0,none⟩ (.bool O)).setCell ⟨g,1,none⟩ (.slice J D.length I)).setCell ⟨g,2,none⟩ (.slice G B.length E)) w.heap.size (λk_=>some k_≠(.slice a3 U.length a2:Value).ownBlock/\some k_≠(.slice J D.length I:Value).ownBlock/\some k_≠(.slice G B.length E:Value).ownBlock) (.slice a4 T.length a5) T):=⟨by(with_reducible repeat(first|apply Kd.iT|apply Kd.iU|apply Kd.iJ));exact yf q.out b.out (λ_ hk=>⟨hk.1.1.1,⟨hk.1.1.2,hk.1.2⟩⟩)⟩
 have bz:dw (Kd.R (Kd.int .u32) 97 (((ai.setCell ⟨g,0,none⟩ (.bool O)).setCell ⟨g,1,none⟩ (.slice J D.length I)).setCell ⟨g,2,none⟩ (.slice G B.length E)) w.heap.size (λk_=>some k_≠(.slice a4 T.length a5:Value).ownBlock/\some k_≠(.slice J D.length I:Value).ownBlock/\some k_≠(.slice G B.length E:Value).ownBlock) (.slice a3 U.length a2) U):=⟨by(with_reducible repeat(first|apply Kd.iT|apply Kd.iU|apply Kd.iJ));exact yf l.out b.out (λ_ hk=>⟨hk.1.1.1,⟨hk.1.1.2,hk.1.2⟩⟩)⟩
 have bF:dw (Kd.R (Kd.int .u32) 97 (((ai.setCell ⟨g,0,none⟩ (.bool O)).setCell ⟨g,1,none⟩ (.slice J D.length I)).setCell ⟨g,2,none⟩ (.slice G B.length E)) w.heap.size (λk_=>some k_≠(.slice a4 T.length a5:Value).ownBlock/\some k_≠(.slice a3 U.length a2:Value).ownBlock/\some k_≠(.slice G B.length E:Value).ownBlock) (.slice J D.length I) D):=⟨by(with_reducible repeat(first|apply Kd.iT|apply Kd.iU|apply Kd.iJ));exact yf u.out b.out (λ_ hk=>⟨hk.1.1.2,⟨hk.1.2,hk.1.1.1⟩⟩)⟩
 have bC:dw (Kd.R (Kd.int .u32) 97 (((ai.setCell ⟨g,0,none⟩ (.bool O)).setCell ⟨g,1,none⟩ (.slice J D.length I)).setCell ⟨g,2,none⟩ (.slice G B.length E)) w.heap.size (λk_=>some k_≠(.slice a4 T.length a5:Value).ownBlock/\some k_≠(.slice a3 U.length a2:Value).ownBlock/\some k_≠(.slice J D.length I:Value).ownBlock) (.slice G B.length E) B):=⟨by(with_reducible repeat(first|apply Kd.iT|apply Kd.iU|apply Kd.iJ));exact yf x.out b.out (λ_ hk=>⟨hk.1.1.2,⟨hk.1.2,hk.1.1.1⟩⟩)⟩
 have bL:dw ((((ai.setCell ⟨g,0,none⟩ (.bool O)).setCell ⟨g,1,none⟩ (.slice J D.length I)).setCell ⟨g,2,none⟩ (.slice G B.length E)).heap[a6]?=some (.cells #[.bool a9, .slice a4 T.length a5, .slice a3 U.length a2] 60 (0,0))):=⟨Dz a.out W.out⟩
 have bR:dw ((((ai.setCell ⟨g,0,none⟩ (.bool O)).setCell ⟨g,1,none⟩ (.slice J D.length I)).setCell ⟨g,2,none⟩ (.slice G B.length E)).heap[g]?=some (.cells #[.bool O, .slice J D.length I, .slice G B.length E] 60 (0,0))):=⟨sG b.out⟩
 have bB:dw ((((ai.setCell ⟨g,0,none⟩ (.bool O)).setCell ⟨g,1,none⟩ (.slice J D.length I)).setCell ⟨g,2,none⟩ (.slice G B.length E)).heap[m]?=some (.cells #[.bool false, .slice none 0 0, .slice none 0 0] 60 (0,0))):=⟨Dz j.out z.out⟩
 have bQ:dw (Below w.heap.size w (((ai.setCell ⟨g,0,none⟩ (.bool O)).setCell ⟨g,1,none⟩ (.slice J D.length I)).setCell ⟨g,2,none⟩ (.slice G B.length E))):=⟨nI HB.out o.out s.out y.out⟩
 (try clear q)
 (try clear l)
 (try clear u)
 (try clear x)
 (try clear a)
 (try clear b)
 (try clear j)
 (try clear HB)
 generalize (((ai.setCell ⟨g,0,none⟩ (.bool O)).setCell ⟨g,1,none⟩ (.slice J D.length I)).setCell ⟨g,2,none⟩ (.slice G B.length E))=ck at bH bz bF bC bL bR bB bQ ⊢
 have q:=bH
 have l:=bz
 have u:=bF
 have x:=bC
 have a:=bL
 have b:=bR
 have j:=bB
 have HB:=bQ
 clear bH bz bF bC bL bR bB bQ
 replace q:=zk (Kd.iJ q.out)
 replace l:=zk (Kd.iJ l.out)
 replace u:=zk (Kd.iJ u.out)
 replace x:=zk (Kd.iJ x.out)
 replace a:=zk (iC a.out)
 replace b:=zk (iC b.out)
 replace j:=zk (iC j.out)
 replace HB:=zk (l9 HB.out)
 refine qi (n:=17) (S:=λw'=>w'.cell? ⟨a6,0,none⟩=some (.bool a9)/\w'.cell? ⟨a6,1,none⟩=some (.slice a4 T.length a5)/\w'.cell? ⟨a6,2,none⟩=some (.slice a3 U.length a2)/\w'.cell? ⟨g,0,none⟩=some (.bool O)/\w'.cell? ⟨g,1,none⟩=some (.slice J D.length I)/\w'.cell? ⟨g,2,none⟩=some (.slice G B.length E)) (ds:=[]) #[false,false,false,false,false,false,false,false,false,false,false,false,false,false,false,false,false] (by kernel_rfl) rfl rfl ⟨(iy a.out 0).trans rfl,(iy a.out 1).trans rfl,(iy a.out 2).trans rfl,(iy b.out 0).trans rfl,(iy b.out 1).trans rfl,(iy b.out 2).trans rfl⟩ (λhHeld=>?_);refine qx um.RF um.XN (λiq jq=>?_)
 generalize ck.drew=cr at q l u x a b j HB hHeld ⊢
 refine zp (i:=0) (N:=some 9) iq ?_
 refine zp (i:=2) (N:=some 11) iq ?_
 refine zp (i:=5) (N:=some 14) iq ?_
 refine zp (i:=7) (N:=some 16) iq ?_
 refine zp (i:=10) (N:=some 19) iq ?_
 refine zp (i:=12) (N:=some 21) iq ?_
 refine jI (i:=1) (N:=some 10) (v:=?_) (a':=?_) #[true,true,true,false,false,true,false,true,false,false,true,false,true,false,false,false,false] rfl rfl (jO iq.out jq.out (by kernel_rfl)) (λ_ _ _ h=>h) (Or.inl ⟨by rfl,?_⟩) hHeld ?_ ?_
 rotate_left
 ·rintro w' ⟨s0,s1,s2,s3,s4,s5⟩
  go_simp
  with_reducible rfl
 rotate_left
 ·simp only[Act.put,List.setIfInBounds_toArray,List.set_cons_zero,List.set_cons_succ,iI,iP]
  rfl
 refine jI (i:=3) (N:=some 12) (v:=?_) (a':=?_) #[true,true,true,true,false,true,false,true,false,false,true,false,true,false,false,false,false] rfl rfl (jO iq.out jq.out (by kernel_rfl)) (λ_ _ _ h=>h) (Or.inl ⟨by rfl,?_⟩) hHeld ?_ ?_
 rotate_left
 ·rintro w' ⟨s0,s1,s2,s3,s4,s5⟩
  go_simp
  with_reducible rfl
 rotate_left
 ·simp only[Act.put,List.setIfInBounds_toArray,List.set_cons_zero,List.set_cons_succ,iI,iP]
  rfl
 refine zp (i:=4) (N:=some 13) iq ?_
 refine jI (i:=6) (N:=some 15) (v:=?_) (a':=?_) #[true,true,true,true,true,true,true,true,false,false,true,false,true,false,false,false,false] rfl rfl (jO iq.out jq.out (by kernel_rfl)) (λ_ _ _ h=>h) (Or.inl ⟨by rfl,?_⟩) hHeld ?_ ?_
 rotate_left
 ·rintro w' ⟨s0,s1,s2,s3,s4,s5⟩
  go_simp
  with_reducible rfl
 rotate_left
 ·simp only[Act.put,List.setIfInBounds_toArray,List.set_cons_zero,List.set_cons_succ,iI,iP]
  rfl
 refine jI (i:=8) (N:=some 17) (v:=?_) (a':=?_) #[true,true,true,true,true,true,true,true,true,false,true,false,true,false,false,false,false] rfl rfl (jO iq.out jq.out (by kernel_rfl)) (λ_ _ _ h=>h) (Or.inl ⟨by rfl,?_⟩) hHeld ?_ ?_
 rotate_left
 ·rintro w' ⟨s0,s1,s2,s3,s4,s5⟩
  go_simp
  with_reducible rfl
 rotate_left
 ·simp only[Act.put,List.setIfInBounds_toArray,List.set_cons_zero,List.set_cons_succ,iI,iP]
  rfl
 refine jI (i:=11) (N:=some 20) (v:=?_) (a':=?_) #[true,true,true,true,true,true,true,true,true,false,true,true,true,false,false,false,false] rfl rfl (jO iq.out jq.out (by kernel_rfl)) (λ_ _ _ h=>h) (Or.inl ⟨by rfl,?_⟩) hHeld ?_ ?_
 rotate_left
 ·rintro w' ⟨s0,s1,s2,s3,s4,s5⟩
  go_simp
  with_reducible rfl
 rotate_left
 ·simp only[Act.put,List.setIfInBounds_toArray,List.set_cons_zero,List.set_cons_succ,iI,iP]
  rfl
 refine jI (i:=13) (N:=some 22) (v:=?_) (a':=?_) #[true,true,true,true,true,true,true,true,true,false,true,true,true,true,false,false,false] rfl rfl (jO iq.out jq.out (by kernel_rfl)) (λ_ _ _ h=>h) (Or.inl ⟨by rfl,?_⟩) hHeld ?_ ?_
 rotate_left
 ·rintro w' ⟨s0,s1,s2,s3,s4,s5⟩
  go_simp
  with_reducible rfl
 rotate_left
 ·simp only[Act.put,List.setIfInBounds_toArray,List.set_cons_zero,List.set_cons_succ,iI,iP]
  rfl
 refine lN (i:=9) (N:=some 18) #[true,true,true,true,true,true,true,true,true,true,true,true,true,true,false,false,false] rfl rfl (kH iq.out (by kernel_rfl)) (by decide) (λK hK=>?_)
 refine nS Try.func26 (by kernel_rfl) rfl #[.slice a4 T.length a5, .slice J D.length I] (by rfl) rfl rfl (by(try simp only[List.map_toArray,List.map_cons,List.map_nil]);first|done|rfl|(simp only[List.length_drop,List.length_take];rfl)) ?_
 with_reducible refine(kC.calls k _ _ T _ _ D ae _ ?ig ?ik ?iF ?iE A5.out).mono ?_
 (case ig=>exact zC (Kd.iw q.out).2.2)
 (case ik=>exact(Kd.iw q.out).2.1)
 (case iF=>exact zC (Kd.iw u.out).2.2)
 (case iE=>exact(Kd.iw u.out).2.1)
 rintro e ct ⟨cd,rfl,r,hb⟩
 refine⟨_,rfl,?_⟩
 replace r:=yn r q
 replace r:=yn r l
 replace r:=yn r u
 replace r:=yn r x
 have L:=kX r HB o s y
 replace q:=iG q r hb
 replace l:=iG l r hb
 replace u:=iG u r hb
 replace x:=iG x r hb
 replace a:=yK a hb
 replace b:=yK b hb
 replace j:=yK j hb
 replace HB:=lX HB o s y hb
 (try clear hb)
 (try clear r)
 refine hK.out _ _ ⟨(iy a.out 0).trans rfl,(iy a.out 1).trans rfl,(iy a.out 2).trans rfl,(iy b.out 0).trans rfl,(iy b.out 1).trans rfl,(iy b.out 2).trans rfl⟩ (λhHeld=>?_)
 clear hK K
 refine mr (a':=?_) ?_ ?_
 rotate_left
 ·show Act.put _ (some 18) _=_
  simp only[Act.put,List.setIfInBounds_toArray,List.set_cons_zero,List.set_cons_succ,iI,iP]
  rfl
 refine lN (i:=14) (N:=some 23) #[true,true,true,true,true,true,true,true,true,true,true,true,true,true,true,false,false] rfl rfl (kH iq.out (by kernel_rfl)) (by decide) (λK hK=>?_)
 refine nS Try.func26 (by kernel_rfl) rfl #[.slice a3 U.length a2, .slice G B.length E] (by rfl) rfl rfl (by(try simp only[List.map_toArray,List.map_cons,List.map_nil]);first|done|rfl|(simp only[List.length_drop,List.length_take];rfl)) ?_
 with_reducible refine(kC.calls k _ _ U _ _ B ab _ ?ig ?ik ?iF ?iE A6.out).mono ?_
 (case ig=>exact zC (Kd.iw l.out).2.2)
 (case ik=>exact(Kd.iw l.out).2.1)
 (case iF=>exact zC (Kd.iw x.out).2.2)
 (case iE=>exact(Kd.iw x.out).2.1)
 rintro e cq ⟨cl,rfl,r,hb⟩
 refine⟨_,rfl,?_⟩
 replace r:=yn r q
 replace r:=yn r l
 replace r:=yn r u
 replace r:=yn r x
 replace r:=yn r L
 have P:=kX r HB o s y
 replace q:=iG q r hb
 replace l:=iG l r hb
 replace u:=iG u r hb
 replace x:=iG x r hb
 replace L:=iG L r hb
 replace a:=yK a hb
 replace b:=yK b hb
 replace j:=yK j hb
 replace HB:=lX HB o s y hb
 (try clear hb)
 (try clear r)
 obtain⟨bO,bA,aQ⟩:=Kd.iD L.out
 (first|subst aQ|(injection aQ with af aE ag;have aD:=af.symm;have aC:=ag.symm;clear af aE ag;subst aD;subst aC))
 obtain⟨bI,bD,aS⟩:=Kd.iD P.out
 (first|subst aS|(injection aS with af aE ag;have aD:=af.symm;have aC:=ag.symm;clear af aE ag;subst aD;subst aC))
 refine hK.out _ _ ⟨(iy a.out 0).trans rfl,(iy a.out 1).trans rfl,(iy a.out 2).trans rfl,(iy b.out 0).trans rfl,(iy b.out 1).trans rfl,(iy b.out 2).trans rfl⟩ (λhHeld=>?_)
 clear hK K
 refine mr (a':=?_) ?_ ?_
 rotate_left
 ·show Act.put _ (some 23) _=_
  simp only[Act.put,List.setIfInBounds_toArray,List.set_cons_zero,List.set_cons_succ,iI,iP]
  rfl
 refine lN (i:=15) (N:=some 24) #[true,true,true,true,true,true,true,true,true,true,true,true,true,true,true,true,false] rfl rfl (kH iq.out (by kernel_rfl)) (by decide) (λK hK=>?_)
 refine nS Try.func90 (by kernel_rfl) rfl #[.bool (a9 != O), .slice bO ae.length bA, .slice bI ab.length bD] (by rfl) rfl rfl (by(try simp only[List.map_toArray,List.map_cons,List.map_nil]);first|done|rfl|(simp only[List.length_drop,List.length_take];rfl)) ?_
 with_reducible refine(mP.calls k (a9 != O) _ _ ae _ _ ab aH aO aL _ ?ig ?ik ?iF ?iE A7.out).mono ?_
 (case ig=>exact zC (Kd.iw L.out).2.2)
 (case ik=>exact(Kd.iw L.out).2.1)
 (case iF=>exact zC (Kd.iw P.out).2.2)
 (case iE=>exact(Kd.iw P.out).2.1)
 rintro e bG ⟨cg,ch,rfl,r,M,hb⟩
 refine⟨_,rfl,?_⟩
 replace r:=yn r q
 replace r:=yn r l
 replace r:=yn r u
 replace r:=yn r x
 replace r:=yn r L
 replace r:=yn r P
 have aB:=kX r HB o s y
 replace M:=yn M q
 replace M:=yn M l
 replace M:=yn M u
 replace M:=yn M x
 replace M:=yn M L
 replace M:=yn M P
 have ar:=kX M HB o s y
 replace q:=jS q hb r M
 replace l:=jS l hb r M
 replace u:=jS u hb r M
 replace x:=jS x hb r M
 replace L:=jS L hb r M
 replace P:=jS P hb r M
 replace a:=yK a hb
 replace b:=yK b hb
 replace j:=yK j hb
 replace HB:=lX HB o s y hb
 (try clear hb)
 (try clear r)
 (try clear M)
 obtain⟨bE,bP,aN⟩:=Kd.iD aB.out
 (first|subst aN|(injection aN with af aE ag;have aD:=af.symm;have aC:=ag.symm;clear af aE ag;subst aD;subst aC))
 obtain⟨bJ,bM,aI⟩:=Kd.iD ar.out
 (first|subst aI|(injection aI with af aE ag;have aD:=af.symm;have aC:=ag.symm;clear af aE ag;subst aD;subst aC))
 refine hK.out _ _ ⟨(iy a.out 0).trans rfl,(iy a.out 1).trans rfl,(iy a.out 2).trans rfl,(iy b.out 0).trans rfl,(iy b.out 1).trans rfl,(iy b.out 2).trans rfl⟩ (λhHeld=>?_)
 clear hK K
 refine mr (a':=?_) ?_ ?_
 rotate_left
 ·show Act.put _ (some 24) _=_
  simp only[Act.put,List.setIfInBounds_toArray,List.set_cons_zero,List.set_cons_succ,iI,iP]
  rfl
 refine lN (i:=16) (N:=none) #[true,true,true,true,true,true,true,true,true,true,true,true,true,true,true,true,true] rfl rfl (kH iq.out (by kernel_rfl)) (by decide) (λK hK=>?_)
 have cn:bG.cell? ⟨m,0,none⟩=some (.bool false):=(iy j.out 0).trans rfl
 have ca:=pY j.out 0
 have aZ:=d.out
 have bv:=c.out
 have aW:=A.out
 have b7:=z.out
 have cj:bG.cell? ⟨m,1,none⟩=some (.slice none 0 0):=(iy j.out 1).trans rfl
 have b_:=pY j.out 1
 have bf:=d.out
 have bu:=c.out
 have b2:=A.out
 have aV:=z.out
 have cb:bG.cell? ⟨m,2,none⟩=some (.slice none 0 0):=(iy j.out 2).trans rfl
 have bX:=pY j.out 2
 have b1:=d.out
 have b4:=c.out
 have bg:=A.out
 have bx:=z.out
 refine vH (w1:=?_) (by rfl) rfl ?_ ?_
 rotate_left
 ·go_simp
  rfl
 refine hK.out _ _ ⟨((cell_far (p:=⟨m,_,none⟩) d.out _).trans (((cell_far (p:=⟨m,_,none⟩) d.out _).trans (((cell_far (p:=⟨m,_,none⟩) d.out _).trans (hHeld.1)))))),((cell_far (p:=⟨m,_,none⟩) d.out _).trans (((cell_far (p:=⟨m,_,none⟩) d.out _).trans (((cell_far (p:=⟨m,_,none⟩) d.out _).trans (hHeld.2.1)))))),((cell_far (p:=⟨m,_,none⟩) d.out _).trans (((cell_far (p:=⟨m,_,none⟩) d.out _).trans (((cell_far (p:=⟨m,_,none⟩) d.out _).trans (hHeld.2.2.1)))))),((cell_far (p:=⟨m,_,none⟩) c.out _).trans (((cell_far (p:=⟨m,_,none⟩) c.out _).trans (((cell_far (p:=⟨m,_,none⟩) c.out _).trans (hHeld.2.2.2.1)))))),((cell_far (p:=⟨m,_,none⟩) c.out _).trans (((cell_far (p:=⟨m,_,none⟩) c.out _).trans (((cell_far (p:=⟨m,_,none⟩) c.out _).trans (hHeld.2.2.2.2.1)))))),((cell_far (p:=⟨m,_,none⟩) c.out _).trans (((cell_far (p:=⟨m,_,none⟩) c.out _).trans (((cell_far (p:=⟨m,_,none⟩) c.out _).trans (hHeld.2.2.2.2.2))))))⟩ (λhHeld=>?_)
 clear hK K
 refine ql (qF iq.out (by kernel_rfl)) ?_
 try go_wp2
 refine bodyPost_ret (results_cell_row rfl _ _ m 60 #[.bool aH, .slice bE aO.length bP, .slice bJ aL.length bM] (0,0) _ rfl (sG j.out) Try.underlying60 rfl (by kernel_rfl)) rfl ?_
 exact⟨_,_,zE,by(with_reducible repeat(first|apply Kd.iT|apply Kd.iU|apply Kd.iJ));exact yf aB.out j.out (λ_ hk=>hk.1.1.1.1.1.1.1),by(with_reducible repeat(first|apply Kd.iT|apply Kd.iU|apply Kd.iJ));exact yf ar.out j.out (λ_ hk=>hk.1.1.1.1.1.1.1),nI HB.out o.out s.out y.out⟩
end Go.Proofs.Ytifkbghnmhineaa.qc
