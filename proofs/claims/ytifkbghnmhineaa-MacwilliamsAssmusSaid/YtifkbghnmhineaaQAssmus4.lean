/- What functions of the program do and come to, for the statement MacwilliamsAssmus, part 4. Conditions: as each theorem says. -/
import Derived.Test.YtifkbghnmhineaaQAssmus3

namespace Go.Proofs.Ytifkbghnmhineaa.qc
set_option maxHeartbeats 8000000
set_option maxRecDepth 100000
open Go.RowKit Go.Proofs.YtifkbghnmhineaaW.lJ Go.Proofs.YtifkbghnmhineaaW.rO Go.Proofs.YtifkbghnmhineaaW.uO
attribute [local go_sem] Aw Ap Aq Aj Ar Ak Au Am
set_option linter.unusedVariables false
set_option linter.unusedSimpArgs false
def nN.T9:Bool×List (List Nat×List Nat):=(true,[([],[]),([],[]),([],[]),([1,2],[1,2]),([3],[3]),([],[]),([],[]),([6],[6]),([7],[7]),([],[]),([],[]),([5,8,9,10],[5,8,9,10]),([4,11,11],[4,11]),([0,12,12],[0,12]),([13,13,0,1,2,3,4,5,6,7,8,9,10,11,12,13],[13])])
def nN.B9:List Nat:=[0,0,0,6,14,0,0,64,192,0,0,2016,4094,8191,16383]
theorem nN.BU:lM .any (opsOf Try.f66 9)=nN.T9:=by kernel_rfl
theorem nN.Dh:qh nN.T9.2 nN.B9=true:=by kernel_rfl
theorem nN.calls(k:Nat)(a0:Int)(A1:Option Addr)(c1:Nat)(l1:List (lC))(r:List (lC))(w:World)(bB:Kd.C wW w A1 l1.length l1)(bH:l1.length<=c1)(h:nN.f k a0 l1=some r):
 Calls Try.prog 66 #[.int .i64 a0, .slice A1 l1.length c1] w λe w'=>∃bD:Value,e= .returned (bD)/\Kd.S wW 60 w' w.heap.size (λ_=>True) bD r/\Below w.heap.size w w':=by
 have bP:=Try.underlying60
 have bY:=zk bB
 have cc:=zk bH
 clear bB bH
 have HB:=zk (Below.refl w.heap.size w)
 have H:=h
 clear h
 unfold nN.f at H
 have H':=zk H
 clear H
 go_enter Try.func66,Try.ntmps66
 go_wp2
 go_loopg [5,6] k (λkq v5 v6 w'=>∃(a3:List (lC)) (Z:Int),v6= .int .i64 Z/\dw (nN.l0 kq a0 l1 a3 Z=some r)/\dw (kq<=k)/\dw (Kd.S wW 60 w' w.heap.size (λ_=>True) v5 a3)/\dw (Below w.heap.size w w'))
 case atStart=>exact⟨(([]:List (lC))),(0),zF,H',⟨Nat.le_refl _⟩,⟨by first|exact Kd.tZ _ _ _ _ _|exact Kd.ui _ _ _ _ _|exact Kd.qX _ _ _ _ _|exact Kd.uh _ _ _ _ _|exact Kd.qN _ _ _ _ _⟩,⟨zB HB.out⟩⟩
 clear H'
 obtain⟨a3,Z,rfl,HA,bh,s,HB⟩:=hrel
 cases gk with|zero=>exact absurd HA.out (by simp [nN.l0])|succ k1=>?_
 have H:=HA.out
 clear HA
 simp only[nN.l0] at H
 replace H:=jB H
 rcases H with⟨aV,H⟩|⟨aV,H⟩
 ·replace H:=zb H
  obtain⟨⟨aE,ag,ak⟩,A4,H⟩:=H
  dsimp only at H
  have H':=zk H
  clear H
  go_wp2_with (first|((with_reducible refine gC 48 ?_);refine zG (some 15) Try.func48 #[.int .i64 0] ?_;(with_reducible refine(yG.calls k1 0 aE ag ak _ A4.out).mono ?_);rintro e w5 ⟨ca,bT,rfl,u,x,hb⟩;refine⟨_,rfl,?_⟩;replace s:=zk (Kd.pK (Kd.xY (Kd.xY (Kd.EW (zS s.out) hb) (Kd.pM u)) (Kd.pM x)) (λ_ h_=>h_.1));have a9:=jm u HB;have a8:=jm x HB;replace HB:=yS HB hb;(try clear hb u x))|((with_reducible refine jc (N:=7) rfl ?_);refine jM ?hg (N:=7) ?hd (cs:= #[.bool false, .slice none 0 0, .slice none 0 0]) (t:=60) ?hr ?_;(case hd=>rfl);(case hg=>rfl);(case hr=>first|(go_simp;done)|(go_simp;rfl));intro q hg w6 hbox hb;replace s:=zk (Kd.EX (Kd.Yk (zS s.out) q (Nat.le_of_eq hg.symm)) hb);replace a9:=jl a9 hb;replace a8:=jl a8 hb;have d:=zk (hbox);have bI:=yg hg HB;have J:=yg hg HB;replace HB:=yS HB hb;clear hb hbox hg;obtain⟨aI,aw,aC,az,aG,ay⟩:=ja d;obtain⟨bG,bK,rfl⟩:=Kd.iD a9.out;obtain⟨bE,bJ,rfl⟩:=Kd.iD a8.out))
  go_loopg [8] k1 (λkq v8 w'=>∃(A:Int) (l:Bool) (m:List Int) (j:List Int) (BQ:Value) (BP:Value),v8= .int .i64 A/\dw (nN.l1 kq a0 l1 a3 Z A l m j=some r)/\dw (kq<=k1)/\dw (Kd.S wW 60 w' w.heap.size (λk_=>some k_≠(BQ:Value).ownBlock/\some k_≠(BP:Value).ownBlock/\k_≠q) u5 a3)/\dw (Kd.R (Kd.int .u32) 97 w' w.heap.size (λk_=>some k_≠(BP:Value).ownBlock) BQ m)/\dw (Kd.R (Kd.int .u32) 97 w' w.heap.size (λk_=>some k_≠(BQ:Value).ownBlock) BP j)/\dw (w'.heap[q]?=some (.cells #[.bool l,BQ,BP] 60 (0,0)))/\dw (Below w.heap.size w w'))
  case atStart=>exact⟨(0),(aE),(ag),(ak),(.slice bG ag.length bK),(.slice bE ak.length bJ),zF,H',⟨Nat.le_refl _⟩,⟨by(with_reducible repeat(first|apply Kd.uN|apply Kd.uK|apply Kd.t_));exact Kd.pK (Kd.Dn (p:=⟨q,2,none⟩) (Kd.Dn (p:=⟨q,1,none⟩) (Kd.Dn (p:=⟨q,0,none⟩) (Kd.pK s.out (λk_ hk=>(⟨hk,hk.2⟩:_/\k_≠q))) (λ_ hk=>hk.2) (.bool aE)) (λ_ hk=>hk.2) (.slice bG ag.length bK)) (λ_ hk=>hk.2) (.slice bE ak.length bJ)) (λ_ hk=>⟨hk.1.1.1.2,⟨hk.1.1.2,hk.1.2⟩⟩)⟩,⟨by(with_reducible repeat(first|apply Kd.iT|apply Kd.iU|apply Kd.iJ));exact yf a9.out d.out (λ_ hk=>hk.1)⟩,⟨by(with_reducible repeat(first|apply Kd.iT|apply Kd.iU|apply Kd.iJ));exact yf a8.out d.out (λ_ hk=>hk.1)⟩,⟨sG d.out⟩,⟨iH HB.out J.out⟩⟩
  clear H'
  (try clear aV aI aw aC az aG ay)
  obtain⟨A,l,m,j,BQ,BP,rfl,HA,be,s,a,c,d,HB⟩:=hrel
  cases gk with|zero=>exact absurd HA.out (by simp [nN.l1])|succ k2=>?_
  have H:=HA.out
  clear HA
  simp only[nN.l1] at H
  replace H:=jB H
  rcases H with⟨b2,H⟩|⟨b2,H⟩
  ·replace H:=iV H
   obtain⟨bz,H⟩:=H
   replace H:=zb H
   obtain⟨⟨ax,aK,au⟩,bN,H⟩:=H
   dsimp only at H
   replace H:=zb H
   obtain⟨⟨aH,aJ,aD⟩,bQ,H⟩:=H
   dsimp only at H
   replace H:=zb H
   obtain⟨⟨av,am,ai⟩,bM,H⟩:=H
   dsimp only at H
   have H':=zk H
   clear H
   try go_wp2
   replace s:=zk (Kd.t_ s.out)
   replace a:=zk (Kd.iJ a.out)
   replace c:=zk (Kd.iJ c.out)
   replace d:=zk (iC d.out)
   replace HB:=zk (l9 HB.out)
   have ar:0<=(A:Int):=zd
   have aA:A<(l1.length:Int):=zd
   obtain⟨X,ac,ab,ae,aa,bx,I,G,L,a7,a4,a5,a6⟩:=PZ bY.out A ar aA
   have E:=L
   have D:=G
   have B:=I
   cases bx
   replace I:=(HB.out.cell (World.block_lt_of_cell? w _ I)).trans I
   replace G:=(HB.out.cell (World.block_lt_of_cell? w _ G)).trans G
   replace L:=(HB.out.cell (World.block_lt_of_cell? w _ L)).trans L
   have z:=zk a4
   have af:=zk a7
   clear a4 a7
   have y:=zk a6
   have aj:=zk a5
   clear a6 a5
   replace ar:=eq_true ar
   replace aA:=eq_true aA
   refine qi (n:=15) (S:=λw'=>w'.cell? ⟨q,0,none⟩=some (.bool l)/\w'.cell? ⟨q,1,none⟩=some (BQ)/\w'.cell? ⟨q,2,none⟩=some (BP)/\w'.cell? (X.add ((A).toNat*3))=some (.bool ((mf l1 A).f0))/\w'.cell? ⟨(X.add ((A).toNat*3)).block,(X.add ((A).toNat*3)).off+1,none⟩=some (.slice ac ((mf l1 A).f1).length ab)/\w'.cell? ⟨(X.add ((A).toNat*3)).block,(X.add ((A).toNat*3)).off+2,none⟩=some (.slice ae ((mf l1 A).f2).length aa)) (ds:=[14]) #[false,false,false,false,false,false,false,false,false,false,false,false,false,false,false] (by kernel_rfl) rfl rfl ⟨(iy d.out 0).trans rfl,(iy d.out 1).trans rfl,(iy d.out 2).trans rfl,((HB.out.cell (World.block_lt_of_cell? w _ B)).trans B),((HB.out.cell (World.block_lt_of_cell? w _ D)).trans D),((HB.out.cell (World.block_lt_of_cell? w _ E)).trans E)⟩ (λhHeld=>?_);refine qx nN.BU nN.Dh (λiq jq=>?_)
   first|(generalize wr.drew=aM at s a c d HB z y I G L hHeld ⊢)|(generalize wr.drew=aM at s a c d HB z y G L hHeld ⊢)|(generalize wr.drew=aM at s a c d HB z y I L hHeld ⊢)|(generalize wr.drew=aM at s a c d HB z y I G hHeld ⊢)|(generalize wr.drew=aM at s a c d HB z y L hHeld ⊢)|(generalize wr.drew=aM at s a c d HB z y G hHeld ⊢)|(generalize wr.drew=aM at s a c d HB z y I hHeld ⊢)|(generalize wr.drew=aM at s a c d HB z y hHeld ⊢)
   refine zp (i:=1) (N:=some 23) iq ?_
   refine zp (i:=2) (N:=some 24) iq ?_
   refine zp (i:=3) (N:=some 25) iq ?_
   refine zp (i:=5) (N:=some 27) iq ?_
   refine zp (i:=6) (N:=some 28) iq ?_
   refine zp (i:=7) (N:=some 29) iq ?_
   refine zp (i:=8) (N:=some 30) iq ?_
   refine zp (i:=9) (N:=some 31) iq ?_
   refine zp (i:=10) (N:=some 32) iq ?_
   refine jI (i:=0) (N:=some 22) (v:=?_) (a':=?_) #[true,true,true,true,false,true,true,true,true,true,true,false,false,false,false] rfl rfl (jO iq.out jq.out (by kernel_rfl)) (λ_ _ _ h=>h) (Or.inl ⟨by rfl,?_⟩) hHeld ?_ ?_
   rotate_left
   ·rintro w' ⟨s0,s1,s2,s3,s4,s5⟩
    go_simp
    with_reducible rfl
   rotate_left
   ·simp only[Act.put,List.setIfInBounds_toArray,List.set_cons_zero,List.set_cons_succ,iI,iP]
    rfl
   refine jI (i:=4) (N:=some 26) (v:=?_) (a':=?_) #[true,true,true,true,true,true,true,true,true,true,true,false,false,false,false] rfl rfl (jO iq.out jq.out (by kernel_rfl)) (λ_ _ _ h=>h) (Or.inl ⟨by rfl,?_⟩) hHeld ?_ ?_
   rotate_left
   ·rintro w' ⟨s0,s1,s2,s3,s4,s5⟩
    go_simp
    with_reducible rfl
   rotate_left
   ·simp only[Act.put,List.setIfInBounds_toArray,List.set_cons_zero,List.set_cons_succ,iI,iP]
    rfl
   refine lN (i:=11) (N:=some 33) #[true,true,true,true,true,true,true,true,true,true,true,true,false,false,false] rfl rfl (kH iq.out (by kernel_rfl)) (by decide) (λK hK=>?_)
   refine nS Try.func46 (by kernel_rfl) rfl #[.int .i64 a0, .int .i64 (wrap64 ((l1.length:Int)-1)), .int .i64 Z, .int .i64 A] (by rfl) rfl rfl (by(try simp only[List.map_toArray,List.map_cons,List.map_nil]);first|done|rfl|(simp only[List.length_drop,List.length_take];rfl)) ?_
   with_reducible refine(tK.calls k2 a0 (wrap64 ((l1.length:Int)-1)) Z A ax aK au _ bN.out).mono ?_
   rintro e ce ⟨bZ,bX,rfl,u,x,hb⟩
   refine⟨_,rfl,?_⟩
   replace s:=zk (Kd.pK (Kd.xY (Kd.xY (Kd.EW (zS s.out) hb) (Kd.pM u)) (Kd.pM x)) (λ_ h_=>h_.1))
   replace u:=yn u a
   replace u:=yn u c
   have M:=kY u HB J
   replace x:=yn x a
   replace x:=yn x c
   have O:=kY x HB J
   replace a:=jS a hb u x
   replace c:=jS c hb u x
   replace d:=yK d hb
   replace HB:=jg HB J hb
   (try clear hb)
   (try clear u)
   (try clear x)
   obtain⟨bo,bk,b1⟩:=Kd.iD M.out
   (first|subst b1|(injection b1 with U a2 W;have a1:=U.symm;have Y:=W.symm;clear U a2 W;subst a1;subst Y))
   obtain⟨bq,bw,b7⟩:=Kd.iD O.out
   (first|subst b7|(injection b7 with U a2 W;have a1:=U.symm;have Y:=W.symm;clear U a2 W;subst a1;subst Y))
   refine hK.out _ _ ⟨(iy d.out 0).trans rfl,(iy d.out 1).trans rfl,(iy d.out 2).trans rfl,((HB.out.cell (World.block_lt_of_cell? w _ B)).trans B),((HB.out.cell (World.block_lt_of_cell? w _ D)).trans D),((HB.out.cell (World.block_lt_of_cell? w _ E)).trans E)⟩ (λhHeld=>?_)
   clear hK K
   refine mr (a':=?_) ?_ ?_
   rotate_left
   ·show Act.put _ (some 33) _=_
    simp only[Act.put,List.setIfInBounds_toArray,List.set_cons_zero,List.set_cons_succ,iI,iP]
    rfl
   refine lN (i:=12) (N:=some 34) #[true,true,true,true,true,true,true,true,true,true,true,true,true,false,false] rfl rfl (kH iq.out (by kernel_rfl)) (by decide) (λK hK=>?_)
   refine nS Try.func51 (by kernel_rfl) rfl #[.agg #[.bool ((mf l1 A).f0), .slice ac ((mf l1 A).f1).length ab, .slice ae ((mf l1 A).f2).length aa], .agg #[.bool ax, .slice bo aK.length bk, .slice bq au.length bw]] (by rfl) rfl rfl (by(try simp only[List.map_toArray,List.map_cons,List.map_nil]);first|done|rfl|(simp only[List.length_drop,List.length_take];rfl)) ?_
   with_reducible refine(um.calls k2 ((mf l1 A).f0) _ _ ((mf l1 A).f1) _ _ ((mf l1 A).f2) ax _ _ aK _ _ au aH aJ aD _ ?ig ?ik ?iF ?iE ?xk ?yB ?zX ?zW bQ.out).mono ?_
   (case ig=>exact zC (Kd.iR z.out HB.out))
   (case ik=>exact af.out)
   (case iF=>exact zC (Kd.iR y.out HB.out))
   (case iE=>exact aj.out)
   (case xk=>exact zC (Kd.iw M.out).2.2)
   (case yB=>exact(Kd.iw M.out).2.1)
   (case zX=>exact zC (Kd.iw O.out).2.2)
   (case zW=>exact(Kd.iw O.out).2.1)
   rintro e cd ⟨bS,b_,rfl,u,x,hb⟩
   refine⟨_,rfl,?_⟩
   replace s:=zk (Kd.pK (Kd.xY (Kd.xY (Kd.EW (zS s.out) hb) (Kd.pM u)) (Kd.pM x)) (λ_ h_=>h_.1))
   replace u:=yn u a
   replace u:=yn u c
   replace u:=yn u M
   replace u:=yn u O
   have P:=kY u HB J
   replace x:=yn x a
   replace x:=yn x c
   replace x:=yn x M
   replace x:=yn x O
   have T:=kY x HB J
   replace a:=jS a hb u x
   replace c:=jS c hb u x
   replace M:=jS M hb u x
   replace O:=jS O hb u x
   replace d:=yK d hb
   replace HB:=jg HB J hb
   (try clear hb)
   (try clear u)
   (try clear x)
   obtain⟨b0,aX,a_⟩:=Kd.iD a.out
   (first|subst a_|(injection a_ with U a2 W;have a1:=U.symm;have Y:=W.symm;clear U a2 W;subst a1;subst Y))
   obtain⟨b8,aN,aW⟩:=Kd.iD c.out
   (first|subst aW|(injection aW with U a2 W;have a1:=U.symm;have Y:=W.symm;clear U a2 W;subst a1;subst Y))
   obtain⟨bu,bs,aZ⟩:=Kd.iD P.out
   (first|subst aZ|(injection aZ with U a2 W;have a1:=U.symm;have Y:=W.symm;clear U a2 W;subst a1;subst Y))
   obtain⟨br,bn,aQ⟩:=Kd.iD T.out
   (first|subst aQ|(injection aQ with U a2 W;have a1:=U.symm;have Y:=W.symm;clear U a2 W;subst a1;subst Y))
   refine hK.out _ _ ⟨(iy d.out 0).trans rfl,(iy d.out 1).trans rfl,(iy d.out 2).trans rfl,((HB.out.cell (World.block_lt_of_cell? w _ B)).trans B),((HB.out.cell (World.block_lt_of_cell? w _ D)).trans D),((HB.out.cell (World.block_lt_of_cell? w _ E)).trans E)⟩ (λhHeld=>?_)
   clear hK K
   refine mr (a':=?_) ?_ ?_
   rotate_left
   ·show Act.put _ (some 34) _=_
    simp only[Act.put,List.setIfInBounds_toArray,List.set_cons_zero,List.set_cons_succ,iI,iP]
    rfl
   refine lN (i:=13) (N:=some 35) #[true,true,true,true,true,true,true,true,true,true,true,true,true,true,false] rfl rfl (kH iq.out (by kernel_rfl)) (by decide) (λK hK=>?_)
   refine nS Try.func50 (by kernel_rfl) rfl #[.agg #[.bool l, .slice b0 m.length aX, .slice b8 j.length aN], .agg #[.bool aH, .slice bu aJ.length bs, .slice br aD.length bn]] (by rfl) rfl rfl (by(try simp only[List.map_toArray,List.map_cons,List.map_nil]);first|done|rfl|(simp only[List.length_drop,List.length_take];rfl)) ?_
   with_reducible refine(lY.calls k2 l _ _ m _ _ j aH _ _ aJ _ _ aD av am ai _ ?ig ?ik ?iF ?iE ?xk ?yB ?zX ?zW bM.out).mono ?_
   (case ig=>exact zC (Kd.iw a.out).2.2)
   (case ik=>exact(Kd.iw a.out).2.1)
   (case iF=>exact zC (Kd.iw c.out).2.2)
   (case iE=>exact(Kd.iw c.out).2.1)
   (case xk=>exact zC (Kd.iw P.out).2.2)
   (case yB=>exact(Kd.iw P.out).2.1)
   (case zX=>exact zC (Kd.iw T.out).2.2)
   (case zW=>exact(Kd.iw T.out).2.1)
   rintro e bv ⟨bV,bW,rfl,u,x,hb⟩
   refine⟨_,rfl,?_⟩
   replace s:=zk (Kd.pK (Kd.xY (Kd.xY (Kd.EW (zS s.out) hb) (Kd.pM u)) (Kd.pM x)) (λ_ h_=>h_.1))
   replace u:=yn u a
   replace u:=yn u c
   replace u:=yn u M
   replace u:=yn u O
   replace u:=yn u P
   replace u:=yn u T
   have aq:=kY u HB J
   replace x:=yn x a
   replace x:=yn x c
   replace x:=yn x M
   replace x:=yn x O
   replace x:=yn x P
   replace x:=yn x T
   have ap:=kY x HB J
   replace a:=jS a hb u x
   replace c:=jS c hb u x
   replace M:=jS M hb u x
   replace O:=jS O hb u x
   replace P:=jS P hb u x
   replace T:=jS T hb u x
   replace d:=yK d hb
   replace HB:=jg HB J hb
   (try clear hb)
   (try clear u)
   (try clear x)
   obtain⟨b9,b4,aR⟩:=Kd.iD aq.out
   (first|subst aR|(injection aR with U a2 W;have a1:=U.symm;have Y:=W.symm;clear U a2 W;subst a1;subst Y))
   obtain⟨b5,aT,b6⟩:=Kd.iD ap.out
   (first|subst b6|(injection b6 with U a2 W;have a1:=U.symm;have Y:=W.symm;clear U a2 W;subst a1;subst Y))
   refine hK.out _ _ ⟨(iy d.out 0).trans rfl,(iy d.out 1).trans rfl,(iy d.out 2).trans rfl,((HB.out.cell (World.block_lt_of_cell? w _ B)).trans B),((HB.out.cell (World.block_lt_of_cell? w _ D)).trans D),((HB.out.cell (World.block_lt_of_cell? w _ E)).trans E)⟩ (λhHeld=>?_)
   clear hK K
   refine mr (a':=?_) ?_ ?_
   rotate_left
   ·show Act.put _ (some 35) _=_
    simp only[Act.put,List.setIfInBounds_toArray,List.set_cons_zero,List.set_cons_succ,iI,iP]
    rfl
   refine xR (i:=14) (N:=none) #[true,true,true,true,true,true,true,true,true,true,true,true,true,true,true] rfl rfl (kH iq.out (by kernel_rfl)) (by decide) (λK hK=>?_)
   have c0:bv.cell? ⟨q,0,none⟩=some (.bool l):=(iy d.out 0).trans rfl
   have bF:=pY d.out 0
   have bO:bv.cell? ⟨q,1,none⟩=some (.slice b0 m.length aX):=(iy d.out 1).trans rfl
   have bA:=pY d.out 1
   have bR:bv.cell? ⟨q,2,none⟩=some (.slice b8 j.length aN):=(iy d.out 2).trans rfl
   have bL:=pY d.out 2
   refine vH (w1:=?_) (by rfl) rfl ?_ ?_
   rotate_left
   ·go_simp
    rfl
   refine hK.out _ _ ?_
   clear hK K
   refine ql (qF iq.out (by kernel_rfl)) ?_
   try go_wp2
   go_roundg k2
   case measure=>have:=bh.out;have:=be.out;omega
   case rel=>exact⟨(wrap64 (A+1)),(av),(am),(ai),(.slice b9 am.length b4),(.slice b5 ai.length aT),zF,H',⟨lW bh be⟩,⟨by(with_reducible repeat(first|apply Kd.uN|apply Kd.uK|apply Kd.t_));exact Kd.pK (Kd.Dn (p:=⟨q,2,none⟩) (Kd.Dn (p:=⟨q,1,none⟩) (Kd.Dn (p:=⟨q,0,none⟩) (Kd.pK s.out (λk_ hk=>(⟨hk,hk.1.1.1.1.1.1.2.2⟩:_/\k_≠q))) (λ_ hk=>hk.2) (.bool av)) (λ_ hk=>hk.2) (.slice b9 am.length b4)) (λ_ hk=>hk.2) (.slice b5 ai.length aT)) (λ_ hk=>⟨hk.1.1.2,⟨hk.1.2,hk.1.1.1.1.1.1.1.2.2⟩⟩)⟩,⟨by(with_reducible repeat(first|apply Kd.iT|apply Kd.iU|apply Kd.iJ));exact yf aq.out d.out (λ_ hk=>hk.1.1.1.1.1.1.1)⟩,⟨by(with_reducible repeat(first|apply Kd.iT|apply Kd.iU|apply Kd.iJ));exact yf ap.out d.out (λ_ hk=>hk.1.1.1.1.1.1.1)⟩,⟨sG d.out⟩,⟨iH HB.out J.out⟩⟩
  replace H:=zg H
  obtain⟨bC,H⟩:=H
  have b3:=zk bC
  clear bC
  obtain⟨bj,ad⟩:∃y_:List (lC),y_=(a3++[(⟨l,m,j⟩:lC)]):=⟨_,rfl⟩
  rw[<-ad] at H
  have aU:=zk ad
  clear ad
  have H':=zk H
  clear H
  obtain⟨ba,bc,bi,bb,bg,bf⟩:=ja d
  obtain⟨an,ao,rfl⟩:=Kd.iD a.out
  obtain⟨ah,al,rfl⟩:=Kd.iD c.out
  go_wp2_with (first|((with_reducible refine qE (b:= .append) (xs:= #[.tmp 36, .tmp 38]) rfl ?_);at_builtin;refine Kd.EY wW (w0:=w) w.heap.size rfl (.tmp 36) (.tmp 38) 83 60 (.agg #[(.bool false),(.slice none 0 0),(.slice none 0 0)]) 56 rfl Try.underlying83 Ou rfl (by decide) (by omega) u5 a3 (⟨l,m,j⟩:lC) [.bool l, .slice an m.length ao, .slice ah j.length al] (λk_=>k_≠q) (λk_=>some k_=(.slice an m.length ao:Value).ownBlock\/some k_=(.slice ah j.length al:Value).ownBlock) rfl rfl ?aP (λk_ iO=>iO.elim (λh_=>((Kd.iZ (ok':=λk_=>((λk_=>k_≠q)) k_/\some k_≠(u5:Value).ownBlock) (Kd.mM (Kd.jL (a.out) (Kd.r_ s.out) (by decide)) d.out (by decide)) (λk_ hk=>⟨hk.2,hk.1.2⟩))).1 k_ h_.symm) (λh_=>((Kd.iZ (ok':=λk_=>((λk_=>k_≠q)) k_/\some k_≠(u5:Value).ownBlock) (Kd.mM (Kd.jL (c.out) (Kd.r_ s.out) (by decide)) d.out (by decide)) (λk_ hk=>⟨hk.2,hk.1.2⟩))).1 k_ h_.symm)) ?aF ?aO ?aB ?aS ?aL ?_;(case aP=>exact Om _ _ _ (⟨l,m,j⟩:lC) (Kd.iZ (Kd.uf rfl (Kd.iZ (ok':=λk_=>((λk_=>k_≠q)) k_/\some k_≠(u5:Value).ownBlock) (Kd.mM (Kd.jL (a.out) (Kd.r_ s.out) (by decide)) d.out (by decide)) (λk_ hk=>⟨hk.2,hk.1.2⟩))) (λ_ h_=>Or.inl h_)) (Kd.iZ (Kd.uf rfl (Kd.iZ (ok':=λk_=>((λk_=>k_≠q)) k_/\some k_≠(u5:Value).ownBlock) (Kd.mM (Kd.jL (c.out) (Kd.r_ s.out) (by decide)) d.out (by decide)) (λk_ hk=>⟨hk.2,hk.1.2⟩))) (λ_ h_=>Or.inr (h_))));(case aB=>exact(iH HB.out J.out));(case aF=>exact(λk_ hk=>Kd.kT (g:=q) (o:= .cells #[.bool l, .slice an m.length ao, .slice ah j.length al] 60 (0,0)) (by(with_reducible repeat(first|refine iM ?_ _|refine iC ?_|refine iL ?_ _));exact d.out) k_ hk));(case aO=>exact(by(with_reducible repeat(first|apply Kd.uN|apply Kd.uK|apply Kd.t_));exact Kd.pK s.out (λk_ hk=>⟨hk.2.2,λe_=>e_.elim (λh_=>hk.1 h_) (λh_=>hk.2.1 h_)⟩)));(case aS=>exact(iQ (iH HB.out J.out)));(case aL=>have:=b3.out;omega);intro bU cb ho hb hg hat;rw[<-aU.out] at ho;replace d:=zk (xU (g:=q) (o:= .cells #[.bool l, .slice an m.length ao, .slice ah j.length al] 60 (0,0)) (by(with_reducible repeat(first|refine iM ?_ _|refine iC ?_|refine iL ?_ _));exact d.out) hg (Kd.Yl s.out (λ_ hk=>hk.2.2)));replace HB:=zk (hb);have aY:=zk (ho);clear s a c;clear ho hb hg hat))
  go_roundg k2
  case measure=>have:=bh.out;have:=be.out;omega
  case rel=>exact⟨(bj),(wrap64 (Z+1)),zF,H',⟨lW bh be⟩,⟨by(with_reducible repeat(first|apply Kd.uN|apply Kd.uK|apply Kd.t_));exact Kd.pK aY.out (λ_ hk=>trivial)⟩,⟨iH HB.out J.out⟩⟩
 obtain rfl:=Option.some.inj H
 go_wp2
 go_ret
 exact⟨_,zE,zS s.out,zB HB.out⟩
theorem uo.calls(k:Nat)(A0:Option Addr)(c0:Nat)(l0:List (List Int))(r:List Int)(w:World)(G:Kd.C (Kd.slice 97 (Kd.int .u32)) w A0 l0.length l0)(I:l0.length<=c0)(h:uo.f k l0=some r):
 Calls Try.prog 89 #[.slice A0 l0.length c0] w λe w'=>∃E:Value,e= .returned (E)/\Kd.R (Kd.int .u32) 97 w' w.heap.size (λ_=>True) E r/\Below w.heap.size w w':=by
 have L:=zk G
 have W:=zk I
 clear G I
 have HB:=zk (Below.refl w.heap.size w)
 have H:=h
 clear h
 unfold uo.f at H
 obtain⟨z,j⟩:∃y_:List Int,y_=(([]:List Int)):=⟨_,rfl⟩
 replace H:(uo.l0 k l0 z 0)=some r:=zY j H
 have o:=zk j
 clear j
 have H':=zk H
 clear H
 go_enter Try.func89,Try.ntmps89
 go_wp2_with (first|((with_reducible refine jc (N:=5) rfl ?_);refine Kd.qG (Kd.int .u32) _ 97 ?hg (N:=5) ?hd (xs:=([]:List Int)) (inner:=[]) (ok:=λ_=>True) (je:=λ_=>True) ?hr ?hp (λ_ hk=>hk) trivial (Below.refl _ _) (Nat.le_refl _) (by simp) ?_;(case hd=>rfl);(case hg=>rfl);(case hr=>first|(go_simp;done)|(go_simp;rfl));(case hp=>exact(iY.none _ _));intro O w2 x hb jw jv;clear jw jv;(first|rw[<-o.out] at x|(simp only[Int.reduceToNat] at x;rw[<-o.out] at x));have A:=jm x HB;replace HB:=yS HB hb;clear hb x))
 go_loopg [3,4] k (λkq v3 v4 w'=>∃(l:List Int) (a:Int),v4= .int .i64 a/\dw (uo.l0 kq l0 l a=some r)/\dw (kq<=k)/\dw (Kd.R (Kd.int .u32) 97 w' w.heap.size (λ_=>True) v3 l)/\dw (Below w.heap.size w w'))
 case atStart=>exact⟨(z),(0),zF,H',⟨Nat.le_refl _⟩,⟨zR A.out⟩,⟨zB HB.out⟩⟩
 clear H'
 obtain⟨l,a,rfl,HA,J,c,HB⟩:=hrel
 cases gk with|zero=>exact absurd HA.out (by simp [uo.l0])|succ k1=>?_
 have H:=HA.out
 clear HA
 simp only[uo.l0] at H
 replace H:=jB H
 rcases H with⟨D,H⟩|⟨D,H⟩
 ·replace H:=iV H
  obtain⟨M,H⟩:=H
  replace H:=zb H
  obtain⟨v,A6,H⟩:=H
  have H':=zk H
  clear H
  have p:0<=(a:Int):=zd
  have q:a<(l0.length:Int):=zd
  obtain⟨K,s,t,B,b,g,d⟩:=wo L.out a p q
  cases B
  replace b:=(HB.out.cell (World.block_lt_of_cell? w _ b)).trans b
  have n:=zk d
  have m:=zk g
  clear d g
  replace p:=eq_true p
  replace q:=eq_true q
  obtain⟨U,P,rfl⟩:=Kd.iD c.out
  go_wp2_with (first|((with_reducible refine gC 86 ?_);refine zG (some 17) Try.func86 #[.slice U l.length P, .slice s (kD l0 a).length t] ?_;(with_reducible refine(ny.calls k1 _ _ l _ _ (kD l0 a) v _ ?ig ?ik ?iF ?iE A6.out).mono ?_);(case ig=>exact zC (Kd.iw c.out).2.2);(case ik=>exact(Kd.iw c.out).2.1);(case iF=>exact zC (Kd.iR n.out HB.out));(case iE=>exact m.out);rintro e w8 ⟨T,rfl,u,hb⟩;refine⟨_,rfl,?_⟩;replace u:=yn u c;have y:=jm u HB;replace c:=iG c u hb;replace HB:=yS HB hb;(try clear hb u)))
  go_roundg k1
  case measure=>have:=J.out;omega
  case rel=>exact⟨(v),(wrap64 (a+1)),zF,H',⟨kP J⟩,⟨by(with_reducible repeat(first|apply Kd.iT|apply Kd.iU|apply Kd.iJ));exact Kd.iZ y.out (λ_ hk=>trivial)⟩,⟨zB HB.out⟩⟩
 obtain rfl:=Option.some.inj H
 go_wp2
 go_ret
 exact⟨_,zE,zR c.out,zB HB.out⟩
theorem uz.calls(k:Nat)(A0:Option Addr)(c0:Nat)(l0:List Int)(A1:Option Addr)(c1:Nat)(l1:List Int)(r:Bool)(w:World)(D:Kd.C (Kd.int .u32) w A0 l0.length l0)(G:l0.length<=c0)(E:Kd.C (Kd.int .u32) w A1 l1.length l1)(z:l1.length<=c1)(h:uz.f k l0 l1=some r):
 Calls Try.prog 25 #[.slice A0 l0.length c0, .slice A1 l1.length c1] w λe w'=>e= .returned (.bool r)/\jh w w':=by
 have y:=zk D
 have K:=zk G
 clear D G
 have A:=zk E
 have L:=zk z
 clear E z
 have H:=h
 clear h
 unfold uz.f at H
 replace H:=zi H
 rcases H with⟨c3,H⟩|⟨c3,H⟩
 ·have s:=beq_iff_eq.mpr c3
  have t:=bne_eq_false_iff_eq.mpr c3
  have p:(l0.length==l1.length)=true:=by first|simpa using c3|(simp at c3 ⊢;omega)
  clear c3
  have H':=zk H
  clear H
  go_enter Try.func25,Try.ntmps25
  go_wp2
  repeat(go_quiet (fail);try go_wp2)
  go_loopg [5] k (λkq v5 w'=>∃(a:Int),v5= .int .i64 a/\dw (uz.l0 kq l0 l1 a=some r)/\dw (kq<=k)/\jh w w')
  case atStart=>exact⟨(0),zF,H',⟨Nat.le_refl _⟩,by repeat(first|exact jh.refl _|apply jh.step)⟩
  clear H'
  (try clear s t p)
  obtain⟨a,rfl,HA,B,⟨m1,rfl⟩⟩:=hrel
  cases gk with|zero=>exact absurd HA.out (by simp [uz.l0])|succ k1=>?_
  have H:=HA.out
  clear HA
  simp only[uz.l0] at H
  replace H:=jB H
  rcases H with⟨x,H⟩|⟨x,H⟩
  ·replace H:=iV H
   obtain⟨J,H⟩:=H
   replace H:=iV H
   obtain⟨I,H⟩:=H
   replace H:=zi H
   rcases H with⟨c7,H⟩|⟨c7,H⟩
   ·have v:=beq_iff_eq.mpr c7
    have u:=bne_eq_false_iff_eq.mpr c7
    clear c7
    have H':=zk H
    clear H
    have g:0<=(a:Int):=zd
    have d:a<(l0.length:Int):=zd
    obtain⟨o,m,j⟩:=Kd.jG y.out a g d
    cases m
    replace g:=eq_true g
    replace d:=eq_true d
    have c:0<=(a:Int):=zd
    have b:a<(l1.length:Int):=zd
    obtain⟨q,n,l⟩:=Kd.jG A.out a c b
    cases n
    replace c:=eq_true c
    replace b:=eq_true b
    go_wp2
    repeat(go_quiet (fail);try go_wp2)
    go_roundg k1
    case measure=>have:=B.out;omega
    case rel=>exact⟨(wrap64 (a+1)),zF,H',⟨kP B⟩,by repeat(first|exact jh.refl _|apply jh.step)⟩
   have v:=beq_eq_false_iff_ne.mpr c7
   have u:=bne_iff_ne.mpr c7
   obtain rfl:=Option.some.inj H
   have g:0<=(a:Int):=zd
   have d:a<(l0.length:Int):=zd
   obtain⟨o,m,j⟩:=Kd.jG y.out a g d
   cases m
   replace g:=eq_true g
   replace d:=eq_true d
   have c:0<=(a:Int):=zd
   have b:a<(l1.length:Int):=zd
   obtain⟨q,n,l⟩:=Kd.jG A.out a c b
   cases n
   replace c:=eq_true c
   replace b:=eq_true b
   go_wp2
   repeat(go_quiet (fail);try go_wp2)
   go_ret
   exact⟨zF,by repeat(first|exact jh.refl _|apply jh.step)⟩
  obtain rfl:=Option.some.inj H
  go_wp2
  repeat(go_quiet (fail);try go_wp2)
  go_ret
  exact⟨zF,by repeat(first|exact jh.refl _|apply jh.step)⟩
 have s:=beq_eq_false_iff_ne.mpr c3
 have t:=bne_iff_ne.mpr c3
 have p:(l0.length==l1.length)=false:=by first|simpa using c3|(simp at c3 ⊢;omega)
 obtain rfl:=Option.some.inj H
 go_enter Try.func25,Try.ntmps25
 go_wp2
 repeat(go_quiet (fail);try go_wp2)
 go_ret
 exact⟨zF,by repeat(first|exact jh.refl _|apply jh.step)⟩
theorem Ac.calls(k:Nat)(m:Bool)(r:Option Addr)(s:Nat)(j:List Int)(u:Option Addr)(q:Nat)(g:List Int)(r1:List Int)(r2:Bool)(w:World)(x:Kd.C (Kd.int .u32) w r j.length j)(v:j.length<=s)(y:Kd.C (Kd.int .u32) w u g.length g)(z:g.length<=q)(h:Ac.f k m j g=some (r1,r2)):
 Calls Try.prog 91 #[.agg #[.bool m, .slice r j.length s, .slice u g.length q]] w λe w'=>∃ab:Value,e= .returned (.tuple #[ab, .bool r2])/\Kd.R (Kd.int .u32) 97 w' w.heap.size (λ_=>True) ab r1/\Below w.heap.size w w':=by
 have ai:=Try.underlying60
 have I:=zk x
 have D:=zk v
 clear x v
 have E:=zk y
 have G:=zk z
 clear y z
 have HB:=zk (Below.refl w.heap.size w)
 have H:=h
 clear h
 unfold Ac.f at H
 replace H:=zb H
 obtain⟨⟨a2,aa,J⟩,A2,H⟩:=H
 dsimp only at H
 by_cases c3:a2=true
 ·subst c3
  rw[if_pos rfl] at H
  exact absurd H (by simp)
 replace c3:=Bool.eq_false_iff.mpr c3
 subst c3
 rw[if_neg Bool.false_ne_true] at H
 obtain⟨a3,p⟩:∃y_:List Int,y_=(([1]:List Int)):=⟨_,rfl⟩
 rw[<-p] at H
 have A:=zk p
 clear p
 replace H:=zb H
 obtain⟨B,A4,H⟩:=H
 by_cases c5:B=true
 ·subst c5
  rw[if_pos rfl] at H
  simp only[Option.some.injEq,Prod.mk.injEq] at H
  obtain⟨rfl,rfl⟩:=H
  go_enter Try.func91,Try.ntmps91
  go_wp2_with (first|((with_reducible refine jc (N:=1) rfl ?_);(try(refine vN (by rfl) ?_;dsimp only));refine jM ?hg (N:=1) ?hd (cs:= #[.bool m, .slice r j.length s, .slice u g.length q]) (t:=60) ?hr ?_;(case hd=>rfl);(case hg=>rfl);(case hr=>first|(go_simp;done)|(go_simp;rfl));intro ac hg w6 hbox hb;have a:=zk (hbox);have ae:=yg hg HB;have d:=yg hg HB;replace HB:=yS HB hb;clear hb hbox hg;obtain⟨a4,a0,Z,a9,a1,a8⟩:=ja a)|((with_reducible refine gC 99 ?_);refine zG (some 5) Try.func99 #[.agg #[.bool m, .slice r j.length s, .slice u g.length q]] ?_;(with_reducible refine(qA.calls k m _ _ j _ _ g false aa J _ ?ig ?ik ?iF ?iE A2.out).mono ?_);(case ig=>exact zC (Kd.iR I.out HB.out));(case ik=>exact D.out);(case iF=>exact zC (Kd.iR E.out HB.out));(case iE=>exact G.out);rintro e w8 ⟨ap,aj,rfl,ad,af,hb⟩;refine⟨_,rfl,?_⟩;have l:=kY ad HB d;have c:=kY af HB d;replace a:=yK a hb;replace HB:=jg HB d hb;(try clear hb ad af);obtain⟨X,Y,W,a7,a5,a6⟩:=ja a;obtain⟨am,ao,rfl⟩:=Kd.iD l.out;obtain⟨ah,an,rfl⟩:=Kd.iD c.out)|((with_reducible refine jc (N:=11) rfl ?_);(try(refine vN (by rfl) ?_;dsimp only));refine Kd.qG (Kd.int .u32) _ 97 ?hg (N:=11) ?hd (xs:=([1]:List Int)) (inner:=[.int .u32 1]) (ok:=λ_=>True) (je:=λ_=>True) ?hr ?hp (λ_ hk=>hk) trivial (Below.refl _ _) (Nat.le_refl _) (by simp) ?_;(case hd=>rfl);(case hg=>rfl);(case hr=>first|(go_simp;done)|(go_simp;rfl));(case hp=>exact(iY.one (show Kd.M (Kd.int .u32) _ _ _ 1 [.int .u32 1] from rfl) (iY.none _ _)));intro al aq b hb jw jv;clear jw jv;(first|rw[<-A.out] at b|(simp only[Int.reduceToNat] at b;rw[<-A.out] at b));replace b:=jk b l a;replace b:=jk b c a;have o:=kY b HB d;replace l:=vF l a b hb;replace c:=vF c a b hb;replace a:=wI a hb;replace HB:=jg HB d hb;clear hb b;obtain⟨ag,ak,rfl⟩:=Kd.iD o.out)|(go_at_call 25;(with_reducible refine(uz.calls k _ _ J _ _ a3 true _ ?ig ?ik ?iF ?iE A4.out).mono ?_);(case ig=>exact zC (Kd.iw c.out).2.2);(case ik=>exact(Kd.iw c.out).2.1);(case iF=>exact zC (Kd.iw o.out).2.2);(case iE=>exact(Kd.iw o.out).2.1);rintro e w' ⟨rfl,⟨nd,rfl⟩⟩;obtain⟨U,T,K,P,O,L⟩:=ja a))
  go_ret2
  exact⟨_,zE,by(with_reducible repeat(first|apply Kd.iT|apply Kd.iU|apply Kd.iJ));exact Kd.iZ l.out (λ_ hk=>trivial),iH HB.out d.out⟩
 replace c5:=Bool.eq_false_iff.mpr c5
 subst c5
 rw[if_neg Bool.false_ne_true] at H
 exact absurd H (by simp)
theorem pq.calls(k:Nat)(a0:Int)(A1:Option Addr)(c1:Nat)(l1:List (List Int))(r1:List (List Int))(r2:Int)(w:World)(b2:Kd.C (Kd.slice 97 (Kd.int .u32)) w A1 l1.length l1)(ba:l1.length<=c1)(h:pq.f k a0 l1=some (r1,r2)):
 Calls Try.prog 39 #[.int .i64 a0, .slice A1 l1.length c1] w λe w'=>∃b8:Value,e= .returned (.tuple #[b8, .int .i64 r2])/\Kd.S (Kd.slice 97 (Kd.int .u32)) 29 w' w.heap.size (λ_=>True) b8 r1/\Below w.heap.size w w':=by
 have bf:=Try.underlying60
 have b9:=zk b2
 have bh:=zk ba
 clear b2 ba
 have HB:=zk (Below.refl w.heap.size w)
 have H:=h
 clear h
 unfold pq.f at H
 replace H:=zb H
 obtain⟨ak,A3,H⟩:=H
 replace H:=zg H
 obtain⟨c4,H⟩:=H
 have b1:=beq_iff_eq.mpr c4
 have aT:=bne_eq_false_iff_eq.mpr c4
 clear c4
 replace H:=zb H
 obtain⟨ac,A5,H⟩:=H
 replace H:=zg H
 obtain⟨c6,H⟩:=H
 have aU:=beq_iff_eq.mpr c6
 have aQ:=bne_eq_false_iff_eq.mpr c6
 clear c6
 replace H:=zb H
 obtain⟨c,A7,H⟩:=H
 replace H:=zb H
 obtain⟨an,A8,H⟩:=H
 by_cases c9:an=true
 ·subst c9
  rw[if_pos rfl] at H
  exact absurd H (by simp)
 replace c9:=Bool.eq_false_iff.mpr c9
 subst c9
 rw[if_neg Bool.false_ne_true] at H
 have H':=zk H
 clear H
 go_enter Try.func39,Try.ntmps39
 go_wp2_with (first|((with_reducible refine gC 43 ?_);refine zG (some 15) Try.func43 #[.int .i64 a0] ?_;(with_reducible refine(Af.calls a0 ak _ A3.out).mono ?_);rintro e w' ⟨rfl,⟨nd,rfl⟩⟩;refine⟨_,rfl,?_⟩)|((with_reducible refine gC 35 ?_);refine zG (some 19) Try.func35 #[.int .i64 (l1.length:Int)] ?_;(with_reducible refine(Ae.calls (l1.length:Int) ac _ A5.out).mono ?_);rintro e w' ⟨rfl,⟨nd,rfl⟩⟩;refine⟨_,rfl,?_⟩)|((with_reducible refine gC 89 ?_);refine zG (some 22) Try.func89 #[.slice A1 l1.length c1] ?_;(with_reducible refine(uo.calls k _ _ l1 c _ ?ig ?ik A7.out).mono ?_);(case ig=>exact zC b9.out);(case ik=>exact bh.out);rintro e bF ⟨bo,rfl,q,hb⟩;refine⟨_,rfl,?_⟩;have s:=jm q HB;replace HB:=yS HB hb;(try clear hb q);obtain⟨y,B,rfl⟩:=Kd.iD s.out)|((with_reducible refine gC 27 ?_);refine zG (some 24) Try.func27 #[.slice y c.length B] ?_;(with_reducible refine(qB.calls k _ _ c false _ ?ig ?ik A8.out).mono ?_);(case ig=>exact zC (Kd.iw s.out).2.2);(case ik=>exact(Kd.iw s.out).2.1);rintro e bC ⟨rfl,hb⟩;refine⟨_,rfl,?_⟩;replace s:=jl s hb;replace HB:=yS HB hb;(try clear hb)))
 go_loopg [7,8] k (λkq v7 v8 w'=>∃(E:List (lC)) (v:Int),v8= .int .i64 v/\dw (pq.l0 kq a0 l1 c E v=some (r1,r2))/\dw (kq<=k)/\dw (Kd.R (Kd.int .u32) 97 w' w.heap.size (λ_=>True) (.slice y c.length B) c)/\dw (Kd.S wW 60 w' w.heap.size (λk_=>some k_≠((.slice y c.length B):Value).ownBlock) v7 E)/\dw (Below w.heap.size w w'))
 case atStart=>exact⟨(([]:List (lC))),(0),zF,H',⟨Nat.le_refl _⟩,⟨zR s.out⟩,⟨by first|exact Kd.tZ _ _ _ _ _|exact Kd.ui _ _ _ _ _|exact Kd.qX _ _ _ _ _|exact Kd.uh _ _ _ _ _|exact Kd.qN _ _ _ _ _⟩,⟨zB HB.out⟩⟩
 clear H'
 (try clear b1 aT aU aQ c9)
 obtain⟨E,v,rfl,HA,aM,o,g,HB⟩:=hrel
 cases gk with|zero=>exact absurd HA.out (by simp [pq.l0])|succ k1=>?_
 have H:=HA.out
 clear HA
 simp only[pq.l0] at H
 replace H:=jB H
 rcases H with⟨ab,H⟩|⟨ab,H⟩
 ·replace H:=iV H
  obtain⟨b7,H⟩:=H
  replace H:=zb H
  obtain⟨⟨a2,X,W⟩,br,H⟩:=H
  dsimp only at H
  replace H:=zg H
  obtain⟨bb,H⟩:=H
  have aC:=zk bb
  clear bb
  obtain⟨aR,Z⟩:∃y_:List (lC),y_=(E++[(⟨a2,X,W⟩:lC)]):=⟨_,rfl⟩
  rw[<-Z] at H
  have aA:=zk Z
  clear Z
  have H':=zk H
  clear H
  have ag:0<=(v:Int):=zd
  have ae:v<(l1.length:Int):=zd
  obtain⟨b3,af,ai,a_,x,T,U⟩:=wo b9.out v ag ae
  cases a_
  replace x:=(HB.out.cell (World.block_lt_of_cell? w _ x)).trans x
  have aa:=zk U
  have a8:=zk T
  clear U T
  replace ag:=eq_true ag
  replace ae:=eq_true ae
  go_wp2_with (first|((with_reducible refine gC 90 ?_);refine zG (some 37) Try.func90 #[.bool false, .slice af (kD l1 v).length ai, .slice y c.length B] ?_;(with_reducible refine(mP.calls k1 false _ _ (kD l1 v) _ _ c a2 X W _ ?ig ?ik ?iF ?iE br.out).mono ?_);(case ig=>exact zC (Kd.iR aa.out HB.out));(case ik=>exact a8.out);(case iF=>exact zC (Kd.iw o.out).2.2);(case iE=>exact(Kd.iw o.out).2.1);rintro e bH ⟨bk,bu,rfl,q,ap,hb⟩;refine⟨_,rfl,?_⟩;replace g:=zk (Kd.pK (Kd.xY (Kd.xY (Kd.EW (zS g.out) hb) (Kd.pM q)) (Kd.pM ap)) (λ_ h_=>h_.1));replace q:=yn q o;have J:=jm q HB;replace ap:=yn ap o;have P:=jm ap HB;replace o:=jS o hb q ap;replace HB:=yS HB hb;(try clear hb q ap);obtain⟨aD,aw,rfl⟩:=Kd.iD J.out;obtain⟨ay,au,rfl⟩:=Kd.iD P.out)|((with_reducible refine qE (b:= .append) (xs:= #[.tmp 31, .tmp 38]) rfl ?_);at_builtin;refine Kd.EY wW (w0:=w) w.heap.size rfl (.tmp 31) (.tmp 38) 83 60 (.agg #[(.bool false),(.slice none 0 0),(.slice none 0 0)]) 56 rfl Try.underlying83 Ou rfl (by decide) (by omega) u7 E (⟨a2,X,W⟩:lC) [.bool a2, .slice aD X.length aw, .slice ay W.length au] (λk_=>some k_≠(.slice y c.length B:Value).ownBlock) (λk_=>some k_=(.slice aD X.length aw:Value).ownBlock\/some k_=(.slice ay W.length au:Value).ownBlock) rfl rfl ?aP (λk_ iO=>iO.elim (λh_=>((Kd.iZ (ok':=λk_=>((λk_=>some k_≠(.slice y c.length B:Value).ownBlock)) k_/\some k_≠(u7:Value).ownBlock) (Kd.jL (J.out) (Kd.r_ g.out) (by decide)) (λk_ hk=>⟨hk.1.2,hk.2⟩))).1 k_ h_.symm) (λh_=>((Kd.iZ (ok':=λk_=>((λk_=>some k_≠(.slice y c.length B:Value).ownBlock)) k_/\some k_≠(u7:Value).ownBlock) (Kd.jL (P.out) (Kd.r_ g.out) (by decide)) (λk_ hk=>⟨hk.1.2,hk.2⟩))).1 k_ h_.symm)) ?aF ?aO ?aB ?aS ?aL ?_;(case aP=>exact Om _ _ _ (⟨a2,X,W⟩:lC) (Kd.iZ (Kd.uf rfl (Kd.iZ (ok':=λk_=>((λk_=>some k_≠(.slice y c.length B:Value).ownBlock)) k_/\some k_≠(u7:Value).ownBlock) (Kd.jL (J.out) (Kd.r_ g.out) (by decide)) (λk_ hk=>⟨hk.1.2,hk.2⟩))) (λ_ h_=>Or.inl h_)) (Kd.iZ (Kd.uf rfl (Kd.iZ (ok':=λk_=>((λk_=>some k_≠(.slice y c.length B:Value).ownBlock)) k_/\some k_≠(u7:Value).ownBlock) (Kd.jL (P.out) (Kd.r_ g.out) (by decide)) (λk_ hk=>⟨hk.1.2,hk.2⟩))) (λ_ h_=>Or.inr (h_))));(case aB=>exact(zB HB.out));(case aF=>exact(λk_ hk=>Kd.fresh' (Kd.qZ (zR o.out)) k_ hk));(case aO=>exact(by(with_reducible repeat(first|apply Kd.uN|apply Kd.uK|apply Kd.t_));exact Kd.pK g.out (λk_ hk=>⟨hk.1.1,λe_=>e_.elim (λh_=>hk.1.2 h_) (λh_=>hk.2 h_)⟩)));(case aS=>exact(iQ (zB HB.out)));(case aL=>have:=aC.out;omega);intro bz bD ho hb hg hat;rw[<-aA.out] at ho;replace o:=zk (Kd.vz (zR o.out) (Kd.r_ (zS g.out)) (by decide) hg);replace HB:=zk (hb);have aH:=zk (ho);clear g J P;clear ho hb hg hat))
  go_roundg k1
  case measure=>have:=aM.out;omega
  case rel=>exact⟨(aR),(wrap64 (v+1)),zF,H',⟨kP aM⟩,⟨by(with_reducible repeat(first|apply Kd.iT|apply Kd.iU|apply Kd.iJ));exact Kd.iZ o.out (λ_ hk=>trivial)⟩,⟨zS aH.out⟩,⟨zB HB.out⟩⟩
 replace H:=zb H
 obtain⟨p,bj,H⟩:=H
 have H':=zk H
 clear H
 obtain⟨b0,aX,rfl⟩:=Kd.yT g.out
 go_wp2_with (first|((with_reducible refine gC 66 ?_);refine zG (some 42) Try.func66 #[.int .i64 a0, .slice b0 E.length aX] ?_;(with_reducible refine(nN.calls k1 a0 _ _ E p _ ?ig ?ik bj.out).mono ?_);(case ig=>exact zC (Kd.xZ g.out).2.2);(case ik=>exact(Kd.xZ g.out).2.1);rintro e bE ⟨aV,rfl,q,hb⟩;refine⟨_,rfl,?_⟩;have ar:=zk (Kd.Yj (Kd.Qh (Kd.Qh q (Kd.qZ (zR o.out))) (Kd.Yi (zS g.out))) (iQ (zB HB.out)));replace o:=jl o hb;replace g:=zk (Kd.GM (zS g.out) (Kd.uM q) hb);replace HB:=yS HB hb;(try clear hb q)))
 go_loopg [10,11] k1 (λkq bq bs w'=>∃(D:List (List Int)) (a:Int),bs= .int .i64 a/\dw (pq.l1 kq p D a=some (r1,r2))/\dw (kq<=k1)/\dw (Kd.S wW 60 w' w.heap.size (λ_=>True) aV p)/\dw (Kd.S (Kd.slice 97 (Kd.int .u32)) 29 w' w.heap.size (λ_=>True) bq D)/\dw (Below w.heap.size w w'))
 case atStart=>exact⟨(([]:List (List Int))),(0),zF,H',⟨Nat.le_refl _⟩,⟨by(with_reducible repeat(first|apply Kd.uN|apply Kd.uK|apply Kd.t_));exact Kd.pK ar.out (λ_ hk=>trivial)⟩,⟨by first|exact Kd.tZ _ _ _ _ _|exact Kd.ui _ _ _ _ _|exact Kd.qX _ _ _ _ _|exact Kd.uh _ _ _ _ _|exact Kd.qN _ _ _ _ _⟩,⟨zB HB.out⟩⟩
 clear H'
 (try clear ab)
 obtain⟨D,a,rfl,HA,b4,r,d,HB⟩:=hrel
 cases gk with|zero=>exact absurd HA.out (by simp [pq.l1])|succ k2=>?_
 have H:=HA.out
 clear HA
 simp only[pq.l1] at H
 replace H:=jB H
 rcases H with⟨ax,H⟩|⟨ax,H⟩
 ·replace H:=iV H
  obtain⟨b5,H⟩:=H
  replace H:=zb H
  obtain⟨⟨a1,aZ⟩,bv,H⟩:=H
  dsimp only at H
  by_cases aJ:aZ=true
  ·subst aJ
   rw[if_pos rfl] at H
   replace H:=zg H
   obtain⟨bc,H⟩:=H
   have aG:=zk bc
   clear bc
   obtain⟨aW,Y⟩:∃y_:List (List Int),y_=(D++[a1]):=⟨_,rfl⟩
   rw[<-Y] at H
   have aq:=zk Y
   clear Y
   have H':=zk H
   clear H
   obtain⟨bn,bi,rfl⟩:=Kd.yT r.out
   have a7:0<=(a:Int):=zd
   have a4:a<(p.length:Int):=zd
   obtain⟨be,ad,ah,aj,al,aY,aI,a5,a9,K,I,M,L⟩:=PZ (Kd.xZ r.out).2.2 a a7 a4
   cases aY
   obtain⟨b6,am,ao,G⟩:=Kd.GL r.out z60 a a7 (by first|exact a4|exact zd|(have e_:=(Kd.xZ r.out).1;omega))
   obtain⟨aK,aN,rfl,A,u⟩:=VB ao
   have l:=G 1 _ rfl
   rw[wz _ _ 1 (by omega)] at l
   replace l:=Option.some.inj (l.symm.trans a5)
   rw[l] at A
   have m:=zk (show Kd.R (Kd.int .u32) 97 _ _ _ _ ((mf p a).f1) from A)
   clear l A
   have n:=G 2 _ rfl
   rw[wz _ _ 2 (by omega)] at n
   replace n:=Option.some.inj (n.symm.trans a9)
   rw[n] at u
   have j:=zk (show Kd.R (Kd.int .u32) 97 _ _ _ _ ((mf p a).f2) from u)
   clear n u
   clear G am
   have t:=zk I
   have a6:=zk K
   clear I K
   have z:=zk L
   have a3:=zk M
   clear L M
   replace a7:=eq_true a7
   replace a4:=eq_true a4
   go_wp2_with (first|((with_reducible refine gC 91 ?_);refine zG (some 54) Try.func91 #[.agg #[.bool ((mf p a).f0), .slice ad ((mf p a).f1).length ah, .slice aj ((mf p a).f2).length al]] ?_;(with_reducible refine(Ac.calls k2 ((mf p a).f0) _ _ ((mf p a).f1) _ _ ((mf p a).f2) a1 true _ ?ig ?ik ?iF ?iE bv.out).mono ?_);(case ig=>repeat(first|exact(yY t.out)|(with_reducible refine Kd.uT ?_ _)|(with_reducible refine Kd.uQ ?_ _)|(with_reducible refine Kd.uS ?_)));(case ik=>exact a6.out);(case iF=>repeat(first|exact(yY z.out)|(with_reducible refine Kd.uT ?_ _)|(with_reducible refine Kd.uQ ?_ _)|(with_reducible refine Kd.uS ?_)));(case iE=>exact a3.out);rintro e bB ⟨bA,rfl,q,hb⟩;refine⟨_,rfl,?_⟩;replace r:=zk (Kd.GM (zS r.out) (Kd.pM q) hb);replace d:=zk (Kd.GM (zS d.out) (Kd.pM q) hb);replace q:=yn q m;replace q:=yn q j;have O:=jm q HB;replace m:=iG m q hb;replace j:=iG j q hb;(try replace t:=oO t hb);(try replace z:=oO z hb);replace HB:=yS HB hb;(try clear hb q);obtain⟨av,aE,rfl⟩:=Kd.iD O.out)|((with_reducible refine qE (b:= .append) (xs:= #[.tmp 59, .tmp 61]) rfl ?_);at_builtin;refine Kd.EY (Kd.slice 97 (Kd.int .u32)) (w0:=w) w.heap.size rfl (.tmp 59) (.tmp 61) 33 29 (.slice none 0 0) 24 rfl Try.underlying33 Gf rfl (by decide) (by omega) u10 D a1 [.slice av a1.length aE] (λ_=>True) (λk_=>some k_=(.slice av a1.length aE:Value).ownBlock) rfl rfl ?aP (λk_ iO=>((Kd.iZ (ok':=λk_=>((λ_=>True)) k_/\some k_≠(u10:Value).ownBlock) (Kd.jL (O.out) (Kd.r_ d.out) (by decide)) (λk_ hk=>⟨trivial,hk.2⟩))).1 k_ iO.symm) ?aF ?aO ?aB ?aS ?aL ?_;(case aP=>exact Kd.JQ (Kd.iZ (Kd.uf rfl (Kd.iZ (ok':=λk_=>((λ_=>True)) k_/\some k_≠(u10:Value).ownBlock) (Kd.jL (O.out) (Kd.r_ d.out) (by decide)) (λk_ hk=>⟨trivial,hk.2⟩))) (λ_ h_=>h_)));(case aB=>exact(zB HB.out));(case aF=>exact(λ_ _=>trivial));(case aO=>exact(by(with_reducible repeat(first|apply Kd.uN|apply Kd.uK|apply Kd.t_));exact Kd.pK d.out (λk_ hk=>⟨trivial,λe_=>hk.2 e_⟩)));(case aS=>exact(iQ (zB HB.out)));(case aL=>have:=aG.out;omega);intro bg bG ho hb hg hat;rw[<-aq.out] at ho;replace r:=zk (Kd.Yg (zS r.out) (Kd.r_ (zS d.out)) (by decide) hg);replace m:=zk (Kd.vz (zR m.out) (Kd.r_ (zS d.out)) (by decide) hg);replace j:=zk (Kd.vz (zR j.out) (Kd.r_ (zS d.out)) (by decide) hg);replace HB:=zk (hb);have az:=zk (ho);clear d O;clear ho hb hg hat))
   go_roundg k2
   case measure=>have:=aM.out;have:=b4.out;omega
   case rel=>exact⟨(aW),(wrap64 (a+1)),zF,H',⟨lW aM b4⟩,⟨by(with_reducible repeat(first|apply Kd.uN|apply Kd.uK|apply Kd.t_));exact Kd.pK r.out (λ_ hk=>trivial)⟩,⟨zS az.out⟩,⟨zB HB.out⟩⟩
  replace aJ:=Bool.eq_false_iff.mpr aJ
  subst aJ
  rw[if_neg Bool.false_ne_true] at H
  exact absurd H (by simp)
 simp only[Option.some.injEq,Prod.mk.injEq] at H
 obtain⟨rfl,rfl⟩:=H
 obtain⟨bw,bx,rfl⟩:=Kd.yT r.out
 go_wp2
 go_ret2
 exact⟨_,zE,zS d.out,zB HB.out⟩
theorem sO.calls(k:Nat)(A0:Option Addr)(c0:Nat)(l0:List (List Int))(r:Int)(w:World)(x:Kd.C (Kd.slice 97 (Kd.int .u32)) w A0 l0.length l0)(y:l0.length<=c0)(h:sO.f k l0=some r):
 Calls Try.prog 40 #[.slice A0 l0.length c0] w λe w'=>e= .returned (.int .i64 r)/\Below w.heap.size w w':=by
 have u:=zk x
 have A:=zk y
 clear x y
 have HB:=zk (Below.refl w.heap.size w)
 have H:=h
 clear h
 unfold sO.f at H
 have H':=zk H
 clear H
 go_enter Try.func40,Try.ntmps40
 go_wp2
 go_loopg [3] k (λkq v3 w'=>∃(c:Int),v3= .int .i64 c/\dw (sO.l0 kq l0 c=some r)/\dw (kq<=k)/\dw (Below w.heap.size w w'))
 case atStart=>exact⟨(1),zF,H',⟨Nat.le_refl _⟩,⟨zB HB.out⟩⟩
 clear H'
 obtain⟨c,rfl,HA,v,HB⟩:=hrel
 cases gk with|zero=>exact absurd HA.out (by simp [sO.l0])|succ k1=>?_
 have H:=HA.out
 clear HA
 simp only[sO.l0] at H
 replace H:=jB H
 rcases H with⟨s,H⟩|⟨s,H⟩
 ·replace H:=iV H
  obtain⟨z,H⟩:=H
  replace H:=zb H
  obtain⟨t,A4,H⟩:=H
  by_cases c5:t=true
  ·subst c5
   rw[if_pos rfl] at H
   have H':=zk H
   clear H
   have o:0<=(c:Int):=zd
   have n:c<(l0.length:Int):=zd
   obtain⟨q,l,m,p,a,b,d⟩:=wo u.out c o n
   cases p
   replace a:=(HB.out.cell (World.block_lt_of_cell? w _ a)).trans a
   have g:=zk d
   have j:=zk b
   clear d b
   replace o:=eq_true o
   replace n:=eq_true n
   go_wp2_with (first|((with_reducible refine gC 27 ?_);refine zG (some 14) Try.func27 #[.slice l (kD l0 c).length m] ?_;(with_reducible refine(qB.calls k1 _ _ (kD l0 c) true _ ?ig ?ik A4.out).mono ?_);(case ig=>exact zC (Kd.iR g.out HB.out));(case ik=>exact j.out);rintro e w6 ⟨rfl,hb⟩;refine⟨_,rfl,?_⟩;replace HB:=yS HB hb;(try clear hb)))
   go_roundg k1
   case measure=>have:=v.out;omega
   case rel=>exact⟨(wrap64 (c+1)),zF,H',⟨kP v⟩,⟨zB HB.out⟩⟩
  replace c5:=Bool.eq_false_iff.mpr c5
  subst c5
  rw[if_neg Bool.false_ne_true] at H
  obtain rfl:=Option.some.inj H
  have o:0<=(c:Int):=zd
  have n:c<(l0.length:Int):=zd
  obtain⟨q,l,m,p,a,b,d⟩:=wo u.out c o n
  cases p
  replace a:=(HB.out.cell (World.block_lt_of_cell? w _ a)).trans a
  have g:=zk d
  have j:=zk b
  clear d b
  replace o:=eq_true o
  replace n:=eq_true n
  go_wp2_with (first|((with_reducible refine gC 27 ?_);refine zG (some 14) Try.func27 #[.slice l (kD l0 c).length m] ?_;(with_reducible refine(qB.calls k1 _ _ (kD l0 c) false _ ?ig ?ik A4.out).mono ?_);(case ig=>exact zC (Kd.iR g.out HB.out));(case ik=>exact j.out);rintro e w7 ⟨rfl,hb⟩;refine⟨_,rfl,?_⟩;replace HB:=yS HB hb;(try clear hb)))
  go_ret
  exact⟨zE,zB HB.out⟩
 obtain rfl:=Option.some.inj H
 go_wp2
 go_ret
 exact⟨zE,zB HB.out⟩
theorem sK.calls(k:Nat)(A0:Option Addr)(c0:Nat)(l0:List (List Int))(a1:Int)(r:Int)(w:World)(y:Kd.C (Kd.slice 97 (Kd.int .u32)) w A0 l0.length l0)(z:l0.length<=c0)(h:sK.f k l0 a1=some r):
 Calls Try.prog 92 #[.slice A0 l0.length c0, .int .i64 a1] w λe w'=>e= .returned (.int .i64 r)/\Below w.heap.size w w':=by
 have x:=zk y
 have D:=zk z
 clear y z
 have HB:=zk (Below.refl w.heap.size w)
 have H:=h
 clear h
 unfold sK.f at H
 have H':=zk H
 clear H
 go_enter Try.func92,Try.ntmps92
 go_wp2
 go_loopg [5,6] k (λkq v5 v6 w'=>∃(p:Int) (b:Int),v5= .int .i64 p/\v6= .int .i64 b/\dw (sK.l0 kq l0 a1 p b=some r)/\dw (kq<=k)/\dw (Below w.heap.size w w'))
 case atStart=>exact⟨(0),(1),zF,zF,H',⟨Nat.le_refl _⟩,⟨zB HB.out⟩⟩
 clear H'
 obtain⟨p,b,rfl,rfl,HA,t,HB⟩:=hrel
 cases gk with|zero=>exact absurd HA.out (by simp [sK.l0])|succ k1=>?_
 have H:=HA.out
 clear HA
 simp only[sK.l0] at H
 replace H:=jB H
 rcases H with⟨u,H⟩|⟨u,H⟩
 ·replace H:=iV H
  obtain⟨B,H⟩:=H
  replace H:=iV H
  obtain⟨A,H⟩:=H
  replace H:=zb H
  obtain⟨v,A6,H⟩:=H
  by_cases c7:v=true
  ·subst c7
   rw[if_pos rfl] at H
   have H':=zk H
   clear H
   have o:0<=(b:Int):=zd
   have n:b<(l0.length:Int):=zd
   obtain⟨s,l,m,q,a,c,d⟩:=wo x.out b o n
   cases q
   replace a:=(HB.out.cell (World.block_lt_of_cell? w _ a)).trans a
   have g:=zk d
   have j:=zk c
   clear d c
   replace o:=eq_true o
   replace n:=eq_true n
   go_wp2_with (first|((with_reducible refine gC 27 ?_);refine zG (some 16) Try.func27 #[.slice l (kD l0 b).length m] ?_;(with_reducible refine(qB.calls k1 _ _ (kD l0 b) true _ ?ig ?ik A6.out).mono ?_);(case ig=>exact zC (Kd.iR g.out HB.out));(case ik=>exact j.out);rintro e w8 ⟨rfl,hb⟩;refine⟨_,rfl,?_⟩;replace HB:=yS HB hb;(try clear hb)))
   go_roundg k1
   case measure=>have:=t.out;omega
   case rel=>exact⟨(p),(wrap64 (b+1)),zF,zF,H',⟨kP t⟩,⟨zB HB.out⟩⟩
  replace c7:=Bool.eq_false_iff.mpr c7
  subst c7
  rw[if_neg Bool.false_ne_true] at H
  have H':=zk H
  clear H
  have o:0<=(b:Int):=zd
  have n:b<(l0.length:Int):=zd
  obtain⟨s,l,m,q,a,c,d⟩:=wo x.out b o n
  cases q
  replace a:=(HB.out.cell (World.block_lt_of_cell? w _ a)).trans a
  have g:=zk d
  have j:=zk c
  clear d c
  replace o:=eq_true o
  replace n:=eq_true n
  go_wp2_with (first|((with_reducible refine gC 27 ?_);refine zG (some 16) Try.func27 #[.slice l (kD l0 b).length m] ?_;(with_reducible refine(qB.calls k1 _ _ (kD l0 b) false _ ?ig ?ik A6.out).mono ?_);(case ig=>exact zC (Kd.iR g.out HB.out));(case ik=>exact j.out);rintro e w9 ⟨rfl,hb⟩;refine⟨_,rfl,?_⟩;replace HB:=yS HB hb;(try clear hb)))
  go_roundg k1
  case measure=>have:=t.out;omega
  case rel=>exact⟨(wrap64 (p+1)),(wrap64 (b+1)),zF,zF,H',⟨kP t⟩,⟨zB HB.out⟩⟩
 obtain rfl:=Option.some.inj H
 go_wp2
 go_ret
 exact⟨zE,zB HB.out⟩
theorem uq.calls(k:Nat)(a0:Int)(A1:Option Addr)(c1:Nat)(l1:List (List Int))(r:Int)(w:World)(o:Kd.C (Kd.slice 97 (Kd.int .u32)) w A1 l1.length l1)(l:l1.length<=c1)(h:uq.f k a0 l1=some r):
 Calls Try.prog 41 #[.int .i64 a0, .slice A1 l1.length c1] w λe w'=>e= .returned (.int .i64 r)/\Below w.heap.size w w':=by
 have m:=zk o
 have n:=zk l
 clear o l
 have HB:=zk (Below.refl w.heap.size w)
 have H:=h
 clear h
 unfold uq.f at H
 have H':=zk H
 clear H
 go_enter Try.func41,Try.ntmps41
 go_wp2
 go_loopg [5,6] k (λkq v5 v6 w'=>∃(b:Int) (a:Int),v5= .int .i64 b/\v6= .int .i64 a/\dw (uq.l0 kq a0 l1 b a=some r)/\dw (kq<=k)/\dw (Below w.heap.size w w'))
 case atStart=>exact⟨(0),(1),zF,zF,H',⟨Nat.le_refl _⟩,⟨zB HB.out⟩⟩
 clear H'
 obtain⟨b,a,rfl,rfl,HA,d,HB⟩:=hrel
 cases gk with|zero=>exact absurd HA.out (by simp [uq.l0])|succ k1=>?_
 have H:=HA.out
 clear HA
 simp only[uq.l0] at H
 replace H:=jB H
 rcases H with⟨j,H⟩|⟨j,H⟩
 ·replace H:=zb H
  obtain⟨c,A4,H⟩:=H
  replace H:=jB H
  rcases H with⟨g,H⟩|⟨g,H⟩
  ·have H':=zk H
   clear H
   go_wp2_with (first|((with_reducible refine gC 92 ?_);refine zG (some 18) Try.func92 #[.slice A1 l1.length c1, .int .i64 (wrap64 ((wrap64 ((l1.length:Int)-1))-a))] ?_;(with_reducible refine(sK.calls k1 _ _ l1 (wrap64 ((wrap64 ((l1.length:Int)-1))-a)) c _ ?ig ?ik A4.out).mono ?_);(case ig=>exact zC (Kd.iR m.out HB.out));(case ik=>exact n.out);rintro e w6 ⟨rfl,hb⟩;refine⟨_,rfl,?_⟩;replace HB:=yS HB hb;(try clear hb)))
   go_roundg k1
   case measure=>have:=d.out;omega
   case rel=>exact⟨(a),(wrap64 (a+1)),zF,zF,H',⟨kP d⟩,⟨zB HB.out⟩⟩
  have H':=zk H
  clear H
  go_wp2_with (first|((with_reducible refine gC 92 ?_);refine zG (some 18) Try.func92 #[.slice A1 l1.length c1, .int .i64 (wrap64 ((wrap64 ((l1.length:Int)-1))-a))] ?_;(with_reducible refine(sK.calls k1 _ _ l1 (wrap64 ((wrap64 ((l1.length:Int)-1))-a)) c _ ?ig ?ik A4.out).mono ?_);(case ig=>exact zC (Kd.iR m.out HB.out));(case ik=>exact n.out);rintro e w7 ⟨rfl,hb⟩;refine⟨_,rfl,?_⟩;replace HB:=yS HB hb;(try clear hb)))
  go_roundg k1
  case measure=>have:=d.out;omega
  case rel=>exact⟨(b),(wrap64 (a+1)),zF,zF,H',⟨kP d⟩,⟨zB HB.out⟩⟩
 obtain rfl:=Option.some.inj H
 go_wp2
 go_ret
 exact⟨zE,zB HB.out⟩
theorem o_.calls(k:Nat)(A0:Option Addr)(c0:Nat)(l0:List Int)(A1:Option Addr)(c1:Nat)(l1:List Int)(r:Bool)(w:World)(z:Kd.C (Kd.int .i64) w A0 l0.length l0)(B:l0.length<=c0)(A:Kd.C (Kd.int .i64) w A1 l1.length l1)(x:l1.length<=c1)(h:o_.f k l0 l1=some r):
 Calls Try.prog 84 #[.slice A0 l0.length c0, .slice A1 l1.length c1] w λe w'=>e= .returned (.bool r)/\jh w w':=by
 have D:=zk z
 have K:=zk B
 clear z B
 have G:=zk A
 have L:=zk x
 clear A x
 have H:=h
 clear h
 unfold o_.f at H
 have H':=zk H
 clear H
 go_enter Try.func84,Try.ntmps84
 go_wp2
 repeat(go_quiet (fail);try go_wp2)
 go_loopg [5] k (λkq v5 w'=>∃(a:Int),v5= .int .i64 a/\dw (o_.l0 kq l0 l1 a=some r)/\dw (kq<=k)/\jh w w')
 case atStart=>exact⟨(0),zF,H',⟨Nat.le_refl _⟩,by repeat(first|exact jh.refl _|apply jh.step)⟩
 clear H'
 obtain⟨a,rfl,HA,n,⟨m1,rfl⟩⟩:=hrel
 cases gk with|zero=>exact absurd HA.out (by simp [o_.l0])|succ k1=>?_
 have H:=HA.out
 clear HA
 simp only[o_.l0] at H
 replace H:=jB H
 rcases H with⟨o,H⟩|⟨o,H⟩
 ·have H':=zk H
  clear H
  go_wp2
  repeat(go_quiet (fail);try go_wp2)
  go_loopg [6,7] k1 (λkq v6 v7 w'=>∃(c:Bool) (b:Int),v6= .bool c/\v7= .int .i64 b/\dw (o_.l1 kq l0 l1 a c b=some r)/\dw (kq<=k1)/\jh w w')
  case atStart=>exact⟨(false),(0),zF,zF,H',⟨Nat.le_refl _⟩,by repeat(first|exact jh.refl _|apply jh.step)⟩
  clear H'
  (try clear o)
  obtain⟨c,b,rfl,rfl,HA,m,⟨m2,rfl⟩⟩:=hrel
  cases gk with|zero=>exact absurd HA.out (by simp [o_.l1])|succ k2=>?_
  have H:=HA.out
  clear HA
  simp only[o_.l1] at H
  replace H:=jB H
  rcases H with⟨u,H⟩|⟨u,H⟩
  ·by_cases c5:c=true
   ·subst c5
    rw[if_pos rfl] at H
    have H':=zk H
    clear H
    go_wp2
    repeat(go_quiet (fail);try go_wp2)
    go_roundg k2
    case measure=>have:=n.out;have:=m.out;omega
    case rel=>exact⟨(true),(wrap64 (b+1)),zF,zF,H',⟨lW n m⟩,by repeat(first|exact jh.refl _|apply jh.step)⟩
   replace c5:=Bool.eq_false_iff.mpr c5
   subst c5
   rw[if_neg Bool.false_ne_true] at H
   replace H:=iV H
   obtain⟨E,H⟩:=H
   replace H:=iV H
   obtain⟨I,H⟩:=H
   replace H:=iV H
   obtain⟨J,H⟩:=H
   have H':=zk H
   clear H
   have l:0<=(b:Int):=zd
   have j:b<(l1.length:Int):=zd
   obtain⟨v,s,p⟩:=Kd.jG G.out b l j
   cases s
   replace l:=eq_true l
   replace j:=eq_true j
   have g:0<=(a:Int):=zd
   have d:a<(l0.length:Int):=zd
   obtain⟨y,t,q⟩:=Kd.jG D.out a g d
   cases t
   replace g:=eq_true g
   replace d:=eq_true d
   go_wp2
   repeat(go_quiet (fail);try go_wp2)
   go_roundg k2
   case measure=>have:=n.out;have:=m.out;omega
   case rel=>exact⟨(((rd l1 b)==(rd l0 a))),(wrap64 (b+1)),zF,zF,H',⟨lW n m⟩,by repeat(first|exact jh.refl _|apply jh.step)⟩
  by_cases c9:c=true
  ·subst c9
   rw[if_pos rfl] at H
   have H':=zk H
   clear H
   go_wp2
   repeat(go_quiet (fail);try go_wp2)
   go_roundg k2
   case measure=>have:=n.out;have:=m.out;omega
   case rel=>exact⟨(wrap64 (a+1)),zF,H',⟨lW n m⟩,by repeat(first|exact jh.refl _|apply jh.step)⟩
  replace c9:=Bool.eq_false_iff.mpr c9
  subst c9
  rw[if_neg Bool.false_ne_true] at H
  obtain rfl:=Option.some.inj H
  go_wp2
  repeat(go_quiet (fail);try go_wp2)
  go_ret
  exact⟨zF,by repeat(first|exact jh.refl _|apply jh.step)⟩
 obtain rfl:=Option.some.inj H
 go_wp2
 repeat(go_quiet (fail);try go_wp2)
 go_ret
 exact⟨zF,by repeat(first|exact jh.refl _|apply jh.step)⟩
theorem lZ.calls(k:Nat)(A0:Option Addr)(c0:Nat)(l0:List (List Int))(a1:Int)(r:List (List Int))(w:World)(bo:Kd.C (Kd.slice 3 (Kd.int .i64)) w A0 l0.length l0)(bi:l0.length<=c0)(h:lZ.f k l0 a1=some r):
 Calls Try.prog 47 #[.slice A0 l0.length c0, .int .i64 a1] w λe w'=>∃bn:Value,e= .returned (bn)/\Kd.S (Kd.slice 3 (Kd.int .i64)) 22 w' w.heap.size (λ_=>True) bn r/\Below w.heap.size w w':=by
 have aH:=zk bo
 have bR:=zk bi
 clear bo bi
 have HB:=zk (Below.refl w.heap.size w)
 have H:=h
 clear h
 unfold lZ.f at H
 have H':=zk H
 clear H
 go_enter Try.func47,Try.ntmps47
 go_wp2
 go_loopg [5,6] k (λkq v5 v6 w'=>∃(m:List (List Int)) (j:Int),v6= .int .i64 j/\dw (lZ.l0 kq l0 a1 m j=some r)/\dw (kq<=k)/\dw (Kd.S (Kd.slice 3 (Kd.int .i64)) 22 w' w.heap.size (λ_=>True) v5 m)/\dw (Below w.heap.size w w'))
 case atStart=>exact⟨(([]:List (List Int))),(0),zF,H',⟨Nat.le_refl _⟩,⟨by first|exact Kd.tZ _ _ _ _ _|exact Kd.ui _ _ _ _ _|exact Kd.qX _ _ _ _ _|exact Kd.uh _ _ _ _ _|exact Kd.qN _ _ _ _ _⟩,⟨zB HB.out⟩⟩
 clear H'
 obtain⟨m,j,rfl,HA,O,d,HB⟩:=hrel
 cases gk with|zero=>exact absurd HA.out (by simp [lZ.l0])|succ k1=>?_
 have H:=HA.out
 clear HA
 simp only[lZ.l0] at H
 replace H:=jB H
 rcases H with⟨aM,H⟩|⟨aM,H⟩
 ·have H':=zk H
  clear H
  go_wp2
  go_loopg [7,8] k1 (λkq v7 v8 w'=>∃(t:List Int) (A:Int),v8= .int .i64 A/\dw (lZ.l1 kq l0 a1 m j t A=some r)/\dw (kq<=k1)/\dw (Kd.S (Kd.slice 3 (Kd.int .i64)) 22 w' w.heap.size (λk_=>some k_≠(v7:Value).ownBlock) u5 m)/\dw (Kd.R (Kd.int .i64) 3 w' w.heap.size (λ_=>True) v7 t)/\dw (Below w.heap.size w w'))
  case atStart=>exact⟨(([]:List Int)),(0),zF,H',⟨Nat.le_refl _⟩,⟨by(with_reducible repeat(first|apply Kd.uN|apply Kd.uK|apply Kd.t_));exact Kd.pK d.out (λ_ hk=>(by simp [Value.ownBlock]))⟩,⟨z0⟩,⟨zB HB.out⟩⟩
  clear H'
  (try clear aM)
  obtain⟨t,A,rfl,HA,M,d,s,HB⟩:=hrel
  cases gk with|zero=>exact absurd HA.out (by simp [lZ.l1])|succ k2=>?_
  have H:=HA.out
  clear HA
  simp only[lZ.l1] at H
  replace H:=iV H
  obtain⟨bg,H⟩:=H
  replace H:=iV H
  obtain⟨bc,H⟩:=H
  replace H:=jB H
  rcases H with⟨aN,H⟩|⟨aN,H⟩
  ·replace H:=iV H
   obtain⟨bP,H⟩:=H
   replace H:=zi H
   rcases H with⟨c8,H⟩|⟨c8,H⟩
   ·have bh:=beq_iff_eq.mpr c8
    have b8:=bne_eq_false_iff_eq.mpr c8
    clear c8
    have H':=zk H
    clear H
    have B:0<=(j:Int):=zd
    have D:j<(l0.length:Int):=zd
    obtain⟨a2,a7,ab,a8,c,n,o⟩:=rH aH.out j B D
    cases a8
    replace c:=(HB.out.cell (World.block_lt_of_cell? w _ c)).trans c
    have a3:=zk o
    have a4:=zk n
    clear o n
    replace B:=eq_true B
    replace D:=eq_true D
    have Y:0<=(j:Int):=zd
    have P:j<(l0.length:Int):=zd
    obtain⟨a9,aw,aA,aq,l,v,z⟩:=rH aH.out j Y P
    obtain rfl:a2=a9:=(by injection aq)
    replace l:=(HB.out.cell (World.block_lt_of_cell? w _ l)).trans l
    have K:=zk z
    have ah:=zk v
    clear z v
    replace Y:=eq_true Y
    replace P:=eq_true P
    have iW:=Option.some.inj (c.symm.trans l)
    injection iW with iW kL kM
    subst iW
    subst kM
    clear kL
    have U:0<=(A:Int):=zd
    have T:A<((jD l0 j).length:Int):=zd
    obtain⟨b0,av,q⟩:=Kd.jG K.out A U T
    cases av
    replace q:=(HB.out.cell (World.block_lt_of_cell? w _ q)).trans q
    replace U:=eq_true U
    replace T:=eq_true T
    go_wp2
    go_roundg k2
    case measure=>have:=O.out;have:=M.out;omega
    case rel=>exact⟨(t),(wrap64 (A+1)),zF,H',⟨lW O M⟩,⟨zS d.out⟩,⟨zR s.out⟩,⟨zB HB.out⟩⟩
   have bh:=beq_eq_false_iff_ne.mpr c8
   have b8:=bne_iff_ne.mpr c8
   replace H:=zg H
   obtain⟨c9,H⟩:=H
   have bb:=zk c9
   clear c9
   obtain⟨bf,aa⟩:∃y_:List Int,y_=(t++[A]):=⟨_,rfl⟩
   rw[<-aa] at H
   have aJ:=zk aa
   clear aa
   have H':=zk H
   clear H
   have B:0<=(j:Int):=zd
   have D:j<(l0.length:Int):=zd
   obtain⟨a2,a7,ab,a8,c,n,o⟩:=rH aH.out j B D
   cases a8
   replace c:=(HB.out.cell (World.block_lt_of_cell? w _ c)).trans c
   have a3:=zk o
   have a4:=zk n
   clear o n
   replace B:=eq_true B
   replace D:=eq_true D
   have Y:0<=(j:Int):=zd
   have P:j<(l0.length:Int):=zd
   obtain⟨a9,aw,aA,aq,l,v,z⟩:=rH aH.out j Y P
   obtain rfl:a2=a9:=(by injection aq)
   replace l:=(HB.out.cell (World.block_lt_of_cell? w _ l)).trans l
   have K:=zk z
   have ah:=zk v
   clear z v
   replace Y:=eq_true Y
   replace P:=eq_true P
   have iW:=Option.some.inj (c.symm.trans l)
   injection iW with iW kL kM
   subst iW
   subst kM
   clear kL
   have U:0<=(A:Int):=zd
   have T:A<((jD l0 j).length:Int):=zd
   obtain⟨b0,av,q⟩:=Kd.jG K.out A U T
   cases av
   replace q:=(HB.out.cell (World.block_lt_of_cell? w _ q)).trans q
   replace U:=eq_true U
   replace T:=eq_true T
   go_wp2_with (first|((with_reducible refine qE (b:= .append) (xs:= #[.tmp 34, .tmp 36]) rfl ?_);(try(refine vN (by rfl) ?_;dsimp only));at_builtin;refine Kd.yU (Kd.int .i64) (w0:=w) w.heap.size rfl (.tmp 34) (.tmp 36) 22 3 (.int .i64 0) 8 rfl Try.underlying22 info3 rfl (by decide) (by omega) u7 t A [.int .i64 A] (λ_=>True) (λ_=>False) rfl rfl ?aP (λ_ hk=>hk.elim) ?aF ?aO ?aB ?aS ?aL ?_;(case aP=>exact rfl);(case aB=>exact(zB HB.out));(case aF=>exact(λ_ _=>trivial));(case aO=>exact(zR s.out));(case aS=>exact(iQ (zB HB.out)));(case aL=>have:=bb.out;omega);intro bA bS ho hb hg hat;rw[<-aJ.out] at ho;replace d:=zk (Kd.Ym (ok:=(λ_=>True)) (by(with_reducible repeat(first|apply Kd.uN|apply Kd.uK|apply Kd.t_));exact Kd.pK d.out (λ_ hk=>⟨trivial,hk⟩)) hg hat);replace HB:=zk (hb);have aR:=zk (ho);clear s;clear ho hb hg hat))
   go_roundg k2
   case measure=>have:=O.out;have:=M.out;omega
   case rel=>exact⟨(bf),(wrap64 (A+1)),zF,H',⟨lW O M⟩,⟨by(with_reducible repeat(first|apply Kd.uN|apply Kd.uK|apply Kd.t_));exact Kd.pK d.out (λ_ hk=>hk.2)⟩,⟨zR aR.out⟩,⟨zB HB.out⟩⟩
  have H':=zk H
  clear H
  have B:0<=(j:Int):=zd
  have D:j<(l0.length:Int):=zd
  obtain⟨a2,a7,ab,a8,c,n,o⟩:=rH aH.out j B D
  cases a8
  replace c:=(HB.out.cell (World.block_lt_of_cell? w _ c)).trans c
  have a3:=zk o
  have a4:=zk n
  clear o n
  replace B:=eq_true B
  replace D:=eq_true D
  go_wp2
  go_loopg [9,10] k2 (λkq v9 bI w'=>∃(ac:Bool) (a:Int),v9= .bool ac/\bI= .int .i64 a/\dw (lZ.l2 kq l0 a1 m j t ac a=some r)/\dw (kq<=k2)/\dw (Kd.S (Kd.slice 3 (Kd.int .i64)) 22 w' w.heap.size (λk_=>some k_≠(u7:Value).ownBlock) u5 m)/\dw (Kd.R (Kd.int .i64) 3 w' w.heap.size (λ_=>True) u7 t)/\dw (Below w.heap.size w w'))
  case atStart=>exact⟨(false),(0),zF,zF,H',⟨Nat.le_refl _⟩,⟨zS d.out⟩,⟨zR s.out⟩,⟨zB HB.out⟩⟩
  clear H'
  (try clear bg bc aN c B D)
  obtain⟨ac,a,rfl,rfl,HA,a6,d,s,HB⟩:=hrel
  cases gk with|zero=>exact absurd HA.out (by simp [lZ.l2])|succ k3=>?_
  have H:=HA.out
  clear HA
  simp only[lZ.l2] at H
  replace H:=jB H
  rcases H with⟨aI,H⟩|⟨aI,H⟩
  ·by_cases b5:ac=true
   ·subst b5
    rw[if_pos rfl] at H
    have H':=zk H
    clear H
    obtain⟨bF,bK,rfl⟩:=Kd.yT d.out
    go_wp2
    go_roundg k3
    case measure=>have:=O.out;have:=M.out;have:=a6.out;omega
    case rel=>exact⟨(true),(wrap64 (a+1)),zF,zF,H',⟨by have:=O.out;have:=M.out;have:=a6.out;omega⟩,⟨zS d.out⟩,⟨zR s.out⟩,⟨zB HB.out⟩⟩
   replace b5:=Bool.eq_false_iff.mpr b5
   subst b5
   rw[if_neg Bool.false_ne_true] at H
   replace H:=iV H
   obtain⟨bk,H⟩:=H
   replace H:=zi H
   rcases H with⟨af,H⟩|⟨af,H⟩
   ·have aY:=beq_iff_eq.mpr af
    have b1:=bne_eq_false_iff_eq.mpr af
    have aZ:((jD m a).length==t.length)=true:=by first|simpa using af|(simp at af ⊢;omega)
    clear af
    replace H:=zb H
    obtain⟨aX,bw,H⟩:=H
    have H':=zk H
    clear H
    obtain⟨bv,bs,rfl⟩:=Kd.yT d.out
    have J:0<=(a:Int):=zd
    have I:a<(m.length:Int):=zd
    obtain⟨ap,ar,ax,az,E,x,y⟩:=rH (Kd.xZ d.out).2.2 a J I
    cases az
    obtain⟨aG,W,X,G⟩:=Kd.GL d.out [] a J (by first|exact I|exact zd|(have e_:=(Kd.xZ d.out).1;omega))
    obtain⟨al,rfl,p⟩:=X
    have g:=G 0 _ rfl
    rw[Nat.add_zero,show((Kd.slice 3 (Kd.int .i64))).sz=1 from rfl,Nat.mul_one] at g
    replace g:=Option.some.inj (g.symm.trans E)
    rw[g] at p
    have aj:=zk (show Kd.R (Kd.int .i64) 3 _ _ _ _ (jD m a) from p)
    clear g p
    clear G W
    have ao:=zk y
    have am:=zk x
    clear y x
    replace J:=eq_true J
    replace I:=eq_true I
    obtain⟨bB,bO,rfl⟩:=Kd.iD s.out
    have ak:0<=(a:Int):=zd
    have an:a<(m.length:Int):=zd
    obtain⟨aK,be,ba,b9,Z,a5,a0⟩:=rH (Kd.xZ d.out).2.2 a ak an
    obtain rfl:ap=aK:=(by injection b9)
    obtain⟨bj,au,aC,ad⟩:=Kd.GL d.out [] a ak (by first|exact an|exact zd|(have e_:=(Kd.xZ d.out).1;omega))
    obtain⟨b6,rfl,L⟩:=aC
    have u:=ad 0 _ rfl
    rw[Nat.add_zero,show((Kd.slice 3 (Kd.int .i64))).sz=1 from rfl,Nat.mul_one] at u
    replace u:=Option.some.inj (u.symm.trans Z)
    rw[u] at L
    have b3:=zk (show Kd.R (Kd.int .i64) 3 _ _ _ _ (jD m a) from L)
    clear u L
    clear ad au
    have ag:=zk a0
    have ai:=zk a5
    clear a0 a5
    replace ak:=eq_true ak
    replace an:=eq_true an
    have iW:=Option.some.inj (E.symm.trans Z)
    injection iW with iW kL kM
    subst iW
    subst kM
    clear kL
    go_wp2_with (first|(go_at_call 84;(with_reducible refine(o_.calls k3 _ _ t _ _ (jD m a) aX _ ?ig ?ik ?iF ?iE bw.out).mono ?_);(case ig=>exact zC (Kd.iw s.out).2.2);(case ik=>exact(Kd.iw s.out).2.1);(case iF=>repeat(first|exact(yY ag.out)|(with_reducible refine Kd.uT ?_ _)|(with_reducible refine Kd.uQ ?_ _)|(with_reducible refine Kd.uS ?_)));(case iE=>exact ai.out);rintro e w' ⟨rfl,⟨nd,rfl⟩⟩))
    go_roundg k3
    case measure=>have:=O.out;have:=M.out;have:=a6.out;omega
    case rel=>exact⟨(aX),(wrap64 (a+1)),zF,zF,H',⟨by have:=O.out;have:=M.out;have:=a6.out;omega⟩,⟨zS d.out⟩,⟨zR s.out⟩,⟨zB HB.out⟩⟩
   have aY:=beq_eq_false_iff_ne.mpr af
   have b1:=bne_iff_ne.mpr af
   have aZ:((jD m a).length==t.length)=false:=by first|simpa using af|(simp at af ⊢;omega)
   have H':=zk H
   clear H
   obtain⟨bN,bD,rfl⟩:=Kd.yT d.out
   have J:0<=(a:Int):=zd
   have I:a<(m.length:Int):=zd
   obtain⟨ap,ar,ax,az,E,x,y⟩:=rH (Kd.xZ d.out).2.2 a J I
   cases az
   obtain⟨aG,W,X,G⟩:=Kd.GL d.out [] a J (by first|exact I|exact zd|(have e_:=(Kd.xZ d.out).1;omega))
   obtain⟨al,rfl,p⟩:=X
   have g:=G 0 _ rfl
   rw[Nat.add_zero,show((Kd.slice 3 (Kd.int .i64))).sz=1 from rfl,Nat.mul_one] at g
   replace g:=Option.some.inj (g.symm.trans E)
   rw[g] at p
   have aj:=zk (show Kd.R (Kd.int .i64) 3 _ _ _ _ (jD m a) from p)
   clear g p
   clear G W
   have ao:=zk y
   have am:=zk x
   clear y x
   replace J:=eq_true J
   replace I:=eq_true I
   obtain⟨bH,bx,rfl⟩:=Kd.iD s.out
   go_wp2
   go_roundg k3
   case measure=>have:=O.out;have:=M.out;have:=a6.out;omega
   case rel=>exact⟨(false),(wrap64 (a+1)),zF,zF,H',⟨by have:=O.out;have:=M.out;have:=a6.out;omega⟩,⟨zS d.out⟩,⟨zR s.out⟩,⟨zB HB.out⟩⟩
  replace H:=zi H
  rcases H with⟨aE,H⟩|⟨aE,H⟩
  ·have b2:=beq_iff_eq.mpr aE
   have aV:=bne_eq_false_iff_eq.mpr aE
   clear aE
   by_cases b4:ac=true
   ·subst b4
    rw[if_pos rfl] at H
    have H':=zk H
    clear H
    obtain⟨bE,bu,rfl⟩:=Kd.yT d.out
    obtain⟨br,bM,rfl⟩:=Kd.iD s.out
    go_wp2
    go_roundg k3
    case measure=>have:=O.out;have:=M.out;have:=a6.out;omega
    case rel=>exact⟨(m),(wrap64 (j+1)),zF,H',⟨by have:=O.out;have:=M.out;have:=a6.out;omega⟩,⟨by(with_reducible repeat(first|apply Kd.uN|apply Kd.uK|apply Kd.t_));exact Kd.pK d.out (λ_ hk=>trivial)⟩,⟨zB HB.out⟩⟩
   replace b4:=Bool.eq_false_iff.mpr b4
   subst b4
   rw[if_neg Bool.false_ne_true] at H
   replace H:=zg H
   obtain⟨bq,H⟩:=H
   have aU:=zk bq
   clear bq
   obtain⟨b7,ae⟩:∃y_:List (List Int),y_=(m++[t]):=⟨_,rfl⟩
   rw[<-ae] at H
   have a_:=zk ae
   clear ae
   have H':=zk H
   clear H
   obtain⟨aD,ay,rfl⟩:=Kd.yT d.out
   obtain⟨aT,aQ,rfl⟩:=Kd.iD s.out
   go_wp2_with (first|((with_reducible refine qE (b:= .append) (xs:= #[.tmp 71, .tmp 73]) rfl ?_);(try(refine vN (by rfl) ?_;dsimp only));at_builtin;refine Kd.EY (Kd.slice 3 (Kd.int .i64)) (w0:=w) w.heap.size rfl (.tmp 71) (.tmp 73) 25 22 (.slice none 0 0) 24 rfl Try.underlying25 info22 rfl (by decide) (by omega) (.slice aD m.length ay) m t [.slice aT t.length aQ] (λ_=>True) (λk_=>some k_=(.slice aT t.length aQ:Value).ownBlock) rfl rfl ?aP (λk_ iO=>((Kd.iZ (ok':=λk_=>((λ_=>True)) k_/\some k_≠(.slice aD m.length ay:Value).ownBlock) (Kd.jL (s.out) (Kd.r_ d.out) (by decide)) (λk_ hk=>⟨trivial,hk.2⟩))).1 k_ iO.symm) ?aF ?aO ?aB ?aS ?aL ?_;(case aP=>exact Kd.JQ (Kd.iZ (Kd.uf rfl (Kd.iZ (ok':=λk_=>((λ_=>True)) k_/\some k_≠(.slice aD m.length ay:Value).ownBlock) (Kd.jL (s.out) (Kd.r_ d.out) (by decide)) (λk_ hk=>⟨trivial,hk.2⟩))) (λ_ h_=>h_)));(case aB=>exact(zB HB.out));(case aF=>exact(λ_ _=>trivial));(case aO=>exact(by(with_reducible repeat(first|apply Kd.uN|apply Kd.uK|apply Kd.t_));exact Kd.pK d.out (λk_ hk=>⟨trivial,λe_=>hk e_⟩)));(case aS=>exact(iQ (zB HB.out)));(case aL=>have:=aU.out;omega);intro bG bQ ho hb hg hat;rw[<-a_.out] at ho;replace HB:=zk (hb);have aW:=zk (ho);clear d s;clear ho hb hg hat))
   go_roundg k3
   case measure=>have:=O.out;have:=M.out;have:=a6.out;omega
   case rel=>exact⟨(b7),(wrap64 (j+1)),zF,H',⟨by have:=O.out;have:=M.out;have:=a6.out;omega⟩,⟨zS aW.out⟩,⟨zB HB.out⟩⟩
  have b2:=beq_eq_false_iff_ne.mpr aE
  have aV:=bne_iff_ne.mpr aE
  have H':=zk H
  clear H
  obtain⟨bC,bz,rfl⟩:=Kd.yT d.out
  obtain⟨bJ,bL,rfl⟩:=Kd.iD s.out
  go_wp2
  go_roundg k3
  case measure=>have:=O.out;have:=M.out;have:=a6.out;omega
  case rel=>exact⟨(m),(wrap64 (j+1)),zF,H',⟨by have:=O.out;have:=M.out;have:=a6.out;omega⟩,⟨by(with_reducible repeat(first|apply Kd.uN|apply Kd.uK|apply Kd.t_));exact Kd.pK d.out (λ_ hk=>trivial)⟩,⟨zB HB.out⟩⟩
 obtain rfl:=Option.some.inj H
 go_wp2
 go_ret
 exact⟨_,zE,zS d.out,zB HB.out⟩
def BM.f(k:Nat)(jW:Int)(kW:Int)(kJ:List Int)(a1:Int)(l2:List (List Int)):Option (Bool):=(kZ.f k jW kW kJ a1 l2).bind λEL=>(if EL.2.2.2.2=true then((oQ.f k EL.1 EL.2.1).bind λDY=>((kQ.f k jW kW kJ).bind λRw=>((l7.f k Rw DY).bind λEK=>((sO.f k DY).bind λHw=>(if Hw=0 then(if EK.2=11 then(some (EK.1==0)) else(none)) else((kQ.f k jW kW kJ).bind λRu=>((pq.f k Ru DY).bind λPD=>(if EK.2=0 then(if PD.2=0 then((uq.f k Hw PD.1).bind λRt=>(if EK.1=Rt then((lZ.f k EL.2.1 Hw).bind λRq=>((kR.f k EL.1 Rq EK.1).bind λPz=>(if Pz.2=0 then(some (decide (Pz.1>0))) else(none)))) else(none))) else(none)) else(none))))))))) else(some true))
theorem BM.calls(k:Nat)(q:Int)(p:Int)(u:Option Addr)(s:Nat)(n:List Int)(a1:Int)(A2:Option Addr)(c2:Nat)(l2:List (List Int))(r:Bool)(w:World)(a6:Kd.C (Kd.int .i64) w u n.length n)(a2:n.length<=s)(bh:Kd.C (Kd.slice 3 (Kd.int .i64)) w A2 l2.length l2)(bo:l2.length<=c2)(h:BM.f k q p n a1 l2=some r):
 Calls Try.prog 9 #[.agg #[.int .i64 q, .int .i64 p, .slice u n.length s], .int .u8 a1, .slice A2 l2.length c2] w λe w'=>e= .returned (.bool r)/\Below w.heap.size w w':=by
 have bz:=Try.underlying24
 have B:=zk a6
 have D:=zk a2
 clear a6 a2
 have b8:=zk bh
 have aV:=zk bo
 clear bh bo
 have HB:=zk (Below.refl w.heap.size w)
 have H:=h
 clear h
 unfold BM.f at H
 replace H:=zb H
 obtain⟨⟨E,z,aa,a8,b0⟩,A4,H⟩:=H
 dsimp only at H
 by_cases c5:b0=true
 ·subst c5
  rw[if_pos rfl] at H
  replace H:=zb H
  obtain⟨v,A6,H⟩:=H
  replace H:=zb H
  obtain⟨M,A7,H⟩:=H
  replace H:=zb H
  obtain⟨⟨Y,ah⟩,A8,H⟩:=H
  dsimp only at H
  replace H:=zb H
  obtain⟨G,A9,H⟩:=H
  replace H:=zi H
  rcases H with⟨c10,H⟩|⟨c10,H⟩
  ·have af:=beq_iff_eq.mpr c10
   have ag:=bne_eq_false_iff_eq.mpr c10
   clear c10
   replace H:=zg H
   obtain⟨b3,H⟩:=H
   have ba:=beq_iff_eq.mpr b3
   have bk:=bne_eq_false_iff_eq.mpr b3
   clear b3
   obtain rfl:=Option.some.inj H
   go_enter Try.func9,Try.ntmps9
   go_wp2_with (first|((with_reducible refine jc (N:=3) rfl ?_);refine jM ?hg (N:=3) ?hd (cs:= #[.int .i64 q, .int .i64 p, .slice u n.length s]) (t:=24) ?hr ?_;(case hd=>rfl);(case hg=>rfl);(case hr=>first|(go_simp;done)|(go_simp;rfl));intro m hg bG hbox hb;have a:=zk (hbox);have a0:=yg hg HB;have d:=yg hg HB;replace HB:=yS HB hb;clear hb hbox hg;obtain⟨ar,aS,aj,aA,aJ,az⟩:=ja a)|((with_reducible refine gC 19 ?_);refine zG (some 24) Try.func19 #[.agg #[.int .i64 q, .int .i64 p, .slice u n.length s], .int .u8 a1, .slice A2 l2.length c2] ?_;(with_reducible refine(kZ.calls k q p _ _ n a1 _ _ l2 E z aa a8 true _ ?ig ?ik ?iF ?iE A4.out).mono ?_);(case ig=>exact zC (Kd.iR B.out HB.out));(case ik=>exact D.out);(case iF=>exact zC (Kd.iR b8.out HB.out));(case iE=>exact aV.out);rintro e bA ⟨I,A,ad,rfl,x,a4,Z,hb⟩;refine⟨_,rfl,?_⟩;have b:=zk (Kd.qf (Kd.ji (ok':=λk_=>some k_≠(A:Value).ownBlock/\k_≠m) x (λk_ iO=>⟨iO.2,(Kd.kT (g:=m) (o:= .cells #[.int .i64 q, .int .i64 p, .slice u n.length s] 24 (0,0)) (by(with_reducible repeat(first|refine iM ?_ _|refine iC ?_|refine iL ?_ _));exact a.out) k_ iO.1)⟩)) (iQ (iH HB.out d.out)));have j:=zk (Kd.qf (Kd.ji (ok':=λk_=>some k_≠(I:Value).ownBlock/\k_≠m) a4 (λk_ iO=>⟨iO.2,(Kd.kT (g:=m) (o:= .cells #[.int .i64 q, .int .i64 p, .slice u n.length s] 24 (0,0)) (by(with_reducible repeat(first|refine iM ?_ _|refine iC ?_|refine iL ?_ _));exact a.out) k_ iO.1)⟩)) (iQ (iH HB.out d.out)));have l:=zk (Kd.qp (Kd.jf (ok':=λk_=>some k_≠(I:Value).ownBlock/\some k_≠(A:Value).ownBlock/\k_≠m) Z (λk_ iO=>⟨iO.2.1,iO.2.2,(Kd.kT (g:=m) (o:= .cells #[.int .i64 q, .int .i64 p, .slice u n.length s] 24 (0,0)) (by(with_reducible repeat(first|refine iM ?_ _|refine iC ?_|refine iL ?_ _));exact a.out) k_ iO.1)⟩)) (iQ (iH HB.out d.out)));replace a:=yK a hb;replace HB:=jg HB d hb;(try clear hb x a4 Z);obtain⟨ab,ac,rfl⟩:=Kd.oG b.out)|((with_reducible refine gC 21 ?_);refine zG (some 34) Try.func21 #[.int .i64 E, .slice ab z.length ac] ?_;(with_reducible refine(oQ.calls k E _ _ z v _ ?ig ?ik A6.out).mono ?_);(case ig=>exact zC (Kd.jR b.out).2.2);(case ik=>exact(Kd.jR b.out).2.1);rintro e bR ⟨aX,rfl,x,hb⟩;refine⟨_,rfl,?_⟩;replace l:=zk (Kd.xE (zV l.out) (Kd.uM x) hb);have c:=zk (Kd.qf (Kd.ji (ok':=λk_=>some k_≠(.slice ab z.length ac:Value).ownBlock/\some k_≠(A:Value).ownBlock/\k_≠m) (Kd.GN (Kd.Bq x)) (λk_ iO=>⟨(Kd.fresh' (Kd.mQ (zN b.out)) k_ iO.2.1),(Kd.fresh' (Kd.mQ (zN j.out)) k_ iO.2.1),(Kd.kT (g:=m) (o:= .cells #[.int .i64 q, .int .i64 p, .slice u n.length s] 24 (0,0)) (by(with_reducible repeat(first|refine iM ?_ _|refine iC ?_|refine iL ?_ _));exact a.out) k_ iO.2.1)⟩)) (iQ (iH HB.out d.out)));replace b:=zk (Kd.rf (zN b.out) (Kd.uM x) hb);replace j:=zk (Kd.rf (zN j.out) (Kd.uM x) hb);replace a:=yK a hb;replace HB:=jg HB d hb;(try clear hb x);obtain⟨ay,an,am,aP,aF,au⟩:=ja a)|((with_reducible refine gC 24 ?_);refine zG (some 37) Try.func24 #[.agg #[.int .i64 q, .int .i64 p, .slice u n.length s]] ?_;(with_reducible refine(kQ.calls k q p _ _ n M _ ?ig ?ik A7.out).mono ?_);(case ig=>exact zC (Kd.iR B.out HB.out));(case ik=>exact D.out);rintro e bK ⟨rfl,hb⟩;refine⟨_,rfl,?_⟩;replace b:=kG b hb;replace j:=kG j hb;replace l:=jy l hb;replace c:=kG c hb;replace a:=yK a hb;replace HB:=jg HB d hb;(try clear hb);obtain⟨ai,ae,rfl⟩:=Kd.oG c.out)|((with_reducible refine gC 38 ?_);refine zG (some 39) Try.func38 #[.int .i64 M, .slice ai v.length ae] ?_;(with_reducible refine(l7.calls k M _ _ v Y ah _ ?ig ?ik A8.out).mono ?_);(case ig=>exact zC (Kd.jR c.out).2.2);(case ik=>exact(Kd.jR c.out).2.1);rintro e bC ⟨rfl,hb⟩;refine⟨_,rfl,?_⟩;replace b:=kG b hb;replace j:=kG j hb;replace l:=jy l hb;replace c:=kG c hb;replace a:=yK a hb;replace HB:=jg HB d hb;(try clear hb))|((with_reducible refine gC 40 ?_);refine zG (some 43) Try.func40 #[.slice ai v.length ae] ?_;(with_reducible refine(sO.calls k _ _ v G _ ?ig ?ik A9.out).mono ?_);(case ig=>exact zC (Kd.jR c.out).2.2);(case ik=>exact(Kd.jR c.out).2.1);rintro e bI ⟨rfl,hb⟩;refine⟨_,rfl,?_⟩;replace b:=kG b hb;replace j:=kG j hb;replace l:=jy l hb;replace c:=kG c hb;replace a:=yK a hb;replace HB:=jg HB d hb;(try clear hb)))
   go_ret
   exact⟨zE,iH HB.out d.out⟩
  have af:=beq_eq_false_iff_ne.mpr c10
  have ag:=bne_iff_ne.mpr c10
  replace H:=zb H
  obtain⟨T,bv,H⟩:=H
  replace H:=zb H
  obtain⟨⟨a7,b5⟩,bu,H⟩:=H
  dsimp only at H
  replace H:=zg H
  obtain⟨aW,H⟩:=H
  have bf:=beq_iff_eq.mpr aW
  have bg:=bne_eq_false_iff_eq.mpr aW
  clear aW
  replace H:=zg H
  obtain⟨b6,H⟩:=H
  have be:=beq_iff_eq.mpr b6
  have bc:=bne_eq_false_iff_eq.mpr b6
  clear b6
  replace H:=zb H
  obtain⟨a9,bw,H⟩:=H
  replace H:=zg H
  obtain⟨a_,H⟩:=H
  have bi:=beq_iff_eq.mpr a_
  have bn:=bne_eq_false_iff_eq.mpr a_
  clear a_
  replace H:=zb H
  obtain⟨X,bq,H⟩:=H
  replace H:=zb H
  obtain⟨⟨b4,aZ⟩,bs,H⟩:=H
  dsimp only at H
  replace H:=zg H
  obtain⟨aY,H⟩:=H
  have bb:=beq_iff_eq.mpr aY
  have bj:=bne_eq_false_iff_eq.mpr aY
  clear aY
  obtain rfl:=Option.some.inj H
  go_enter Try.func9,Try.ntmps9
  go_wp2_with (first|((with_reducible refine jc (N:=3) rfl ?_);refine jM ?hg (N:=3) ?hd (cs:= #[.int .i64 q, .int .i64 p, .slice u n.length s]) (t:=24) ?hr ?_;(case hd=>rfl);(case hg=>rfl);(case hr=>first|(go_simp;done)|(go_simp;rfl));intro m hg bO hbox hb;have a:=zk (hbox);have a0:=yg hg HB;have d:=yg hg HB;replace HB:=yS HB hb;clear hb hbox hg;obtain⟨aQ,aI,al,aH,aM,aT⟩:=ja a)|((with_reducible refine gC 19 ?_);refine zG (some 24) Try.func19 #[.agg #[.int .i64 q, .int .i64 p, .slice u n.length s], .int .u8 a1, .slice A2 l2.length c2] ?_;(with_reducible refine(kZ.calls k q p _ _ n a1 _ _ l2 E z aa a8 true _ ?ig ?ik ?iF ?iE A4.out).mono ?_);(case ig=>exact zC (Kd.iR B.out HB.out));(case ik=>exact D.out);(case iF=>exact zC (Kd.iR b8.out HB.out));(case iE=>exact aV.out);rintro e bN ⟨I,A,ad,rfl,x,a4,Z,hb⟩;refine⟨_,rfl,?_⟩;have b:=zk (Kd.qf (Kd.ji (ok':=λk_=>some k_≠(A:Value).ownBlock/\k_≠m) x (λk_ iO=>⟨iO.2,(Kd.kT (g:=m) (o:= .cells #[.int .i64 q, .int .i64 p, .slice u n.length s] 24 (0,0)) (by(with_reducible repeat(first|refine iM ?_ _|refine iC ?_|refine iL ?_ _));exact a.out) k_ iO.1)⟩)) (iQ (iH HB.out d.out)));have j:=zk (Kd.qf (Kd.ji (ok':=λk_=>some k_≠(I:Value).ownBlock/\k_≠m) a4 (λk_ iO=>⟨iO.2,(Kd.kT (g:=m) (o:= .cells #[.int .i64 q, .int .i64 p, .slice u n.length s] 24 (0,0)) (by(with_reducible repeat(first|refine iM ?_ _|refine iC ?_|refine iL ?_ _));exact a.out) k_ iO.1)⟩)) (iQ (iH HB.out d.out)));have l:=zk (Kd.qp (Kd.jf (ok':=λk_=>some k_≠(I:Value).ownBlock/\some k_≠(A:Value).ownBlock/\k_≠m) Z (λk_ iO=>⟨iO.2.1,iO.2.2,(Kd.kT (g:=m) (o:= .cells #[.int .i64 q, .int .i64 p, .slice u n.length s] 24 (0,0)) (by(with_reducible repeat(first|refine iM ?_ _|refine iC ?_|refine iL ?_ _));exact a.out) k_ iO.1)⟩)) (iQ (iH HB.out d.out)));replace a:=yK a hb;replace HB:=jg HB d hb;(try clear hb x a4 Z);obtain⟨P,W,rfl⟩:=Kd.oG b.out)|((with_reducible refine gC 21 ?_);refine zG (some 34) Try.func21 #[.int .i64 E, .slice P z.length W] ?_;(with_reducible refine(oQ.calls k E _ _ z v _ ?ig ?ik A6.out).mono ?_);(case ig=>exact zC (Kd.jR b.out).2.2);(case ik=>exact(Kd.jR b.out).2.1);rintro e bB ⟨aX,rfl,x,hb⟩;refine⟨_,rfl,?_⟩;replace l:=zk (Kd.xE (zV l.out) (Kd.uM x) hb);have c:=zk (Kd.qf (Kd.ji (ok':=λk_=>some k_≠(.slice P z.length W:Value).ownBlock/\some k_≠(A:Value).ownBlock/\k_≠m) (Kd.GN (Kd.Bq x)) (λk_ iO=>⟨(Kd.fresh' (Kd.mQ (zN b.out)) k_ iO.2.1),(Kd.fresh' (Kd.mQ (zN j.out)) k_ iO.2.1),(Kd.kT (g:=m) (o:= .cells #[.int .i64 q, .int .i64 p, .slice u n.length s] 24 (0,0)) (by(with_reducible repeat(first|refine iM ?_ _|refine iC ?_|refine iL ?_ _));exact a.out) k_ iO.2.1)⟩)) (iQ (iH HB.out d.out)));replace b:=zk (Kd.rf (zN b.out) (Kd.uM x) hb);replace j:=zk (Kd.rf (zN j.out) (Kd.uM x) hb);replace a:=yK a hb;replace HB:=jg HB d hb;(try clear hb x);obtain⟨aD,aR,ap,aB,aE,aU⟩:=ja a)|((with_reducible refine gC 24 ?_);refine zG (some 37) Try.func24 #[.agg #[.int .i64 q, .int .i64 p, .slice u n.length s]] ?_;(with_reducible refine(kQ.calls k q p _ _ n M _ ?ig ?ik A7.out).mono ?_);(case ig=>exact zC (Kd.iR B.out HB.out));(case ik=>exact D.out);rintro e bE ⟨rfl,hb⟩;refine⟨_,rfl,?_⟩;replace b:=kG b hb;replace j:=kG j hb;replace l:=jy l hb;replace c:=kG c hb;replace a:=yK a hb;replace HB:=jg HB d hb;(try clear hb);obtain⟨U,O,rfl⟩:=Kd.oG c.out)|((with_reducible refine gC 38 ?_);refine zG (some 39) Try.func38 #[.int .i64 M, .slice U v.length O] ?_;(with_reducible refine(l7.calls k M _ _ v Y ah _ ?ig ?ik A8.out).mono ?_);(case ig=>exact zC (Kd.jR c.out).2.2);(case ik=>exact(Kd.jR c.out).2.1);rintro e bL ⟨rfl,hb⟩;refine⟨_,rfl,?_⟩;replace b:=kG b hb;replace j:=kG j hb;replace l:=jy l hb;replace c:=kG c hb;replace a:=yK a hb;replace HB:=jg HB d hb;(try clear hb))|((with_reducible refine gC 40 ?_);refine zG (some 43) Try.func40 #[.slice U v.length O] ?_;(with_reducible refine(sO.calls k _ _ v G _ ?ig ?ik A9.out).mono ?_);(case ig=>exact zC (Kd.jR c.out).2.2);(case ik=>exact(Kd.jR c.out).2.1);rintro e bM ⟨rfl,hb⟩;refine⟨_,rfl,?_⟩;replace b:=kG b hb;replace j:=kG j hb;replace l:=jy l hb;replace c:=kG c hb;replace a:=yK a hb;replace HB:=jg HB d hb;(try clear hb);obtain⟨aG,aL,aC,ao,av,aN⟩:=ja a)|((with_reducible refine gC 24 ?_);refine zG (some 54) Try.func24 #[.agg #[.int .i64 q, .int .i64 p, .slice u n.length s]] ?_;(with_reducible refine(kQ.calls k q p _ _ n T _ ?ig ?ik bv.out).mono ?_);(case ig=>exact zC (Kd.iR B.out HB.out));(case ik=>exact D.out);rintro e bJ ⟨rfl,hb⟩;refine⟨_,rfl,?_⟩;replace b:=kG b hb;replace j:=kG j hb;replace l:=jy l hb;replace c:=kG c hb;replace a:=yK a hb;replace HB:=jg HB d hb;(try clear hb))|((with_reducible refine gC 39 ?_);refine zG (some 56) Try.func39 #[.int .i64 T, .slice U v.length O] ?_;(with_reducible refine(pq.calls k T _ _ v a7 b5 _ ?ig ?ik bu.out).mono ?_);(case ig=>exact zC (Kd.jR c.out).2.2);(case ik=>exact(Kd.jR c.out).2.1);rintro e bP ⟨bx,rfl,x,hb⟩;refine⟨_,rfl,?_⟩;replace l:=zk (Kd.xE (zV l.out) (Kd.uM x) hb);have y:=zk (Kd.qf (Kd.ji (ok':=λk_=>some k_≠(.slice P z.length W:Value).ownBlock/\some k_≠(A:Value).ownBlock/\some k_≠(.slice U v.length O:Value).ownBlock/\k_≠m) (Kd.GN (Kd.Bq x)) (λk_ iO=>⟨(Kd.fresh' (Kd.mQ (zN b.out)) k_ iO.2.1),(Kd.fresh' (Kd.mQ (zN j.out)) k_ iO.2.1),(Kd.fresh' (Kd.mQ (zN c.out)) k_ iO.2.1),(Kd.kT (g:=m) (o:= .cells #[.int .i64 q, .int .i64 p, .slice u n.length s] 24 (0,0)) (by(with_reducible repeat(first|refine iM ?_ _|refine iC ?_|refine iL ?_ _));exact a.out) k_ iO.2.1)⟩)) (iQ (iH HB.out d.out)));replace b:=zk (Kd.rf (zN b.out) (Kd.uM x) hb);replace j:=zk (Kd.rf (zN j.out) (Kd.uM x) hb);replace c:=zk (Kd.rf (zN c.out) (Kd.uM x) hb);replace a:=yK a hb;replace HB:=jg HB d hb;(try clear hb x);obtain⟨b2,b7,rfl⟩:=Kd.oG y.out)|(go_at_call 41;(with_reducible refine(uq.calls k G _ _ a7 a9 _ ?ig ?ik bw.out).mono ?_);(case ig=>exact zC (Kd.jR y.out).2.2);(case ik=>exact(Kd.jR y.out).2.1);rintro e bH ⟨rfl,hb⟩;replace b:=kG b hb;replace j:=kG j hb;replace l:=jy l hb;replace c:=kG c hb;replace y:=kG y hb;replace a:=yK a hb;replace HB:=jg HB d hb;(try clear hb))|((with_reducible refine gC 47 ?_);refine zG (some 76) Try.func47 #[.slice P z.length W, .int .i64 G] ?_;(with_reducible refine(lZ.calls k _ _ z G X _ ?ig ?ik bq.out).mono ?_);(case ig=>exact zC (Kd.jR b.out).2.2);(case ik=>exact(Kd.jR b.out).2.1);rintro e bD ⟨br,rfl,x,hb⟩;refine⟨_,rfl,?_⟩;replace l:=zk (Kd.xE (zV l.out) (Kd.uM x) hb);have J:=zk (Kd.qf (Kd.ji (ok':=λk_=>some k_≠(.slice P z.length W:Value).ownBlock/\some k_≠(A:Value).ownBlock/\some k_≠(.slice U v.length O:Value).ownBlock/\some k_≠(.slice b2 a7.length b7:Value).ownBlock/\k_≠m) (Kd.GN (Kd.Bq x)) (λk_ iO=>⟨(Kd.fresh' (Kd.mQ (zN b.out)) k_ iO.2.1),(Kd.fresh' (Kd.mQ (zN j.out)) k_ iO.2.1),(Kd.fresh' (Kd.mQ (zN c.out)) k_ iO.2.1),(Kd.fresh' (Kd.mQ (zN y.out)) k_ iO.2.1),(Kd.kT (g:=m) (o:= .cells #[.int .i64 q, .int .i64 p, .slice u n.length s] 24 (0,0)) (by(with_reducible repeat(first|refine iM ?_ _|refine iC ?_|refine iL ?_ _));exact a.out) k_ iO.2.1)⟩)) (iQ (iH HB.out d.out)));replace b:=zk (Kd.rf (zN b.out) (Kd.uM x) hb);replace j:=zk (Kd.rf (zN j.out) (Kd.uM x) hb);replace c:=zk (Kd.rf (zN c.out) (Kd.uM x) hb);replace y:=zk (Kd.rf (zN y.out) (Kd.uM x) hb);replace a:=yK a hb;replace HB:=jg HB d hb;(try clear hb x);obtain⟨b9,b1,rfl⟩:=Kd.oG J.out)|((with_reducible refine gC 30 ?_);refine zG (some 78) Try.func30 #[.int .i64 E, .slice b9 X.length b1, .int .i64 Y] ?_;(with_reducible refine(kR.calls k E _ _ X Y b4 aZ _ ?ig ?ik bs.out).mono ?_);(case ig=>exact zC (Kd.jR J.out).2.2);(case ik=>exact(Kd.jR J.out).2.1);rintro e bS ⟨rfl,hb⟩;refine⟨_,rfl,?_⟩;replace b:=kG b hb;replace j:=kG j hb;replace l:=jy l hb;replace c:=kG c hb;replace y:=kG y hb;replace J:=kG J hb;replace a:=yK a hb;replace HB:=jg HB d hb;(try clear hb)))
  go_ret
  exact⟨zE,iH HB.out d.out⟩
 replace c5:=Bool.eq_false_iff.mpr c5
 subst c5
 rw[if_neg Bool.false_ne_true] at H
 obtain rfl:=Option.some.inj H
 go_enter Try.func9,Try.ntmps9
 go_wp2_with (first|((with_reducible refine jc (N:=3) rfl ?_);refine jM ?hg (N:=3) ?hd (cs:= #[.int .i64 q, .int .i64 p, .slice u n.length s]) (t:=24) ?hr ?_;(case hd=>rfl);(case hg=>rfl);(case hr=>first|(go_simp;done)|(go_simp;rfl));intro m hg bQ hbox hb;have a:=zk (hbox);have a0:=yg hg HB;have d:=yg hg HB;replace HB:=yS HB hb;clear hb hbox hg;obtain⟨aO,aw,aq,ax,aK,ak⟩:=ja a)|((with_reducible refine gC 19 ?_);refine zG (some 24) Try.func19 #[.agg #[.int .i64 q, .int .i64 p, .slice u n.length s], .int .u8 a1, .slice A2 l2.length c2] ?_;(with_reducible refine(kZ.calls k q p _ _ n a1 _ _ l2 E z aa a8 false _ ?ig ?ik ?iF ?iE A4.out).mono ?_);(case ig=>exact zC (Kd.iR B.out HB.out));(case ik=>exact D.out);(case iF=>exact zC (Kd.iR b8.out HB.out));(case iE=>exact aV.out);rintro e bF ⟨I,A,ad,rfl,x,a4,Z,hb⟩;refine⟨_,rfl,?_⟩;have b:=zk (Kd.qf (Kd.ji (ok':=λk_=>some k_≠(A:Value).ownBlock/\k_≠m) x (λk_ iO=>⟨iO.2,(Kd.kT (g:=m) (o:= .cells #[.int .i64 q, .int .i64 p, .slice u n.length s] 24 (0,0)) (by(with_reducible repeat(first|refine iM ?_ _|refine iC ?_|refine iL ?_ _));exact a.out) k_ iO.1)⟩)) (iQ (iH HB.out d.out)));have j:=zk (Kd.qf (Kd.ji (ok':=λk_=>some k_≠(I:Value).ownBlock/\k_≠m) a4 (λk_ iO=>⟨iO.2,(Kd.kT (g:=m) (o:= .cells #[.int .i64 q, .int .i64 p, .slice u n.length s] 24 (0,0)) (by(with_reducible repeat(first|refine iM ?_ _|refine iC ?_|refine iL ?_ _));exact a.out) k_ iO.1)⟩)) (iQ (iH HB.out d.out)));have l:=zk (Kd.qp (Kd.jf (ok':=λk_=>some k_≠(I:Value).ownBlock/\some k_≠(A:Value).ownBlock/\k_≠m) Z (λk_ iO=>⟨iO.2.1,iO.2.2,(Kd.kT (g:=m) (o:= .cells #[.int .i64 q, .int .i64 p, .slice u n.length s] 24 (0,0)) (by(with_reducible repeat(first|refine iM ?_ _|refine iC ?_|refine iL ?_ _));exact a.out) k_ iO.1)⟩)) (iQ (iH HB.out d.out)));replace a:=yK a hb;replace HB:=jg HB d hb;(try clear hb x a4 Z)))
 go_ret
 exact⟨zE,iH HB.out d.out⟩
end Go.Proofs.Ytifkbghnmhineaa.qc
section
namespace Mw
def sm:Nat->(Nat->Int)->Int
 |0,_=>0
 |n+1,f=>sm n f+f n
theorem kF{n:Nat}{f g:Nat->Int}(h:∀i,i<n->f i=g i):sm n f=sm n g:=by
 induction n with
 |zero=>rfl
 |succ n ih=>simp only[sm];rw[ih (λi hi=>h i (by omega)),h n (by omega)]
theorem yz{n:Nat}{f:Nat->Int}(h:∀i,i<n->f i=0):sm n f=0:=by
 induction n with
 |zero=>rfl
 |succ n ih=>simp only[sm];rw[ih (λi hi=>h i (by omega)),h n (by omega)];rfl
theorem wP(n:Nat)(f g:Nat->Int):sm n (λi=>f i+g i)=sm n f+sm n g:=by
 induction n with
 |zero=>rfl
 |succ n ih=>simp only[sm];rw[ih];omega
theorem D8(n:Nat)(f g:Nat->Int):sm n (λi=>f i-g i)=sm n f-sm n g:=by
 induction n with
 |zero=>rfl
 |succ n ih=>simp only[sm];rw[ih];omega
theorem oP(n:Nat)(c:Int)(f:Nat->Int):sm n (λi=>c*f i)=c*sm n f:=by
 induction n with
 |zero=>simp [sm]
 |succ n ih=>simp only[sm];rw[ih,Int.mul_add]
theorem FM(n:Nat)(c:Int)(f:Nat->Int):sm n (λi=>f i*c)=sm n f*c:=by
 induction n with
 |zero=>simp [sm]
 |succ n ih=>simp only[sm];rw[ih,Int.add_mul]
theorem yA(n:Nat)(f:Nat->Int):sm (n+1) f=f 0+sm n (λi=>f (i+1)):=by
 induction n with
 |zero=>simp [sm]
 |succ n ih=>rw[sm,ih];simp only[sm];omega
theorem zU(m n:Nat)(f:Nat->Nat->Int):sm m (λi=>sm n (λj=>f i j))=sm n (λj=>sm m (λi=>f i j)):=by
 induction m with
 |zero=>simp only[sm];exact(yz (λ_ _=>rfl)).symm
 |succ m ih=>simp only[sm];rw[ih,wP]
theorem wO{n a:Nat}{f:Nat->Int}(ha:a<n)(h:∀i,i<n->i≠a->f i=0):sm n f=f a:=by
 induction n with
 |zero=>omega
 |succ n ih=>
  simp only[sm]
  by_cases e:a=n
  ·subst e;rw[yz (λi hi=>h i (by omega) (by omega))];omega
  ·rw[ih (by omega) (λi hi hne=>h i (by omega) hne),h n (by omega) (by omega)];omega
theorem D9{m n:Nat}(h:m<=n){f:Nat->Int}(hf:∀i,m<=i->f i=0):sm n f=sm m f:=by
 induction n with
 |zero=>
  have:m=0:=by omega
  subst this;rfl
 |succ n ih=>
  by_cases e:m=n+1
  ·subst e;rfl
  ·simp only[sm];rw[ih (by omega),hf n (by omega)];omega
theorem Lr{m n:Nat}(h:m<=n){f:Nat->Int}(hf:∀i,m<=i->i<n->f i=0):sm n f=sm m f:=by
 induction n with
 |zero=>
  have:m=0:=by omega
  subst this;rfl
 |succ n ih=>
  by_cases e:m=n+1
  ·subst e;rfl
  ·simp only[sm];rw[ih (by omega) (λi h1 h2=>hf i h1 (by omega)),hf n (by omega) (by omega)];omega
theorem H_(n:Nat)(f:Nat->Int):sm (n+1) f=sm (n+1) (λi=>f (n-i)):=by
 induction n generalizing f with
 |zero=>rfl
 |succ n ih=>
  rw[yA (n+1) (λi=>f (n+1-i))]
  rw[sm]
  rw[ih f]
  have:sm (n+1) (λi=>f (n+1-(i+1)))=sm (n+1) (λi=>f (n-i)):=kF (λi _=>by rw[Nat.add_sub_add_right])
  rw[this]
  simp only[Nat.sub_zero]
  omega
theorem SB{n:Nat}{f:Nat->Int}(h:∀i,i<n->0<=f i):0<=sm n f:=by
 induction n with
 |zero=>exact Int.le_refl 0
 |succ n ih=>simp only[sm];have:=ih (λi hi=>h i (by omega));have:=h n (by omega);omega
theorem Ls{n:Nat}{f g:Nat->Int}(h:∀i,i<n->f i<=g i):sm n f<=sm n g:=by
 induction n with
 |zero=>exact Int.le_refl 0
 |succ n ih=>simp only[sm];have:=ih (λi hi=>h i (by omega));have:=h n (by omega);omega
theorem UC:∀(n:Nat) (c:Nat->Int),(∀z:Int,z≠0->sm n (λi=>c i*z^i)=0)->∀i,i<n->c i=0:=by
 intro n
 induction n with
 |zero=>intro c _ i hi;omega
 |succ n ih=>
  intro c h
  have step:∀z:Int,c 0+z*sm n (λi=>c (i+1)*z^i)=sm (n+1) (λi=>c i*z^i):=by
   intro z
   rw[yA,<-oP]
   have:sm n (λi=>z*(c (i+1)*z^i))=sm n (λi=>c (i+1)*z^(i+1)):=kF (λi _=>by rw[Int.pow_succ];grind)
   rw[this];simp
  have h0:c 0=0:=by
   have VV:0<=c 0*c 0:=by
    rcases Int.le_total 0 (c 0) with g|g
    ·exact Int.mul_nonneg g g
    ·exact Int.mul_nonneg_of_nonpos_of_nonpos g g
   have hz:=h (c 0*c 0+1) (by omega)
   rw[<-step] at hz
   have hd:(c 0*c 0+1)∣c 0:=⟨-(sm n (λi=>c (i+1)*(c 0*c 0+1)^i)),by grind⟩
   refine Decidable.byContradiction λhne=>?_
   have hle:=Int.natAbs_dvd_natAbs.mpr hd
   have hpos:0<(c 0).natAbs:=by omega
   have hle2:=Nat.le_of_dvd hpos hle
   have h1:(c 0*c 0+1).natAbs=(c 0).natAbs*(c 0).natAbs+1:=by
    have e:c 0*c 0=(((c 0).natAbs*(c 0).natAbs:Nat):Int):=by
     rw[Int.natCast_mul,<-Int.natAbs_mul_self' (c 0)]
    rw[e];omega
   rw[h1] at hle2
   have:(c 0).natAbs*1<=(c 0).natAbs*(c 0).natAbs:=Nat.mul_le_mul_left _ hpos
   omega
  have hrest:=ih (λi=>c (i+1)) (by
   intro z hz
   have:=h z hz
   rw[<-step,h0,Int.zero_add] at this
   rcases Int.mul_eq_zero.mp this with e|e
   ·exact absurd e hz
   ·exact e)
  intro i hi
  cases i with
  |zero=>exact h0
  |succ i=>exact hrest i (by omega)
theorem Eo{n:Nat}{c d:Nat->Int}(h:∀z:Int,sm n (λi=>c i*z^i)=sm n (λi=>d i*z^i)):∀i,i<n->c i=d i:=by
 intro i hi
 have:=UC n (λi=>c i-d i) (by
  intro z _
  have e:sm n (λi=>(c i-d i)*z^i)=sm n (λi=>c i*z^i-d i*z^i):=kF (λi _=>by rw[Int.sub_mul])
  rw[e,D8,h z];omega) i hi
 have this:c i-d i=0:=this
 omega
def bin:Nat->Nat->Nat
 |_,0=>1
 |0,_+1=>0
 |n+1,k+1=>bin n k+bin n (k+1)
theorem qW(n:Nat):bin n 0=1:=by cases n<;>rfl
theorem vP(n k:Nat):bin (n+1) (k+1)=bin n k+bin n (k+1):=rfl
theorem tY:∀{n k:Nat},n<k->bin n k=0
 |0,0,h=>by omega
 |0,_+1,_=>rfl
 |n+1,0,h=>by omega
 |n+1,k+1,h=>by rw[vP,tY (n:=n) (k:=k) (by omega),tY (n:=n) (k:=k+1) (by omega)]
theorem PY(n:Nat):bin n n=1:=by
 induction n with
 |zero=>rfl
 |succ n ih=>rw[vP,ih,tY (by omega)]
theorem XW(n:Nat):bin n 1=n:=by
 induction n with
 |zero=>rfl
 |succ n ih=>rw[vP,ih,qW];omega
theorem GH:∀(n k:Nat),(k+1)*bin n (k+1)=(n-k)*bin n k
 |0,k=>by rw[tY (by omega)];simp
 |n+1,0=>by rw[XW,qW];omega
 |n+1,k+1=>by
  rw[vP,vP]
  have h1:=GH n k
  have h2:=GH n (k+1)
  by_cases hk:k+1<=n
  ·obtain⟨m,rfl⟩:∃m,n=m+(k+1):=⟨n-(k+1),by omega⟩
   rw[show m+(k+1)-k=m+1 by omega] at h1
   rw[show m+(k+1)-(k+1)=m by omega] at h2
   rw[show m+(k+1)+1-(k+1)=m+1 by omega]
   grind
  ·by_cases hk2:k=n
   ·subst hk2
    rw[tY (n:=k) (k:=k+1+1) (by omega),tY (n:=k) (k:=k+1) (by omega)];simp
   ·rw[tY (n:=n) (k:=k+1+1) (by omega),tY (n:=n) (k:=k+1) (by omega),tY (n:=n) (k:=k) (by omega)];simp
theorem GG:∀{n k:Nat},k<=n->bin n (n-k)=bin n k
 |0,k,h=>by
  have:k=0:=by omega
  subst this;rfl
 |n+1,0,_=>by rw[Nat.sub_zero,PY,qW]
 |n+1,k+1,h=>by
  rw[Nat.add_sub_add_right]
  by_cases e:k=n
  ·subst e;rw[Nat.sub_self,qW,PY]
  ·obtain⟨m,hm⟩:∃m,n-k=m+1:=⟨n-k-1,by omega⟩
   rw[hm,vP,vP]
   have h1:=GG (n:=n) (k:=k) (by omega)
   have h2:=GG (n:=n) (k:=k+1) (by omega)
   rw[hm] at h1
   rw[show n-(k+1)=m by omega] at h2
   omega
theorem PX(n:Nat)(u w:Int):(u+w)^n=sm (n+1) (λi=>(bin n i:Int)*u^(n-i)*w^i):=by
 induction n with
 |zero=>simp [sm,bin]
 |succ n ih=>
  have e1:u*sm (n+1) (λi=>(bin n i:Int)*u^(n-i)*w^i)=sm (n+2) (λi=>(bin n i:Int)*u^(n+1-i)*w^i):=by
   rw[<-oP,sm.eq_def (n+2)]
   simp only[]
   rw[tY (n:=n) (k:=n+1) (by omega)]
   simp only[Int.natCast_zero,Int.zero_mul,Int.add_zero]
   refine kF λi hi=>?_
   rw[show n+1-i=(n-i)+1 by omega,Int.pow_succ];grind
  have e2:w*sm (n+1) (λi=>(bin n i:Int)*u^(n-i)*w^i)=sm (n+1) (λi=>(bin n i:Int)*u^(n+1-(i+1))*w^(i+1)):=by
   rw[<-oP]
   refine kF λi hi=>?_
   rw[Nat.add_sub_add_right,Int.pow_succ];grind
  rw[Int.pow_succ,Int.mul_comm,Int.add_mul,ih,e1,e2,yA (n+1),yA (n+1)]
  have e3:sm (n+1) (λi=>(bin (n+1) (i+1):Int)*u^(n+1-(i+1))*w^(i+1))=
   sm (n+1) (λi=>(bin n (i+1):Int)*u^(n+1-(i+1))*w^(i+1))+sm (n+1) (λi=>(bin n i:Int)*u^(n+1-(i+1))*w^(i+1)):=by
   rw[<-wP]
   refine kF λi _=>?_
   rw[vP,Int.natCast_add];grind
  rw[e3]
  simp only[qW]
  omega
def kr(g:Int):Nat->Nat->Nat->Int
 |0,0,0=>1
 |0,0,_+1=>0
 |a+1,0,0=>kr g a 0 0
 |a+1,0,k+1=>kr g a 0 (k+1)+g*kr g a 0 k
 |a,b+1,0=>kr g a b 0
 |a,b+1,k+1=>kr g a b (k+1)-kr g a b k
theorem VA(g:Int)(a b:Nat):kr g a (b+1) 0=kr g a b 0:=by cases a<;>simp [kr]
theorem AA(g:Int)(a b k:Nat):kr g a (b+1) (k+1)=kr g a b (k+1)-kr g a b k:=by cases a<;>simp [kr]
theorem xu(g:Int)(a b:Nat):kr g a b 0=1:=by
 induction b with
 |zero=>induction a with
  |zero=>simp [kr]
  |succ a ih=>simp [kr,ih]
 |succ b ih=>rw[VA,ih]
theorem F_(g:Int)(a b k:Nat):kr g (a+1) b (k+1)=kr g a b (k+1)+g*kr g a b k:=by
 induction b generalizing k with
 |zero=>simp [kr]
 |succ b ih=>
  rw[AA,AA,ih]
  cases k with
  |zero=>rw[xu,xu,xu];omega
  |succ k=>rw[ih,AA];grind
theorem Oj(g:Int):∀(a b k:Nat),a+b<k->kr g a b k=0:=by
 intro a
 induction a with
 |zero=>
  intro b
  induction b with
  |zero=>intro k h;cases k with
   |zero=>omega
   |succ k=>simp [kr]
  |succ b ih=>intro k h;cases k with
   |zero=>omega
   |succ k=>rw[AA,ih _ (by omega),ih _ (by omega)];rfl
 |succ a ih=>intro b k h;cases k with
  |zero=>omega
  |succ k=>rw[F_,ih _ _ (by omega),ih _ _ (by omega)];simp
theorem Oi(g:Int)(a k:Nat):kr g a 0 k=(bin a k:Int)*g^k:=by
 induction a generalizing k with
 |zero=>cases k with
  |zero=>simp [kr,bin]
  |succ k=>simp [kr,bin]
 |succ a ih=>cases k with
  |zero=>simp [xu,qW]
  |succ k=>rw[F_,ih,ih,vP,Int.pow_succ,Int.natCast_add];grind
theorem Vy(g:Int)(a b k:Nat):kr g a (b+1) (k+1)=kr g (a+1) b (k+1)-kr g (a+1) b k-g*kr g a (b+1) k:=by
 have h:=F_ g a (b+1) k
 rw[AA] at h
 omega
def AB(g:Int)(a b k:Nat):Int:=sm (k+1) (λj=>(-1)^j*(g^(k-j)*((bin b j:Int)*(bin a (k-j):Int))))
theorem Oh(g:Int)(a b k:Nat):kr g a b k=AB g a b k:=by
 induction b generalizing k with
 |zero=>
  rw[Oi,AB]
  rw[wO (a:=0) (by omega)]
  ·simp [qW];grind
  ·intro i _ hne
   obtain⟨m,rfl⟩:∃m,i=m+1:=⟨i-1,by omega⟩
   simp [bin]
 |succ b ih=>
  cases k with
  |zero=>rw[xu];simp [AB,sm,qW]
  |succ k=>
   rw[AA,ih,ih,AB,AB,AB]
   rw[yA (k+1) (λj=>(-1)^j*(g^(k+1-j)*((bin (b+1) j:Int)*(bin a (k+1-j):Int))))]
   rw[yA (k+1) (λj=>(-1)^j*(g^(k+1-j)*((bin b j:Int)*(bin a (k+1-j):Int))))]
   simp only[qW,Nat.add_sub_add_right]
   rw[Int.add_sub_assoc]
   congr 1
   rw[<-D8]
   refine kF λi hi=>?_
   rw[vP,Int.natCast_add,Int.pow_succ]
   grind
theorem Vz(g:Int)(a b:Nat)(u w:Int):sm (a+b+1) (λi=>kr g a b i*u^(a+b-i)*w^i)=(u+g*w)^a*(u-w)^b:=by
 have shift:∀(m:Nat) (c:Nat->Int) (s:Int) (d:Nat->Int),d 0=c 0->(∀k,d (k+1)=c (k+1)+s*c k)->(∀k,m<k->c k=0)->
  sm (m+2) (λi=>d i*u^(m+1-i)*w^i)=(u+s*w)*sm (m+1) (λi=>c i*u^(m-i)*w^i):=by
  intro m c s d h0 h1 h2
  have e1:u*sm (m+1) (λi=>c i*u^(m-i)*w^i)=sm (m+2) (λi=>c i*u^(m+1-i)*w^i):=by
   rw[<-oP,sm.eq_def (m+2)]
   simp only[]
   rw[h2 (m+1) (by omega)]
   simp only[Int.zero_mul,Int.add_zero]
   refine kF λi hi=>?_
   rw[show m+1-i=(m-i)+1 by omega,Int.pow_succ];grind
  have e2:s*w*sm (m+1) (λi=>c i*u^(m-i)*w^i)=sm (m+1) (λi=>s*c i*u^(m+1-(i+1))*w^(i+1)):=by
   rw[<-oP]
   refine kF λi hi=>?_
   rw[Nat.add_sub_add_right,Int.pow_succ];grind
  rw[Int.add_mul,e1,e2,yA (m+1),yA (m+1),Int.add_assoc,<-wP,h0]
  congr 1
  refine kF λi _=>?_
  rw[h1];grind
 induction b with
 |zero=>
  induction a with
  |zero=>simp [sm,kr]
  |succ a ih=>
   have:=shift (a+0) (kr g a 0) g (kr g (a+1) 0) (by rw[xu,xu]) (λk=>F_ g a 0 k) (λk hk=>Oj g a 0 k hk)
   rw[show a+1+0+1=a+0+2 by omega,show a+1+0=a+0+1 by omega,this,ih]
   grind
 |succ b ih=>
  have:=shift (a+b) (kr g a b) (-1) (kr g a (b+1)) (by rw[xu,xu]) (λk=>by rw[AA];omega) (λk hk=>Oj g a b k hk)
  rw[show a+(b+1)+1=a+b+2 by omega,show a+(b+1)=a+b+1 by omega,this,ih]
  grind
end Mw
end
section
set_option linter.unusedVariables false
set_option linter.unusedSimpArgs false
namespace Mw
def El(q:Nat)(x:Int):Prop:=0<=x/\x<(q:Int)
structure jZ (q:Nat) (add mul:Int->Int->Int):Prop where
 two:2<=q
 uJ:∀x y,El q x->El q y->El q (add x y)
 vK:∀x y,El q x->El q y->El q (mul x y)
 add_zero:∀x,El q x->add x 0=x
 add_comm:∀x y,El q x->El q y->add x y=add y x
 add_assoc:∀x y z,El q x->El q y->El q z->add (add x y) z=add x (add y z)
 neg:∀x,El q x->∃y,El q y/\add x y=0
 mul_one:∀x,El q x->mul x 1=x
 mul_comm:∀x y,El q x->El q y->mul x y=mul y x
 mul_assoc:∀x y z,El q x->El q y->El q z->mul (mul x y) z=mul x (mul y z)
 AY:∀x y z,El q x->El q y->El q z->mul x (add y z)=add (mul x y) (mul x z)
 Nr:∀x y,El q x->El q y->mul x y=0->x=0\/y=0
noncomputable def ind(p:Prop):Int:=open Classical in if p then 1 else 0
theorem kK{p:Prop}(h:p):ind p=1:=by unfold ind;exact if_pos h
theorem kE{p:Prop}(h:¬p):ind p=0:=by unfold ind;exact if_neg h
theorem uG{p r:Prop}(h:p↔r):ind p=ind r:=by rw[propext h]
theorem tV(p r:Prop):ind (p/\r)=ind p*ind r:=by
 by_cases h:p
 ·by_cases g:r
  ·rw[kK h,kK g,kK ⟨h,g⟩];rfl
  ·rw[kK h,kE g,kE (λe=>g e.2)];rfl
 ·rw[kE h,kE (λe:p/\r=>h e.1)];simp
theorem Ey(p:Prop):0<=ind p:=by
 by_cases h:p
 ·rw[kK h];omega
 ·rw[kE h];omega
theorem VN(p:Prop):ind p<=1:=by
 by_cases h:p
 ·rw[kK h];omega
 ·rw[kE h];omega
theorem Nk{q:Nat}{σ:Nat->Nat}(hm:∀a,a<q->σ a<q)(hi:∀a b,a<q->b<q->σ a=σ b->a=b):
 ∀b,b<q->sm q (λa=>ind (σ a=b))=1:=by
 have le1:∀b,b<q->sm q (λa=>ind (σ a=b))<=1:=by
  intro b _
  by_cases h:∃a,a<q/\σ a=b
  ·obtain⟨a,ha,e⟩:=h
   rw[wO ha (λi hi2 hne=>kE (λe2=>hne (hi i a hi2 ha (by rw[e2,e]))))]
   exact VN _
  ·rw[yz (λi hi2=>kE (λe=>h ⟨i,hi2,e⟩))];omega
 have tot:sm q (λb=>sm q (λa=>ind (σ a=b)))=q:=by
  rw[zU]
  have:∀a,a<q->sm q (λb=>ind (σ a=b))=1:=by
   intro a ha
   rw[wO (hm a ha) (λi _ hne=>kE (λe=>hne e.symm))]
   exact kK rfl
  rw[kF this]
  have:∀n:Nat,sm n (λ_=>1)=n:=by
   intro n
   induction n with
   |zero=>rfl
   |succ n ih=>simp only[sm];rw[ih];omega
  exact this q
 intro b hb
 refine Decidable.byContradiction λhne=>?_
 have hlt:sm q (λa=>ind (σ a=b))<=0:=by have:=le1 b hb;omega
 have:∀n:Nat,n<=q->sm n (λb=>sm q (λa=>ind (σ a=b)))<=(n:Int)-(if b<n then 1 else 0):=by
  intro n
  induction n with
  |zero=>intro _;simp [sm]
  |succ n ih=>
   intro hn
   simp only[sm]
   have h1:=ih (by omega)
   have h2:=le1 n (by omega)
   by_cases e:b=n
   ·subst e
    rw[if_neg (by omega)] at h1
    rw[if_pos (by omega)];omega
   ·by_cases g:b<n
    ·rw[if_pos g] at h1;rw[if_pos (by omega)];omega
    ·rw[if_neg g] at h1;rw[if_neg (by omega)];omega
 have:=this q (Nat.le_refl q)
 rw[tot,if_pos hb] at this
 omega
theorem SA{q:Nat}{σ:Nat->Nat}(hm:∀a,a<q->σ a<q)(hi:∀a b,a<q->b<q->σ a=σ b->a=b)(f:Nat->Int):
 sm q (λa=>f (σ a))=sm q f:=by
 have e1:∀a,a<q->f (σ a)=sm q (λb=>ind (σ a=b)*f b):=by
  intro a ha
  rw[wO (hm a ha) (λi _ hne=>by rw[kE (λe=>hne e.symm)];simp)]
  rw[kK rfl];simp
 rw[kF e1,zU]
 refine kF λb hb=>?_
 rw[FM,Nk hm hi b hb];simp
def se(q:Nat)(f:Int->Int):Int:=sm q (λa=>f (a:Int))
theorem uX{q:Nat}{f g:Int->Int}(h:∀a,El q a->f a=g a):se q f=se q g:=
 kF λi hi=>h _ ⟨by omega,by omega⟩
theorem FN{q:Nat}{f:Int->Int}(h:∀a,El q a->f a=0):se q f=0:=
 yz λi hi=>h _ ⟨by omega,by omega⟩
theorem y7{q:Nat}{a:Int}{f:Int->Int}(ha:El q a)(h:∀i,El q i->i≠a->f i=0):se q f=f a:=by
 obtain⟨h0,h1⟩:=ha
 unfold se
 rw[wO (a:=a.toNat) (by omega) (λi hi hne=>h _ ⟨by omega,by omega⟩ (by omega))]
 rw[Int.toNat_of_nonneg h0]
theorem Ig(q:Nat)(c:Int):se q (λ_=>c)=q*c:=by
 unfold se
 induction q with
 |zero=>simp [sm]
 |succ n ih=>simp only[sm];rw[ih,Int.natCast_add];grind
theorem SX(q:Nat)(f g:Int->Int):se q (λi=>f i+g i)=se q f+se q g:=wP _ _ _
theorem LU(q:Nat)(c:Int)(f:Int->Int):se q (λi=>c*f i)=c*se q f:=oP _ _ _
theorem SV(q:Nat)(c:Int)(f:Int->Int):se q (λi=>f i*c)=se q f*c:=FM _ _ _
theorem LQ{q:Nat}{σ:Int->Int}(hm:∀a,El q a->El q (σ a))(hi:∀a b,El q a->El q b->σ a=σ b->a=b)(f:Int->Int):
 se q (λa=>f (σ a))=se q f:=by
 unfold se
 have:=SA (q:=q) (σ:=λa=>(σ (a:Int)).toNat)
  (λa ha=>by have:=hm (a:Int) ⟨by omega,by omega⟩;unfold El at this;omega)
  (λa b ha hb e=>by
   have h1:=hm (a:Int) ⟨by omega,by omega⟩
   have h2:=hm (b:Int) ⟨by omega,by omega⟩
   unfold El at h1 h2
   have e:(σ (a:Int)).toNat=(σ (b:Int)).toNat:=e
   have:=hi a b ⟨by omega,by omega⟩ ⟨by omega,by omega⟩ (by omega)
   omega)
  (λa=>f (a:Int))
 rw[<-this]
 refine kF λa ha=>?_
 have h1:=hm (a:Int) ⟨by omega,by omega⟩
 unfold El at h1
 rw[Int.toNat_of_nonneg h1.1]
theorem SS(q:Nat)(f:Int->Int->Int):se q (λi=>se q (λj=>f i j))=se q (λj=>se q (λi=>f i j)):=zU _ _ _
def ws(q:Nat):Nat->(List Int->Int)->Int
 |0,f=>f []
 |n+1,f=>se q (λa=>ws q n (λw=>f (a::w)))
def Wd(q n:Nat)(w:List Int):Prop:=w.length=n/\∀x∈w,El q x
theorem DV(q:Nat):Wd q 0 []:=⟨rfl,by simp⟩
theorem l_{q n:Nat}{a:Int}{w:List Int}(ha:El q a)(hw:Wd q n w):Wd q (n+1) (a::w):=
 ⟨by simp [hw.1],by intro x hx;exact(List.mem_cons.mp hx).elim (λe=>e ▸ ha) (λe=>hw.2 x e)⟩
theorem oz{q n:Nat}{a:Int}{w:List Int}(h:Wd q (n+1) (a::w)):El q a/\Wd q n w:=
 ⟨h.2 a (by simp),by have:=h.1;simp at this;exact this,λx hx=>h.2 x (by simp [hx])⟩
theorem pO{q:Nat}{w:List Int}(h:Wd q 0 w):w=[]:=List.length_eq_zero_iff.mp h.1
theorem oI{q:Nat}:∀{n:Nat} {f g:List Int->Int},(∀w,Wd q n w->f w=g w)->ws q n f=ws q n g
 |0,f,g,h=>h [] (DV q)
 |n+1,f,g,h=>uX λa ha=>oI λw hw=>h (a::w) (l_ ha hw)
theorem BK{q:Nat}:∀{n:Nat} {f:List Int->Int},(∀w,Wd q n w->f w=0)->ws q n f=0
 |0,f,h=>h [] (DV q)
 |n+1,f,h=>FN λa ha=>BK λw hw=>h (a::w) (l_ ha hw)
theorem Fh{q:Nat}:∀(n:Nat) (f g:List Int->Int),ws q n (λw=>f w+g w)=ws q n f+ws q n g
 |0,f,g=>rfl
 |n+1,f,g=>by simp only[ws];rw[uX (λa _=>Fh n _ _),SX]
theorem BL{q:Nat}:∀(n:Nat) (c:Int) (f:List Int->Int),ws q n (λw=>c*f w)=c*ws q n f
 |0,c,f=>rfl
 |n+1,c,f=>by simp only[ws];rw[uX (λa _=>BL n c _),LU]
theorem QN{q:Nat}(n:Nat)(c:Int)(f:List Int->Int):ws q n (λw=>f w*c)=ws q n f*c:=by
 rw[Int.mul_comm,<-BL];exact oI λw _=>Int.mul_comm _ _
theorem DR{q:Nat}:∀(n:Nat) (f:Int->List Int->Int),ws q n (λw=>se q (λa=>f a w))=se q (λa=>ws q n (λw=>f a w))
 |0,f=>rfl
 |n+1,f=>by
  simp only[ws]
  rw[uX (λa _=>DR n (λb w=>f b (a::w))),SS]
theorem Kq{q:Nat}(m:Nat):∀(n:Nat) (f:Nat->List Int->Int),ws q n (λw=>sm m (λi=>f i w))=sm m (λi=>ws q n (λw=>f i w))
 |0,f=>rfl
 |n+1,f=>by
  simp only[ws]
  rw[uX (λa _=>Kq m n (λi w=>f i (a::w)))]
  unfold se
  rw[zU]
theorem Kt{q:Nat}:∀{n:Nat} {f:List Int->Int},(∀w,Wd q n w->0<=f w)->0<=ws q n f
 |0,f,h=>h [] (DV q)
 |n+1,f,h=>SB λa ha=>Kt λw hw=>h _ (l_ ⟨by omega,by omega⟩ hw)
theorem Ho{q:Nat}:∀{n:Nat} {f g:List Int->Int},(∀w,Wd q n w->f w<=g w)->ws q n f<=ws q n g
 |0,f,g,h=>h [] (DV q)
 |n+1,f,g,h=>Ls λa ha=>Ho λw hw=>h _ (l_ ⟨by omega,by omega⟩ hw)
theorem zL{q:Nat}:∀{n:Nat} {v:List Int} {f:List Int->Int},Wd q n v->(∀w,Wd q n w->w≠v->f w=0)->ws q n f=f v
 |0,v,f,hv,_=>by rw[pO hv];rfl
 |n+1,[],f,hv,_=>by have:=hv.1;simp at this
 |n+1,b::v,f,hv,h=>by
  simp only[ws]
  have hb:=oz hv
  rw[y7 hb.1 (λa ha hne=>BK λw hw=>h _ (l_ ha hw) (λe=>hne (by injection e))),
   zL hb.2 (λw hw hne=>h _ (l_ hb.1 hw) (λe=>hne (by injection e)))]
section field
variable{q:Nat}{add mul:Int->Int->Int}
theorem jZ.lQ(F:jZ q add mul):El q 0:=⟨by omega,by have:=F.two;omega⟩
theorem jZ.xx(F:jZ q add mul):El q 1:=⟨by omega,by have:=F.two;omega⟩
theorem jZ.zero_add(F:jZ q add mul)(x:Int)(hx:El q x):add 0 x=x:=by
 rw[F.add_comm 0 x F.lQ hx,F.add_zero x hx]
theorem jZ.cancel(F:jZ q add mul)(x y z:Int)(hx:El q x)(hy:El q y)(hz:El q z)(h:add x y=add x z):y=z:=by
 obtain⟨n,hn,e⟩:=F.neg x hx
 have:add n (add x y)=add n (add x z):=by rw[h]
 rw[<-F.add_assoc n x y hn hx hy,<-F.add_assoc n x z hn hx hz,F.add_comm n x hn hx,e,F.zero_add y hy,F.zero_add z hz] at this
 exact this
theorem jZ.mul_zero(F:jZ q add mul)(x:Int)(hx:El q x):mul x 0=0:=by
 have h:=F.AY x 0 0 hx F.lQ F.lQ
 rw[F.add_zero 0 F.lQ] at h
 have hm:=F.vK x 0 hx F.lQ
 exact F.cancel (mul x 0) (mul x 0) 0 hm hm F.lQ (by rw[<-h,F.add_zero _ hm])
theorem jZ.zero_mul(F:jZ q add mul)(x:Int)(hx:El q x):mul 0 x=0:=by
 rw[F.mul_comm 0 x F.lQ hx,F.mul_zero x hx]
theorem jZ.one_mul(F:jZ q add mul)(x:Int)(hx:El q x):mul 1 x=x:=by
 rw[F.mul_comm 1 x F.xx hx,F.mul_one x hx]
theorem jZ.FT(F:jZ q add mul)(x y z:Int)(hx:El q x)(hy:El q y)(hz:El q z):mul (add y z) x=add (mul y x) (mul z x):=by
 rw[F.mul_comm _ x (F.uJ _ _ hy hz) hx,F.AY x y z hx hy hz,F.mul_comm x y hx hy,F.mul_comm x z hx hz]
theorem jZ.inv(F:jZ q add mul)(x:Int)(hx:El q x)(h:x≠0):∃y,El q y/\mul x y=1:=by
 have inj:∀a b,El q a->El q b->mul x a=mul x b->a=b:=by
  intro a b ha hb e
  obtain⟨n,hn,en⟩:=F.neg b hb
  have h0:mul x (add a n)=0:=by
   rw[F.AY x a n hx ha hn,e,<-F.AY x b n hx hb hn,en,F.mul_zero x hx]
  rcases F.Nr x (add a n) hx (F.uJ a n ha hn) h0 with g|g
  ·exact absurd g h
  ·have:add n a=add n b:=by rw[F.add_comm n a hn ha,g,F.add_comm n b hn hb,en]
   exact F.cancel n a b hn ha hb this
 have:=LQ (q:=q) (σ:=mul x) (λa ha=>F.vK x a hx ha) inj (λy=>ind (y=1))
 rw[y7 (f:=λy=>ind (y=1)) F.xx (λi _ hne=>kE hne),kK rfl] at this
 refine Classical.byContradiction λhno=>?_
 rw[FN (λa ha=>kE (λe=>hno ⟨a,ha,e⟩))] at this
 omega
def jH(add:Int->Int->Int)(u v:List Int):List Int:=List.zipWith add u v
def jo(mul:Int->Int->Int)(a:Int)(u:List Int):List Int:=u.map (mul a)
def dot(add mul:Int->Int->Int):List Int->List Int->Int
 |a::u,b::v=>add (mul a b) (dot add mul u v)
 |_,_=>0
theorem xI(F:jZ q add mul):∀{n:Nat} {u v:List Int},Wd q n u->Wd q n v->Wd q n (jH add u v)
 |0,u,v,hu,hv=>by rw[pO hu];exact DV q
 |n+1,[],_,hu,_=>by have:=hu.1;simp at this
 |n+1,_::_,[],_,hv=>by have:=hv.1;simp at this
 |n+1,a::u,b::v,hu,hv=>by
  have h1:=oz hu
  have h2:=oz hv
  exact l_ (F.uJ a b h1.1 h2.1) (xI F h1.2 h2.2)
theorem ni(F:jZ q add mul){n:Nat}{a:Int}{u:List Int}(ha:El q a)(hu:Wd q n u):Wd q n (jo mul a u):=
 ⟨by unfold jo;rw[List.length_map];exact hu.1,by
  intro x hx
  unfold jo at hx
  obtain⟨y,hy,rfl⟩:=List.mem_map.mp hx
  exact F.vK a y ha (hu.2 y hy)⟩
theorem uU{n:Nat}(h:El q 0):Wd q n (List.replicate n 0):=
 ⟨by simp,λx hx=>by rw[(List.mem_replicate.mp hx).2];exact h⟩
theorem vZ(F:jZ q add mul):∀{n:Nat} {u v:List Int},Wd q n u->Wd q n v->El q (dot add mul u v)
 |0,u,v,hu,hv=>by rw[pO hu];exact F.lQ
 |n+1,[],_,hu,_=>by have:=hu.1;simp at this
 |n+1,_::_,[],_,hv=>by have:=hv.1;simp at this
 |n+1,a::u,b::v,hu,hv=>by
  have h1:=oz hu
  have h2:=oz hv
  exact F.uJ _ _ (F.vK a b h1.1 h2.1) (vZ F h1.2 h2.2)
theorem Jp(F:jZ q add mul):∀{n:Nat} {u v y:List Int},Wd q n u->Wd q n v->Wd q n y->dot add mul (jH add u v) y=add (dot add mul u y) (dot add mul v y)
 |0,u,v,y,hu,hv,hy=>by rw[pO hu,pO hv,pO hy];exact(F.add_zero 0 F.lQ).symm
 |n+1,[],_,_,hu,_,_=>by have:=hu.1;simp at this
 |n+1,_::_,[],_,_,hv,_=>by have:=hv.1;simp at this
 |n+1,_::_,_::_,[],_,_,hy=>by have:=hy.1;simp at this
 |n+1,a::u,b::v,c::y,hu,hv,hy=>by
  have h1:=oz hu
  have h2:=oz hv
  have h3:=oz hy
  have ih:=Jp F h1.2 h2.2 h3.2
  show add (mul (add a b) c) (dot add mul (jH add u v) y)=add (add (mul a c) (dot add mul u y)) (add (mul b c) (dot add mul v y))
  rw[ih,F.FT c a b h3.1 h1.1 h2.1]
  have e1:=F.vK a c h1.1 h3.1
  have e2:=F.vK b c h2.1 h3.1
  have e3:=vZ F h1.2 h3.2
  have e4:=vZ F h2.2 h3.2
  rw[F.add_assoc _ _ _ e1 e2 (F.uJ _ _ e3 e4),F.add_assoc _ _ _ e1 e3 (F.uJ _ _ e2 e4),<-F.add_assoc _ _ _ e2 e3 e4,F.add_comm _ _ e2 e3,F.add_assoc _ _ _ e3 e2 e4]
theorem Jn(F:jZ q add mul):∀{n:Nat} {a:Int} {u y:List Int},El q a->Wd q n u->Wd q n y->dot add mul (jo mul a u) y=mul a (dot add mul u y)
 |0,a,u,y,ha,hu,hy=>by rw[pO hu,pO hy];exact(F.mul_zero a ha).symm
 |n+1,_,[],_,_,hu,_=>by have:=hu.1;simp at this
 |n+1,_,_::_,[],_,_,hy=>by have:=hy.1;simp at this
 |n+1,a,b::u,c::y,ha,hu,hy=>by
  have h1:=oz hu
  have h3:=oz hy
  have ih:=Jn F ha h1.2 h3.2
  show add (mul (mul a b) c) (dot add mul (jo mul a u) y)=mul a (add (mul b c) (dot add mul u y))
  rw[ih,F.AY _ _ _ ha (F.vK _ _ h1.1 h3.1) (vZ F h1.2 h3.2),F.mul_assoc a b c ha h1.1 h3.1]
theorem Gn(F:jZ q add mul):∀{n:Nat} {u v:List Int},Wd q n u->Wd q n v->dot add mul u v=dot add mul v u
 |0,u,v,hu,hv=>by rw[pO hu,pO hv]
 |n+1,[],_,hu,_=>by have:=hu.1;simp at this
 |n+1,_::_,[],_,hv=>by have:=hv.1;simp at this
 |n+1,a::u,b::v,hu,hv=>by
  have h1:=oz hu
  have h2:=oz hv
  show add (mul a b) (dot add mul u v)=add (mul b a) (dot add mul v u)
  rw[F.mul_comm a b h1.1 h2.1,Gn F h1.2 h2.2]
theorem Jo(F:jZ q add mul):∀{n:Nat} {y:List Int},Wd q n y->dot add mul (List.replicate n 0) y=0
 |0,y,hy=>by rw[pO hy];rfl
 |n+1,[],hy=>by have:=hy.1;simp at this
 |n+1,c::y,hy=>by
  have h:=oz hy
  show add (mul 0 c) (dot add mul (List.replicate n 0) y)=0
  rw[Jo F h.2,F.zero_mul c h.1,F.add_zero 0 F.lQ]
theorem wK(F:jZ q add mul):∀{n:Nat} {u:List Int},Wd q n u->jH add u (List.replicate n 0)=u
 |0,u,hu=>by rw[pO hu];rfl
 |n+1,[],hu=>by have:=hu.1;simp at this
 |n+1,a::u,hu=>by
  have h:=oz hu
  show add a 0::jH add u (List.replicate n 0)=a::u
  rw[F.add_zero a h.1,wK F h.2]
theorem zM(F:jZ q add mul):∀{n:Nat} {u v:List Int},Wd q n u->Wd q n v->jH add u v=jH add v u
 |0,u,v,hu,hv=>by rw[pO hu,pO hv]
 |n+1,[],_,hu,_=>by have:=hu.1;simp at this
 |n+1,_::_,[],_,hv=>by have:=hv.1;simp at this
 |n+1,a::u,b::v,hu,hv=>by
  have h1:=oz hu
  have h2:=oz hv
  show add a b::jH add u v=add b a::jH add v u
  rw[F.add_comm a b h1.1 h2.1,zM F h1.2 h2.2]
theorem wL(F:jZ q add mul):∀{n:Nat} {u v y:List Int},Wd q n u->Wd q n v->Wd q n y->jH add (jH add u v) y=jH add u (jH add v y)
 |0,u,v,y,hu,hv,hy=>by rw[pO hu,pO hv,pO hy];rfl
 |n+1,[],_,_,hu,_,_=>by have:=hu.1;simp at this
 |n+1,_::_,[],_,_,hv,_=>by have:=hv.1;simp at this
 |n+1,_::_,_::_,[],_,_,hy=>by have:=hy.1;simp at this
 |n+1,a::u,b::v,c::y,hu,hv,hy=>by
  have h1:=oz hu
  have h2:=oz hv
  have h3:=oz hy
  show add (add a b) c::jH add (jH add u v) y=add a (add b c)::jH add u (jH add v y)
  rw[F.add_assoc a b c h1.1 h2.1 h3.1,wL F h1.2 h2.2 h3.2]
theorem DL(F:jZ q add mul):∀{n:Nat} {u:List Int},Wd q n u->jo mul 0 u=List.replicate n 0
 |0,u,hu=>by rw[pO hu];rfl
 |n+1,[],hu=>by have:=hu.1;simp at this
 |n+1,a::u,hu=>by
  have h:=oz hu
  show mul 0 a::jo mul 0 u=0::List.replicate n 0
  rw[F.zero_mul a h.1,DL F h.2]
theorem Fg(F:jZ q add mul):∀{n:Nat} {u:List Int},Wd q n u->jo mul 1 u=u
 |0,u,hu=>by rw[pO hu];rfl
 |n+1,[],hu=>by have:=hu.1;simp at this
 |n+1,a::u,hu=>by
  have h:=oz hu
  show mul 1 a::jo mul 1 u=a::u
  rw[F.one_mul a h.1,Fg F h.2]
theorem Hm(F:jZ q add mul){a:Int}(ha:El q a)(n:Nat):jo mul a (List.replicate n 0)=List.replicate n 0:=by
 unfold jo;rw[List.map_replicate,F.mul_zero a ha]
theorem Hl(F:jZ q add mul){a b:Int}(ha:El q a)(hb:El q b):∀{n:Nat} {u:List Int},Wd q n u->jo mul a (jo mul b u)=jo mul (mul a b) u
 |0,u,hu=>by rw[pO hu];rfl
 |n+1,[],hu=>by have:=hu.1;simp at this
 |n+1,c::u,hu=>by
  have h:=oz hu
  show mul a (mul b c)::jo mul a (jo mul b u)=mul (mul a b) c::jo mul (mul a b) u
  rw[F.mul_assoc a b c ha hb h.1,Hl F ha hb h.2]
theorem Ko(F:jZ q add mul){a:Int}(ha:El q a):∀{n:Nat} {u v:List Int},Wd q n u->Wd q n v->jo mul a (jH add u v)=jH add (jo mul a u) (jo mul a v)
 |0,u,v,hu,hv=>by rw[pO hu,pO hv];rfl
 |n+1,[],_,hu,_=>by have:=hu.1;simp at this
 |n+1,_::_,[],_,hv=>by have:=hv.1;simp at this
 |n+1,b::u,c::v,hu,hv=>by
  have h1:=oz hu
  have h2:=oz hv
  show mul a (add b c)::jo mul a (jH add u v)=add (mul a b) (mul a c)::jH add (jo mul a u) (jo mul a v)
  rw[F.AY a b c ha h1.1 h2.1,Ko F ha h1.2 h2.2]
theorem DN(F:jZ q add mul){a b:Int}(ha:El q a)(hb:El q b):∀{n:Nat} {u:List Int},Wd q n u->jo mul (add a b) u=jH add (jo mul a u) (jo mul b u)
 |0,u,hu=>by rw[pO hu];rfl
 |n+1,[],hu=>by have:=hu.1;simp at this
 |n+1,c::u,hu=>by
  have h1:=oz hu
  show mul (add a b) c::jo mul (add a b) u=add (mul a c) (mul b c)::jH add (jo mul a u) (jo mul b u)
  rw[F.FT c a b h1.1 ha hb,DN F ha hb h1.2]
theorem Fj(F:jZ q add mul):∃m,El q m/\add 1 m=0/\∀{n:Nat} {u:List Int},Wd q n u->jH add u (jo mul m u)=List.replicate n 0:=by
 obtain⟨m,hm,e⟩:=F.neg 1 F.xx
 refine⟨m,hm,e,λ{n u} hu=>?_⟩
 have:=DN F F.xx hm hu
 rw[e,Fg F hu,DL F hu] at this
 exact this.symm
theorem Kr(F:jZ q add mul):∀{n:Nat} {t:List Int},Wd q n t->∀f,ws q n (λw=>f (jH add t w))=ws q n f
 |0,t,ht,f=>by rw[pO ht];rfl
 |n+1,[],ht,_=>by have:=ht.1;simp at this
 |n+1,b::t,ht,f=>by
  have h:=oz ht
  show se q (λa=>ws q n (λw=>f (add b a::jH add t w)))=se q (λa=>ws q n (λw=>f (a::w)))
  rw[uX (λa _=>Kr F h.2 (λw=>f (add b a::w)))]
  exact LQ (σ:=add b) (λa ha=>F.uJ b a h.1 ha) (λa c ha hc e=>F.cancel b a c h.1 ha hc e) (λa=>ws q n (λw=>f (a::w)))
structure sF (q:Nat) (add mul:Int->Int->Int) (n:Nat) (C:List Int->Prop):Prop where
 zero:C (List.replicate n 0)
 add:∀u v,Wd q n u->Wd q n v->C u->C v->C (jH add u v)
 uj:∀a u,El q a->Wd q n u->C u->C (jo mul a u)
def Dl(q:Nat)(add mul:Int->Int->Int)(n:Nat)(C:List Int->Prop)(d:List Int):Prop:=∀c,Wd q n c->C c->dot add mul c d=0
def jV:List Bool->List Int->Prop
 |s::S,a::w=>(s=true->a=0)/\jV S w
 |_,_=>True
def cnt:List Bool->Nat
 | []=>0
 |true::S=>cnt S+1
 |false::S=>cnt S
theorem Jt:∀S:List Bool,cnt (S.map not)+cnt S=S.length
 | []=>rfl
 |true::S=>by have:=Jt S;simp only[List.map_cons,Bool.not_true,cnt,List.length_cons];omega
 |false::S=>by have:=Jt S;simp only[List.map_cons,Bool.not_false,cnt,List.length_cons];omega
theorem NC:∀S:List Bool,(S.map not).map not=S
 | []=>rfl
 |s::S=>by have:=NC S;simp only[List.map_cons,Bool.not_not,this]
theorem VO(C:List Int->Prop)(S:List Bool)(a:Int)(w:List Int):ind (C (a::w)/\jV (true::S) (a::w))=ind (a=0)*ind (C (a::w)/\jV S w):=by
 rw[<-tV];refine uG ⟨λh=>⟨h.2.1 rfl,h.1,h.2.2⟩,λh=>⟨h.2.1,λ_=>h.1,h.2.2⟩⟩
theorem VP(C:List Int->Prop)(S:List Bool)(a:Int)(w:List Int):ind (C (a::w)/\jV (false::S) (a::w))=ind (C (a::w)/\jV S w):=
 uG ⟨λh=>⟨h.1,h.2.2⟩,λh=>⟨h.1,λe=>by simp at e,h.2⟩⟩
theorem Ku(h0:El q 0)(n:Nat)(C:List Int->Prop)(S:List Bool):
 ws q (n+1) (λc=>ind (C c/\jV (true::S) c))=ws q n (λw=>ind (C (0::w)/\jV S w)):=by
 simp only[ws]
 rw[uX (λa _=>oI (λw _=>VO C S a w))]
 rw[uX (λa _=>BL n (ind (a=0)) _)]
 rw[y7 h0 (λi _ hne=>by rw[kE hne];simp)]
 rw[kK rfl];simp
theorem Kv(n:Nat)(C:List Int->Prop)(S:List Bool):
 ws q (n+1) (λc=>ind (C c/\jV (false::S) c))=ws q n (λw=>ind (jV S w)*se q (λa=>ind (C (a::w)))):=by
 simp only[ws]
 rw[uX (λa _=>oI (λw _=>VP C S a w))]
 rw[<-DR]
 refine oI λw _=>?_
 rw[<-LU]
 refine uX λa _=>?_
 rw[<-tV]
 exact uG ⟨λh=>⟨h.2,h.1⟩,λh=>⟨h.2,h.1⟩⟩
theorem Kw(n:Nat)(C:List Int->Prop):ws q (n+1) (λc=>ind (C c))=ws q n (λw=>se q (λa=>ind (C (a::w)))):=by
 simp only[ws];rw[DR]
theorem Gh(C:List Int->Prop)(S:List Bool)(w:List Int):ind (jV S w)*ind (C w)=ind (C w/\jV S w):=by
 rw[<-tV];exact uG ⟨λh=>⟨h.2,h.1⟩,λh=>⟨h.2,h.1⟩⟩
theorem key(F:jZ q add mul):∀(n:Nat) (C:List Int->Prop),sF q add mul n C->∀S:List Bool,S.length=n->
 ws q n (λc=>ind (C c/\jV S c))*(q:Int)^cnt S=ws q n (λc=>ind (C c))*ws q n (λd=>ind (Dl q add mul n C d/\jV (S.map not) d)):=by
 intro n
 induction n with
 |zero=>
  intro C hC S hS
  have hS:S=[]:=List.length_eq_zero_iff.mp hS
  subst hS
  have h0:C []:=hC.zero
  show ind (C []/\True)*(q:Int)^0=ind (C [])*ind (Dl q add mul 0 C []/\True)
  rw[kK ⟨h0,trivial⟩,kK h0,kK ⟨λc hc _=>by rw[pO hc];rfl,trivial⟩]
  rfl
 |succ n ih=>
  intro C hC S hS
  obtain⟨s,S,rfl⟩:∃s S',S=s::S':=by
   cases S with
   |nil=>simp at hS
   |cons s S=>exact⟨s,S,rfl⟩
  have hS':S.length=n:=by simp at hS;exact hS
  have two:=F.two
  cases s with
  |true=>
   have hC0:sF q add mul n (λw=>C (0::w)):=⟨hC.zero,
    λu v hu hv h1 h2=>by
     have:=hC.add (0::u) (0::v) (l_ F.lQ hu) (l_ F.lQ hv) h1 h2
     rw[show jH add (0::u) (0::v)=add 0 0::jH add u v from rfl,F.add_zero 0 F.lQ] at this
     exact this,
    λa u ha hu h1=>by
     have:=hC.uj a (0::u) ha (l_ F.lQ hu) h1
     rw[show jo mul a (0::u)=mul a 0::jo mul a u from rfl,F.mul_zero a ha] at this
     exact this⟩
   have IH:=ih _ hC0 S hS'
   rw[Ku F.lQ]
   show _*(q:Int)^(cnt S+1)=_*ws q (n+1) (λd=>ind (Dl q add mul (n+1) C d/\jV (false::S.map not) d))
   rw[Kv,Kw]
   by_cases hA:∀a w,El q a->Wd q n w->C (a::w)->a=0
   ·
    have e1:ws q n (λw=>se q (λa=>ind (C (a::w))))=ws q n (λw=>ind (C (0::w))):=by
     refine oI λw hw=>?_
     exact y7 (f:=λa=>ind (C (a::w))) F.lQ (λa ha hne=>kE (λh=>hne (hA a w ha hw h)))
    have e2:ws q n (λw=>ind (jV (S.map not) w)*se q (λa=>ind (Dl q add mul (n+1) C (a::w))))=
     (q:Int)*ws q n (λw=>ind (Dl q add mul n (λw=>C (0::w)) w/\jV (S.map not) w)):=by
     rw[<-BL]
     refine oI λy hy=>?_
     have:∀b,El q b->ind (Dl q add mul (n+1) C (b::y))=ind (Dl q add mul n (λw=>C (0::w)) y):=by
      intro b hb
      refine uG ⟨λh c hc h1=>?_,λh c hc h1=>?_⟩
      ·have:=h (0::c) (l_ F.lQ hc) h1
       rw[show dot add mul (0::c) (b::y)=add (mul 0 b) (dot add mul c y) from rfl,F.zero_mul b hb,F.zero_add _ (vZ F hc hy)] at this
       exact this
      ·cases c with
       |nil=>have:=hc.1;simp at this
       |cons a c=>
        have hh:=oz hc
        have:=hA a c hh.1 hh.2 h1
        subst this
        rw[show dot add mul (0::c) (b::y)=add (mul 0 b) (dot add mul c y) from rfl,F.zero_mul b hb,F.zero_add _ (vZ F hh.2 hy)]
        exact h c hh.2 h1
     rw[uX this,Ig,<-Gh]
     grind
    rw[e1,e2,Int.pow_succ,<-Int.mul_assoc,IH]
    grind
   ·
    have hB:∃w1,Wd q n w1/\C (1::w1):=by
     refine Classical.byContradiction λhno=>hA λa w ha hw h=>Classical.byContradiction λhne=>hno ?_
     obtain⟨i,hi,e⟩:=F.inv a ha hne
     refine⟨jo mul i w,ni F hi hw,?_⟩
     have:=hC.uj i (a::w) hi (l_ ha hw) h
     rw[show jo mul i (a::w)=mul i a::jo mul i w from rfl,F.mul_comm i a hi ha,e] at this
     exact this
    obtain⟨w1,hw1,h1⟩:=hB
    obtain⟨m,hm,em,hneg⟩:=Fj F
    have move:∀a w,El q a->Wd q n w->(C (a::jH add (jo mul a w1) w)↔C (0::w)):=by
     intro a w ha hw
     have hs:C (a::jo mul a w1):=by
      have:=hC.uj a (1::w1) ha (l_ F.xx hw1) h1
      rw[show jo mul a (1::w1)=mul a 1::jo mul a w1 from rfl,F.mul_one a ha] at this
      exact this
     have hsw:=ni F ha hw1
     constructor
     ·intro h
      have hn:=hC.uj m _ hm (l_ ha hsw) hs
      have hadd:=hC.add _ _ (ni F hm (l_ ha hsw)) (l_ ha (xI F hsw hw)) hn h
      have e:jH add (jo mul m (a::jo mul a w1)) (a::jH add (jo mul a w1) w)=0::w:=by
       rw[show(a::jH add (jo mul a w1) w)=jH add (a::jo mul a w1) (0::w) from by
        show _=add a 0::_;rw[F.add_zero a ha];rfl]
       rw[<-wL F (ni F hm (l_ ha hsw)) (l_ ha hsw) (l_ F.lQ hw),zM F (ni F hm (l_ ha hsw)) (l_ ha hsw),hneg (l_ ha hsw),
        zM F (uU F.lQ) (l_ F.lQ hw),wK F (l_ F.lQ hw)]
      rw[e] at hadd
      exact hadd
     ·intro h
      have hadd:=hC.add _ _ (l_ ha hsw) (l_ F.lQ hw) hs h
      rw[show jH add (a::jo mul a w1) (0::w)=add a 0::jH add (jo mul a w1) w from rfl,F.add_zero a ha] at hadd
      exact hadd
    have e1:ws q n (λw=>se q (λa=>ind (C (a::w))))=(q:Int)*ws q n (λw=>ind (C (0::w))):=by
     rw[DR,<-Ig]
     refine uX λa ha=>?_
     rw[<-Kr F (ni F ha hw1) (λw=>ind (C (a::w)))]
     exact oI λw hw=>uG (move a w ha hw)
    have e2:ws q n (λw=>ind (jV (S.map not) w)*se q (λa=>ind (Dl q add mul (n+1) C (a::w))))=
     ws q n (λw=>ind (Dl q add mul n (λw=>C (0::w)) w/\jV (S.map not) w)):=by
     refine oI λy hy=>?_
     have hd:=vZ F hw1 hy
     obtain⟨b0,hb0,OL⟩:=F.neg _ hd
     have:∀b,El q b->ind (Dl q add mul (n+1) C (b::y))=ind (b=b0)*ind (Dl q add mul n (λw=>C (0::w)) y):=by
      intro b hb
      rw[<-tV]
      refine uG ⟨λh=>⟨?_,λc hc hcc=>?_⟩,λh c hc hcc=>?_⟩
      ·have:=h (1::w1) (l_ F.xx hw1) h1
       rw[show dot add mul (1::w1) (b::y)=add (mul 1 b) (dot add mul w1 y) from rfl,F.one_mul b hb,F.add_comm _ _ hb hd] at this
       exact F.cancel _ _ _ hd hb hb0 (by rw[this,OL])
      ·have:=h (0::c) (l_ F.lQ hc) hcc
       rw[show dot add mul (0::c) (b::y)=add (mul 0 b) (dot add mul c y) from rfl,F.zero_mul b hb,F.zero_add _ (vZ F hc hy)] at this
       exact this
      ·cases c with
       |nil=>have:=hc.1;simp at this
       |cons a c=>
        have hh:=oz hc
        obtain⟨rfl,V7⟩:=h
        have hmw:=ni F hm (ni F hh.1 hw1)
        have hc':c=jH add (jo mul a w1) (jH add (jo mul m (jo mul a w1)) c):=by
         rw[<-wL F (ni F hh.1 hw1) hmw hh.2,hneg (ni F hh.1 hw1),zM F (uU F.lQ) hh.2,wK F hh.2]
        have hin:C (0::jH add (jo mul m (jo mul a w1)) c):=by
         rw[<-move a _ hh.1 (xI F hmw hh.2),<-hc'];exact hcc
        have hz:=V7 _ (xI F hmw hh.2) hin
        have hdc:dot add mul c y=mul a (dot add mul w1 y):=by
         rw[hc',Jp F (ni F hh.1 hw1) (xI F hmw hh.2) hy,hz,F.add_zero _ (vZ F (ni F hh.1 hw1) hy),Jn F hh.1 hw1 hy]
        show add (mul a b) (dot add mul c y)=0
        rw[hdc,<-F.AY a b _ hh.1 hb hd,F.add_comm b _ hb hd,OL,F.mul_zero a hh.1]
     rw[uX this,SV,y7 (f:=λb=>ind (b=b0)) hb0 (λi _ hne=>kE hne),kK rfl,<-Gh]
     simp
    rw[e1,e2,Int.pow_succ,<-Int.mul_assoc,IH]
    grind
  |false=>
   have Wp:sF q add mul n (λw=>∃a,El q a/\C (a::w)):=⟨⟨0,F.lQ,hC.zero⟩,
    λu v hu hv ⟨a,ha,h1⟩ ⟨b,hb,h2⟩=>⟨add a b,F.uJ a b ha hb,hC.add _ _ (l_ ha hu) (l_ hb hv) h1 h2⟩,
    λa u ha hu ⟨b,hb,h1⟩=>⟨mul a b,F.vK a b ha hb,hC.uj a _ ha (l_ hb hu) h1⟩⟩
   have IH:=ih _ Wp S hS'
   rw[Kv]
   show _*(q:Int)^(cnt S)=_*ws q (n+1) (λd=>ind (Dl q add mul (n+1) C d/\jV (true::S.map not) d))
   rw[Ku F.lQ,Kw]
   have e3:ws q n (λy=>ind (Dl q add mul (n+1) C (0::y)/\jV (S.map not) y))=ws q n (λy=>ind (Dl q add mul n (λw=>∃a,El q a/\C (a::w)) y/\jV (S.map not) y)):=by
    refine oI λy hy=>?_
    have:Dl q add mul (n+1) C (0::y)↔Dl q add mul n (λw=>∃a,El q a/\C (a::w)) y:=by
     constructor
     ·intro h c hc ⟨a,ha,hcc⟩
      have:=h (a::c) (l_ ha hc) hcc
      rw[show dot add mul (a::c) (0::y)=add (mul a 0) (dot add mul c y) from rfl,F.mul_zero a ha,F.zero_add _ (vZ F hc hy)] at this
      exact this
     ·intro h c hc hcc
      cases c with
      |nil=>have:=hc.1;simp at this
      |cons a c=>
       have hh:=oz hc
       show add (mul a 0) (dot add mul c y)=0
       rw[F.mul_zero a hh.1,F.zero_add _ (vZ F hh.2 hy)]
       exact h c hh.2 ⟨a,hh.1,hcc⟩
    exact uG ⟨λh=>⟨this.mp h.1,h.2⟩,λh=>⟨this.mpr h.1,h.2⟩⟩
   rw[e3]
   obtain⟨m,hm,em,hneg⟩:=Fj F
   by_cases hA:C (1::List.replicate n 0)
   ·
    have free:∀a b w,El q a->El q b->Wd q n w->C (a::w)->C (b::w):=by
     intro a b w ha hb hw h
     obtain⟨na,hna,WI⟩:=F.neg a ha
     have hs:=hC.uj (add na b) _ (F.uJ na b hna hb) (l_ F.xx (uU F.lQ)) hA
     rw[show jo mul (add na b) (1::List.replicate n 0)=mul (add na b) 1::jo mul (add na b) (List.replicate n 0) from rfl,F.mul_one _ (F.uJ na b hna hb),Hm F (F.uJ na b hna hb)] at hs
     have:=hC.add _ _ (l_ ha hw) (l_ (F.uJ na b hna hb) (uU F.lQ)) h hs
     rw[show jH add (a::w) (add na b::List.replicate n 0)=add a (add na b)::jH add w (List.replicate n 0) from rfl,<-F.add_assoc a na b ha hna hb,WI,F.zero_add b hb,wK F hw] at this
     exact this
    have e1:∀w,Wd q n w->se q (λa=>ind (C (a::w)))=(q:Int)*ind (∃a,El q a/\C (a::w)):=by
     intro w hw
     rw[<-Ig]
     exact uX λa ha=>uG ⟨λh=>⟨a,ha,h⟩,λ⟨b,hb,h⟩=>free b a w hb ha hw h⟩
    rw[oI (λw hw=>by rw[e1 w hw]),oI (f:=λw=>se q (λa=>ind (C (a::w)))) (λw hw=>e1 w hw),BL]
    have e2:ws q n (λw=>ind (jV S w)*((q:Int)*ind (∃a,El q a/\C (a::w))))=(q:Int)*ws q n (λc=>ind ((∃a,El q a/\C (a::c))/\jV S c)):=by
     rw[<-BL]
     refine oI λw _=>?_
     rw[<-Gh (λw=>∃a,El q a/\C (a::w))];grind
    rw[e2,Int.mul_assoc,IH]
    grind
   ·
    have e1:∀w,Wd q n w->se q (λa=>ind (C (a::w)))=ind (∃a,El q a/\C (a::w)):=by
     intro w hw
     by_cases h:∃a,El q a/\C (a::w)
     ·obtain⟨a,ha,hc⟩:=h
      rw[kK ⟨a,ha,hc⟩]
      rw[y7 (f:=λa=>ind (C (a::w))) ha,kK hc]
      intro b hb hne
      refine kE λhcb=>hA ?_
      have hn:=hC.uj m _ hm (l_ ha hw) hc
      have hd:=hC.add _ _ (l_ hb hw) (ni F hm (l_ ha hw)) hcb hn
      rw[show jH add (b::w) (jo mul m (a::w))=add b (mul m a)::jH add w (jo mul m w) from rfl,hneg hw] at hd
      have Jb:=F.vK m a hm ha
      have hne2:add b (mul m a)≠0:=by
       intro e
       have ea:add (mul m a) a=0:=by
        have:=F.FT a m 1 ha hm F.xx
        rw[F.one_mul a ha,F.add_comm m 1 hm F.xx,em,F.zero_mul a ha] at this
        exact this.symm
       exact hne (F.cancel (mul m a) b a Jb hb ha (by rw[F.add_comm _ b Jb hb,e,ea]))
      have hel:=F.uJ b _ hb Jb
      obtain⟨i,hi,ei⟩:=F.inv _ hel hne2
      have:=hC.uj i _ hi (l_ hel (uU F.lQ)) hd
      rw[show jo mul i (add b (mul m a)::List.replicate n 0)=mul i (add b (mul m a))::jo mul i (List.replicate n 0) from rfl,F.mul_comm i _ hi hel,ei,Hm F hi] at this
      exact this
     ·rw[kE h]
      exact FN λa ha=>kE λhc=>h ⟨a,ha,hc⟩
    rw[oI (λw hw=>by rw[e1 w hw,Gh (λw=>∃a,El q a/\C (a::w))]),oI (f:=λw=>se q (λa=>ind (C (a::w)))) (λw hw=>e1 w hw)]
    exact IH
end field
end Mw
end
section
set_option linter.unusedVariables false
namespace Mw
def Dg(n:Nat)(f:Int->Int):Prop:=∃c:Nat->Int,∀z,f z=sm n (λi=>c i*z^i)
def lK(f:Int->Int):Prop:=∃n,Dg n f
theorem Jr(n:Nat):Dg n (λ_=>0):=⟨λ_=>0,λz=>(yz (λi _=>by simp)).symm⟩
theorem yP{n k:Nat}{f:Int->Int}(h:Dg n f)(hk:n<=k):Dg k f:=by
 obtain⟨c,hc⟩:=h
 refine⟨λi=>if i<n then c i else 0,λz=>?_⟩
 try dsimp only
 rw[hc z,D9 (m:=n) (n:=k) hk (λi hi=>by rw[if_neg (by omega)];simp)]
 exact kF (λi hi=>by rw[if_pos hi])
theorem Gt{n:Nat}{f g:Int->Int}(h:Dg n f)(k:Dg n g):Dg n (λz=>f z+g z):=by
 obtain⟨c,hc⟩:=h
 obtain⟨d,hd⟩:=k
 refine⟨λi=>c i+d i,λz=>?_⟩
 try dsimp only
 rw[hc z,hd z,<-wP]
 exact kF (λi _=>by rw[Int.add_mul])
theorem A_{n:Nat}{f:Int->Int}(a:Int)(h:Dg n f):Dg n (λz=>a*f z):=by
 obtain⟨c,hc⟩:=h
 refine⟨λi=>a*c i,λz=>?_⟩
 try dsimp only
 rw[hc z,<-oP]
 exact kF (λi _=>by rw[Int.mul_assoc])
theorem Gs{n:Nat}{f g:Int->Int}(h:Dg n f)(e:∀z,g z=f z):Dg n g:=by
 obtain⟨c,hc⟩:=h
 exact⟨c,λz=>by rw[e z,hc z]⟩
theorem CV{n:Nat}{f g:Int->Int}(h:Dg n f)(k:Dg n g):Dg n (λz=>f z-g z):=
 Gs (Gt h (A_ (-1) k)) (λz=>by grind)
theorem O1(k:Nat):Dg (k+1) (λz=>z^k):=by
 refine⟨λi=>if i=k then 1 else 0,λz=>?_⟩
 try dsimp only
 rw[wO (a:=k) (by omega) (λi _ hne=>by rw[if_neg hne];simp),if_pos rfl,Int.one_mul]
theorem EH{n:Nat}{f:Int->Int}(k:Nat)(h:Dg n f):Dg (n+k) (λz=>z^k*f z):=by
 induction k with
 |zero=>exact Gs h (λz=>by simp)
 |succ k ih=>
  obtain⟨c,hc⟩:=ih
  refine⟨λi=>if i=0 then 0 else c (i-1),λz=>?_⟩
  try dsimp only
  rw[show n+(k+1)=(n+k)+1 by omega,yA]
  have:z^(k+1)*f z=z*(z^k*f z):=by rw[Int.pow_succ];grind
  have hz:z^k*f z=sm (n+k) (λi=>c i*z^i):=hc z
  rw[this,hz,<-oP]
  rw[if_pos rfl]
  have:sm (n+k) (λi=>z*(c i*z^i))=sm (n+k) (λi=>(if i+1=0 then 0 else c (i+1-1))*z^(i+1)):=by
   refine kF λi _=>?_
   rw[if_neg (by omega),Nat.add_sub_cancel,Int.pow_succ]
   grind
  rw[this]
  simp
theorem WX{N:Nat}:∀(n:Nat) (h:Nat->Int->Int),(∀i,i<n->Dg N (h i))->Dg N (λz=>sm n (λi=>h i z)):=by
 intro n h
 induction n with
 |zero=>intro _;exact Jr N
 |succ n ih=>intro hh;exact Gt (ih (λi hi=>hh i (by omega))) (hh n (by omega))
theorem O3{n k:Nat}{f g:Int->Int}(h:Dg n f)(hg:Dg k g):Dg (n+k) (λz=>f z*g z):=by
 obtain⟨c,hc⟩:=h
 refine Gs (WX (N:=n+k) n (λi z=>c i*(z^i*g z)) (λi hi=>A_ (c i) (yP (EH i hg) (by omega)))) (λz=>?_)
 try dsimp only
 rw[hc z,<-FM]
 exact kF (λi _=>by rw[Int.mul_assoc])
theorem WZ(a:Int):Dg 1 (λ_=>a):=⟨λ_=>a,λz=>by simp [sm]⟩
theorem zx{n:Nat}(c:Nat->Int):Dg n (λz=>sm n (λi=>c i*z^i)):=⟨c,λ_=>rfl⟩
theorem Cf:lK (λ_=>0):=⟨0,Jr 0⟩
theorem MZ(a:Int):lK (λ_=>a):=⟨1,WZ a⟩
theorem sU{f g:Int->Int}(h:lK f)(k:lK g):lK (λz=>f z+g z):=by
 obtain⟨n,hn⟩:=h
 obtain⟨m,hm⟩:=k
 exact⟨n+m,Gt (yP hn (by omega)) (yP hm (by omega))⟩
theorem vY{f g:Int->Int}(h:lK f)(k:lK g):lK (λz=>f z*g z):=by
 obtain⟨n,hn⟩:=h
 obtain⟨m,hm⟩:=k
 exact⟨n+m,O3 hn hm⟩
theorem xn{f:Int->Int}(a:Int)(h:lK f):lK (λz=>a*f z):=by
 obtain⟨n,hn⟩:=h
 exact⟨n,A_ a hn⟩
theorem uY(k:Nat):lK (λz=>z^k):=⟨_,O1 k⟩
theorem IB{f g:Int->Int}(h:lK f)(e:∀z,g z=f z):lK g:=by
 obtain⟨n,hn⟩:=h
 exact⟨n,Gs hn e⟩
def Cg(p:Int)(F f g:Int->Int):Prop:=∃A B,lK A/\lK B/\∀z,f z=g z+p*A z+F z*B z
section
variable{p:Int}{F f g h f' g':Int->Int}
theorem oL(e:∀z,f z=g z):Cg p F f g:=⟨_,_,Cf,Cf,λz=>by rw[e z];simp⟩
theorem zD(k:Cg p F f g):Cg p F g f:=by
 obtain⟨A,B,hA,hB,e⟩:=k
 exact⟨_,_,xn (-1) hA,xn (-1) hB,λz=>by rw[e z];grind⟩
theorem mX(k:Cg p F f g)(l:Cg p F g h):Cg p F f h:=by
 obtain⟨A,B,hA,hB,e⟩:=k
 obtain⟨A',B',hA',hB',e'⟩:=l
 exact⟨_,_,sU hA hA',sU hB hB',λz=>by rw[e z,e' z];grind⟩
theorem EJ(k:Cg p F f g)(l:Cg p F f' g'):Cg p F (λz=>f z+f' z) (λz=>g z+g' z):=by
 obtain⟨A,B,hA,hB,e⟩:=k
 obtain⟨A',B',hA',hB',e'⟩:=l
 exact⟨_,_,sU hA hA',sU hB hB',λz=>by show f z+f' z=(g z+g' z)+p*(A z+A' z)+F z*(B z+B' z);rw[e z,e' z];grind⟩
theorem CY(pf:lK f')(pg:lK g)(k:Cg p F f g)(l:Cg p F f' g'):Cg p F (λz=>f z*f' z) (λz=>g z*g' z):=by
 obtain⟨A,B,hA,hB,e⟩:=k
 obtain⟨A',B',hA',hB',e'⟩:=l
 refine⟨_,_,sU (vY hA pf) (vY pg hA'),sU (vY hB pf) (vY pg hB'),λz=>?_⟩
 show f z*f' z=g z*g' z+p*(A z*f' z+g z*A' z)+F z*(B z*f' z+g z*B' z)
 have e1:=e z
 have e2:=e' z
 have:f z*f' z=g z*g' z+(f z-g z)*f' z+g z*(f' z-g' z):=by grind
 rw[this,show f z-g z=p*A z+F z*B z by omega,show f' z-g' z=p*A' z+F z*B' z by omega]
 grind
theorem CX{A:Int->Int}(hA:lK A)(e:∀z,f z=g z+p*A z):Cg p F f g:=⟨_,_,hA,Cf,λz=>by rw[e z];simp⟩
theorem Jw{B:Int->Int}(hB:lK B)(e:∀z,f z=g z+F z*B z):Cg p F f g:=⟨_,_,Cf,hB,λz=>by rw[e z];simp⟩
end
def Mon(m:Nat)(F:Int->Int):Prop:=∃G,Dg m G/\∀z,F z=z^m+G z
theorem Xi{j:Nat}{b p:Int}{A E:Int->Int}(hA:lK A)(hE:Dg j E)(h:∀z,b*z^j+p*A z=E z):∃a,b=p*a:=by
 obtain⟨n,hn⟩:=hA
 obtain⟨a,ha⟩:=yP hn (show n<=n+j+1 by omega)
 obtain⟨c,hc⟩:=hE
 refine⟨-a j,?_⟩
 have key:=Eo (n:=n+j+1) (c:=λi=>(if i=j then b else 0)+p*a i) (d:=λi=>if i<j then c i else 0) (λz=>?_) j (by omega)
 ·simp only[if_true,Nat.lt_irrefl,if_false] at key
  rw[Int.mul_neg];omega
 ·have e1:sm (n+j+1) (λi=>((if i=j then b else 0)+p*a i)*z^i)=sm (n+j+1) (λi=>(if i=j then b else 0)*z^i)+sm (n+j+1) (λi=>p*(a i*z^i)):=by
   rw[<-wP]
   exact kF (λi _=>by grind)
  rw[e1,oP,<-ha z,wO (a:=j) (by omega) (λi _ hne=>by rw[if_neg hne];simp),if_pos rfl,h z,hc z]
  rw[D9 (m:=j) (n:=n+j+1) (by omega) (λi hi=>by rw[if_neg (by omega)];simp)]
  exact kF (λi hi=>by rw[if_pos hi])
theorem uniq{m:Nat}{p:Int}{F D:Int->Int}(hF:Mon m F)(hD:Dg m D)(h:Cg p F D (λ_=>0)):∃a:Nat->Int,∀z,D z=p*sm m (λi=>a i*z^i):=by
 obtain⟨A,B,hA,⟨k,hB⟩,e⟩:=h
 obtain⟨G,hG,eF⟩:=hF
 have go:∀(k:Nat) (A B:Int->Int),lK A->Dg k B->(∀z,D z=p*A z+F z*B z)->∃a:Nat->Int,∀z,D z=p*sm m (λi=>a i*z^i):=by
  intro k
  induction k with
  |zero=>
   intro A B hA hB e
   obtain⟨b,hb⟩:=hB
   obtain⟨n,hn⟩:=hA
   obtain⟨a,ha⟩:=yP hn (show n<=n+m by omega)
   obtain⟨d,hd⟩:=hD
   have key:=Eo (n:=n+m) (c:=λi=>if i<m then d i else 0) (d:=λi=>p*a i) (λz=>?_)
   ·refine⟨a,λz=>?_⟩
    rw[hd z,<-oP]
    refine kF λi hi=>?_
    have:=key i (by omega)
    simp only[if_pos hi] at this
    rw[this,Int.mul_assoc]
   ·rw[D9 (m:=m) (n:=n+m) (by omega) (λi hi=>by rw[if_neg (by omega)];simp)]
    have e1:sm m (λi=>(if i<m then d i else 0)*z^i)=D z:=by
     rw[hd z];exact kF (λi hi=>by rw[if_pos hi])
    rw[e1,e z,hb z,ha z,<-oP]
    simp only[sm,Int.mul_zero,Int.add_zero]
    exact kF (λi _=>by rw[Int.mul_assoc])
  |succ k ih=>
   intro A B hA hB e
   obtain⟨b,hb⟩:=hB
   have hB':Dg k (λz=>sm k (λi=>b i*z^i)):=zx b
   have hE:Dg (m+k) (λz=>D z-(z^m*sm k (λi=>b i*z^i))-G z*sm k (λi=>b i*z^i)-b k*(z^k*G z)):=
    CV (CV (CV (yP hD (by omega)) (yP (EH m hB') (by omega))) (O3 hG hB')) (A_ (b k) (EH k hG))
   obtain⟨a,ha⟩:=Xi (j:=m+k) (b:=b k) (p:=p) hA hE (λz=>by
    rw[e z,eF z,hb z]
    simp only[sm,Int.pow_add]
    grind)
   refine ih (λz=>A z+a*(z^k*F z)) (λz=>sm k (λi=>b i*z^i)) (sU hA (xn a (vY (uY k) (IB (sU (uY m) ⟨_,hG⟩) eF)))) hB' (λz=>?_)
   try dsimp only
   rw[e z,hb z]
   simp only[sm]
   rw[ha]
   grind
 exact go k A B hA hB (λz=>by rw[e z];simp)
theorem divide{d:Nat}{G:Int->Int}(hG:Dg d G):∀(k:Nat) (f:Int->Int),Dg (d+k) f->∃h r,Dg k h/\Dg d r/\∀z,f z=(z^d+G z)*h z+r z:=by
 intro k
 induction k with
 |zero=>intro f hf;exact⟨_,_,Jr 0,hf,λz=>by simp⟩
 |succ k ih=>
  intro f hf
  obtain⟨c,hc⟩:=hf
  have hf':Dg (d+k) (λz=>sm (d+k) (λi=>c i*z^i)-c (d+k)*(z^k*G z)):=CV (zx c) (A_ _ (EH k hG))
  obtain⟨h,r,hh,hr,e⟩:=ih _ hf'
  refine⟨λz=>h z+c (d+k)*z^k,r,Gt (yP hh (by omega)) (A_ _ (O1 k)),hr,λz=>?_⟩
  try dsimp only
  have e1:=e z
  rw[hc z,show d+(k+1)=(d+k)+1 by omega]
  simp only[sm,Int.pow_add]
  grind
section
variable{p:Int}{m:Nat}{F:Int->Int}
theorem NQ(unit:∀c:Int,¬p∣c->∃u t,c*u=1+p*t){b:Int->Int}(hb:lK b):∀(n:Nat) (f:Int->Int),Dg n f->Cg p F (λz=>f z*b z) (λ_=>0)->(¬ ∃A,lK A/\∀z,f z=p*A z)->
 ∃d G,d<n/\Dg d G/\Cg p F (λz=>(z^d+G z)*b z) (λ_=>0):=by
 intro n
 induction n with
 |zero=>
  intro f hf _ hn
  obtain⟨c,hc⟩:=hf
  exact absurd ⟨_,Cf,λz=>by rw[hc z];simp [sm]⟩ hn
 |succ n ih=>
  intro f hf hz hn
  obtain⟨c,hc⟩:=hf
  have hf':Dg n (λz=>sm n (λi=>c i*z^i)):=zx c
  by_cases hp:p∣c n
  ·obtain⟨t,ht⟩:=hp
   obtain⟨d,G,hd,hG,h⟩:=ih _ hf' (by
    refine mX (zD ?_) hz
    refine CX (xn t (vY (uY n) hb)) (λz=>?_)
    try dsimp only
    rw[hc z]
    simp only[sm]
    rw[ht]
    grind) (λ⟨A,hA,e⟩=>hn ⟨_,sU hA (xn t (uY n)),λz=>by
     rw[hc z]
     simp only[sm]
     rw[e z,ht]
     grind⟩)
   exact⟨d,G,by omega,hG,h⟩
  ·obtain⟨u,t,hu⟩:=unit _ hp
   refine⟨n,λz=>u*sm n (λi=>c i*z^i),by omega,A_ u hf',?_⟩
   have h1:Cg p F (λz=>u*(f z*b z)) (λ_=>0):=by
    have:=CY (f:=λ_=>u) (g:=λ_=>u) (f':=λz=>f z*b z) (g':=λ_=>0) (vY ⟨_,zx (n:=n+1) c⟩ hb |> λh=>IB h (λz=>by rw[hc z])) (MZ u) (oL (λ_=>rfl)) hz
    exact mX this (oL (λz=>by simp))
   refine mX (zD ?_) h1
   refine CX (xn t (vY (uY n) hb)) (λz=>?_)
   try dsimp only
   rw[hc z]
   simp only[sm]
   have:u*((sm n (λi=>c i*z^i)+c n*z^n)*b z)=(c n*u)*(z^n*b z)+u*(sm n (λi=>c i*z^i))*b z:=by grind
   rw[this,hu]
   grind
theorem UY(hF:Mon m F)(unit:∀c:Int,¬p∣c->∃u t,c*u=1+p*t)
 (AO:∀e l,1<=e->2*e<=m->Mon e l->∀h A,lK h->lK A->¬ ∀z,F z=l z*h z+p*A z)
 {a b:Int->Int} (ha:Dg m a) (hb:Dg m b) (h:Cg p F (λz=>a z*b z) (λ_=>0)):
 (∃A,lK A/\∀z,a z=p*A z)\/(∃A,lK A/\∀z,b z=p*A z):=by
 refine Classical.byContradiction λhn=>?_
 have hna:¬ ∃A,lK A/\∀z,a z=p*A z:=λe=>hn (.inl e)
 have hnb:¬ ∃A,lK A/\∀z,b z=p*A z:=λe=>hn (.inr e)
 have none:∀d,d<m->¬ ∃G,Dg d G/\Cg p F (λz=>(z^d+G z)*b z) (λ_=>0):=by
  intro d
  induction d using Nat.strongRecOn with
  |_ d ih=>
   intro hd ⟨G,hG,hz⟩
   by_cases h0:d=0
   ·subst h0
    obtain⟨c,hc⟩:=hG
    have h1:Cg p F b (λ_=>0):=mX (oL (λz=>by rw[hc z];simp [sm])) hz
    obtain⟨x,hx⟩:=uniq hF hb h1
    exact hnb ⟨_,⟨m,zx x⟩,hx⟩
   ·obtain⟨GF,hGF,eF⟩:=hF
    have hrest:Dg (d+(m-d)) (λz=>GF z-z^(m-d)*G z):=by
     rw[show d+(m-d)=m by omega]
     exact CV hGF (yP (EH (m-d) hG) (by omega))
    obtain⟨hh,r,hhd,hr,e⟩:=divide hG (m-d) _ hrest
    have hdiv:∀z,F z=(z^d+G z)*(z^(m-d)+hh z)+r z:=by
     intro z
     have e1:=e z
     have e2:z^m=z^(m-d)*z^d:=by rw[<-Int.pow_add];congr 1;omega
     rw[eF z,e2]
     grind
    have Zb:lK F:=IB (sU (uY m) ⟨_,hGF⟩) eF
    have hbp:lK b:=⟨_,hb⟩
    have AQ:lK (λz=>z^(m-d)+hh z):=sU (uY _) ⟨_,hhd⟩
    have hrz:Cg p F (λz=>r z*b z) (λ_=>0):=by
     have h1:=CY (f:=λz=>z^(m-d)+hh z) (g:=λz=>z^(m-d)+hh z) (f':=λz=>(z^d+G z)*b z) (g':=λ_=>0) (vY (sU (uY d) ⟨_,hG⟩) hbp) AQ (oL (λ_=>rfl)) hz
     have h2:Cg p F (λz=>r z*b z) (λz=> -1*((z^(m-d)+hh z)*((z^d+G z)*b z))):=Jw hbp (λz=>by rw[hdiv z];grind)
     have h3:=CY (f:=λ_=> -1) (g:=λ_=> -1) (f':=λz=>(z^(m-d)+hh z)*((z^d+G z)*b z)) (g':=λz=>(z^(m-d)+hh z)*0) (vY AQ (vY (sU (uY d) ⟨_,hG⟩) hbp)) (MZ (-1)) (oL (λ_=>rfl)) h1
     exact mX h2 (mX h3 (oL (λz=>by simp)))
    by_cases hr0:∃A,lK A/\∀z,r z=p*A z
    ·obtain⟨A,hA,eA⟩:=hr0
     by_cases h2:2*d<=m
     ·refine AO d (λz=>z^d+G z) (by omega) h2 ⟨G,hG,λ_=>rfl⟩ _ A AQ hA (λz=>?_)
      rw[hdiv z,eA z]
     ·refine AO (m-d) (λz=>z^(m-d)+hh z) (by omega) (by omega) ⟨hh,hhd,λ_=>rfl⟩ (λz=>z^d+G z) A (sU (uY d) ⟨_,hG⟩) hA (λz=>?_)
      rw[hdiv z,eA z]
      grind
    ·obtain⟨d',G',hd',hG',hz'⟩:=NQ (F:=F) unit hbp d r hr hrz hr0
     exact ih d' hd' (by omega) ⟨G',hG',hz'⟩
 obtain⟨d,G,hd,hG,hz⟩:=NQ (F:=F) unit ⟨_,hb⟩ m a ha h hna
 exact none d hd ⟨G,hG,hz⟩
end
def kz(p:Nat)(x:Int)(i:Nat):Int:=((x.toNat / p^i % p:Nat):Int)
def nv(p:Nat)(c:Nat->Nat):Nat->Nat
 |0=>0
 |m+1=>nv p c m+c m*p^m
def Px(p m:Nat)(x:Int)(z:Int):Int:=sm m (λi=>kz p x i*z^i)
theorem Ej(p m:Nat)(x:Int):Dg m (Px p m x):=⟨_,λ_=>rfl⟩
theorem Ag(p m:Nat)(x:Int):lK (Px p m x):=⟨_,Ej p m x⟩
theorem AZ{p:Nat}(hp:2<=p)(x:Int)(i:Nat):0<=kz p x i/\kz p x i<(p:Int):=by
 unfold kz
 have:=Nat.mod_lt (x.toNat / p^i) (show p>0 by omega)
 omega
theorem II{p:Nat}{c:Nat->Nat}:∀(m:Nat),(∀i,i<m->c i<p)->nv p c m<p^m:=by
 intro m
 induction m with
 |zero=>intro _;exact Nat.one_pos
 |succ m ih=>
  intro h
  have h1:=ih (λi hi=>h i (by omega))
  have h2:(c m+1)*p^m<=p*p^m:=Nat.mul_le_mul_right _ (h m (by omega))
  rw[nv,Nat.pow_succ,Nat.mul_comm (p^m) p]
  rw[Nat.add_mul,Nat.one_mul] at h2
  omega
theorem Nu{p:Nat}{c:Nat->Nat}(hp:2<=p):∀(m:Nat),(∀i,i<m->c i<p)->∀i,i<m->nv p c m / p^i % p=c i:=by
 intro m
 induction m with
 |zero=>intro _ i hi;omega
 |succ m ih=>
  intro h i hi
  have h1:=II m (λi hi=>h i (by omega))
  have hpp:0<p^i:=Nat.pow_pos (by omega)
  rw[nv]
  by_cases e:i=m
  ·subst e
   rw[Nat.add_mul_div_right _ _ hpp,Nat.div_eq_of_lt h1,Nat.zero_add,Nat.mod_eq_of_lt (h i (by omega))]
  ·have e2:c m*p^m=(c m*p^(m-i-1)*p)*p^i:=by
    rw[Nat.mul_assoc,Nat.mul_assoc,<-Nat.pow_succ',<-Nat.pow_add]
    congr 2
    omega
   rw[e2,Nat.add_mul_div_right _ _ hpp,Nat.add_mul_mod_self_right]
   exact ih (λi hi=>h i (by omega)) i (by omega)
theorem U1{p:Nat}{c d:Nat->Nat}:∀(m:Nat),(∀i,i<m->c i=d i)->nv p c m=nv p d m:=by
 intro m
 induction m with
 |zero=>intro _;rfl
 |succ m ih=>intro h;rw[nv,nv,ih (λi hi=>h i (by omega)),h m (by omega)]
theorem Ns{p:Nat}(x:Nat):∀m,nv p (λi=>x / p^i % p) m=x % p^m:=by
 intro m
 induction m with
 |zero=>rw[nv,Nat.pow_zero,Nat.mod_one]
 |succ m ih=>rw[nv,ih,Nat.pow_succ,Nat.mod_mul,Nat.mul_comm]
theorem WO{p m:Nat}{x y:Int}(hx:El (p^m) x)(hy:El (p^m) y)(h:∀i,i<m->kz p x i=kz p y i):x=y:=by
 have h1:=Ns (p:=p) x.toNat m
 have h2:=Ns (p:=p) y.toNat m
 rw[Nat.mod_eq_of_lt (by have:=hx.2;have:=hx.1;omega)] at h1
 rw[Nat.mod_eq_of_lt (by have:=hy.2;have:=hy.1;omega)] at h2
 have h3:=U1 (p:=p) (c:=λi=>x.toNat / p^i % p) (d:=λi=>y.toNat / p^i % p) m (λi hi=>by
  have:=h i hi
  unfold kz at this
  omega)
 have:=hx.1
 have:=hy.1
 omega
theorem OJ{p m:Nat}(hp:2<=p)(c:Nat->Int)(h:∀i,i<m->0<=c i/\c i<(p:Int)):∃x,El (p^m) x/\∀i,i<m->kz p x i=c i:=by
 have hc:∀i,i<m->(c i).toNat<p:=λi hi=>by have:=h i hi;omega
 refine⟨((nv p (λi=>(c i).toNat) m:Nat):Int),⟨Int.natCast_nonneg _,by have:=II m hc;omega⟩,λi hi=>?_⟩
 unfold kz
 rw[Int.toNat_natCast,Nu hp m hc i hi]
 have:=h i hi
 omega
theorem WN{p m:Nat}{F:Int->Int}(hp:2<=p)(hF:Mon m F){x y:Int}(hx:El (p^m) x)(hy:El (p^m) y)(h:Cg (p:Int) F (Px p m x) (Px p m y)):x=y:=by
 refine WO hx hy (λi hi=>?_)
 have hD:Dg m (λz=>Px p m x z-Px p m y z):=CV (Ej _ _ _) (Ej _ _ _)
 obtain⟨a,ha⟩:=uniq (p:=(p:Int)) hF hD (by
  obtain⟨A,B,hA,hB,e⟩:=h
  exact⟨A,B,hA,hB,λz=>by show Px p m x z-Px p m y z=0+(p:Int)*A z+F z*B z;rw[e z];grind⟩)
 have key:=Eo (n:=m) (c:=λi=>kz p x i-kz p y i) (d:=λi=>(p:Int)*a i) (λz=>by
  have e:=ha z
  unfold Px at e
  rw[<-D8,<-oP] at e
  have e1:sm m (λi=>(kz p x i-kz p y i)*z^i)=sm m (λi=>kz p x i*z^i-kz p y i*z^i):=kF (λi _=>by rw[Int.sub_mul])
  have e2:sm m (λi=>(p:Int)*a i*z^i)=sm m (λi=>(p:Int)*(a i*z^i)):=kF (λi _=>by rw[Int.mul_assoc])
  rw[e1,e2]
  exact e) i hi
 have key:kz p x i-kz p y i=(p:Int)*a i:=key
 have h1:=AZ hp x i
 have h2:=AZ hp y i
 have h0:a i=0:=by
  refine Decidable.byContradiction λhne=>?_
  rcases Int.lt_or_gt_of_ne hne with g|g
  ·have:=Int.mul_le_mul_of_nonneg_left (show a i<= -1 by omega) (show(0:Int)<=(p:Int) by omega)
   omega
  ·have:=Int.mul_le_mul_of_nonneg_left (show 1<=a i by omega) (show(0:Int)<=(p:Int) by omega)
   omega
 rw[h0,Int.mul_zero] at key
 omega
theorem FW(p m:Nat)(z:Int):Px p m 0 z=0:=by
 unfold Px kz
 exact yz (λi _=>by simp)
theorem Ut{p m:Nat}(hp:2<=p)(hm:1<=m)(z:Int):Px p m 1 z=1:=by
 unfold Px
 rw[wO (a:=0) (by omega)]
 ·unfold kz
  have:(1:Int).toNat / p^0 % p=1:=by
   rw[Nat.pow_zero,Nat.div_one]
   exact Nat.mod_eq_of_lt (by show 1<p;omega)
  rw[this];simp
 ·intro i _ hne
  have:(1:Int).toNat / p^i % p=0:=by
   rw[Nat.div_eq_of_lt]
   ·exact Nat.zero_mod _
   ·show 1<p^i
    exact Nat.one_lt_pow hne (by omega)
  unfold kz
  rw[this];simp
theorem UU{p m:Nat}(hp:2<=p)(hm:1<=m):2<=p^m:=by
 have:p^1<=p^m:=Nat.pow_le_pow_right (by omega) hm
 rw[Nat.pow_one] at this
 omega
def E8(p:Nat):Prop:=2<=p/\∀d,2<=d->d<p->p % d≠0
theorem Uw{p:Nat}(h:E8 p)(c:Int)(hc:¬(p:Int)∣c):∃u t,c*u=1+(p:Int)*t:=by
 obtain⟨hp,hd⟩:=h
 obtain⟨a,ha⟩:∃a:Nat,c % (p:Int)=(a:Int):=⟨(c % (p:Int)).toNat,by have:=Int.emod_nonneg c (show(p:Int)≠0 by omega);omega⟩
 have hap:a<p:=by have:=Int.emod_lt_of_pos c (show(0:Int)<(p:Int) by omega);omega
 have ha0:a≠0:=λe=>hc (Int.dvd_of_emod_eq_zero (by rw[ha,e];rfl))
 have hg:Nat.gcd p a=1:=by
  have h1:Nat.gcd p a∣p:=Nat.gcd_dvd_left _ _
  have h2:Nat.gcd p a<=a:=Nat.gcd_le_right _ (by omega)
  have h3:Nat.gcd p a≠0:=λe=>ha0 (Nat.gcd_eq_zero_iff.mp e).2
  refine Decidable.byContradiction λhne=>?_
  exact hd (Nat.gcd p a) (by omega) (by omega) (Nat.mod_eq_zero_of_dvd h1)
 have inj:∀x y,x<p->y<p->a*x % p=a*y % p->x=y:=by
  have one:∀x y,x<p->y<p->x<=y->a*x % p=a*y % p->x=y:=by
   intro x y hx hy hxy e
   have hdv:p∣a*(y-x):=by
    rw[Nat.mul_sub]
    exact Nat.dvd_of_mod_eq_zero (Nat.sub_mod_eq_zero_of_mod_eq e.symm)
   have V6:p∣y-x:=Nat.Coprime.dvd_of_dvd_mul_left (k:=p) (m:=a) hg hdv
   have:=Nat.eq_zero_of_dvd_of_lt V6 (by omega)
   omega
  intro x y hx hy e
  rcases Nat.le_total x y with g|g
  ·exact one x y hx hy g e
  ·exact(one y x hy hx g e.symm).symm
 have hs:=Nk (q:=p) (σ:=λx=>a*x % p) (λx _=>Nat.mod_lt _ (by omega)) inj 1 (by omega)
 have hex:∃u,a*u % p=1:=by
  refine Classical.byContradiction λhn=>?_
  rw[yz (λi _=>kE (λe=>hn ⟨i,e⟩))] at hs
  omega
 obtain⟨u,hu⟩:=hex
 refine⟨(u:Int),(c / (p:Int))*(u:Int)+((a*u / p:Nat):Int),?_⟩
 have e1:=Int.emod_add_mul_ediv c (p:Int)
 rw[ha] at e1
 have e2:=Nat.mod_add_div (a*u) p
 rw[hu] at e2
 have e3:((1+p*(a*u / p):Nat):Int)=((a*u:Nat):Int):=by rw[e2]
 rw[Int.natCast_add,Int.natCast_mul,Int.natCast_mul] at e3
 conv=>lhs;rw[<-e1]
 rw[Int.add_mul,<-e3]
 rw[show((1:Nat):Int)=1 from rfl]
 grind
theorem gf{p m:Nat}{F:Int->Int}(hp:E8 p)(hm:1<=m)(hF:Mon m F)
 (AO:∀(e:Nat) (c:Nat->Int),1<=e->2*e<=m->(∀i,i<e->0<=c i/\c i<(p:Int))->∀h A,lK h->lK A->¬ ∀z,F z=(z^e+sm e (λi=>c i*z^i))*h z+(p:Int)*A z)
 {add mul:Int->Int->Int}
 (ha:∀x y,El (p^m) x->El (p^m) y->El (p^m) (add x y)/\Cg (p:Int) F (Px p m (add x y)) (λz=>Px p m x z+Px p m y z))
 (hmu:∀x y,El (p^m) x->El (p^m) y->El (p^m) (mul x y)/\Cg (p:Int) F (Px p m (mul x y)) (λz=>Px p m x z*Px p m y z)):jZ (p^m) add mul:=by
 have hp2:=hp.1
 have q2:=UU hp2 hm
 have e0:El (p^m) 0:=⟨by omega,by omega⟩
 have e1:El (p^m) 1:=⟨by omega,by omega⟩
 have eq:∀{x y:Int},El (p^m) x->El (p^m) y->Cg (p:Int) F (Px p m x) (Px p m y)->x=y:=λhx hy h=>WN hp2 hF hx hy h
 refine⟨q2,λx y hx hy=>(ha x y hx hy).1,λx y hx hy=>(hmu x y hx hy).1,?_,?_,?_,?_,?_,?_,?_,?_,?_⟩
 ·intro x hx
  have h:=ha x 0 hx e0
  exact eq h.1 hx (mX h.2 (oL (λz=>by rw[FW];simp)))
 ·intro x y hx hy
  have h:=ha x y hx hy
  have k:=ha y x hy hx
  exact eq h.1 k.1 (mX h.2 (mX (oL (λz=>Int.add_comm _ _)) (zD k.2)))
 ·intro x y w hx hy hw
  have h:=ha x y hx hy
  have k:=ha y w hy hw
  have h2:=ha _ w h.1 hw
  have k2:=ha x _ hx k.1
  refine eq h2.1 k2.1 (mX h2.2 (mX (EJ h.2 (oL (λ_=>rfl))) (mX (oL (λz=>Int.add_assoc _ _ _)) (zD (mX k2.2 (EJ (oL (λ_=>rfl)) k.2))))))
 ·intro x hx
  obtain⟨y,hy,hd⟩:=OJ (m:=m) hp2 (λi=>(-kz p x i) % (p:Int)) (λi _=>⟨Int.emod_nonneg _ (by omega),Int.emod_lt_of_pos _ (by omega)⟩)
  refine⟨y,hy,?_⟩
  have h:=ha x y hx hy
  refine eq h.1 e0 (mX h.2 ?_)
  refine CX (A:=λz=>sm m (λi=>(-((-kz p x i) / (p:Int)))*z^i)) ⟨m,zx _⟩ (λz=>?_)
  rw[FW]
  unfold Px
  rw[<-wP,Int.zero_add,<-oP]
  refine kF λi hi=>?_
  rw[hd i hi]
  have:=Int.emod_add_mul_ediv (-kz p x i) (p:Int)
  have e:(-kz p x i) % (p:Int)= -kz p x i-(p:Int)*((-kz p x i) / (p:Int)):=by omega
  rw[e]
  grind
 ·intro x hx
  have h:=hmu x 1 hx e1
  exact eq h.1 hx (mX h.2 (oL (λz=>by rw[Ut hp2 hm];simp)))
 ·intro x y hx hy
  have h:=hmu x y hx hy
  have k:=hmu y x hy hx
  exact eq h.1 k.1 (mX h.2 (mX (oL (λz=>Int.mul_comm _ _)) (zD k.2)))
 ·intro x y w hx hy hw
  have h:=hmu x y hx hy
  have k:=hmu y w hy hw
  have h2:=hmu _ w h.1 hw
  have k2:=hmu x _ hx k.1
  refine eq h2.1 k2.1 (mX h2.2 (mX (CY (Ag _ _ _) (vY (Ag _ _ _) (Ag _ _ _)) h.2 (oL (λ_=>rfl))) (mX (oL (λz=>Int.mul_assoc _ _ _)) (zD (mX k2.2 (CY (Ag _ _ _) (Ag _ _ _) (oL (λ_=>rfl)) k.2))))))
 ·intro x y w hx hy hw
  have h:=ha y w hy hw
  have k:=hmu x _ hx h.1
  have h1:=hmu x y hx hy
  have h2:=hmu x w hx hw
  have h3:=ha _ _ h1.1 h2.1
  refine eq k.1 h3.1 (mX k.2 (mX (CY (Ag _ _ _) (Ag _ _ _) (oL (λ_=>rfl)) h.2) (mX (oL (λz=>Int.mul_add _ _ _)) (zD (mX h3.2 (EJ h1.2 h2.2))))))
 ·intro x y hx hy h0
  have h:=hmu x y hx hy
  rw[h0] at h
  have hz:Cg (p:Int) F (λz=>Px p m x z*Px p m y z) (λ_=>0):=mX (zD h.2) (oL (λz=>FW _ _ _))
  have VH:∀e l,1<=e->2*e<=m->Mon e l->∀h A,lK h->lK A->¬ ∀z,F z=l z*h z+(p:Int)*A z:=by
   intro e l he1 he2 ⟨G,⟨g,hg⟩,el⟩ h A hh hA hc
   refine AO e (λi=>g i % (p:Int)) he1 he2 (λi _=>⟨Int.emod_nonneg _ (by omega),Int.emod_lt_of_pos _ (by omega)⟩) h _ hh (sU (vY (⟨e,zx (λi=>g i / (p:Int))⟩:lK _) hh) hA) (λz=>?_)
   rw[hc z,el z,hg z]
   have:sm e (λi=>g i*z^i)=sm e (λi=>g i % (p:Int)*z^i)+(p:Int)*sm e (λi=>g i / (p:Int)*z^i):=by
    rw[<-oP,<-wP]
    refine kF λi _=>?_
    have:=Int.emod_add_mul_ediv (g i) (p:Int)
    conv=>lhs;rw[<-this]
    grind
   rw[this]
   grind
  have KO:∀w,El (p^m) w->(∃A,lK A/\∀z,Px p m w z=(p:Int)*A z)->w=0:=by
   intro w hw ⟨A,hA,e⟩
   exact eq hw e0 (CX hA (λz=>by rw[FW,e z];simp))
  rcases UY hF (Uw hp) VH (Ej p m x) (Ej p m y) hz with g|g
  ·exact .inl (KO x hx g)
  ·exact .inr (KO y hy g)
end Mw
end
section
set_option linter.unusedVariables false
set_option linter.unusedSimpArgs false
namespace Mw
open Go Go.RowKit Go.Proofs.YtifkbghnmhineaaW.lJ
def Ev{α:Type}(g:Nat->Option α)(r:α):Prop:=∃K,∀k,K<=k->g k=some r
theorem Ev.of{α:Type}{g:Nat->Option α}{r:α}(h:∀k,g k=some r):Ev g r:=⟨0,λk _=>h k⟩
theorem Ev.some{α:Type}(r:α):Ev (λ_=>some r) r:=⟨0,λ_ _=>rfl⟩
theorem Ev.succ{α:Type}{g:Nat->Option α}{r:α}(h:Ev (λk=>g (k+1)) r):Ev g r:=by
 obtain⟨K,h⟩:=h
 refine⟨K+1,λk hk=>?_⟩
 obtain⟨m,rfl⟩:∃m,k=m+1:=⟨k-1,by omega⟩
 exact h m (by omega)
theorem Ev.bind{α β:Type}{g:Nat->Option α}{f:Nat->α->Option β}{a:α}{r:β}(hg:Ev g a)(hf:Ev (λk=>f k a) r):Ev (λk=>(g k).bind (f k)) r:=by
 obtain⟨K,hg⟩:=hg
 obtain⟨L,hf⟩:=hf
 refine⟨K+L,λk hk=>?_⟩
 show(g k).bind (f k)=_
 rw[hg k (by omega)]
 exact hf k (by omega)
theorem Ev.cast{α:Type}{g:Nat->Option α}{r s:α}(h:Ev g r)(e:r=s):Ev g s:=e ▸ h
theorem Ev.get{α:Type}{g:Nat->Option α}{r:α}(h:Ev g r):∃k,g k=Option.some r:=by
 obtain⟨K,h⟩:=h
 exact⟨K,h K (Nat.le_refl K)⟩
theorem lD{x:Int}(h0: -9223372036854775808<=x)(h1:x<=9223372036854775807):wrap64 x=x:=by unfold wrap64;omega
theorem wn{x:Int}{n:Nat}(h:x=(n:Int))(hn:n<9223372036854775808):wrap64 x=(n:Int):=by subst h;exact lD (by omega) (by omega)
theorem lh{x:Int}(h0:0<=x)(h1:x<18446744073709551616):IntKind.u64.wrap x=x:=by
 simp [IntKind.wrap,IntKind.bits,IntKind.signed];omega
theorem Fz(x:Int):IntKind.u64.wrap x=x % 18446744073709551616:=by
 simp [IntKind.wrap,IntKind.bits,IntKind.signed]
def bp:Nat->Nat
 |0=>1
 |n+1=>4294967296*bp n
theorem Bh:∀n,0<bp n
 |0=>by decide
 |n+1=>by have:=Bh n;simp only[bp];omega
theorem wY:∀{m n:Nat},m<=n->bp m<=bp n:=by
 intro m n h
 induction n with
 |zero=>
  have:m=0:=by omega
  subst this;exact Nat.le_refl _
 |succ n ih=>
  by_cases e:m=n+1
  ·subst e;exact Nat.le_refl _
  ·have:=ih (by omega);simp only[bp];omega
theorem Bi:∀(m n:Nat),bp (m+n)=bp m*bp n
 |m,0=>by simp [bp]
 |m,n+1=>by rw[<-Nat.add_assoc,bp,bp,Bi m n,Nat.mul_left_comm]
def lv:List Int->Int
 | []=>0
 |a::l=>a+4294967296*lv l
def Lm(l:List Int):Prop:=∀x∈l,0<=x/\x<4294967296
def dg(n:Nat):List Int:=if n=0 then [] else((n % 4294967296:Nat):Int)::dg (n / 4294967296)
termination_by n
decreasing_by omega
theorem pI:dg 0=[]:=by rw[dg];rfl
theorem yO{n:Nat}(h:n≠0):dg n=((n % 4294967296:Nat):Int)::dg (n / 4294967296):=by rw[dg,if_neg h]
theorem lG:∀n:Nat,lv (dg n)=n:=by
 intro n
 induction n using Nat.strongRecOn with
 |_ n ih=>
  by_cases h:n=0
  ·subst h;rw[pI];rfl
  ·rw[yO h,lv,ih _ (by omega)];omega
theorem wU:Lm []:=by intro x hx;simp at hx
theorem uD{a:Int}{l:List Int}:Lm (a::l)↔(0<=a/\a<4294967296)/\Lm l:=by
 constructor
 ·intro h;exact⟨h a (by simp),λx hx=>h x (by simp [hx])⟩
 ·intro h x hx
  exact(List.mem_cons.mp hx).elim (λe=>e ▸ h.1) (λe=>h.2 x e)
theorem kS:∀n:Nat,Lm (dg n):=by
 intro n
 induction n using Nat.strongRecOn with
 |_ n ih=>
  by_cases h:n=0
  ·subst h;rw[pI];exact wU
  ·rw[yO h,uD];exact⟨by omega,ih _ (by omega)⟩
theorem yI:∀{l:List Int},Lm l->0<=lv l
 | [],_=>Int.le_refl 0
 |a::l,h=>by have:=yI (uD.mp h).2;have:=(uD.mp h).1;simp only[lv];omega
theorem IP:∀{l:List Int},Lm l->lv l<bp l.length
 | [],_=>by simp [lv,bp]
 |a::l,h=>by
  have h1:=IP (uD.mp h).2
  have h2:=(uD.mp h).1
  simp only[lv,List.length_cons,bp]
  omega
theorem CO:∀(l m:List Int),lv (l++m)=lv l+(bp l.length:Int)*lv m
 | [],m=>by simp [lv,bp]
 |a::l,m=>by
  simp only[List.cons_append,lv,List.length_cons,bp,Int.natCast_mul]
  rw[CO l m,Int.mul_add,Int.mul_assoc]
  omega
theorem Az:∀n:Nat,lv (List.replicate n 0)=0
 |0=>rfl
 |n+1=>by rw[List.replicate_succ,lv,Az n];rfl
theorem CP(n:Nat):Lm (List.replicate n 0):=by
 intro x hx;rw[(List.mem_replicate.mp hx).2];omega
theorem O4:∀{l:List Int},Lm l->(∀h:l≠[],l.getLast h≠0)->dg (lv l).toNat=l
 | [],_,_=>by simp only[lv];exact pI
 |a::l,h,hl=>by
  have h1:=uD.mp h
  have h0:=yI h1.2
  have ih:l≠[]->dg (lv l).toNat=l:=λhne=>O4 h1.2 (λhh=>by
   have:=hl (by simp)
   rwa [List.getLast_cons hh] at this)
  by_cases hne:l=[]
  ·subst hne
   have ha:=hl (by simp)
   simp only[List.getLast_singleton] at ha
   simp only[lv]
   rw[yO (by omega),show(a+4294967296*0).toNat / 4294967296=0 by omega,pI]
   congr 1
   omega
  ·have ih:=ih hne
   have hpos:lv l≠0:=by
    intro e
    rw[e] at ih
    rw[show(0:Int).toNat=0 from rfl,pI] at ih
    exact hne ih.symm
   simp only[lv]
   rw[yO (by omega),show(a+4294967296*lv l).toNat / 4294967296=(lv l).toNat by omega,ih]
   congr 1
   omega
theorem WY:∀(n:Nat) (h:dg n≠[]),(dg n).getLast h≠0:=by
 intro n
 induction n using Nat.strongRecOn with
 |_ n ih=>
  intro h
  by_cases h0:n=0
  ·subst h0;exact absurd pI h
  ·have e:=yO h0
   by_cases hd:n / 4294967296=0
   ·rw[hd,pI] at e
    simp only[e,List.getLast_singleton]
    omega
   ·have hne:dg (n / 4294967296)≠[]:=by rw[yO hd];simp
    have:=ih (n / 4294967296) (by omega) hne
    simp only[e]
    rw[List.getLast_cons hne]
    exact this
theorem nO{n m:Nat}(h:n<bp m):(dg n).length<=m:=by
 induction m generalizing n with
 |zero=>
  have:n=0:=by simp only[bp] at h;omega
  subst this;rw[pI];simp
 |succ m ih=>
  by_cases h0:n=0
  ·subst h0;rw[pI];simp
  ·rw[yO h0,List.length_cons]
   have:=ih (n:=n / 4294967296) (by simp only[bp] at h;omega)
   omega
theorem tC(n:Nat):n<bp (dg n).length:=by
 have h:=IP (kS n)
 rw[lG] at h
 omega
theorem zy{n:Nat}:(dg n).length=0↔n=0:=by
 constructor
 ·intro h
  by_cases h0:n=0
  ·exact h0
  ·rw[yO h0] at h;simp at h
 ·intro h;subst h;rw[pI];rfl
theorem qm{m n:Nat}(h:m<=n):(dg m).length<=(dg n).length:=nO (Nat.lt_of_le_of_lt h (tC n))
theorem Gq{n:Nat}(h0:n≠0)(h:n<4294967296):dg n=[(n:Int)]:=by
 rw[yO h0,show n / 4294967296=0 by omega,pI,show n % 4294967296=n by omega]
theorem vO:dg 1=[1]:=Gq (by decide) (by decide)
theorem wS{l:List Int}(h:Lm l){m:Nat}(hm:l.length<=m):(lv l).toNat<bp m:=by
 have h1:=IP h
 have h2:=wY hm
 have h3:=yI h
 omega
theorem nU{l:List Int}{i:Nat}(h:i<l.length):rd l (i:Int)=l[i]:=by
 unfold rd
 simp [List.getD_eq_getElem?_getD,h]
theorem xM{l:List Int}{i:Nat}(h:l.length<=i):rd l (i:Int)=0:=by
 unfold rd
 simp [List.getD_eq_getElem?_getD,h]
theorem qy{l:List Int}(hl:Lm l)(i:Int):0<=rd l i/\rd l i<4294967296:=by
 unfold rd
 rw[List.getD_eq_getElem?_getD]
 by_cases h:i.toNat<l.length
 ·rw[List.getElem?_eq_getElem h]
  exact hl _ (List.getElem_mem h)
 ·rw[List.getElem?_eq_none (by omega)];simp
theorem FC{l:List Int}{i:Nat}(h:i<l.length):l.take (i+1)=l.take i++[rd l (i:Int)]:=by
 rw[List.take_succ_eq_append_getElem h,nU h]
theorem xq{l:List Int}{i:Nat}(h:i<l.length):lv (l.take (i+1))=lv (l.take i)+(bp i:Int)*rd l (i:Int):=by
 rw[FC h,CO,List.length_take,Nat.min_eq_left (by omega)]
 simp [lv]
theorem xQ:∀{l:List Int} {i:Nat} (v:Int),i<l.length->lv (l.set i v)=lv l+(bp i:Int)*(v-rd l (i:Int))
 | [],i,v,h=>by simp at h
 |a::l,0,v,_=>by
  rw[show((0:Nat):Int)=((0:Nat):Int) from rfl,nU (by simp)]
  simp only[List.set_cons_zero,lv,List.getElem_cons_zero,bp];omega
 |a::l,i+1,v,h=>by
  have h':i<l.length:=by simpa using h
  have ih:=xQ v h'
  rw[nU h'] at ih
  rw[nU h]
  simp only[List.set_cons_succ,lv,List.getElem_cons_succ,bp,Int.natCast_mul]
  rw[ih,Int.mul_add,Int.mul_assoc]
  omega
theorem yJ{l:List Int}{i:Nat}{v:Int}(h:Lm l)(h0:0<=v)(h1:v<4294967296):Lm (l.set i v):=by
 intro x hx
 rcases List.mem_or_eq_of_mem_set hx with e|e
 ·exact h x e
 ·subst e;exact⟨h0,h1⟩
theorem wR{l:List Int}{i:Nat}(v:Int)(h:i<l.length):rd (l.set i v) (i:Int)=v:=by
 rw[nU (by simpa using h)];simp
theorem pR{l:List Int}{i j:Nat}(v:Int)(h:i≠j):rd (l.set i v) (j:Int)=rd l (j:Int):=by
 unfold rd
 simp [List.getD_eq_getElem?_getD,h]
theorem IV{l:List Int}(h:Lm l)(n:Nat):Lm (l.take n):=λx hx=>h x (List.mem_of_mem_take hx)
theorem F9{l m:List Int}(h1:Lm l)(h2:Lm m):Lm (l++m):=by
 intro x hx
 rcases List.mem_append.mp hx with e|e
 ·exact h1 x e
 ·exact h2 x e
theorem Gp{l:List Int}(h:Lm l){n:Nat}(hn:n<=l.length)(hz:∀i:Nat,n<=i->i<l.length->rd l (i:Int)=0)(hl:n=0\/rd l ((n-1:Nat):Int)≠0):
 l.take n=dg (lv l).toNat:=by
 have hv:lv l=lv (l.take n):=by
  have:∀m:Nat,n+m<=l.length->lv (l.take (n+m))=lv (l.take n):=by
   intro m
   induction m with
   |zero=>intro _;rfl
   |succ m ih=>
    intro hm
    rw[<-Nat.add_assoc,xq (by omega),hz (n+m) (by omega) (by omega),ih (by omega)];simp
  have:=this (l.length-n) (by omega)
  rw[show n+(l.length-n)=l.length by omega,List.take_of_length_le (Nat.le_refl _)] at this
  exact this
 rw[hv]
 symm
 refine O4 (IV h n) (λhne=>?_)
 rcases hl with e|e
 ·subst e;simp at hne
 ·rw[List.getLast_eq_getElem]
  simp only[List.length_take,Nat.min_eq_left hn]
  have hp:n≠0:=by intro e0;subst e0;simp at hne
  rw[List.getElem_take]
  rw[nU (by omega)] at e
  exact e
theorem rG:lv []=0:=rfl
theorem zo(a:Int)(l:List Int):lv (a::l)=a+4294967296*lv l:=rfl
theorem tX:bp 0=1:=rfl
theorem mY(n:Nat):bp (n+1)=4294967296*bp n:=rfl
attribute [irreducible] lv bp
end Mw
end
section
set_option linter.unusedVariables false
set_option linter.unusedSimpArgs false
namespace Mw
open Go Go.RowKit Go.Proofs.YtifkbghnmhineaaW.lJ Go.Proofs.YtifkbghnmhineaaW.rO Go.Proofs.YtifkbghnmhineaaW.uO Go.Proofs.Ytifkbghnmhineaa.qc
theorem SI{l:List Int}(hl:Lm l)(hlen:l.length<1099511627776):∀n:Nat,n<=l.length->(∀i:Nat,n<=i->i<l.length->rd l (i:Int)=0)->
 Ev (λk=>jX.l0 k l (n:Int)) (dg (lv l).toNat):=by
 intro n
 induction n with
 |zero=>
  intro hn hz
  refine Ev.succ ?_
  simp only[jX.l0,if_neg (show ¬((0:Nat):Int)>0 by omega),if_pos (show(0:Int)<=((0:Nat):Int) by omega),if_pos (show((0:Nat):Int)<=(l.length:Int) by omega)]
  refine Ev.cast (Ev.some _) ?_
  rw[show(((0:Nat):Int)).toNat=0 from rfl]
  exact Gp hl hn hz (.inl rfl)
 |succ n ih=>
  intro hn hz
  refine Ev.succ ?_
  have e:wrap64 (((n+1:Nat):Int)-1)=(n:Int):=by rw[lD (by omega) (by omega)];omega
  by_cases h:rd l (n:Int)=0
  ·simp only[jX.l0,e,if_pos (show((n+1:Nat):Int)>0 by omega),if_pos (show(0:Int)<=(n:Int) by omega),if_pos (show(n:Int)<(l.length:Int) by omega),if_pos h]
   exact ih (by omega) (λi h1 h2=>by
    by_cases e2:i=n
    ·subst e2;exact h
    ·exact hz i (by omega) h2)
  ·simp only[jX.l0,e,if_pos (show((n+1:Nat):Int)>0 by omega),if_pos (show(0:Int)<=(n:Int) by omega),if_pos (show(n:Int)<(l.length:Int) by omega),if_neg h,if_pos (show(0:Int)<=((n+1:Nat):Int) by omega),if_pos (show((n+1:Nat):Int)<=(l.length:Int) by omega)]
   refine Ev.cast (Ev.some _) ?_
   rw[show(((n+1:Nat):Int)).toNat=n+1 by omega]
   exact Gp hl hn hz (.inr h)
theorem vI{l:List Int}(hl:Lm l)(hlen:l.length<1099511627776):Ev (λk=>jX.f k l) (dg (lv l).toNat):=by
 simp only[jX.f]
 exact SI hl hlen l.length (Nat.le_refl _) (λi h1 h2=>by omega)
theorem O5{l:List Int}(hl:Lm l):(dg (lv l).toNat).length<=l.length:=nO (wS hl (Nat.le_refl _))
theorem BR{l:List Int}(hl:Lm l)(hlen:l.length<1099511627776):Ev (λk=>pU.f k l) (dg (lv l).toNat):=by
 simp only[pU.f]
 refine Ev.bind (vI hl hlen) ?_
 have:=O5 hl
 simp only[List.length_nil,List.nil_append,if_pos (show 0+(dg (lv l).toNat).length<35184372088832 by omega)]
 exact Ev.some _
theorem FY{n:Nat}(hn:n<18446744073709551616):Ev (λk=>uZ.f k (n:Int)) (dg n):=by
 simp only[uZ.f]
 have hl:Lm [(n:Int) % 4294967296,((n:Int) / 4294967296) % 4294967296]:=by
  rw[uD,uD]
  exact⟨by omega,by omega,wU⟩
 refine Ev.bind (BR hl (by simp)) ?_
 refine Ev.cast (Ev.some _) ?_
 congr 1
 simp only[zo,rG]
 omega
theorem UE{a b:List Int}(ha:Lm a)(hb:Lm b)(hab:b.length<=a.length)(hlen:a.length<549755813888):∀(d:Nat) (i:Nat) (o:List Int) (c:Int),i+d=a.length->o.length=a.length+1->Lm o->
 0<=c->c<=1->(∀j:Nat,i<=j->rd o (j:Int)=0)->dw (lv o+(bp i:Int)*c=lv (a.take i)+lv (b.take i))->
 Ev (λk=>oV.l0 k a b o c (a.length:Int) (i:Int)) (dg (lv a+lv b).toNat):=by
 intro d
 induction d with
 |zero=>
  intro i o c hi ho hol hc0 hc1 hz hv
  have hi:i=a.length:=by omega
  subst hi
  refine Ev.succ ?_
  simp only[oV.l0,if_neg (show ¬((a.length:Nat):Int)<(a.length:Int) by omega),if_pos (show(0:Int)<=(a.length:Int) by omega),if_pos (show(a.length:Int)<(o.length:Int) by omega)]
  have hs:Lm (o.set ((a.length:Int):Int).toNat (c % 4294967296)):=yJ hol (by omega) (by omega)
  refine Ev.bind (vI hs (by rw[List.length_set];omega)) ?_
  refine Ev.cast (Ev.some _) ?_
  congr 2
  rw[Int.toNat_natCast,xQ _ (by omega),hz _ (Nat.le_refl _),show c % 4294967296=c by omega,Int.sub_zero,hv.out,List.take_of_length_le (Nat.le_refl _),List.take_of_length_le hab]
 |succ d ih=>
  intro i o c hi ho hol hc0 hc1 hz hv
  have hia:i<a.length:=by omega
  refine Ev.succ ?_
  have ra:=qy ha (i:Int)
  have rb:=qy hb (i:Int)
  have e1:wrap64 ((i:Int)+1)=((i+1:Nat):Int):=by rw[lD (by omega) (by omega)];omega
  have step:∀s:Int,0<=s->s<=8589934591->s=rd a (i:Int)+c+rd b (i:Int)->
   Ev (λk=>oV.l0 k a b (o.set ((i:Int)).toNat (s % 4294967296)) (s / 4294967296) (a.length:Int) ((i+1:Nat):Int)) (dg (lv a+lv b).toNat):=by
   intro s hs0 hs1 hs
   refine ih (i+1) _ _ (by omega) (by rw[List.length_set];exact ho) (yJ hol (by omega) (by omega)) (by omega) (by omega) (λj hj=>?_) ?_
   ·rw[Int.toNat_natCast,pR _ (by omega)];exact hz j (by omega)
   ·refine⟨?_⟩
    rw[Int.toNat_natCast,xQ _ (by omega),hz i (Nat.le_refl _),xq hia]
    have hbt:lv (b.take (i+1))=lv (b.take i)+(bp i:Int)*rd b (i:Int):=by
     by_cases hib:i<b.length
     ·exact xq hib
     ·rw[xM (by omega),List.take_of_length_le (by omega),List.take_of_length_le (by omega)];simp
    rw[hbt]
    have hdiv:s % 4294967296+4294967296*(s / 4294967296)=rd a (i:Int)+c+rd b (i:Int):=by omega
    have hm:=congrArg (λz=>(bp i:Int)*z) hdiv
    simp only[Int.mul_add] at hm
    rw[Int.mul_left_comm] at hm
    rw[Int.sub_zero,mY,Int.natCast_mul,Int.mul_assoc]
    have hv:=hv.out
    clear ih hz hdiv hs hs0 hs1 ra rb e1 hc0 hc1
    omega
  by_cases hib:i<b.length
  ·have e2:IntKind.u64.wrap (IntKind.u64.wrap (IntKind.u64.wrap (rd a (i:Int))+c)+IntKind.u64.wrap (rd b (i:Int)))=rd a (i:Int)+c+rd b (i:Int):=by
    rw[lh ra.1 (by omega),lh rb.1 (by omega),lh (x:=rd a (i:Int)+c) (by omega) (by omega),lh (x:=rd a (i:Int)+c+rd b (i:Int)) (by omega) (by omega)]
   simp only[oV.l0,e1,e2,if_pos (show(i:Int)<(a.length:Int) by omega),if_pos (show(0:Int)<=(i:Int) by omega),if_pos (show(i:Int)<(b.length:Int) by omega),if_pos (show(i:Int)<(o.length:Int) by omega)]
   exact step (rd a (i:Int)+c+rd b (i:Int)) (by omega) (by omega) rfl
  ·have e2:IntKind.u64.wrap (IntKind.u64.wrap (rd a (i:Int))+c)=rd a (i:Int)+c:=by
    rw[lh ra.1 (by omega),lh (x:=rd a (i:Int)+c) (by omega) (by omega)]
   simp only[oV.l0,e1,e2,if_pos (show(i:Int)<(a.length:Int) by omega),if_pos (show(0:Int)<=(i:Int) by omega),if_neg (show ¬(i:Int)<(b.length:Int) by omega),if_pos (show(i:Int)<(o.length:Int) by omega)]
   exact step (rd a (i:Int)+c) (by omega) (by omega) (by rw[xM (l:=b) (by omega)];omega)
theorem M_{a b:List Int}(ha:Lm a)(hb:Lm b)(hab:b.length<=a.length)(hlen:a.length<549755813888):Ev (λk=>oV.j0 k a b) (dg (lv a+lv b).toNat):=by
 refine Ev.succ ?_
 have e1:wrap64 ((a.length:Int)+1)=((a.length+1:Nat):Int):=by rw[lD (by omega) (by omega)];omega
 simp only[oV.j0,e1,Int.toNat_natCast,if_pos (show(0:Int)<=((a.length+1:Nat):Int) by omega),if_pos (show a.length+1<=70368744177664 by omega)]
 exact UE ha hb hab hlen a.length 0 _ 0 (by omega) (by simp) (CP _) (by omega) (by omega) (λj _=>by
  by_cases h:j<a.length+1
  ·rw[nU (by simpa using h)];simp
  ·exact xM (by simp;omega)) ⟨by rw[Az];simp [rG]⟩
theorem UF{a b:List Int}(ha:Lm a)(hb:Lm b)(h1:a.length<549755813888)(h2:b.length<549755813888):Ev (λk=>oV.f k a b) (dg (lv a+lv b).toNat):=by
 simp only[oV.f]
 by_cases h:(a.length:Int)<(b.length:Int)
 ·simp only[if_pos h]
  rw[Int.add_comm]
  exact M_ hb ha (by omega) h2
 ·simp only[if_neg h]
  exact M_ ha hb (by omega) h1
def nD:List (List Int)->Int
 | []=>0
 |a::l=>lv a+nD l
def JR(l:List (List Int)):Prop:=∀x∈l,Lm x/\x.length<1073741824
theorem Cb{l:List (List Int)}{i:Nat}(h:i<l.length):kD l (i:Int)=l[i]:=by
 unfold kD
 simp [List.getD_eq_getElem?_getD,h]
theorem F7{l:List (List Int)}{i:Nat}(h:i<l.length):nD (l.take (i+1))=nD (l.take i)+lv l[i]:=by
 have app:∀(a b:List (List Int)),nD (a++b)=nD a+nD b:=by
  intro a
  induction a with
  |nil=>intro b;simp [nD]
  |cons x a ih=>intro b;simp only[List.cons_append,nD];rw[ih];omega
 rw[List.take_succ_eq_append_getElem h,app]
 simp [nD]
theorem F6{x:Int}(h:0<=x):lv (dg x.toNat)=x:=by rw[lG];omega
theorem X9{l:List (List Int)}(hl:JR l)(hlen:l.length<1073741824):∀(d i:Nat) (s:List Int),i+d=l.length->Lm s->s.length<=1073741824+i->lv s=nD (l.take i)->
 Ev (λk=>rY.l0 k s l (l.length:Int) (i:Int)) (dg (nD l).toNat):=by
 intro d
 induction d with
 |zero=>
  intro i s hi hs hsl hv
  have hi:i=l.length:=by omega
  subst hi
  refine Ev.succ ?_
  simp only[rY.l0,if_neg (show ¬((l.length:Nat):Int)<(l.length:Int) by omega)]
  refine Ev.bind (BR hs (by omega)) ?_
  refine Ev.cast (Ev.some _) ?_
  rw[hv,List.take_of_length_le (Nat.le_refl _)]
 |succ d ih=>
  intro i s hi hs hsl hv
  have hil:i<l.length:=by omega
  have hx:=hl l[i] (List.getElem_mem hil)
  refine Ev.succ ?_
  have e1:wrap64 ((i:Int)+1)=((i+1:Nat):Int):=by rw[lD (by omega) (by omega)];omega
  simp only[rY.l0,e1,Cb hil,if_pos (show(i:Int)<(l.length:Int) by omega),if_pos (show(0:Int)<=(i:Int) by omega)]
  refine Ev.bind (vI hx.1 (by omega)) ?_
  have h2:=O5 hx.1
  refine Ev.bind (UF hs (kS _) (by omega) (by omega)) ?_
  have h3:0<=lv s:=yI hs
  have h4:0<=lv l[i]:=yI hx.1
  refine ih (i+1) _ (by omega) (kS _) ?_ ?_
  ·rw[F6 h4]
   have h5:=wS hs hsl
   have h6:=wS hx.1 (m:=1073741824+i) (by omega)
   refine nO ?_
   rw[show 1073741824+(i+1)=(1073741824+i)+1 by omega,mY]
   generalize bp (1073741824+i)=p at*
   omega
  ·rw[F6 h4,F6 (by omega),hv,F7 hil]
theorem P9{l:List (List Int)}(hl:JR l)(hlen:l.length<1073741824):Ev (λk=>rY.f k l) (dg (nD l).toNat):=by
 simp only[rY.f]
 exact X9 hl hlen l.length 0 [] (by omega) wU (by simp) (by simp [rG,nD])
theorem Ya{a b:Nat}(ha:(dg a).length<1073741824)(hb:(dg b).length<1073741824):Ev (λk=>rY.f k [dg a,dg b]) (dg (a+b)):=by
 refine Ev.cast (P9 (l:=[dg a,dg b]) (λx hx=>?_) (by simp)) ?_
 ·rcases List.mem_cons.mp hx with e|e
  ·exact e ▸ ⟨kS a,ha⟩
  ·rw[List.mem_singleton.mp e];exact⟨kS b,hb⟩
 ·congr 1
  simp only[nD,lG]
  omega
theorem vX(n:Nat)(j:Nat):rd (List.replicate n 0) (j:Int)=0:=by
 by_cases h:j<n
 ·rw[nU (by simpa using h)];simp
 ·exact xM (by simp;omega)
theorem IL{x y z c:Int}(hx0:0<=x)(hx1:x<4294967296)(hy0:0<=y)(hy1:y<4294967296)(hz0:0<=z)(hz1:z<4294967296)(hc0:0<=c)(hc1:c<4294967296):
 0<=x*y/\x*y+z+c<18446744073709551616:=by
 have hp0:0<=x*y:=Int.mul_nonneg hx0 hy0
 have hp1:x*y<=4294967295*4294967295:=Int.mul_le_mul (by omega) (by omega) hy0 (by decide)
 generalize x*y=p at*
 omega
theorem NV{x y z c:Int}(hx0:0<=x)(hx1:x<4294967296)(hy0:0<=y)(hy1:y<4294967296)(hz0:0<=z)(hz1:z<4294967296)(hc0:0<=c)(hc1:c<4294967296):
 IntKind.u64.wrap (IntKind.u64.wrap (IntKind.u64.wrap (IntKind.u64.wrap x*IntKind.u64.wrap y)+IntKind.u64.wrap z)+c)=x*y+z+c:=by
 have hb:=IL hx0 hx1 hy0 hy1 hz0 hz1 hc0 hc1
 rw[lh (x:=x) (by omega) (by omega),lh (x:=y) (by omega) (by omega),lh (x:=z) (by omega) (by omega)]
 generalize x*y=p at*
 rw[lh (x:=p) (by omega) (by omega),lh (x:=p+z) (by omega) (by omega),lh (x:=p+z+c) (by omega) (by omega)]
theorem D7(s:Int):s % 4294967296+4294967296*(s / 4294967296)=s:=by omega
theorem Jq{s:Int}(h0:0<=s)(h1:s<18446744073709551616):0<=s % 4294967296/\s % 4294967296<4294967296/\0<=s / 4294967296/\s / 4294967296<4294967296:=by omega
theorem Ro{x:Int}{b IX:List Int}(hx0:0<=x)(hx1:x<4294967296)(hb:Lm b)(hbl:b.length<536870912)(x19:Int)(i L:Nat)(hL:i+b.length+1<=L)(hL2:L<1073741824)(V:Int)(R:List Int)
 (next:∀o:List Int,o.length=L->Lm o->(∀j:Nat,i+1+b.length<=j->rd o (j:Int)=0)->dw (lv o=V+(bp i:Int)*(x*lv b))->Ev (λk=>mG.l0 k b o IX x19 ((i+1:Nat):Int)) R):
 ∀(d j:Nat) (o:List Int) (c:Int),j+d=b.length->o.length=L->Lm o->0<=c->c<4294967296->(∀m:Nat,i+b.length<=m->rd o (m:Int)=0)->
  dw (lv o+(bp (i+j):Int)*c=V+(bp i:Int)*(x*lv (b.take j)))->
  Ev (λk=>mG.l1 k b o (i:Int) x c IX x19 (i:Int) b (b.length:Int) (j:Int)) R:=by
 intro d
 induction d with
 |zero=>
  intro j o c hj ho hol hc0 hc1 hz hv
  have hj:j=b.length:=by omega
  subst hj
  refine Ev.succ ?_
  simp only[mG.l1,wn (show(i:Int)+(b.length:Int)=((i+b.length:Nat):Int) by omega) (by omega),wn (show(i:Int)+1=((i+1:Nat):Int) by omega) (by omega),if_neg (show ¬((b.length:Nat):Int)<(b.length:Int) by omega),if_pos (show(0:Int)<=((i+b.length:Nat):Int) by omega),if_pos (show((i+b.length:Nat):Int)<(o.length:Int) by omega)]
  rw[Int.toNat_natCast,show c % 4294967296=c by omega]
  refine next _ (by rw[List.length_set];omega) (yJ hol hc0 hc1) (λm hm=>?_) ⟨?_⟩
  ·rw[pR _ (by omega)];exact hz m (by omega)
  ·rw[xQ _ (by omega),hz _ (Nat.le_refl _),Int.sub_zero,hv.out,List.take_of_length_le (Nat.le_refl _)]
 |succ d ih=>
  intro j o c hj ho hol hc0 hc1 hz hv
  have hjb:j<b.length:=by omega
  refine Ev.succ ?_
  have rb:=qy hb (j:Int)
  have ro:=qy hol ((i+j:Nat):Int)
  simp only[mG.l1,wn (show(i:Int)+(j:Int)=((i+j:Nat):Int) by omega) (by omega),wn (show(j:Int)+1=((j+1:Nat):Int) by omega) (by omega),if_pos (show(j:Int)<(b.length:Int) by omega),if_pos (show(0:Int)<=(j:Int) by omega),if_pos (show(0:Int)<=((i+j:Nat):Int) by omega),if_pos (show((i+j:Nat):Int)<(o.length:Int) by omega),NV hx0 hx1 rb.1 rb.2 ro.1 ro.2 hc0 hc1]
  have hb2:=IL hx0 hx1 rb.1 rb.2 ro.1 ro.2 hc0 hc1
  have hdef:∃s,s=x*rd b (j:Int)+rd o ((i+j:Nat):Int)+c:=⟨_,rfl⟩
  obtain⟨s,hs⟩:=hdef
  have hs0:0<=s:=by rw[hs];exact Int.add_nonneg (Int.add_nonneg hb2.1 ro.1) hc0
  have hs1:s<18446744073709551616:=by rw[hs];exact hb2.2
  have hd:=Jq hs0 hs1
  clear hb2
  rw[<-hs]
  rw[Int.toNat_natCast]
  have hs:=dw.mk hs
  refine ih (j+1) _ _ (by omega) (by rw[List.length_set];omega) (yJ hol hd.1 hd.2.1) hd.2.2.1 hd.2.2.2 (λm hm=>?_) ⟨?_⟩
  ·rw[pR _ (by omega)];exact hz m hm
  ·rw[xQ _ (by omega),xq hjb,<-Nat.add_assoc,mY,Int.natCast_mul]
   have hdiv:s % 4294967296+4294967296*(s / 4294967296)=x*rd b (j:Int)+rd o ((i+j:Nat):Int)+c:=by rw[D7];exact hs.out
   have hv:=hv.out
   have hbp:((bp (i+j):Nat):Int)=(bp i:Int)*(bp j:Int):=by rw[Bi,Int.natCast_mul]
   clear ih hz next hs hs0 hs1 hd rb ro hc0 hc1
   generalize s % 4294967296=y at*
   generalize s / 4294967296=u at*
   generalize (bp (i+j):Int)=p at*
   generalize (bp i:Int)=pi at*
   generalize (bp j:Int)=pj at*
   generalize rd b (j:Int)=rb at*
   generalize rd o ((i+j:Nat):Int)=ro at*
   generalize lv o=lo at*
   generalize lv (b.take j)=lt at*
   subst hbp
   have h1:lo+pi*pj*c=V+pi*(x*lt):=hv
   have h2:y+4294967296*u=x*rb+ro+c:=hdiv
   show lo+pi*pj*(y-ro)+4294967296*(pi*pj)*u=V+pi*(x*(lt+pj*rb))
   have h3:pi*pj*(y+4294967296*u)=pi*pj*(x*rb+ro+c):=by rw[h2]
   grind
theorem Rn{b l:List Int}(hb:Lm b)(hl:Lm l)(hbl:b.length<268435456)(hll:l.length<268435456):∀(d i:Nat) (o:List Int),i+d=l.length->o.length=l.length+b.length->Lm o->(∀m:Nat,i+b.length<=m->rd o (m:Int)=0)->
 dw (lv o=lv (l.take i)*lv b)->Ev (λk=>mG.l0 k b o l (l.length:Int) (i:Int)) (dg (lv l*lv b).toNat):=by
 intro d
 induction d with
 |zero=>
  intro i o hi ho hol hz hv
  have hi:i=l.length:=by omega
  subst hi
  refine Ev.succ ?_
  simp only[mG.l0,if_neg (show ¬((l.length:Nat):Int)<(l.length:Int) by omega)]
  refine Ev.bind (vI hol (by omega)) ?_
  refine Ev.cast (Ev.some _) ?_
  rw[hv.out,List.take_of_length_le (Nat.le_refl _)]
 |succ d ih=>
  intro i o hi ho hol hz hv
  have hil:i<l.length:=by omega
  refine Ev.succ ?_
  have rl:=qy hl (i:Int)
  simp only[mG.l0,if_pos (show(i:Int)<(l.length:Int) by omega),if_pos (show(0:Int)<=(i:Int) by omega)]
  refine Ro (IX:=l) rl.1 rl.2 hb (by omega) (l.length:Int) i (l.length+b.length) (by omega) (by omega) (lv (l.take i)*lv b) _ (λo2 h1 h2 h3 h4=>?_) b.length 0 o 0 (by omega) ho hol (by omega) (by omega) hz ⟨?_⟩
  ·refine ih (i+1) o2 (by omega) h1 h2 (λm hm=>h3 m hm) ⟨?_⟩
   rw[h4.out,xq hil,Int.add_mul,Int.mul_assoc]
  ·rw[hv.out];simp [rG]
theorem FB{a b:List Int}(ha:Lm a)(hb:Lm b)(h1:a.length<268435456)(h2:b.length<268435456):Ev (λk=>mG.f k a b) (dg (lv a*lv b).toNat):=by
 simp only[mG.f]
 simp only[wn (show(a.length:Int)+(b.length:Int)=((a.length+b.length:Nat):Int) by omega) (by omega),Int.toNat_natCast,if_pos (show(0:Int)<=((a.length+b.length:Nat):Int) by omega),if_pos (show a.length+b.length<=70368744177664 by omega)]
 exact Rn hb ha h2 h1 a.length 0 _ (by omega) (by simp) (CP _) (λm _=>vX _ m) ⟨by rw[Az];simp [rG]⟩
theorem NJ{a b:Nat}(ha:(dg a).length<134217728)(hb:(dg b).length<134217728):Ev (λk=>sW.f k [dg a,dg b]) (dg (a*b)):=by
 simp only[sW.f]
 have rF:∀x y:Nat,(dg (x*y)).length<=(dg x).length+(dg y).length:=by
  intro x y
  refine nO ?_
  rw[Bi]
  exact Nat.mul_lt_mul'' (tC x) (tC y)
 have one:lv [1]=1:=by rw[zo,rG];rfl
 have l1:Lm [1]:=by rw[uD];exact⟨by omega,wU⟩
 refine Ev.succ ?_
 simp only[sW.l0,List.length_cons,List.length_nil,lD (x:=(0:Int)+1) (by omega) (by omega)]
 rw[show((0+1+1:Nat):Int)=2 from rfl]
 simp only[if_pos (show(0:Int)<2 by omega),if_pos (show(0:Int)<=0 by omega)]
 rw[show kD [dg a,dg b] 0=dg a from rfl]
 refine Ev.bind (vI (kS a) (by omega)) ?_
 rw[lG,Int.toNat_natCast]
 refine Ev.bind (FB l1 (kS a) (by simp) (by omega)) ?_
 rw[one,lG,Int.one_mul,Int.toNat_natCast]
 refine Ev.succ ?_
 rw[show(0:Int)+1=1 from rfl]
 simp only[sW.l0,List.length_cons,List.length_nil,lD (x:=(1:Int)+1) (by omega) (by omega)]
 rw[show((0+1+1:Nat):Int)=2 from rfl]
 simp only[if_pos (show(1:Int)<2 by omega),if_pos (show(0:Int)<=1 by omega)]
 rw[show kD [dg a,dg b] 1=dg b from rfl]
 refine Ev.bind (vI (kS b) (by omega)) ?_
 rw[lG,Int.toNat_natCast]
 refine Ev.bind (FB (kS a) (kS b) (by omega) (by omega)) ?_
 rw[lG,lG,<-Int.natCast_mul,Int.toNat_natCast]
 rw[show(1:Int)+1=2 from rfl]
 refine Ev.succ ?_
 simp only[sW.l0,if_neg (show ¬(2:Int)<2 by omega)]
 have:=rF a b
 refine Ev.bind (BR (kS (a*b)) (by omega)) ?_
 rw[lG,Int.toNat_natCast]
 exact Ev.some _
theorem wraps_u64(n:Int)(h0:0<=n)(h1:n<2^64):IntKind.u64.wrap n=n:=lh h0 (by omega)
theorem VF{x y:Int}(hx0:0<=x)(hx1:x<4294967296)(hy0:0<=y)(hy1:y<4294967296):Go.bits .or .u64 (IntKind.u64.wrap (x*4294967296)) (IntKind.u64.wrap y)=x*4294967296+y:=by
 rw[lh (x:=x*4294967296) (by omega) (by omega),lh (x:=y) (by omega) (by omega)]
 exact bits_join .u64 64 (by decide) wraps_u64 32 _ _ (by omega) (by omega) (by omega) hy0 (by omega) (by omega)
theorem OZ{r b y:Int}(hr0:0<=r)(hrb:r<b)(hb:b<4294967296)(hy0:0<=y)(hy1:y<4294967296):
 0<=(r*4294967296+y) / b/\(r*4294967296+y) / b<4294967296/\0<=(r*4294967296+y) % b/\(r*4294967296+y) % b<b:=by
 have hbp:0<b:=by omega
 refine⟨Int.ediv_nonneg (by omega) (by omega),?_,Int.emod_nonneg _ (by omega),Int.emod_lt_of_pos _ hbp⟩
 refine Int.ediv_lt_of_lt_mul hbp ?_
 have:(r+1)*4294967296<=b*4294967296:=by omega
 omega
theorem WW{a:List Int}{b:Int}(ha:Lm a)(hb0:0<b)(hb1:b<4294967296)(hlen:a.length<1073741824):∀(n:Nat) (o:List Int) (r:Int),n<=a.length->o.length=a.length->Lm o->(∀j:Nat,j<n->rd o (j:Int)=0)->0<=r->r<b->
 dw (lv o*b+(bp n:Int)*r=lv a-lv (a.take n))->Ev (λk=>sV.l0 k a b o r ((n:Int)-1)) (dg (lv a / b).toNat,lv a % b):=by
 intro n
 induction n with
 |zero=>
  intro o r hn ho hol hz hr0 hr1 hv
  refine Ev.succ ?_
  simp only[sV.l0,if_neg (show ¬((0:Nat):Int)-1>=0 by omega)]
  refine Ev.bind (vI hol (by omega)) ?_
  refine Ev.cast (Ev.some _) ?_
  have hv:=hv.out
  rw[List.take_zero,rG,tX] at hv
  have e:lv a=b*lv o+r:=by rw[Int.mul_comm];omega
  have h1:lv a / b=lv o:=by
   rw[e,Int.add_comm,Int.add_mul_ediv_left _ _ (by omega),Int.ediv_eq_zero_of_lt hr0 hr1];omega
  have h2:lv a % b=r:=by
   rw[e,Int.add_comm,Int.add_mul_emod_self_left,Int.emod_eq_of_lt hr0 hr1]
  rw[h1,h2]
  clear hv e h1 h2
  congr 1
  omega
 |succ n ih=>
  intro o r hn ho hol hz hr0 hr1 hv
  refine Ev.succ ?_
  have ra:=qy ha (n:Int)
  have hd:=OZ hr0 hr1 hb1 ra.1 ra.2
  have hdiv:b*((r*4294967296+rd a (n:Int)) / b)+(r*4294967296+rd a (n:Int)) % b=r*4294967296+rd a (n:Int):=Int.mul_ediv_add_emod _ _
  have t0:0<=r*4294967296+rd a (n:Int):=by omega
  simp only[sV.l0,show((n+1:Nat):Int)-1=(n:Int) from by omega,if_pos (show(n:Int)>=0 by omega),if_pos (show(0:Int)<=(n:Int) by omega),if_pos (show(n:Int)<(a.length:Int) by omega),if_pos (show(n:Int)<(o.length:Int) by omega),if_neg (show ¬b=0 by omega),
   VF hr0 (by omega) ra.1 ra.2,lD (x:=(n:Int)-1) (by omega) (by omega),lh (x:=b) (by omega) (by omega)]
  rw[Int.tdiv_eq_ediv_of_nonneg t0,Int.tmod_eq_emod_of_nonneg t0]
  generalize (r*4294967296+rd a (n:Int)) / b=q at*
  generalize (r*4294967296+rd a (n:Int)) % b=s at*
  rw[lh (x:=q) hd.1 (by omega),show q % 4294967296=q by omega,Int.toNat_natCast]
  refine ih _ _ (by omega) (by rw[List.length_set];exact ho) (yJ hol hd.1 hd.2.1) (λj hj=>?_) hd.2.2.1 hd.2.2.2 ⟨?_⟩
  ·rw[pR _ (by omega)];exact hz j (by omega)
  ·have hv:=hv.out
   rw[xq (l:=a) (i:=n) (by omega),mY,Int.natCast_mul] at hv
   rw[xQ (l:=o) (i:=n) _ (by omega),hz n (by omega)]
   clear ih hz hd ra t0
   generalize lv o=x at*
   generalize (bp n:Int)=p at*
   generalize rd a (n:Int)=y at*
   generalize lv a=A at*
   generalize lv (a.take n)=T at*
   have hv:x*b+4294967296*p*r=A-(T+p*y):=hv
   have h3:p*(b*q+s)=p*(r*4294967296+y):=by rw[hdiv]
   grind
theorem OY{a:List Int}{b:Int}(ha:Lm a)(hb0:0<b)(hb1:b<4294967296)(hlen:a.length<1073741824):Ev (λk=>sV.f k a b) (dg (lv a / b).toNat,lv a % b):=by
 simp only[sV.f,Int.toNat_natCast,if_pos (show(0:Int)<=(a.length:Int) by omega),if_pos (show a.length<=70368744177664 by omega),lD (x:=(a.length:Int)-1) (by omega) (by omega)]
 exact WW ha hb0 hb1 hlen a.length _ 0 (Nat.le_refl _) (by simp) (CP _) (λj _=>vX _ j) (by omega) (by omega) ⟨by rw[Az,List.take_of_length_le (Nat.le_refl _)];simp⟩
theorem JG(n i:Nat):bin n i*(n-i)=(i+1)*bin n (i+1):=by rw[GH,Nat.mul_comm]
theorem XX(n k:Nat):bin n k<=2^n:=by
 induction n generalizing k with
 |zero=>cases k<;>simp [bin]
 |succ n ih=>cases k with
  |zero=>rw[qW];exact Nat.one_le_two_pow
  |succ k=>rw[vP,Nat.pow_succ];have h1:=ih k;have h2:=ih (k+1);omega
theorem Ce(m:Nat):2^(32*m)=bp m:=by
 induction m with
 |zero=>rw[tX]
 |succ m ih=>rw[Nat.mul_succ,Nat.pow_add,ih,mY,Nat.mul_comm]
theorem xC{n:Nat}(hn:n<=4096)(k:Nat):(dg (bin n k)).length<=129:=by
 refine nO ?_
 have h1:=XX n k
 have h2:∀m,n<=32*m->2^n<=bp m:=λm h=>by rw[<-Ce];exact Nat.pow_le_pow_right (by decide) h
 have h2:=h2 128 (by omega)
 have h3:=Bh 128
 rw[show 129=128+1 from rfl,mY]
 generalize 2^n=p at*
 generalize bp 128=u at*
 omega
theorem PV{n:Nat}(hn:n<=4096):∀(d i m:Nat),i+d=m->m<=n->Ev (λk=>nC.l0 k (n:Int) (dg (bin n i)) (m:Int) (i:Int)) (dg (bin n m),0):=by
 intro d
 induction d with
 |zero=>
  intro i m hi hm
  have hi:i=m:=by omega
  subst hi
  refine Ev.succ ?_
  simp only[nC.l0,if_neg (show ¬(i:Int)<(i:Int) by omega)]
  have:=xC hn i
  refine Ev.bind (BR (kS _) (by omega)) ?_
  rw[lG,Int.toNat_natCast]
  exact Ev.some _
 |succ d ih=>
  intro i m hi hm
  refine Ev.succ ?_
  have hl:=xC hn i
  have e0:((n:Int)-(i:Int)) % 4294967296=((n-i:Nat):Int):=by omega
  have e1:((i+1:Nat):Int) % 4294967296=((i+1:Nat):Int):=by omega
  simp only[nC.l0,lD (x:=(n:Int)-(i:Int)) (by omega) (by omega),wn (show(i:Int)+1=((i+1:Nat):Int) by omega) (by omega),if_pos (show(i:Int)<(m:Int) by omega),e0,e1]
  have l1:Lm [((n-i:Nat):Int)]:=by rw[uD];exact⟨by omega,wU⟩
  refine Ev.bind (FB (kS _) l1 (by omega) (by simp)) ?_
  have v1:lv (dg (bin n i))*lv [((n-i:Nat):Int)]=((bin n i*(n-i):Nat):Int):=by rw[lG,zo,rG,Int.natCast_mul];simp
  rw[v1,Int.toNat_natCast,JG]
  have hl2:(dg ((i+1)*bin n (i+1))).length<=130:=by
   refine nO ?_
   rw[<-JG]
   have h1:=tC (bin n i)
   have h2:=wY hl
   have h3:bin n i<bp 129:=by omega
   rw[show 130=129+1 from rfl,mY,Nat.mul_comm]
   have h4:n-i<=4294967296:=by omega
   exact Nat.lt_of_le_of_lt (Nat.mul_le_mul_right _ h4) (Nat.mul_lt_mul_of_pos_left h3 (by decide))
  refine Ev.bind (OY (kS _) (by omega) (by omega) (by omega)) ?_
  rw[lG]
  have v2:(((i+1)*bin n (i+1):Nat):Int) / ((i+1:Nat):Int)=((bin n (i+1):Nat):Int):=by
   rw[Int.natCast_mul,Int.mul_ediv_cancel_left _ (by omega)]
  rw[v2,Int.toNat_natCast]
  exact ih (i+1) m (by omega) hm
theorem PW{n m:Nat}(hn:n<=4096)(hm:m<=n):Ev (λk=>nC.f k (n:Int) (m:Int)) (dg (bin n m),0):=by
 simp only[nC.f,if_neg (show ¬(n:Int)<0 by omega),decide_eq_false (show ¬(n:Int)>4096 by omega)]
 refine Ev.succ ?_
 simp only[nC.j0,Bool.false_eq_true,if_false,if_neg (show ¬(m:Int)<0 by omega),decide_eq_false (show ¬(m:Int)>(n:Int) by omega)]
 refine Ev.succ ?_
 simp only[nC.j1,Bool.false_eq_true,if_false,wn (show(n:Int)-(m:Int)=((n-m:Nat):Int) by omega) (by omega)]
 have hone:([1]:List Int)=dg (bin n 0):=by rw[qW,vO]
 rw[hone]
 have hz:(0:Int)=((0:Nat):Int):=rfl
 by_cases h:m<=n-m
 ·rw[show mn (m:Int) ((n-m:Nat):Int)=(m:Int) from by unfold mn;split<;>omega]
  exact PV hn m 0 m (by omega) hm
 ·rw[show mn (m:Int) ((n-m:Nat):Int)=((n-m:Nat):Int) from by unfold mn;split<;>omega,<-GG hm]
  exact PV hn (n-m) 0 (n-m) (by omega) (by omega)
theorem Gz(x:Nat)(h:x<4294967296):Lib.bitLen x<=32:=Lib.bitLen_le x 32 (by decide) (by omega)
theorem PT:Lib.bitLen 0=0:=by decide
theorem ER{x:Nat}(h0:x≠0)(h:x<4294967296):1<=Lib.bitLen x:=by
 rw[Lib.bitLen_half x h0 (by omega)];omega
theorem PU:∀(b x:Nat),x<4294967296->Lib.bitLen x<=b->x<2^b:=by
 intro b
 induction b with
 |zero=>
  intro x hx hb
  by_cases h:x=0
  ·subst h;decide
  ·have:=ER h hx;omega
 |succ b ih=>
  intro x hx hb
  by_cases h:x=0
  ·subst h;exact Nat.two_pow_pos _
  ·rw[Lib.bitLen_half x h (by omega)] at hb
   have:=ih (x / 2) (by omega) (by omega)
   rw[Nat.pow_succ]
   omega
theorem Js{n:Nat}{i:Nat}(hi:i+1=(dg n).length):rd (dg n) (i:Int)≠0:=by
 have hne:dg n≠[]:=by intro e;rw[e] at hi;simp at hi
 have:=WY n hne
 rw[List.getLast_eq_getElem] at this
 rw[nU (by omega)]
 have e:(dg n).length-1=i:=by omega
 simpa [e] using this
def bl(n:Nat):Nat:=if n=0 then 0 else 32*((dg n).length-1)+Lib.bitLen (rd (dg n) (((dg n).length-1:Nat):Int)).toNat
theorem JE{n:Nat}(hn:(dg n).length<33554432):Ev (λk=>u_.f k (dg n)) ((bl n:Nat):Int):=by
 simp only[u_.f]
 refine Ev.bind (vI (kS n) (by omega)) ?_
 rw[lG,Int.toNat_natCast]
 by_cases h:n=0
 ·subst h
  rw[pI]
  simp only[List.length_nil,if_pos (show((0:Nat):Int)=0 from rfl)]
  exact Ev.cast (Ev.some _) (by simp [bl])
 ·have hp:(dg n).length≠0:=by rw[Ne,zy];exact h
  obtain⟨m,hm⟩:∃m,(dg n).length=m+1:=⟨(dg n).length-1,by omega⟩
  have hb:bl n=32*m+Lib.bitLen (rd (dg n) (m:Int)).toNat:=by unfold bl;rw[if_neg h,hm];rfl
  have hr:=qy (kS n) (m:Int)
  have hbl:=Gz (rd (dg n) (m:Int)).toNat (by omega)
  rw[hb,hm]
  have f1:bits_Len32.f (rd (dg n) (m:Int))=some ((Lib.bitLen (rd (dg n) (m:Int)).toNat:Nat):Int):=by
   unfold bits_Len32.f
   rw[if_pos hr.1,if_pos (by omega)]
  simp only[if_neg (show ¬((m+1:Nat):Int)=0 by omega),wn (show((m+1:Nat):Int)-1=(m:Int) by omega) (by omega),if_pos (show(0:Int)<=(m:Int) by omega),if_pos (show(m:Int)<((m+1:Nat):Int) by omega),f1,Option.bind_some]
  refine Ev.cast (Ev.some _) ?_
  rw[wn (show(32:Int)*(m:Int)=((32*m:Nat):Int) by omega) (by omega),wn (show((32*m:Nat):Int)+((Lib.bitLen (rd (dg n) (m:Int)).toNat:Nat):Int)=((32*m+Lib.bitLen (rd (dg n) (m:Int)).toNat:Nat):Int) by omega) (by omega)]
theorem xB{n:Nat}:bl n=0↔n=0:=by
 constructor
 ·intro h
  by_cases h0:n=0
  ·exact h0
  ·unfold bl at h
   rw[if_neg h0] at h
   have hp:(dg n).length≠0:=by rw[Ne,zy];exact h0
   obtain⟨m,hm⟩:∃m,(dg n).length=m+1:=⟨(dg n).length-1,by omega⟩
   have hr:=qy (kS n) (m:Int)
   have h1:=Js hm.symm
   rw[hm,show m+1-1=m from rfl] at h
   have:=ER (x:=(rd (dg n) (m:Int)).toNat) (by omega) (by omega)
   omega
 ·intro h;subst h;rfl
theorem PO{n:Nat}(h0:n≠0)(h:n<4294967296):bl n=Lib.bitLen n:=by
 unfold bl
 rw[if_neg h0,Gq h0 h]
 simp [rd]
theorem Gx{n:Nat}:bl n=1↔n=1:=by
 constructor
 ·intro h
  have hn0:n≠0:=by intro e;subst e;rw[xB.mpr rfl] at h;omega
  unfold bl at h
  rw[if_neg hn0] at h
  have hp:(dg n).length≠0:=by rw[Ne,zy];exact hn0
  obtain⟨m,hm⟩:∃m,(dg n).length=m+1:=⟨(dg n).length-1,by omega⟩
  have hr:=qy (kS n) (m:Int)
  have h1:=Js hm.symm
  rw[hm,show m+1-1=m from rfl] at h
  have h2:=ER (x:=(rd (dg n) (m:Int)).toNat) (by omega) (by omega)
  have hm0:m=0:=by omega
  subst hm0
  have hn:n<4294967296:=by
   have:=tC n
   rw[hm,show(0+1:Nat)=0+1 from rfl,mY,tX] at this
   omega
  have h4:dg n=[(n:Int)]:=Gq hn0 hn
  rw[h4] at h
  have h3:=PU 1 n hn (by simp [rd] at h;omega)
  omega
 ·intro h;subst h;rw[PO (by decide) (by decide)];decide
theorem En(x n m:Nat)(h:(dg x).length<=m):(dg (x^n)).length<=m*n+1:=by
 refine nO ?_
 have h1:=tC x
 have h2:=wY h
 have h3:∀n,x^n<=bp (m*n):=by
  intro n
  induction n with
  |zero=>simp [tX]
  |succ n ih=>rw[Nat.pow_succ,Nat.mul_succ,Bi];exact Nat.mul_le_mul ih (by omega)
 have h4:=h3 n
 rw[mY]
 have h5:=Bh (m*n)
 omega
theorem and1{n:Nat}(hn:n<9223372036854775808):Go.bits .and .i64 (n:Int) 1=((n % 2:Nat):Int):=by
 have:=bits_mask .i64 63 (by decide) (λn h0 h1=>by
  rw[IntKind.wrap_i64]
  have:n<9223372036854775808:=by omega
  omega) 1 (by decide) (n:Int) (by omega) (Int.lt_of_lt_of_le (show(n:Int)<9223372036854775808 by omega) (by decide))
 rw[show(2:Int)^1-1=1 from rfl,show(2:Int)^1=2 from rfl] at this
 rw[this]
 omega
theorem rF(x y:Nat):(dg (x*y)).length<=(dg x).length+(dg y).length:=by
 refine nO ?_
 rw[Bi]
 exact Nat.mul_lt_mul'' (tC x) (tC y)
theorem KY{a b:Nat}(h1:(dg a).length<268435456)(h2:(dg b).length<268435456):Ev (λk=>mG.f k (dg a) (dg b)) (dg (a*b)):=by
 refine Ev.cast (FB (kS a) (kS b) h1 h2) ?_
 rw[lG,lG,<-Int.natCast_mul,Int.toNat_natCast]
theorem Ht{a:Nat}(h1:(dg a).length<268435456):Ev (λk=>pU.f k (dg a)) (dg a):=by
 refine Ev.cast (BR (kS a) (by omega)) ?_
 rw[lG,Int.toNat_natCast]
theorem MX(y x n:Nat):y*x^n=(if n % 2=1 then y*x else y)*(x*x)^(n / 2):=by
 have e:n=2*(n / 2)+n % 2:=by omega
 have h:x^n=(x*x)^(n / 2)*x^(n % 2):=by
  conv=>lhs;rw[e]
  rw[Nat.pow_add,Nat.pow_mul,Nat.pow_two]
 rw[h]
 by_cases g:n % 2=1
 ·rw[if_pos g,g,Nat.pow_one];simp only[Nat.mul_assoc,Nat.mul_comm x]
 ·rw[if_neg g,show n % 2=0 by omega,Nat.pow_zero,Nat.mul_one]
theorem Uy:∀(n:Nat),0<n->n<4611686018427387904->∀(y x:Nat),dw ((dg x).length*n+(dg y).length<=4096)->Ev (λk=>pF.l0 k (n:Int) (dg y) (dg x)) (dg (y*x^n),0):=by
 intro n
 induction n using Nat.strongRecOn with
 |_ n ih=>
  intro h0 h1 y x hl
  have hx:(dg x).length<=4096:=by
   have h2:=hl.out
   have h3:(dg x).length*1<=(dg x).length*n:=Nat.mul_le_mul_left _ h0
   omega
  have hy:(dg y).length<=4096:=by have:=hl.out;omega
  have hyx:=rF y x
  have hxx:=rF x x
  refine Ev.succ ?_
  have hd:(n:Int) / 2=((n / 2:Nat):Int):=by omega
  have hy2:dw ((dg (x*x)).length*(n / 2)+(dg (if n % 2=1 then y*x else y)).length<=4096):=by
   refine⟨?_⟩
   have h2:=hl.out
   have h3:(dg (x*x)).length*(n / 2)<=((dg x).length+(dg x).length)*(n / 2):=Nat.mul_le_mul_right _ hxx
   have h4:((dg x).length+(dg x).length)*(n / 2)+(dg x).length*(n % 2)=(dg x).length*n:=by
    conv=>rhs;rw[show n=2*(n / 2)+n % 2 by omega]
    rw[Nat.mul_add,<-Nat.two_mul,Nat.mul_assoc,Nat.mul_left_comm]
   by_cases g:n % 2=1
   ·rw[if_pos g]
    rw[g,Nat.mul_one] at h4
    omega
   ·rw[if_neg g]
    rw[show n % 2=0 by omega,Nat.mul_zero] at h4
    omega
  have fin:n / 2=0->Ev (λk=>if(((dg (if n % 2=1 then y*x else y)).length:Nat):Int)>4096 then(none:Option (List Int×Int)) else(pU.f k (dg (if n % 2=1 then y*x else y))).bind λt=>some (t,0)) (dg (y*x^n),0):=by
   intro hz
   have h2:=hy2.out
   rw[hz,Nat.mul_zero] at h2
   rw[MX y x n,hz,Nat.pow_zero,Nat.mul_one]
   simp only[if_neg (show ¬(((dg (if n % 2=1 then y*x else y)).length:Nat):Int)>4096 by omega)]
   refine Ev.bind (Ht (by omega)) ?_
   exact Ev.some _
  have go:n / 2≠0->Ev (λk=>(mG.f k (dg x) (dg x)).bind λt=>pF.l0 k ((n / 2:Nat):Int) (dg (if n % 2=1 then y*x else y)) t) (dg (y*x^n),0):=by
   intro hz
   refine Ev.bind (KY (by omega) (by omega)) ?_
   rw[MX y x n]
   exact ih (n / 2) (by omega) (by omega) (by omega) _ _ hy2
  simp only[pF.l0,and1 (show n<9223372036854775808 by omega),hd]
  clear hy2 hl
  by_cases g:n % 2=1
  ·rw[if_pos g] at fin go
   simp only[if_pos (show((n % 2:Nat):Int)=1 by omega)]
   refine Ev.bind (KY (by omega) (by omega)) ?_
   by_cases hz:n / 2=0
   ·simp only[if_pos (show((n / 2:Nat):Int)=0 by omega)]
    exact fin hz
   ·simp only[if_neg (show ¬((n / 2:Nat):Int)=0 by omega)]
    exact go hz
  ·rw[if_neg g] at fin go
   simp only[if_neg (show ¬((n % 2:Nat):Int)=1 by omega)]
   by_cases hz:n / 2=0
   ·simp only[if_pos (show((n / 2:Nat):Int)=0 by omega)]
    exact fin hz
   ·simp only[if_neg (show ¬((n / 2:Nat):Int)=0 by omega)]
    exact go hz
theorem UA{x n:Nat}(hx:x<4294967296)(hn:n<4096):Ev (λk=>pF.f k (dg x) (n:Int)) (dg (x^n),0):=by
 have hxl:(dg x).length<=1:=nO (by rw[show(1:Nat)=0+1 from rfl,mY,tX];omega)
 simp only[pF.f,if_neg (show ¬(n:Int)<0 by omega)]
 refine Ev.bind (JE (by omega)) ?_
 have one:([1]:List Int)=dg 1:=vO.symm
 by_cases h0:n=0
 ·subst h0
  simp only[if_pos (show((0:Nat):Int)=0 from rfl)]
  refine Ev.succ ?_
  simp only[pF.j0,if_true,Nat.pow_zero,one]
  exact Ev.some _
 ·simp only[if_neg (show ¬(n:Int)=0 by omega)]
  by_cases h1:x=1
  ·subst h1
   rw[Gx.mpr rfl]
   refine Ev.succ ?_
   simp only[pF.j0,Nat.one_pow,one]
   exact Ev.some _
  ·have hb1:bl x≠1:=λe=>h1 (Gx.mp e)
   have hbl:bl x<=32:=by
    by_cases hx0:x=0
    ·subst hx0;rw[xB.mpr rfl];omega
    ·rw[PO hx0 hx];exact Gz x hx
   rw[show(((bl x:Nat):Int)==1)=false from by simp;omega]
   refine Ev.succ ?_
   simp only[pF.j0,Bool.false_eq_true,if_false]
   by_cases hx0:x=0
   ·subst hx0
    simp only[xB.mpr rfl,if_pos (show((0:Nat):Int)=0 from rfl)]
    rw[Nat.zero_pow (by omega),pI]
    exact Ev.some _
   ·have hb0:bl x≠0:=λe=>hx0 (xB.mp e)
    have hmul:(bl x-1)*n<=31*4095:=Nat.mul_le_mul (by omega) (by omega)
    have e2:wrap64 (wrap64 ((bl x:Int)-1)*(n:Int))=(((bl x-1)*n:Nat):Int):=by
     rw[wn (show(bl x:Int)-1=((bl x-1:Nat):Int) by omega) (by omega)]
     exact wn (by rw[Int.natCast_mul]) (by omega)
    have e3:¬wrap64 (wrap64 ((bl x:Int)-1)*(n:Int))>=131072:=by rw[e2];clear e2;omega
    simp only[if_neg (show ¬((bl x:Nat):Int)=0 by clear e2 e3;omega),if_neg (show ¬(n:Int)>131072 by clear e2 e3;omega),if_neg e3]
    clear e2 e3
    refine Ev.bind (vI (kS x) (by omega)) ?_
    rw[lG,Int.toNat_natCast,one]
    refine Ev.cast (Uy n (by omega) (by omega) 1 x ⟨?_⟩) (by rw[Nat.one_mul])
    have h5:(dg x).length*n<=1*4095:=Nat.mul_le_mul hxl (by omega)
    rw[vO]
    simp only[List.length_cons,List.length_nil]
    omega
theorem Ti{l:List Int}(hl:Lm l)(hlen:l.length<1099511627776):∀n:Nat,n<=l.length->(∀i:Nat,n<=i->i<l.length->rd l (i:Int)=0)->
 Ev (λk=>lF.l0 k l (n:Int)) (dg (lv l).toNat):=by
 intro n
 induction n with
 |zero=>
  intro hn hz
  refine Ev.succ ?_
  simp only[lF.l0,Option.bind_some,if_neg (show ¬((0:Nat):Int)>0 by omega),if_pos (show(0:Int)<=((0:Nat):Int) by omega),if_pos (show((0:Nat):Int)<=(l.length:Int) by omega),if_pos (show([]:List Int).length+(l.take ((0:Nat):Int).toNat).length<35184372088832 by simp),List.nil_append]
  refine Ev.cast (Ev.some _) ?_
  rw[show(((0:Nat):Int)).toNat=0 from rfl]
  exact Gp hl hn hz (.inl rfl)
 |succ n ih=>
  intro hn hz
  refine Ev.succ ?_
  have e:wrap64 (((n+1:Nat):Int)-1)=(n:Int):=by rw[lD (by omega) (by omega)];omega
  by_cases h:rd l (n:Int)=0
  ·simp only[lF.l0,e,if_pos (show((n+1:Nat):Int)>0 by omega),if_pos (show(0:Int)<=(n:Int) by omega),if_pos (show(n:Int)<(l.length:Int) by omega),if_pos h]
   exact ih (by omega) (λi h1 h2=>by
    by_cases e2:i=n
    ·subst e2;exact h
    ·exact hz i (by omega) h2)
  ·have hlt:([]:List Int).length+(l.take ((n+1:Nat):Int).toNat).length<35184372088832:=by
    rw[List.length_take,List.length_nil];clear e;omega
   simp only[lF.l0,Option.bind_some,e,if_pos (show((n+1:Nat):Int)>0 by omega),if_pos (show(0:Int)<=(n:Int) by omega),if_pos (show(n:Int)<(l.length:Int) by omega),if_neg h,if_pos (show(0:Int)<=((n+1:Nat):Int) by omega),if_pos (show((n+1:Nat):Int)<=(l.length:Int) by omega),if_pos hlt,List.nil_append]
   refine Ev.cast (Ev.some _) ?_
   rw[show(((n+1:Nat):Int)).toNat=n+1 by omega]
   exact Gp hl hn hz (.inr h)
theorem xm{l:List Int}(hl:Lm l)(hlen:l.length<1099511627776):Ev (λk=>lF.f k l) (dg (lv l).toNat):=by
 simp only[lF.f]
 exact Ti hl hlen l.length (Nat.le_refl _) (λi h1 h2=>by omega)
theorem xJ{a:Nat}(h1:(dg a).length<268435456):Ev (λk=>lF.f k (dg a)) (dg a):=by
 refine Ev.cast (xm (kS a) (by omega)) ?_
 rw[lG,Int.toNat_natCast]
theorem Ee{n:Nat}(hn:n<18446744073709551616):Ev (λk=>uA.f k (n:Int)) (dg n):=by
 simp only[uA.f]
 have e1:Int.tmod (n:Int) 4294967296=(n:Int) % 4294967296:=Int.tmod_eq_emod_of_nonneg (by omega)
 have e2:Int.tdiv (n:Int) 4294967296=(n:Int) / 4294967296:=Int.tdiv_eq_ediv_of_nonneg (by omega)
 rw[e1,e2,lh (x:=(n:Int) / 4294967296) (by clear e1 e2;omega) (by clear e1 e2;omega)]
 have hl:Lm [(n:Int) % 4294967296 % 4294967296,((n:Int) / 4294967296) % 4294967296]:=by
  rw[uD,uD]
  clear e1 e2
  exact⟨by omega,by omega,wU⟩
 refine Ev.bind (xm hl (by simp)) ?_
 refine Ev.cast (Ev.some _) ?_
 congr 1
 simp only[zo,rG]
 clear e1 e2
 omega
theorem CQ{l:List Int}(hl:Lm l)(i:Nat):oU.f l (i:Int)=some (rd l (i:Int)):=by
 unfold oU.f
 have r:=qy hl (i:Int)
 by_cases h:i<l.length
 ·rw[if_pos (by omega),if_pos (by omega),lh r.1 (by omega)]
 ·rw[if_neg (by omega),xM (by omega)]
theorem xP(l:List Int)(i:Nat):lv (l.take (i+1))=lv (l.take i)+(bp i:Int)*rd l (i:Int):=by
 by_cases h:i<l.length
 ·exact xq h
 ·rw[xM (by omega),List.take_of_length_le (by omega),List.take_of_length_le (by omega)];simp
theorem Um{a b c:Int}(ha0:0<=a)(ha1:a<4294967296)(hb0:0<=b)(hb1:b<4294967296)(hc0:0<=c)(hc1:c<=1):
 IntKind.u64.wrap (IntKind.u64.wrap (a+b)+c)=a+b+c:=by
 rw[lh (x:=a+b) (by omega) (by omega),lh (by omega) (by omega)]
theorem DW{a:Int}(b:Int)(h:0<=a):Int.tmod a b=a % b:=Int.tmod_eq_emod_of_nonneg h
theorem DX{a:Int}(b:Int)(h:0<=a):Int.tdiv a b=a / b:=Int.tdiv_eq_ediv_of_nonneg h
theorem Un{a b:List Int}(ha:Lm a)(hb:Lm b)(hla:a.length<549755813888)(hlb:b.length<549755813888):∀(d i:Nat) (o:List Int) (c:Int),i+d=max a.length b.length+1->o.length=i->Lm o->0<=c->c<=1->(d=0->c=0)->
 dw (lv o+(bp i:Int)*c=lv (a.take i)+lv (b.take i))->Ev (λk=>ny.l0 k a b o c (i:Int)) (dg (lv a+lv b).toNat):=by
 intro d
 induction d with
 |zero=>
  intro i o c hi ho hol hc0 hc1 hz hv
  have hc:=hz rfl
  subst hc
  refine Ev.succ ?_
  simp only[ny.l0,if_neg (show ¬(i:Int)<(a.length:Int) by omega),if_neg (show ¬(i:Int)<(b.length:Int) by omega),decide_eq_false (show ¬(0:Int)>0 by omega)]
  refine Ev.succ ?_
  simp only[ny.j1,Bool.false_eq_true,if_false]
  refine Ev.bind (xm hol (by omega)) ?_
  refine Ev.cast (Ev.some _) ?_
  have hv:=hv.out
  rw[List.take_of_length_le (by omega),List.take_of_length_le (by omega),Int.mul_zero,Int.add_zero] at hv
  rw[hv]
 |succ d ih=>
  intro i o c hi ho hol hc0 hc1 hz hv
  have ra:=qy ha (i:Int)
  have rb:=qy hb (i:Int)
  have body:Ev (λk=>ny.j1 k a b o c (i:Int) true) (dg (lv a+lv b).toNat):=by
   refine Ev.succ ?_
   simp only[ny.j1,if_true,CQ ha,CQ hb,Option.bind_some,if_pos (show o.length<35184372088832 by omega),Um ra.1 ra.2 rb.1 rb.2 hc0 hc1,DW 4294967296 (show 0<=rd a (i:Int)+rd b (i:Int)+c by omega),DX 4294967296 (show 0<=rd a (i:Int)+rd b (i:Int)+c by omega),wn (show(i:Int)+1=((i+1:Nat):Int) by omega) (by omega),lh (x:=(rd a (i:Int)+rd b (i:Int)+c) / 4294967296) (by omega) (by omega),show(rd a (i:Int)+rd b (i:Int)+c) % 4294967296 % 4294967296=(rd a (i:Int)+rd b (i:Int)+c) % 4294967296 by omega]
   have hs:∃s,s=rd a (i:Int)+rd b (i:Int)+c:=⟨_,rfl⟩
   obtain⟨s,hs⟩:=hs
   rw[<-hs]
   have hs0:0<=s:=by omega
   have hs1:s<=8589934591:=by omega
   refine ih (i+1) _ _ (by omega) (by rw[List.length_append];simp [ho]) (F9 hol (uD.mpr ⟨by omega,wU⟩)) (by omega) (by omega) (λhd=>?_) ⟨?_⟩
   ·have h1:rd a (i:Int)=0:=xM (by omega)
    have h2:rd b (i:Int)=0:=xM (by omega)
    omega
   ·rw[CO,zo,rG,ho,xP,xP,mY,Int.natCast_mul]
    have hv:=hv.out
    have hdiv:s % 4294967296+4294967296*(s / 4294967296)=rd a (i:Int)+rd b (i:Int)+c:=by rw[D7];exact hs
    clear ih hz hs hs0 hs1 ra rb hc0 hc1
    generalize s % 4294967296=y at*
    generalize s / 4294967296=u at*
    generalize (bp i:Int)=p at*
    generalize rd a (i:Int)=x at*
    generalize rd b (i:Int)=z at*
    generalize lv (a.take i)=la at*
    generalize lv (b.take i)=lb at*
    generalize lv o=lo at*
    show lo+p*(y+4294967296*0)+4294967296*p*u=la+p*x+(lb+p*z)
    have h3:p*(y+4294967296*u)=p*(x+z+c):=by rw[hdiv]
    have h4:lo+p*c=la+lb:=hv
    grind
  refine Ev.succ ?_
  simp only[ny.l0]
  by_cases h1:(i:Int)<(a.length:Int)
  ·simp only[if_pos h1];exact body
  ·simp only[if_neg h1]
   by_cases h2:(i:Int)<(b.length:Int)
   ·simp only[if_pos h2];exact body
   ·simp only[if_neg h2]
    by_cases h3:c>0
    ·simp only[decide_eq_true h3];exact body
    ·simp only[decide_eq_false h3]
     have hc:c=0:=by omega
     subst hc
     refine Ev.succ ?_
     simp only[ny.j1,Bool.false_eq_true,if_false]
     refine Ev.bind (xm hol (by omega)) ?_
     refine Ev.cast (Ev.some _) ?_
     have hv:=hv.out
     rw[List.take_of_length_le (by omega),List.take_of_length_le (by omega),Int.mul_zero,Int.add_zero] at hv
     rw[hv]
theorem MR{a b:List Int}(ha:Lm a)(hb:Lm b)(hla:a.length<549755813888)(hlb:b.length<549755813888):Ev (λk=>ny.f k a b) (dg (lv a+lv b).toNat):=by
 simp only[ny.f]
 exact Un ha hb hla hlb _ 0 [] 0 (by rw[Nat.zero_add]) rfl wU (by omega) (by omega) (λh=>by omega) ⟨by simp [rG]⟩
theorem FV{a b:Nat}(ha:(dg a).length<268435456)(hb:(dg b).length<268435456):Ev (λk=>ny.f k (dg a) (dg b)) (dg (a+b)):=by
 refine Ev.cast (MR (kS a) (kS b) (by omega) (by omega)) ?_
 rw[lG,lG,<-Int.natCast_add,Int.toNat_natCast]
theorem S9(a b:List Int)(hab:a.length=b.length)(hlen:a.length<549755813888):∀(d i:Nat),i+d=a.length->a.take i=b.take i->Ev (λk=>uz.l0 k a b (i:Int)) (decide (a=b)):=by
 intro d
 induction d with
 |zero=>
  intro i hi he
  refine Ev.succ ?_
  simp only[uz.l0,if_neg (show ¬(i:Int)<(a.length:Int) by omega)]
  rw[List.take_of_length_le (by omega),List.take_of_length_le (by omega)] at he
  refine Ev.cast (Ev.some _) (decide_eq_true he).symm
 |succ d ih=>
  intro i hi he
  refine Ev.succ ?_
  simp only[uz.l0,if_pos (show(i:Int)<(a.length:Int) by omega),if_pos (show(0:Int)<=(i:Int) by omega),if_pos (show(i:Int)<(b.length:Int) by omega),wn (show(i:Int)+1=((i+1:Nat):Int) by omega) (by omega)]
  by_cases h:rd a (i:Int)=rd b (i:Int)
  ·simp only[if_pos h]
   exact ih (i+1) (by omega) (by rw[FC (by omega),FC (by omega),he,h])
  ·simp only[if_neg h]
   exact Ev.cast (Ev.some _) (decide_eq_false (λe=>h (by rw[e]))).symm
theorem S_(a b:List Int)(hlen:a.length<549755813888):Ev (λk=>uz.f k a b) (decide (a=b)):=by
 simp only[uz.f]
 by_cases h:a.length=b.length
 ·simp only[if_pos (show(a.length:Int)=(b.length:Int) by omega)]
  exact S9 a b h hlen a.length 0 (by omega) rfl
 ·simp only[if_neg (show ¬(a.length:Int)=(b.length:Int) by omega)]
  exact Ev.cast (Ev.some _) (decide_eq_false (λe=>h (by rw[e]))).symm
theorem TM{b l:List Int}(hl:Lm l)(hb:Lm b)(hbl:b.length<268435456)(hll:l.length<268435456)(i:Nat)(hi:i<l.length)(V:Int)(R:List Int)
 (next:∀o:List Int,o.length=l.length+b.length->Lm o->(∀j:Nat,i+1+b.length<=j->rd o (j:Int)=0)->dw (lv o=V+(bp i:Int)*(rd l (i:Int)*lv b))->Ev (λk=>kC.l0 k l b o ((i+1:Nat):Int)) R):
 ∀(d j:Nat) (o:List Int) (c:Int),j+d=b.length->o.length=l.length+b.length->Lm o->0<=c->c<4294967296->(∀m:Nat,i+b.length<=m->rd o (m:Int)=0)->
  dw (lv o+(bp (i+j):Int)*c=V+(bp i:Int)*(rd l (i:Int)*lv (b.take j)))->
  Ev (λk=>kC.l1 k l b o (i:Int) c (j:Int)) R:=by
 intro d
 induction d with
 |zero=>
  intro j o c hj ho hol hc0 hc1 hz hv
  have hj:j=b.length:=by omega
  subst hj
  refine Ev.succ ?_
  simp only[kC.l1,wn (show(i:Int)+(b.length:Int)=((i+b.length:Nat):Int) by omega) (by omega),wn (show(i:Int)+1=((i+1:Nat):Int) by omega) (by omega),if_neg (show ¬((b.length:Nat):Int)<(b.length:Int) by omega),if_pos (show(0:Int)<=((i+b.length:Nat):Int) by omega),if_pos (show((i+b.length:Nat):Int)<(o.length:Int) by omega)]
  rw[Int.toNat_natCast,show c % 4294967296=c by omega]
  refine next _ (by rw[List.length_set];omega) (yJ hol hc0 hc1) (λm hm=>?_) ⟨?_⟩
  ·rw[pR _ (by omega)];exact hz m (by omega)
  ·rw[xQ _ (by omega),hz _ (Nat.le_refl _),Int.sub_zero,hv.out,List.take_of_length_le (Nat.le_refl _)]
 |succ d ih=>
  intro j o c hj ho hol hc0 hc1 hz hv
  have hjb:j<b.length:=by omega
  have rl:=qy hl (i:Int)
  refine Ev.succ ?_
  have rb:=qy hb (j:Int)
  have ro:=qy hol ((i+j:Nat):Int)
  have hb2:=IL rl.1 rl.2 rb.1 rb.2 ro.1 ro.2 hc0 hc1
  have Gi:0<=rd l (i:Int)*rd b (j:Int)+rd o ((i+j:Nat):Int)+c:=Int.add_nonneg (Int.add_nonneg hb2.1 ro.1) hc0
  simp only[kC.l1,wn (show(i:Int)+(j:Int)=((i+j:Nat):Int) by omega) (by omega),wn (show(j:Int)+1=((j+1:Nat):Int) by omega) (by omega),if_pos (show(j:Int)<(b.length:Int) by omega),if_pos (show(0:Int)<=(i:Int) by omega),if_pos (show(i:Int)<(l.length:Int) by omega),if_pos (show(0:Int)<=(j:Int) by omega),if_pos (show(0:Int)<=((i+j:Nat):Int) by omega),if_pos (show((i+j:Nat):Int)<(o.length:Int) by omega),NV rl.1 rl.2 rb.1 rb.2 ro.1 ro.2 hc0 hc1,DW 4294967296 Gi,DX 4294967296 Gi]
  have hdef:∃s,s=rd l (i:Int)*rd b (j:Int)+rd o ((i+j:Nat):Int)+c:=⟨_,rfl⟩
  obtain⟨s,hs⟩:=hdef
  have hs0:0<=s:=by rw[hs];exact Gi
  have hs1:s<18446744073709551616:=by rw[hs];exact hb2.2
  have hd:=Jq hs0 hs1
  clear hb2
  rw[<-hs]
  rw[Int.toNat_natCast]
  have hs:=dw.mk hs
  have hq:IntKind.u64.wrap (s / 4294967296)=s / 4294967296:=lh hd.2.2.1 (by omega)
  rw[hq]
  clear hq
  rw[show s % 4294967296 % 4294967296=s % 4294967296 by omega]
  refine ih (j+1) _ _ (by omega) (by rw[List.length_set];omega) (yJ hol hd.1 hd.2.1) hd.2.2.1 hd.2.2.2 (λm hm=>?_) ⟨?_⟩
  ·rw[pR _ (by omega)];exact hz m hm
  ·rw[xQ _ (by omega),xq hjb,<-Nat.add_assoc,mY,Int.natCast_mul]
   have hdiv:s % 4294967296+4294967296*(s / 4294967296)=rd l (i:Int)*rd b (j:Int)+rd o ((i+j:Nat):Int)+c:=by rw[D7];exact hs.out
   have hv:=hv.out
   have hbp:((bp (i+j):Nat):Int)=(bp i:Int)*(bp j:Int):=by rw[Bi,Int.natCast_mul]
   clear ih hz next hs hs0 hs1 hd rb ro hc0 hc1 Gi rl
   generalize s % 4294967296=y at*
   generalize s / 4294967296=u at*
   generalize (bp (i+j):Int)=p at*
   generalize (bp i:Int)=pi at*
   generalize (bp j:Int)=pj at*
   generalize rd b (j:Int)=rb at*
   generalize rd l (i:Int)=x at*
   generalize rd o ((i+j:Nat):Int)=ro at*
   generalize lv o=lo at*
   generalize lv (b.take j)=lt at*
   subst hbp
   have h1:lo+pi*pj*c=V+pi*(x*lt):=hv
   have h2:y+4294967296*u=x*rb+ro+c:=hdiv
   show lo+pi*pj*(y-ro)+4294967296*(pi*pj)*u=V+pi*(x*(lt+pj*rb))
   have h3:pi*pj*(y+4294967296*u)=pi*pj*(x*rb+ro+c):=by rw[h2]
   grind
theorem TL{b l:List Int}(hb:Lm b)(hl:Lm l)(hbl:b.length<268435456)(hll:l.length<268435456):∀(d i:Nat) (o:List Int),i+d=l.length->o.length=l.length+b.length->Lm o->(∀m:Nat,i+b.length<=m->rd o (m:Int)=0)->
 dw (lv o=lv (l.take i)*lv b)->Ev (λk=>kC.l0 k l b o (i:Int)) (dg (lv l*lv b).toNat):=by
 intro d
 induction d with
 |zero=>
  intro i o hi ho hol hz hv
  have hi:i=l.length:=by omega
  subst hi
  refine Ev.succ ?_
  simp only[kC.l0,if_neg (show ¬((l.length:Nat):Int)<(l.length:Int) by omega)]
  refine Ev.bind (xm hol (by omega)) ?_
  refine Ev.cast (Ev.some _) ?_
  rw[hv.out,List.take_of_length_le (Nat.le_refl _)]
 |succ d ih=>
  intro i o hi ho hol hz hv
  have hil:i<l.length:=by omega
  refine Ev.succ ?_
  simp only[kC.l0,if_pos (show(i:Int)<(l.length:Int) by omega)]
  refine TM hl hb hbl hll i hil (lv (l.take i)*lv b) _ (λo2 h1 h2 h3 h4=>?_) b.length 0 o 0 (by omega) ho hol (by omega) (by omega) hz ⟨?_⟩
  ·refine ih (i+1) o2 (by omega) h1 h2 (λm hm=>h3 m hm) ⟨?_⟩
   rw[h4.out,xq hil,Int.add_mul,Int.mul_assoc]
  ·rw[hv.out];simp [rG]
theorem TN{a b:List Int}(ha:Lm a)(hb:Lm b)(h1:a.length<268435456)(h2:b.length<268435456):Ev (λk=>kC.f k a b) (dg (lv a*lv b).toNat):=by
 simp only[kC.f]
 simp only[wn (show(a.length:Int)+(b.length:Int)=((a.length+b.length:Nat):Int) by omega) (by omega),Int.toNat_natCast,if_pos (show(0:Int)<=((a.length+b.length:Nat):Int) by omega),if_pos (show a.length+b.length<=70368744177664 by omega)]
 exact TL hb ha h2 h1 a.length 0 _ (by omega) (by simp) (CP _) (λm _=>vX _ m) ⟨by rw[Az];simp [rG]⟩
theorem vW{a b:Nat}(h1:(dg a).length<268435456)(h2:(dg b).length<268435456):Ev (λk=>kC.f k (dg a) (dg b)) (dg (a*b)):=by
 refine Ev.cast (TN (kS a) (kS b) h1 h2) ?_
 rw[lG,lG,<-Int.natCast_mul,Int.toNat_natCast]
theorem Uk:∀(b x n:Nat),x<4294967296->Lib.bitLen x=b->n+b<9223372036854775000->Ev (λk=>qC.l0 k (n:Int) (x:Int)) ((n+b:Nat):Int):=by
 intro b
 induction b with
 |zero=>
  intro x n hx hb hn
  have h0:x=0:=by
   by_cases h:x=0
   ·exact h
   ·have:=ER h hx;omega
  subst h0
  refine Ev.succ ?_
  simp only[qC.l0,if_neg (show ¬((0:Nat):Int)>0 by omega)]
  exact Ev.some _
 |succ b ih=>
  intro x n hx hb hn
  have h0:x≠0:=by intro h;subst h;rw[PT] at hb;omega
  have hb2:b+1<=32:=by rw[<-hb];exact Gz x hx
  rw[Lib.bitLen_half x h0 (by omega)] at hb
  refine Ev.succ ?_
  simp only[qC.l0,if_pos (show(x:Int)>0 by omega),DX 2 (show(0:Int)<=(x:Int) by omega),show(x:Int) / 2 % 4294967296=((x / 2:Nat):Int) by omega,wn (show(n:Int)+1=((n+1:Nat):Int) by omega) (by omega)]
  refine Ev.cast (ih (x / 2) (n+1) (by omega) (by omega) (by omega)) (by omega)
theorem Ei{n:Nat}(hn:(dg n).length<33554432):Ev (λk=>qC.f k (dg n)) ((bl n:Nat):Int):=by
 simp only[qC.f]
 refine Ev.bind (xJ (by omega)) ?_
 by_cases h:n=0
 ·subst h
  rw[pI]
  simp only[List.length_nil,if_pos (show((0:Nat):Int)=0 from rfl)]
  exact Ev.cast (Ev.some _) (by simp [bl])
 ·have hp:(dg n).length≠0:=by rw[Ne,zy];exact h
  obtain⟨m,hm⟩:∃m,(dg n).length=m+1:=⟨(dg n).length-1,by omega⟩
  have hb:bl n=32*m+Lib.bitLen (rd (dg n) (m:Int)).toNat:=by unfold bl;rw[if_neg h,hm];rfl
  have hr:=qy (kS n) (m:Int)
  have hbl:=Gz (rd (dg n) (m:Int)).toNat (by omega)
  rw[hb,hm]
  simp only[if_neg (show ¬((m+1:Nat):Int)=0 by omega),wn (show((m+1:Nat):Int)-1=(m:Int) by omega) (by omega),if_pos (show(0:Int)<=(m:Int) by omega),if_pos (show(m:Int)<((m+1:Nat):Int) by omega)]
  rw[wn (show(32:Int)*(m:Int)=((32*m:Nat):Int) by omega) (by omega)]
  obtain⟨x,hx⟩:∃x:Nat,rd (dg n) (m:Int)=(x:Int):=⟨(rd (dg n) (m:Int)).toNat,by omega⟩
  rw[hx] at hr hbl ⊢
  exact Uk _ x (32*m) (by omega) rfl (by omega)
theorem PQ{n:Nat}:bl n<=1↔n<=1:=by
 constructor
 ·intro h
  by_cases h1:bl n=1
  ·rw[Gx.mp h1];exact Nat.le_refl _
  ·have h2:n=0:=xB.mp (by omega)
   omega
 ·intro h
  by_cases h1:n=1
  ·rw[Gx.mpr h1];exact Nat.le_refl _
  ·have h2:bl n=0:=xB.mpr (by omega)
   omega
theorem Tt{a:List Int}{b:Int}(ha:Lm a)(hb0:0<b)(hb1:b<4294967296)(hlen:a.length<1073741824):∀(n:Nat) (o:List Int) (r:Int),n<=a.length->o.length=a.length->Lm o->(∀j:Nat,j<n->rd o (j:Int)=0)->0<=r->r<b->
 dw (lv o*b+(bp n:Int)*r=lv a-lv (a.take n))->Ev (λk=>uy.l0 k a b o r ((n:Int)-1)) (dg (lv a / b).toNat):=by
 intro n
 induction n with
 |zero=>
  intro o r hn ho hol hz hr0 hr1 hv
  refine Ev.succ ?_
  simp only[uy.l0,if_neg (show ¬((0:Nat):Int)-1>=0 by omega)]
  refine Ev.bind (xm hol (by omega)) ?_
  refine Ev.cast (Ev.some _) ?_
  have hv:=hv.out
  rw[List.take_zero,rG,tX] at hv
  have e:lv a=b*lv o+r:=by rw[Int.mul_comm];omega
  have h1:lv a / b=lv o:=by
   rw[e,Int.add_comm,Int.add_mul_ediv_left _ _ (by omega),Int.ediv_eq_zero_of_lt hr0 hr1];omega
  rw[h1]
 |succ n ih=>
  intro o r hn ho hol hz hr0 hr1 hv
  refine Ev.succ ?_
  have ra:=qy ha (n:Int)
  have hd:=OZ hr0 hr1 hb1 ra.1 ra.2
  have hdiv:b*((r*4294967296+rd a (n:Int)) / b)+(r*4294967296+rd a (n:Int)) % b=r*4294967296+rd a (n:Int):=Int.mul_ediv_add_emod _ _
  have t0:0<=r*4294967296+rd a (n:Int):=by omega
  simp only[uy.l0,show((n+1:Nat):Int)-1=(n:Int) from by omega,if_pos (show(n:Int)>=0 by omega),if_pos (show(0:Int)<=(n:Int) by omega),if_pos (show(n:Int)<(a.length:Int) by omega),if_pos (show(n:Int)<(o.length:Int) by omega),lh (x:=b) (by omega) (by omega),if_neg (show ¬b=0 by omega),
   lh (x:=rd a (n:Int)) ra.1 (by omega),lh (x:=r*4294967296) (by omega) (by omega),lh (x:=r*4294967296+rd a (n:Int)) (by omega) (by omega),lD (x:=(n:Int)-1) (by omega) (by omega)]
  rw[Int.tdiv_eq_ediv_of_nonneg t0,Int.tmod_eq_emod_of_nonneg t0]
  generalize (r*4294967296+rd a (n:Int)) / b=q at*
  generalize (r*4294967296+rd a (n:Int)) % b=s at*
  rw[lh (x:=q) hd.1 (by omega),show q % 4294967296=q by omega,Int.toNat_natCast]
  refine ih _ _ (by omega) (by rw[List.length_set];exact ho) (yJ hol hd.1 hd.2.1) (λj hj=>?_) hd.2.2.1 hd.2.2.2 ⟨?_⟩
  ·rw[pR _ (by omega)];exact hz j (by omega)
  ·have hv:=hv.out
   rw[xq (l:=a) (i:=n) (by omega),mY,Int.natCast_mul] at hv
   rw[xQ (l:=o) (i:=n) _ (by omega),hz n (by omega)]
   clear ih hz hd ra t0
   generalize lv o=x at*
   generalize (bp n:Int)=p at*
   generalize rd a (n:Int)=y at*
   generalize lv a=A at*
   generalize lv (a.take n)=T at*
   have hv:x*b+4294967296*p*r=A-(T+p*y):=hv
   have h3:p*(b*q+s)=p*(r*4294967296+y):=by rw[hdiv]
   grind
theorem Tu{a n d:Nat}(ha:(dg a).length<134217728)(hn:n<4294967296)(hd0:0<d)(hd1:d<4294967296):Ev (λk=>uy.f k (dg a) (n:Int) (d:Int)) (dg (a*n / d)):=by
 simp only[uy.f,lh (x:=(n:Int)) (by omega) (by omega)]
 refine Ev.bind (Ee (by omega)) ?_
 have hnl:(dg n).length<=1:=nO (by rw[show(1:Nat)=0+1 from rfl,mY,tX];omega)
 refine Ev.bind (vW (by omega) (by omega)) ?_
 have hl:=rF a n
 simp only[if_pos (show(0:Int)<=((dg (a*n)).length:Int) by omega),Int.toNat_natCast,if_pos (show(dg (a*n)).length<=70368744177664 by omega),lD (x:=((dg (a*n)).length:Int)-1) (by omega) (by omega)]
 refine Ev.cast (Tt (kS _) (b:=(d:Int)) (by omega) (by omega) (by omega) _ _ 0 (Nat.le_refl _) (by simp) (CP _) (λj _=>vX _ j) (by omega) (by omega) ⟨by rw[Az,List.take_of_length_le (Nat.le_refl _)];simp⟩) ?_
 rw[lG,<-Int.natCast_ediv,Int.toNat_natCast]
theorem Xp{n:Nat}(hn:n<=4096):∀(d i m:Nat),i+d=m->m<=n->Ev (λk=>oJ.l0 k (n:Int) (m:Int) (dg (bin n i)) (i:Int)) (dg (bin n m)):=by
 intro d
 induction d with
 |zero=>
  intro i m hi hm
  have hi:i=m:=by omega
  subst hi
  refine Ev.succ ?_
  simp only[oJ.l0,if_neg (show ¬(i:Int)<(i:Int) by omega)]
  exact Ev.some _
 |succ d ih=>
  intro i m hi hm
  refine Ev.succ ?_
  have hl:=xC hn i
  simp only[oJ.l0,wn (show(n:Int)-(i:Int)=((n-i:Nat):Int) by omega) (by omega),wn (show(i:Int)+1=((i+1:Nat):Int) by omega) (by omega),if_pos (show(i:Int)<(m:Int) by omega)]
  refine Ev.bind (Tu (by omega) (by omega) (by omega) (by omega)) ?_
  rw[JG,Nat.mul_div_cancel_left _ (by omega)]
  exact ih (i+1) m (by omega) hm
theorem Pm{n m:Nat}(hn:n<=4096)(hm:m<9223372036854775808):Ev (λk=>oJ.f k (n:Int) (m:Int)) (dg (bin n m)):=by
 simp only[oJ.f,if_neg (show ¬(m:Int)<0 by omega)]
 by_cases h:n<m
 ·simp only[decide_eq_true (show(m:Int)>(n:Int) by omega)]
  refine Ev.succ ?_
  simp only[oJ.j0,if_true,tY h,pI]
  exact Ev.some _
 ·simp only[decide_eq_false (show ¬(m:Int)>(n:Int) by omega)]
  refine Ev.succ ?_
  simp only[oJ.j0,Bool.false_eq_true,if_false]
  rw[show([1]:List Int)=dg (bin n 0) by rw[qW,vO]]
  exact Xp hn m 0 m (by omega) (by omega)
theorem V_(n p:Nat):n / p / 2=n / (2*p):=by rw[Nat.div_div_eq_div_mul,Nat.mul_comm]
theorem TC(a n p:Nat):a^(n / (2*p))*a^(n / (2*p))*(if n / p % 2=1 then a else 1)=a^(n / p):=by
 rw[<-V_]
 generalize n / p=m
 rw[<-Nat.pow_add]
 by_cases h:m % 2=1
 ·rw[if_pos h,<-Nat.pow_succ];congr 1;omega
 ·rw[if_neg h,Nat.mul_one];congr 1;omega
theorem TD{a n:Nat}(ha:(dg a).length<=1)(hn:n<4096):∀(s:Nat),s<=19->∀d p:Nat,d=2^s / 2->p=2^s->Ev (λk=>sQ.l0 k (dg a) (n:Int) (dg (a^(n / p))) (d:Int)) (dg (a^n),0):=by
 intro s
 induction s with
 |zero=>
  intro _ d p hd hp
  subst hd
  subst hp
  refine Ev.succ ?_
  rw[Nat.pow_zero,Nat.div_one]
  simp only[sQ.l0,if_neg (show ¬((1 / 2:Nat):Int)>0 by omega)]
  exact Ev.some _
 |succ s ih=>
  intro hs d p hd hp
  have hd2:d=2^s:=by rw[hd,Nat.pow_succ,Nat.mul_div_cancel _ (by decide)]
  have hp2:p=2*d:=by rw[hp,hd2,Nat.pow_succ,Nat.mul_comm]
  have hpos:0<d:=by rw[hd2];exact Nat.two_pow_pos s
  have hbig:d<=524288:=by rw[hd2];exact Nat.pow_le_pow_right (n:=2) (by decide) (show s<=19 by omega)
  have hle:∀m,m<=n->(dg (a^m)).length<=4096:=by
   intro m hm
   have:=En a m 1 ha
   omega
  have hm1:n / p<=n:=Nat.div_le_self _ _
  have hm2:n / d<=n:=Nat.div_le_self _ _
  have hl1:=hle _ hm1
  have hl2:=hle _ hm2
  have hst:=TC a n d
  rw[<-hp2] at hst
  have VV:=rF (a^(n / p)) (a^(n / p))
  refine Ev.succ ?_
  have hw:wrap64 ((n / d:Nat):Int)=((n / d:Nat):Int):=wn rfl (by omega)
  have hq:Int.tdiv (n:Int) (d:Int)=((n / d:Nat):Int):=by rw[Int.tdiv_eq_ediv_of_nonneg (by omega),<-Int.natCast_ediv]
  have hm:Int.tmod ((n / d:Nat):Int) 2=((n / d % 2:Nat):Int):=by rw[Int.tmod_eq_emod_of_nonneg (Int.natCast_nonneg _)];rfl
  have hh:wrap64 (Int.tdiv (d:Int) 2)=((d / 2:Nat):Int):=by
   clear hw hq hm
   rw[Int.tdiv_eq_ediv_of_nonneg (by omega)];exact wn (by omega) (by omega)
  simp only[sQ.l0,if_pos (show(d:Int)>0 by omega),if_neg (show ¬(d:Int)=0 by omega),hq,hw,hm,hh]
  clear hq hw hm hh
  refine Ev.bind (vW (by omega) (by omega)) ?_
  have nx:=ih (by omega) (d / 2) d (by rw[hd2]) hd2
  by_cases g:n / d % 2=1
  ·rw[if_pos g] at hst
   simp only[if_pos (show((n / d % 2:Nat):Int)=1 by omega)]
   refine Ev.bind (vW (by omega) (by omega)) ?_
   rw[hst]
   simp only[if_neg (show ¬(((dg (a^(n / d))).length:Nat):Int)>4096 by omega)]
   exact nx
  ·rw[if_neg g,Nat.mul_one] at hst
   simp only[if_neg (show ¬((n / d % 2:Nat):Int)=1 by omega)]
   rw[hst]
   simp only[if_neg (show ¬(((dg (a^(n / d))).length:Nat):Int)>4096 by omega)]
   exact nx
theorem TE{x n:Nat}(hx:x<4294967296)(hn:n<4096):Ev (λk=>sQ.f k (dg x) (n:Int)) (dg (x^n),0):=by
 have hxl:(dg x).length<=1:=nO (by rw[show(1:Nat)=0+1 from rfl,mY,tX];omega)
 simp only[sQ.f,if_neg (show ¬(n:Int)<0 by omega)]
 refine Ev.bind (xJ (by omega)) ?_
 have one:([1]:List Int)=dg 1:=vO.symm
 by_cases h0:n=0
 ·subst h0
  simp only[if_pos (show((0:Nat):Int)=0 from rfl),Nat.pow_zero,one]
  exact Ev.some _
 ·simp only[if_neg (show ¬(n:Int)=0 by omega)]
  refine Ev.bind (Ei (by omega)) ?_
  by_cases h1:x<=1
  ·have:=PQ.mpr h1
   simp only[if_pos (show((bl x:Nat):Int)<=1 by omega)]
   have hx1:x^n=x:=by
    have:x=0\/x=1:=by omega
    rcases this with e|e
    ·subst e;exact Nat.zero_pow (by omega)
    ·subst e;exact Nat.one_pow _
   rw[hx1]
   exact Ev.some _
  ·have hb:¬bl x<=1:=λe=>h1 (PQ.mp e)
   simp only[if_neg (show ¬((bl x:Nat):Int)<=1 by omega),if_neg (show ¬(n:Int)>131072 by omega)]
   have:=TD hxl hn 19 (Nat.le_refl _) 262144 524288 (by decide) (by decide)
   rw[Nat.div_eq_of_lt (show n<524288 by omega),Nat.pow_zero,vO] at this
   exact this
def mJ(x y:Int):Int:=if x<y then -1 else if y<x then 1 else 0
theorem Hy{a:List Int}(ha:Lm a)(n:Nat):0<=lv (a.take n)/\lv (a.take n)<bp n:=by
 have h1:=yI (IV ha n)
 have h2:=wS (IV ha n) (m:=n) (by rw[List.length_take];omega)
 omega
theorem Pg{a b:List Int}(ha:Lm a)(hb:Lm b)(n:Nat)(h:rd a (n:Int)<rd b (n:Int)):lv (a.take (n+1))<lv (b.take (n+1)):=by
 have h1:=Hy ha n
 have h2:=Hy hb n
 have h3:(bp n:Int)*(rd a (n:Int)+1)<=(bp n:Int)*rd b (n:Int):=Int.mul_le_mul_of_nonneg_left (by omega) (by omega)
 rw[xP,xP]
 rw[Int.mul_add,Int.mul_one] at h3
 generalize (bp n:Int)*rd a (n:Int)=x at*
 generalize (bp n:Int)*rd b (n:Int)=y at*
 omega
theorem O_{a b:List Int}(ha:Lm a)(hb:Lm b)(n:Nat):mJ (lv (a.take (n+1))) (lv (b.take (n+1)))=if rd a (n:Int)<rd b (n:Int) then -1 else if rd b (n:Int)<rd a (n:Int) then 1 else mJ (lv (a.take n)) (lv (b.take n)):=by
 by_cases h:rd a (n:Int)<rd b (n:Int)
 ·rw[if_pos h]
  unfold mJ
  rw[if_pos (Pg ha hb n h)]
 ·rw[if_neg h]
  by_cases g:rd b (n:Int)<rd a (n:Int)
  ·rw[if_pos g]
   have:=Pg hb ha n g
   unfold mJ
   rw[if_neg (by omega),if_pos this]
  ·rw[if_neg g]
   have e:rd a (n:Int)=rd b (n:Int):=by omega
   rw[xP,xP,e]
   unfold mJ
   generalize (bp n:Int)*rd b (n:Int)=y at*
   by_cases h1:lv (a.take n)<lv (b.take n)
   ·rw[if_pos h1,if_pos (by omega)]
   ·rw[if_neg h1,if_neg (by omega)]
    by_cases h2:lv (b.take n)<lv (a.take n)
    ·rw[if_pos h2,if_pos (by omega)]
    ·rw[if_neg h2,if_neg (by omega)]
theorem Va{a b:List Int}(ha:Lm a)(hb:Lm b)(hlen:a.length<1073741824)(hab:a.length=b.length):∀n:Nat,n<=a.length->Ev (λk=>pG.l0 k a b ((n:Int)-1)) (mJ (lv (a.take n)) (lv (b.take n))):=by
 intro n
 induction n with
 |zero=>
  intro _
  refine Ev.succ ?_
  simp only[pG.l0,if_neg (show ¬((0:Nat):Int)-1>=0 by omega)]
  exact Ev.cast (Ev.some _) (by simp [mJ])
 |succ n ih=>
  intro hn
  refine Ev.succ ?_
  rw[O_ ha hb n]
  simp only[pG.l0,show((n+1:Nat):Int)-1=(n:Int) from by omega,if_pos (show(n:Int)>=0 by omega),if_pos (show(0:Int)<=(n:Int) by omega),if_pos (show(n:Int)<(a.length:Int) by omega),if_pos (show(n:Int)<(b.length:Int) by omega),lD (x:=(n:Int)-1) (by omega) (by omega)]
  by_cases h:rd a (n:Int)<rd b (n:Int)
  ·simp only[if_pos h];exact Ev.some _
  ·simp only[if_neg h]
   by_cases g:rd b (n:Int)<rd a (n:Int)
   ·simp only[if_pos g,if_pos (show rd a (n:Int)>rd b (n:Int) from g)];exact Ev.some _
   ·simp only[if_neg g,if_neg (show ¬rd a (n:Int)>rd b (n:Int) from g)];exact ih (by omega)
theorem Et{a b:Nat}(h1:(dg a).length<268435456)(h2:(dg b).length<268435456):Ev (λk=>pG.f k (dg a) (dg b)) (mJ (a:Int) (b:Int)):=by
 simp only[pG.f]
 refine Ev.bind (vI (kS a) (by omega)) ?_
 refine Ev.bind (vI (kS b) (by omega)) ?_
 rw[lG,lG,Int.toNat_natCast,Int.toNat_natCast]
 by_cases h:(dg a).length=(dg b).length
 ·simp only[if_pos (show((dg a).length:Int)=((dg b).length:Int) by omega),lD (x:=((dg a).length:Int)-1) (by omega) (by omega)]
  have:=Va (kS a) (kS b) (by omega) h _ (Nat.le_refl _)
  rw[List.take_of_length_le (Nat.le_refl _),List.take_of_length_le (by omega),lG,lG] at this
  exact this
 ·simp only[if_neg (show ¬((dg a).length:Int)=((dg b).length:Int) by omega)]
  by_cases g:(dg a).length<(dg b).length
  ·simp only[if_pos (show((dg a).length:Int)<((dg b).length:Int) by omega)]
   have hlt:a<b:=by
    by_cases e:b<=a
    ·have:=qm e;omega
    ·omega
   exact Ev.cast (Ev.some _) (by unfold mJ;rw[if_pos (by omega)])
  ·simp only[if_neg (show ¬((dg a).length:Int)<((dg b).length:Int) by omega)]
   have hlt:b<a:=by
    by_cases e:a<=b
    ·have:=qm e;omega
    ·omega
   exact Ev.cast (Ev.some _) (by unfold mJ;rw[if_neg (by omega),if_pos (by omega)])
theorem Uj{a b:List Int}(ha:Lm a)(hb:Lm b):∀n:Nat,n<1073741824->Ev (λk=>rC.l0 k a b ((n:Int)-1)) (mJ (lv (a.take n)) (lv (b.take n))):=by
 intro n
 induction n with
 |zero=>
  intro _
  refine Ev.succ ?_
  simp only[rC.l0,if_neg (show ¬((0:Nat):Int)-1>=0 by omega)]
  exact Ev.cast (Ev.some _) (by simp [mJ])
 |succ n ih=>
  intro hn
  refine Ev.succ ?_
  rw[O_ ha hb n]
  simp only[rC.l0,show((n+1:Nat):Int)-1=(n:Int) from by omega,if_pos (show(n:Int)>=0 by omega),CQ ha,CQ hb,Option.bind_some,lD (x:=(n:Int)-1) (by omega) (by omega)]
  by_cases h:rd a (n:Int)<rd b (n:Int)
  ·simp only[if_pos h];exact Ev.some _
  ·simp only[if_neg h]
   by_cases g:rd b (n:Int)<rd a (n:Int)
   ·simp only[if_pos g,if_pos (show rd a (n:Int)>rd b (n:Int) from g)];exact Ev.some _
   ·simp only[if_neg g,if_neg (show ¬rd a (n:Int)>rd b (n:Int) from g)];exact ih (by omega)
theorem Iu{a b:Nat}(h1:(dg a).length<268435456)(h2:(dg b).length<268435456):Ev (λk=>rC.f k (dg a) (dg b)) (mJ (a:Int) (b:Int)):=by
 simp only[rC.f]
 have hm:mx ((dg a).length:Int) ((dg b).length:Int)=((max (dg a).length (dg b).length:Nat):Int):=by unfold mx;split<;>omega
 rw[hm,lD (x:=((max (dg a).length (dg b).length:Nat):Int)-1) (by clear hm;omega) (by clear hm;omega)]
 have:=Uj (kS a) (kS b) (max (dg a).length (dg b).length) (by clear hm;omega)
 rw[List.take_of_length_le (by clear hm;omega),List.take_of_length_le (by clear hm;omega),lG,lG] at this
 exact this
theorem RY{a b c:Int}(ha0:0<=a)(ha1:a<4294967296)(hb0:0<=b)(hb1:b<4294967296)(hc0:0<=c)(hc1:c<=1):
 IntKind.u64.wrap (IntKind.u64.wrap (IntKind.u64.wrap a-c)-IntKind.u64.wrap b) % 4294967296=(a-c-b) % 4294967296:=by
 simp only[Fz];omega
theorem R_{a b c:Int}(ha0:0<=a)(ha1:a<4294967296)(hb0:0<=b)(hb1:b<4294967296)(hc0:0<=c)(hc1:c<=1):
 IntKind.u64.wrap (IntKind.u64.wrap (IntKind.u64.wrap a-c)-IntKind.u64.wrap b) / 9223372036854775808= -((a-c-b) / 4294967296):=by
 simp only[Fz];omega
theorem RX{a c:Int}(ha0:0<=a)(ha1:a<4294967296)(hc0:0<=c)(hc1:c<=1):IntKind.u64.wrap (IntKind.u64.wrap a-c) % 4294967296=(a-c-0) % 4294967296:=by
 simp only[Fz];omega
theorem RZ{a c:Int}(ha0:0<=a)(ha1:a<4294967296)(hc0:0<=c)(hc1:c<=1):IntKind.u64.wrap (IntKind.u64.wrap a-c) / 9223372036854775808= -((a-c-0) / 4294967296):=by
 simp only[Fz];omega
theorem Si{a b c:Int}(ha0:0<=a)(ha1:a<4294967296)(hb0:0<=b)(hb1:b<4294967296)(hc0:0<=c)(hc1:c<=1):
 0<=(a-c-b) % 4294967296/\(a-c-b) % 4294967296<4294967296/\0<= -((a-c-b) / 4294967296)/\ -((a-c-b) / 4294967296)<=1/\(a-c-b) % 4294967296=a-c-b+4294967296* -((a-c-b) / 4294967296):=by omega
theorem U3{a b:List Int}(ha:Lm a)(hb:Lm b)(hlen:a.length<1073741824)(hba:b.length<=a.length)(hle:lv b<=lv a):∀(d i:Nat) (o:List Int) (c:Int),i+d=a.length->o.length=a.length->Lm o->0<=c->c<=1->(∀j:Nat,i<=j->rd o (j:Int)=rd a (j:Int))->
 dw (lv o=lv a-lv (b.take i)+(bp i:Int)*c)->Ev (λk=>qU.l0 k b o c (a.length:Int) (i:Int)) (dg (lv a-lv b).toNat,0):=by
 intro d
 induction d with
 |zero=>
  intro i o c hi ho hol hc0 hc1 hr hv
  have hi:i=a.length:=by omega
  subst hi
  refine Ev.succ ?_
  simp only[qU.l0,if_neg (show ¬((a.length:Nat):Int)<(a.length:Int) by omega)]
  refine Ev.bind (vI hol (by omega)) ?_
  refine Ev.cast (Ev.some _) ?_
  have hv:=hv.out
  rw[List.take_of_length_le hba] at hv
  have h1:=wS hol (m:=a.length) (by omega)
  have h2:=yI hol
  have hc:c=0:=by
   by_cases e:c=1
   ·subst e;rw[Int.mul_one] at hv;omega
   ·omega
  subst hc
  rw[hv,Int.mul_zero,Int.add_zero]
 |succ d ih=>
  intro i o c hi ho hol hc0 hc1 hr hv
  have hia:i<a.length:=by omega
  have ra:=qy ha (i:Int)
  have rb:=qy hb (i:Int)
  have I9:=hr i (Nat.le_refl _)
  have step:Ev (λk=>qU.l0 k b (o.set ((i:Int)).toNat ((rd a (i:Int)-c-rd b (i:Int)) % 4294967296)) (-((rd a (i:Int)-c-rd b (i:Int)) / 4294967296)) (a.length:Int) ((i+1:Nat):Int)) (dg (lv a-lv b).toNat,0):=by
   have sb:=Si ra.1 ra.2 rb.1 rb.2 hc0 hc1
   rw[Int.toNat_natCast]
   refine ih (i+1) _ _ (by omega) (by rw[List.length_set];exact ho) (yJ hol sb.1 sb.2.1) sb.2.2.1 sb.2.2.2.1 (λj hj=>?_) ⟨?_⟩
   ·rw[pR _ (by omega)];exact hr j (by omega)
   ·rw[xQ _ (by omega),xP,mY,Int.natCast_mul,sb.2.2.2.2,I9,hv.out]
    generalize -((rd a (i:Int)-c-rd b (i:Int)) / 4294967296)=u at*
    generalize (bp i:Int)=p at*
    generalize rd a (i:Int)=x at*
    generalize rd b (i:Int)=y at*
    show lv a-lv (b.take i)+p*c+p*(x-c-y+4294967296*u-x)=lv a-(lv (b.take i)+p*y)+4294967296*p*u
    grind
  refine Ev.succ ?_
  by_cases hib:i<b.length
  ·simp only[qU.l0,wn (show(i:Int)+1=((i+1:Nat):Int) by omega) (by omega),if_pos (show(i:Int)<(a.length:Int) by omega),if_pos (show(0:Int)<=(i:Int) by omega),if_pos (show(i:Int)<(o.length:Int) by omega),if_pos (show(i:Int)<(b.length:Int) by omega),I9,RY ra.1 ra.2 rb.1 rb.2 hc0 hc1,R_ ra.1 ra.2 rb.1 rb.2 hc0 hc1]
   exact step
  ·have hb0:rd b (i:Int)=0:=xM (by omega)
   rw[hb0] at step
   simp only[qU.l0,wn (show(i:Int)+1=((i+1:Nat):Int) by omega) (by omega),if_pos (show(i:Int)<(a.length:Int) by omega),if_pos (show(0:Int)<=(i:Int) by omega),if_pos (show(i:Int)<(o.length:Int) by omega),if_neg (show ¬(i:Int)<(b.length:Int) by omega),I9,RX ra.1 ra.2 hc0 hc1,RZ ra.1 ra.2 hc0 hc1]
   exact step
theorem Ny{a b:Nat}(h1:(dg a).length<268435456)(hab:b<=a):Ev (λk=>qU.f k (dg a) (dg b)) (dg (a-b),0):=by
 have hl:=qm hab
 simp only[qU.f]
 refine Ev.bind (Et (by omega) (by omega)) ?_
 have hc:¬mJ (a:Int) (b:Int)<0:=by unfold mJ;rw[if_neg (by omega)];split<;>omega
 simp only[if_neg hc]
 refine Ev.bind (Ht (by omega)) ?_
 refine Ev.cast (U3 (kS a) (kS b) (by omega) hl (by rw[lG,lG];omega) (dg a).length 0 _ 0 (by omega) rfl (kS a) (by omega) (by omega) (λj _=>rfl) ⟨by simp [rG]⟩) ?_
 rw[lG,lG]
 congr 2
 omega
theorem Tm{a b c:Int}(ha0:0<=a)(ha1:a<4294967296)(hb0:0<=b)(hb1:b<4294967296)(hc0:0<=c)(hc1:c<=1):
 IntKind.u64.wrap (IntKind.u64.wrap (IntKind.u64.wrap (a+4294967296)-b)-c)=a+4294967296-b-c:=by
 rw[lh (x:=a+4294967296) (by omega) (by omega),lh (x:=a+4294967296-b) (by omega) (by omega),lh (by omega) (by omega)]
theorem Tn{a b:List Int}(ha:Lm a)(hb:Lm b)(hlen:a.length<1073741824)(hba:b.length<=a.length)(hle:lv b<=lv a):∀(d i:Nat) (o:List Int) (c:Int),i+d=a.length->o.length=i->Lm o->0<=c->c<=1->
 dw (lv o=lv (a.take i)-lv (b.take i)+(bp i:Int)*c)->Ev (λk=>ry.l0 k a b o c (i:Int)) (dg (lv a-lv b).toNat):=by
 intro d
 induction d with
 |zero=>
  intro i o c hi ho hol hc0 hc1 hv
  have hi:i=a.length:=by omega
  subst hi
  refine Ev.succ ?_
  simp only[ry.l0,if_neg (show ¬((a.length:Nat):Int)<(a.length:Int) by omega)]
  refine Ev.bind (xm hol (by omega)) ?_
  refine Ev.cast (Ev.some _) ?_
  have hv:=hv.out
  rw[List.take_of_length_le (Nat.le_refl _),List.take_of_length_le hba] at hv
  have h1:=wS hol (m:=a.length) (by omega)
  have h2:=yI hol
  have hc:c=0:=by
   by_cases e:c=1
   ·subst e;rw[Int.mul_one] at hv;omega
   ·omega
  subst hc
  rw[hv,Int.mul_zero,Int.add_zero]
 |succ d ih=>
  intro i o c hi ho hol hc0 hc1 hv
  have hia:i<a.length:=by omega
  have ra:=qy ha (i:Int)
  have rb:=qy hb (i:Int)
  have hsd:∃s,s=rd a (i:Int)+4294967296-rd b (i:Int)-c:=⟨_,rfl⟩
  obtain⟨s,hs⟩:=hsd
  have hs0:0<=s:=by omega
  have hs1:s<8589934592:=by omega
  refine Ev.succ ?_
  simp only[ry.l0,CQ ha,CQ hb,Option.bind_some,if_pos (show(i:Int)<(a.length:Int) by omega),if_pos (show o.length<35184372088832 by omega),Tm ra.1 ra.2 rb.1 rb.2 hc0 hc1,<-hs,DW 4294967296 hs0,DX 4294967296 hs0,wn (show(i:Int)+1=((i+1:Nat):Int) by omega) (by omega),lh (x:=s / 4294967296) (by omega) (by omega),lh (x:=1-s / 4294967296) (by omega) (by omega),show s % 4294967296 % 4294967296=s % 4294967296 by omega]
  refine ih (i+1) _ _ (by omega) (by rw[List.length_append];simp [ho]) (F9 hol (uD.mpr ⟨by omega,wU⟩)) (by omega) (by omega) ⟨?_⟩
  rw[CO,zo,rG,ho,xP,xP,mY,Int.natCast_mul,hv.out]
  have hdiv:s % 4294967296+4294967296*(s / 4294967296)=rd a (i:Int)+4294967296-rd b (i:Int)-c:=by rw[D7];exact hs
  clear ih hs hs0 hs1 ra rb hc0 hc1 hv
  generalize s % 4294967296=y at*
  generalize s / 4294967296=u at*
  generalize (bp i:Int)=p at*
  generalize rd a (i:Int)=x at*
  generalize rd b (i:Int)=z at*
  generalize lv (a.take i)=la at*
  generalize lv (b.take i)=lb at*
  show la-lb+p*c+p*(y+4294967296*0)=la+p*x-(lb+p*z)+4294967296*p*(1-u)
  have h3:p*(y+4294967296*u)=p*(x+4294967296-z-c):=by rw[hdiv]
  grind
theorem Eb{a b:Nat}(h1:(dg a).length<268435456)(hab:b<=a):Ev (λk=>ry.f k (dg a) (dg b)) (dg (a-b)):=by
 have hl:=qm hab
 simp only[ry.f]
 refine Ev.cast (Tn (kS a) (kS b) (by omega) hl (by rw[lG,lG];omega) (dg a).length 0 [] 0 (by omega) rfl wU (by omega) (by omega) ⟨by simp [rG]⟩) ?_
 rw[lG,lG]
 congr 1
 omega
theorem XV:∀(b x:Nat),x<4294967296->x≠0->Lib.bitLen x=b+1->2^b<=x:=by
 intro b
 induction b with
 |zero=>intro x _ h0 _;rw[Nat.pow_zero];omega
 |succ b ih=>
  intro x hx h0 hb
  rw[Lib.bitLen_half x h0 (by omega)] at hb
  have h2:x / 2≠0:=by intro e;rw[e,PT] at hb;omega
  have:=ih (x / 2) (by omega) h2 (by omega)
  rw[Nat.pow_succ]
  omega
theorem Gy{n:Nat}(h:n≠0):2^(bl n-1)<=n/\n<2^bl n/\1<=bl n:=by
 have hp:(dg n).length≠0:=by rw[Ne,zy];exact h
 obtain⟨m,hm⟩:∃m,(dg n).length=m+1:=⟨(dg n).length-1,by omega⟩
 have hb:bl n=32*m+Lib.bitLen (rd (dg n) (m:Int)).toNat:=by unfold bl;rw[if_neg h,hm];rfl
 have hr:=qy (kS n) (m:Int)
 have ht:=Js hm.symm
 obtain⟨x,hx⟩:∃x:Nat,rd (dg n) (m:Int)=(x:Int):=⟨(rd (dg n) (m:Int)).toNat,by omega⟩
 have hv:lv (dg n)=lv ((dg n).take m)+(bp m:Int)*(x:Int):=by
  have:=xq (l:=dg n) (i:=m) (by omega)
  rw[<-hm,List.take_of_length_le (Nat.le_refl _),hx] at this
  exact this
 have hlow:=Hy (kS n) m
 rw[lG] at hv
 rw[hx] at hr ht hb
 rw[Int.toNat_natCast] at hb
 have hx0:x≠0:=by omega
 have hx1:x<4294967296:=by omega
 obtain⟨c,hc⟩:∃c,Lib.bitLen x=c+1:=⟨Lib.bitLen x-1,by have:=ER hx0 hx1;omega⟩
 have h1:=XV c x hx1 hx0 hc
 have h2:=PU (c+1) x hx1 (by omega)
 obtain⟨y,hy⟩:∃y:Nat,lv ((dg n).take m)=(y:Int):=⟨(lv ((dg n).take m)).toNat,by omega⟩
 rw[hy] at hlow hv
 have hn:n=y+bp m*x:=by
  have:((n:Nat):Int)=((y+bp m*x:Nat):Int):=by rw[hv,Int.natCast_add,Int.natCast_mul]
  omega
 have hy2:y<bp m:=by omega
 rw[hb,hc]
 refine⟨?_,?_,by omega⟩
 ·rw[show 32*m+(c+1)-1=32*m+c by omega,Nat.pow_add,Ce]
  have:=Nat.mul_le_mul_left (bp m) h1
  omega
 ·rw[Nat.pow_add,Ce]
  have h3:bp m*(x+1)<=bp m*2^(c+1):=Nat.mul_le_mul_left _ (by omega)
  rw[Nat.mul_add,Nat.mul_one] at h3
  omega
theorem SK{x c:Int}{m:Nat}(hx0:0<=x)(hx1:x<4294967296)(hm:m<32)(hc0:0<=c)(hc1:c<4294967296):
 IntKind.u64.wrap (shl .u64 (IntKind.u64.wrap x) (m:Int)+c)=x*((2^m:Nat):Int)+c/\0<=x*((2^m:Nat):Int)+c/\x*((2^m:Nat):Int)+c<18446744073709551616:=by
 have hp:2^m<=2147483648:=Nat.pow_le_pow_right (n:=2) (by decide) (show m<=31 by omega)
 have hb:x*((2^m:Nat):Int)<=4294967295*2147483648:=Int.mul_le_mul (by omega) (Int.ofNat_le.mpr hp) (Int.natCast_nonneg _) (by decide)
 have h0:0<=x*((2^m:Nat):Int):=Int.mul_nonneg hx0 (Int.natCast_nonneg _)
 have e:shl .u64 (IntKind.u64.wrap x) (m:Int)=x*((2^m:Nat):Int):=by
  unfold shl
  rw[lh (x:=x) hx0 (by omega),Int.toNat_natCast,Nat.min_eq_left (show m<=IntKind.u64.bits by simp [IntKind.bits];omega)]
  rw[show(2:Int)^m=((2^m:Nat):Int) by rw[Int.natCast_pow];rfl]
  exact lh h0 (by omega)
 rw[e]
 generalize x*((2^m:Nat):Int)=y at*
 exact⟨lh (by omega) (by omega),by omega,by omega⟩
theorem Tv{a:List Int}{n m z:Nat}(ha:Lm a)(hla:a.length<268435456)(hz:z<268435456)(hnm:Int.tmod (n:Int) 32=(m:Int))(hm:m<32):∀(d i:Nat) (o:List Int) (c:Int),i+d=a.length->o.length=z+i->Lm o->0<=c->c<4294967296->
 dw (lv o+(bp (z+i):Int)*c=(bp z:Int)*(lv (a.take i)*((2^m:Nat):Int)))->Ev (λk=>rX.l0 k a (n:Int) o c (i:Int)) (dg ((bp z:Int)*(lv a*((2^m:Nat):Int))).toNat):=by
 intro d
 induction d with
 |zero=>
  intro i o c hi ho hol hc0 hc1 hv
  have hi:i=a.length:=by omega
  subst hi
  refine Ev.succ ?_
  simp only[rX.l0,if_neg (show ¬((a.length:Nat):Int)<(a.length:Int) by omega),if_pos (show o.length<35184372088832 by omega)]
  have hl:Lm (o++[c % 4294967296]):=F9 hol (uD.mpr ⟨by omega,wU⟩)
  refine Ev.bind (xm hl (by rw[List.length_append];simp;omega)) ?_
  refine Ev.cast (Ev.some _) ?_
  have hv:=hv.out
  rw[List.take_of_length_le (Nat.le_refl _)] at hv
  rw[CO,zo,rG,ho,show c % 4294967296=c by omega,Int.mul_zero,Int.add_zero,hv]
 |succ d ih=>
  intro i o c hi ho hol hc0 hc1 hv
  have hia:i<a.length:=by omega
  have ra:=qy ha (i:Int)
  have sl:=SK ra.1 ra.2 hm hc0 hc1
  refine Ev.succ ?_
  simp only[rX.l0,hnm,sl.1,if_pos (show(i:Int)<(a.length:Int) by omega),if_pos (show(0:Int)<=(i:Int) by omega),if_pos (show(0:Int)<=(m:Int) by omega),if_pos (show o.length<35184372088832 by omega),wn (show(i:Int)+1=((i+1:Nat):Int) by omega) (by omega),DW 4294967296 sl.2.1,DX 4294967296 sl.2.1]
  have hsd:∃s,s=rd a (i:Int)*((2^m:Nat):Int)+c:=⟨_,rfl⟩
  obtain⟨s,hs⟩:=hsd
  have hs0:0<=s:=by rw[hs];exact sl.2.1
  have hs1:s<18446744073709551616:=by rw[hs];exact sl.2.2
  clear sl
  rw[<-hs]
  have hd:=Jq hs0 hs1
  have hs:=dw.mk hs
  rw[show s % 4294967296 % 4294967296=s % 4294967296 by omega]
  rw[lh (x:=s / 4294967296) hd.2.2.1 (by omega)]
  refine ih (i+1) _ _ (by omega) (by rw[List.length_append];simp [ho];omega) (F9 hol (uD.mpr ⟨⟨hd.1,hd.2.1⟩,wU⟩)) hd.2.2.1 hd.2.2.2 ⟨?_⟩
  have hdiv:s % 4294967296+4294967296*(s / 4294967296)=rd a (i:Int)*((2^m:Nat):Int)+c:=by rw[D7];exact hs.out
  rw[CO,zo,rG,ho,xP,<-Nat.add_assoc,mY,Int.natCast_mul]
  have hv:=hv.out
  have hbp:((bp (z+i):Nat):Int)=(bp z:Int)*(bp i:Int):=by rw[Bi,Int.natCast_mul]
  clear ih hs hs0 hs1 hd ra hc0 hc1 hnm hm
  generalize s % 4294967296=y at*
  generalize s / 4294967296=u at*
  generalize (bp (z+i):Int)=p at*
  generalize (bp z:Int)=pz at*
  generalize (bp i:Int)=pi at*
  generalize rd a (i:Int)=x at*
  generalize ((2^m:Nat):Int)=P at*
  generalize lv (a.take i)=la at*
  generalize lv o=lo at*
  subst hbp
  show lo+pz*pi*(y+4294967296*0)+4294967296*(pz*pi)*u=pz*((la+pi*x)*P)
  have h3:pz*pi*(y+4294967296*u)=pz*pi*(x*P+c):=by rw[hdiv]
  grind
theorem LY{a n:Nat}(ha:(dg a).length<134217728)(hn:n<4294967296):Ev (λk=>rX.f k (dg a) (n:Int)) (dg (a*2^n)):=by
 have h1:Int.tdiv (n:Int) 32=((n / 32:Nat):Int):=by rw[Int.tdiv_eq_ediv_of_nonneg (by omega)];rfl
 have h2:Int.tmod (n:Int) 32=((n % 32:Nat):Int):=by rw[Int.tmod_eq_emod_of_nonneg (by omega)];rfl
 have h3:wrap64 ((n / 32:Nat):Int)=((n / 32:Nat):Int):=wn rfl (by clear h1 h2;omega)
 simp only[rX.f,h1,h3,if_pos (show(0:Int)<=((n / 32:Nat):Int) by omega),Int.toNat_natCast,if_pos (show n / 32<=70368744177664 by clear h1 h2 h3;omega)]
 clear h1 h3
 refine Ev.cast (Tv (z:=n / 32) (kS a) (by clear h2;omega) (by clear h2;omega) h2 (by clear h2;omega) (dg a).length 0 _ 0 (by omega) (by simp) (CP _) (by omega) (by omega) ⟨by rw[Az];simp [rG]⟩) ?_
 clear h2
 rw[lG,<-Int.natCast_mul,<-Int.natCast_mul,Int.toNat_natCast]
 congr 1
 rw[<-Ce,Nat.mul_left_comm,<-Nat.pow_add]
 congr 2
 omega
theorem UB(i:Nat):(dg (2^i)).length<=i / 32+1:=by
 refine nO ?_
 rw[<-Ce]
 exact Nat.pow_lt_pow_right (by decide) (by omega)
theorem Uf{a b:Nat}(hb:b≠0)(hla:(dg a).length<1048576)(hlb:(dg b).length<1048576):∀(n:Nat),n<67108864->∀(quo rem:Nat),quo*b+rem=a->rem<b*2^n->
 Ev (λk=>qj.l0 k (dg b) (dg quo) (dg rem) ((n:Int)-1)) (dg (a / b),dg (a % b)):=by
 intro n
 induction n with
 |zero=>
  intro _ quo rem h1 h2
  rw[Nat.pow_zero,Nat.mul_one] at h2
  have hq:a / b=quo:=by
   rw[<-h1,Nat.mul_comm,Nat.mul_add_div (by omega),Nat.div_eq_of_lt h2,Nat.add_zero]
  have hr:a % b=rem:=by
   rw[<-h1,Nat.mul_comm,Nat.mul_add_mod,Nat.mod_eq_of_lt h2]
  have I_:(dg quo).length<=(dg a).length:=qm (by
   rw[<-hq];exact Nat.div_le_self _ _)
  refine Ev.succ ?_
  simp only[qj.l0,if_neg (show ¬((0:Nat):Int)-1>=0 by omega)]
  refine Ev.bind (xJ (by omega)) ?_
  rw[hq,hr]
  exact Ev.some _
 |succ n ih=>
  intro hn quo rem h1 h2
  have I_:(dg quo).length<=(dg a).length:=qm (by
   have:quo*1<=quo*b:=Nat.mul_le_mul_left _ (by omega)
   omega)
  have hrl:(dg rem).length<=(dg a).length:=qm (by omega)
  have hp:=UB n
  have ht:=rF b (2^n)
  refine Ev.succ ?_
  simp only[qj.l0,show((n+1:Nat):Int)-1=(n:Int) from by omega,if_pos (show(n:Int)>=0 by omega),lD (x:=(n:Int)-1) (by omega) (by omega)]
  refine Ev.bind (LY (by omega) (by omega)) ?_
  refine Ev.bind (Iu (by omega) (by omega)) ?_
  by_cases h:b*2^n<=rem
  ·have hc:mJ (rem:Int) ((b*2^n:Nat):Int)>=0:=by
    unfold mJ
    rw[if_neg (by omega)]
    split<;>omega
   simp only[if_pos hc]
   refine Ev.bind (Eb (by omega) h) ?_
   rw[show([1]:List Int)=dg 1 from vO.symm]
   refine Ev.bind (LY (by rw[vO];simp) (by omega)) ?_
   rw[Nat.one_mul]
   refine Ev.bind (FV (by omega) (by omega)) ?_
   refine ih (by omega) _ _ ?_ ?_
   ·rw[Nat.add_mul,Nat.mul_comm (2^n) b]
    generalize b*2^n=t at*
    omega
   ·rw[Nat.pow_succ,<-Nat.mul_assoc] at h2
    generalize b*2^n=t at*
    omega
  ·have hc:¬mJ (rem:Int) ((b*2^n:Nat):Int)>=0:=by
    unfold mJ
    rw[if_pos (by omega)]
    omega
   simp only[if_neg hc]
   exact ih (by omega) quo rem h1 (by omega)
theorem PR(n:Nat):bl n<=32*(dg n).length:=by
 by_cases h:n=0
 ·subst h;rw[xB.mpr rfl];omega
 ·have hb:=Gy h
  have h1:=tC n
  rw[<-Ce] at h1
  have h2:bl n-1<32*(dg n).length:=by
   refine(Nat.pow_lt_pow_iff_right (a:=2) (by decide)).mp (Nat.lt_of_le_of_lt hb.1 h1)
  omega
theorem Eh{a b:Nat}(hb:b≠0)(hla:(dg a).length<1048576)(hlb:(dg b).length<1048576):Ev (λk=>qj.f k (dg a) (dg b)) (dg (a / b),dg (a % b)):=by
 simp only[qj.f]
 refine Ev.bind (xJ (by omega)) ?_
 refine Ev.bind (Ei (by omega)) ?_
 refine Ev.bind (Ei (by omega)) ?_
 have ba:=PR a
 have bb:=PR b
 have hbb:=Gy hb
 rw[show([]:List Int)=dg 0 from pI.symm]
 by_cases h:bl b<=bl a
 ·rw[show wrap64 (((bl a:Nat):Int)-((bl b:Nat):Int))=((bl a-bl b+1:Nat):Int)-1 from by rw[lD (by omega) (by omega)];omega]
  refine Uf hb hla hlb _ (by omega) 0 a (by omega) ?_
  by_cases ha:a=0
  ·subst ha;exact Nat.mul_pos (by omega) (Nat.two_pow_pos _)
  ·have hba:=Gy ha
   refine Nat.lt_of_lt_of_le hba.2.1 ?_
   rw[show bl a=(bl b-1)+(bl a-bl b+1) by omega,Nat.pow_add]
   rw[show(bl b-1)+(bl a-bl b+1)-bl b+1=bl a-bl b+1 by omega]
   exact Nat.mul_le_mul_right _ hbb.1
 ·rw[show wrap64 (((bl a:Nat):Int)-((bl b:Nat):Int))= -((bl b-bl a:Nat):Int) from by rw[lD (by omega) (by omega)];omega]
  have hlt:a<b:=by
   by_cases ha:a=0
   ·omega
   ·have hba:=Gy ha
    refine Nat.lt_of_lt_of_le hba.2.1 (Nat.le_trans ?_ hbb.1)
    exact Nat.pow_le_pow_right (by decide) (by omega)
  refine Ev.succ ?_
  simp only[qj.l0,if_neg (show ¬ -((bl b-bl a:Nat):Int)>=0 by omega)]
  refine Ev.bind (xJ (by rw[pI];simp)) ?_
  rw[Nat.div_eq_of_lt hlt,Nat.mod_eq_of_lt hlt]
  exact Ev.some _
theorem y8{a:Nat}(h:(dg a).length<268435456):Ev (λk=>qB.f k (dg a)) (decide (a=0)):=by
 simp only[qB.f]
 refine Ev.bind (xJ h) ?_
 refine Ev.cast (Ev.some _) ?_
 by_cases h0:a=0
 ·subst h0;rw[pI];simp
 ·rw[decide_eq_false h0]
  have:(dg a).length≠0:=by rw[Ne,zy];exact h0
  simp only[beq_eq_false_iff_ne]
  omega
theorem Md:∀(b a:Nat),(dg a).length<1048576->(dg b).length<1048576->Ev (λk=>sS.l0 k (dg a) (dg b)) (dg (Nat.gcd a b)):=by
 intro b
 induction b using Nat.strongRecOn with
 |_ b ih=>
  intro a h1 h2
  refine Ev.succ ?_
  simp only[sS.l0]
  refine Ev.bind (y8 (by omega)) ?_
  by_cases h0:b=0
  ·subst h0
   simp only[decide_true,if_true,Nat.gcd_zero_right]
   refine Ev.bind (xJ (by omega)) ?_
   exact Ev.some _
  ·simp only[decide_eq_false h0,Bool.false_eq_true,if_false]
   refine Ev.bind (Eh h0 h1 h2) ?_
   rw[Nat.gcd_comm,Nat.gcd_rec,Nat.gcd_comm]
   have hlt:=Nat.mod_lt a (show b>0 by omega)
   refine ih (a % b) hlt b h2 ?_
   have:=qm (Nat.le_of_lt hlt)
   omega
theorem TT{a b:Nat}(h1:(dg a).length<1048576)(h2:(dg b).length<1048576):Ev (λk=>sS.f k (dg a) (dg b)) (dg (Nat.gcd a b)):=by
 simp only[sS.f]
 exact Md b a h1 h2
theorem Ib{a:Nat}(h1:(dg a).length<268435456):Ev (λk=>jX.f k (dg a)) (dg a):=by
 refine Ev.cast (vI (kS a) (by omega)) ?_
 rw[lG,Int.toNat_natCast]
theorem U9{a b:Nat}(hb0:b≠0)(hb1:b<4294967296)(hla:(dg a).length<268435456):Ev (λk=>zn.f k (dg a) (dg b)) (dg (a / b),dg (a % b),0):=by
 have hb:dg b=[(b:Int)]:=Gq hb0 hb1
 have hbl:(dg b).length=1:=by rw[hb];rfl
 simp only[zn.f]
 refine Ev.bind (Ib hla) ?_
 refine Ev.bind (Ib (by omega)) ?_
 rw[hbl]
 simp only[if_neg (show ¬((1:Nat):Int)=0 by omega)]
 refine Ev.bind (Et hla (by omega)) ?_
 by_cases h:a<b
 ·have hc:mJ (a:Int) (b:Int)<0:=by unfold mJ;rw[if_pos (by omega)];omega
  simp only[if_pos hc]
  refine Ev.bind (Ht hla) ?_
  rw[Nat.div_eq_of_lt h,Nat.mod_eq_of_lt h,pI]
  exact Ev.some _
 ·have hc:¬mJ (a:Int) (b:Int)<0:=by unfold mJ;rw[if_neg (by omega)];split<;>omega
  simp only[if_neg hc,if_pos (show((1:Nat):Int)=1 by omega),if_pos (show(0:Int)<((1:Nat):Int) by omega)]
  have hr:rd (dg b) 0=(b:Int):=by rw[hb];rfl
  rw[hr]
  refine Ev.bind (OY (kS a) (by omega) (by omega) (by omega)) ?_
  have hm:lv (dg a) % (b:Int)=((a % b:Nat):Int):=by rw[lG,Int.natCast_emod]
  have hd:(lv (dg a) / (b:Int)).toNat=a / b:=by rw[lG,<-Int.natCast_ediv,Int.toNat_natCast]
  have hmb:a % b<b:=Nat.mod_lt _ (by omega)
  rw[hm,hd]
  clear hm hd hr
  simp only[lh (x:=((a % b:Nat):Int)) (by omega) (by omega)]
  refine Ev.bind (FY (by omega)) ?_
  exact Ev.some _
def sg(neg:Bool)(n:Nat):Int:=if neg=true then -(n:Int) else(n:Int)
def rz(z:Int):Bool×List Int×List Int:=(decide (z<0),dg z.natAbs,dg 1)
theorem yD(neg:Bool)(n:Nat):(sg neg n).natAbs=n:=by unfold sg;cases neg<;>simp
theorem LG{neg:Bool}{n:Nat}(h:n≠0):decide (sg neg n<0)=neg:=by
 unfold sg
 cases neg
 ·simp
 ·simp;omega
theorem LD(z:Int):sg (decide (z<0)) z.natAbs=z:=by
 unfold sg
 by_cases h:z<0
 ·rw[if_pos (decide_eq_true h)];omega
 ·rw[if_neg (by simpa using h)];omega
theorem Tc{neg:Bool}{n:Nat}(h:n≠0):rz (sg neg n)=(neg,dg n,dg 1):=by
 unfold rz
 rw[LG h,yD]
theorem LV:rz 0=(false,[],[1]):=by unfold rz;simp [pI,vO]
theorem LC(neg:Bool):sg neg 0=0:=by unfold sg;cases neg<;>simp
theorem Es:(dg 1).length=1:=by rw[vO];rfl
theorem zZ{neg:Bool}{n:Nat}(h:(dg n).length<1048576):Ev (λk=>mP.f k neg (dg n) (dg 1)) (rz (sg neg n)):=by
 simp only[mP.f]
 refine Ev.bind (y8 (by omega)) ?_
 by_cases h0:n=0
 ·subst h0
  simp only[decide_true,if_true]
  refine Ev.succ ?_
  simp only[mP.j0,if_true]
  rw[LC,LV]
  exact Ev.some _
 ·simp only[decide_eq_false h0,Bool.false_eq_true,if_false]
  have:=Es
  refine Ev.bind (y8 (by omega)) ?_
  refine Ev.succ ?_
  simp only[show decide ((1:Nat)=0)=false from rfl,mP.j0,Bool.false_eq_true,if_false]
  refine Ev.bind (TT h (by omega)) ?_
  rw[Nat.gcd_one_right]
  refine Ev.bind (Eh (by decide) h (by omega)) ?_
  refine Ev.bind (Eh (by decide) (by omega) (by omega)) ?_
  simp only[Nat.div_one]
  rw[Tc h0]
  exact Ev.some _
def yh(z:Int):Prop:=(dg z.natAbs).length<262144
theorem Ii{z:Int}(h:yh z):Ev (λk=>qA.f k (rz z).1 (rz z).2.1 (rz z).2.2) (rz z):=by
 have h:(dg z.natAbs).length<262144:=h
 simp only[qA.f]
 refine Ev.bind (zZ (neg:=decide (z<0)) (n:=z.natAbs) (by omega)) ?_
 rw[LD]
 exact Ev.some _
theorem TK{n:Nat}(h:(dg n).length<262144):Ev (λk=>zl.f k (dg n)) (rz (n:Int)):=by
 simp only[zl.f,show([1]:List Int)=dg 1 from vO.symm]
 refine Ev.bind (zZ (neg:=false) (n:=n) (by omega)) ?_
 exact Ev.some _
theorem TJ{z:Int}(h:yh z):Ev (λk=>Ad.f k (rz z).1 (rz z).2.1 (rz z).2.2) (rz (-z)):=by
 simp only[Ad.f]
 refine Ev.bind (Ii h) ?_
 have h:(dg z.natAbs).length<262144:=h
 refine Ev.bind (zZ (neg:= !decide (z<0)) (n:=z.natAbs) (by omega)) ?_
 have e:sg (!decide (z<0)) z.natAbs= -z:=by
  unfold sg
  by_cases g:z<0
  ·simp [g];omega
  ·simp [g];omega
 rw[e]
 exact Ev.some _
theorem MQ{x y:Int}(hx:yh x)(hy:yh y):Ev (λk=>lY.f k (rz x).1 (rz x).2.1 (rz x).2.2 (rz y).1 (rz y).2.1 (rz y).2.2) (rz (x+y)):=by
 simp only[lY.f]
 refine Ev.bind (Ii hx) ?_
 refine Ev.bind (Ii hy) ?_
 have hx:(dg x.natAbs).length<262144:=hx
 have hy:(dg y.natAbs).length<262144:=hy
 have h1:=Es
 simp only[rz]
 refine Ev.bind (vW (by omega) (by omega)) ?_
 refine Ev.bind (vW (by omega) (by omega)) ?_
 refine Ev.bind (vW (by omega) (by omega)) ?_
 simp only[Nat.mul_one]
 by_cases hs:(decide (x<0)==decide (y<0))=true
 ·simp only[hs,if_true]
  refine Ev.bind (FV (by omega) (by omega)) ?_
  have hl:(dg (x.natAbs+y.natAbs)).length<1048576:=by
   have hb1:=tC x.natAbs
   have hb2:=tC y.natAbs
   have hb3:=wY (show(dg x.natAbs).length<=262144 by omega)
   have hb4:=wY (show(dg y.natAbs).length<=262144 by omega)
   have:(dg (x.natAbs+y.natAbs)).length<=262144+1:=nO (by rw[mY];generalize bp 262144=p at*;omega)
   omega
  refine Ev.bind (zZ hl) ?_
  refine Ev.cast (Ev.some _) ?_
  have e:sg (decide (x<0)) (x.natAbs+y.natAbs)=x+y:=by
   unfold sg
   by_cases g:x<0
   ·have g2:y<0:=by simpa [g] using hs
    simp [g];omega
   ·have g2:¬y<0:=by simpa [g] using hs
    simp [g];omega
  rw[e]
  rfl
 ·simp only[hs,Bool.false_eq_true,if_false]
  refine Ev.bind (Iu (by omega) (by omega)) ?_
  by_cases hle:y.natAbs<=x.natAbs
  ·have hc:mJ ((x.natAbs:Nat):Int) ((y.natAbs:Nat):Int)>=0:=by
    unfold mJ
    rw[if_neg (by omega)]
    split<;>omega
   simp only[if_pos hc]
   refine Ev.bind (Eb (by omega) hle) ?_
   have hl:=qm (show x.natAbs-y.natAbs<=x.natAbs by omega)
   refine Ev.bind (zZ (by omega)) ?_
   refine Ev.cast (Ev.some _) ?_
   have e:sg (decide (x<0)) (x.natAbs-y.natAbs)=x+y:=by
    unfold sg
    by_cases g:x<0
    ·have g2:¬y<0:=by simpa [g] using hs
     simp [g];omega
    ·have g2:y<0:=by simpa [g] using hs
     simp [g];omega
   rw[e]
   rfl
  ·have hc:¬mJ ((x.natAbs:Nat):Int) ((y.natAbs:Nat):Int)>=0:=by
    unfold mJ
    rw[if_pos (by omega)]
    omega
   simp only[if_neg hc]
   refine Ev.bind (Eb (by omega) (by omega)) ?_
   have hl:=qm (show y.natAbs-x.natAbs<=y.natAbs by omega)
   refine Ev.bind (zZ (by omega)) ?_
   refine Ev.cast (Ev.some _) ?_
   have e:sg (decide (y<0)) (y.natAbs-x.natAbs)=x+y:=by
    unfold sg
    by_cases g:y<0
    ·have g2:¬x<0:=by intro g3;apply hs;simp [g,g3]
     simp [g];omega
    ·have g2:x<0:=by
      by_cases g3:x<0
      ·exact g3
      ·exact absurd (by simp [g,g3]) hs
     simp [g];omega
   rw[e]
   rfl
theorem MS{z:Int}(h0: -4611686018427387904<=z)(h1:z<=4611686018427387904):Ev (λk=>yF.f k z) (dg z.natAbs):=by
 simp only[yF.f]
 by_cases h:z<0
 ·simp only[if_pos h]
  have e:IntKind.u64.wrap (wrap64 (-(wrap64 (z+1))))=((z.natAbs-1:Nat):Int):=by
   rw[lD (x:=z+1) (by omega) (by omega),lD (x:= -(z+1)) (by omega) (by omega),lh (by omega) (by omega)]
   omega
  rw[e]
  clear e
  refine Ev.bind (Ee (by omega)) ?_
  rw[show([1]:List Int)=dg 1 from vO.symm]
  have hl:(dg (z.natAbs-1)).length<=3:=nO (by
   simp only[mY,tX];omega)
  have:=Es
  refine Ev.bind (FV (by omega) (by omega)) ?_
  exact Ev.cast (Ev.some _) (by congr 1;omega)
 ·simp only[if_neg h]
  have e:IntKind.u64.wrap z=((z.natAbs:Nat):Int):=by rw[lh (by omega) (by omega)];omega
  rw[e]
  clear e
  refine Ev.bind (Ee (by omega)) ?_
  exact Ev.some _
theorem Mc{z:Int}(h0: -4611686018427387904<=z)(h1:z<=4611686018427387904):Ev (λk=>yG.f k z) (rz z):=by
 simp only[yG.f,Cc.f]
 refine Ev.bind (Ev.bind (MS h0 h1) (Ev.bind (MS (z:=1) (by omega) (by omega)) (Ev.bind (zZ (neg:=(decide (z<0) != decide ((1:Int)<0))) (n:=z.natAbs) ?_) (Ev.some _)))) ?_
 ·have hl:(dg z.natAbs).length<=3:=nO (by simp only[mY,tX];omega)
  omega
 ·refine Ev.cast (Ev.some _) ?_
  have e:(decide (z<0) != decide ((1:Int)<0))=decide (z<0):=by simp
  rw[e,LD]
def Rz{α:Type}(P:α->Prop)(g:Nat->Option α):Prop:=∃r,Ev g r/\P r
theorem Rz.succ{α:Type}{P:α->Prop}{g:Nat->Option α}(h:Rz P (λk=>g (k+1))):Rz P g:=by
 obtain⟨r,h1,h2⟩:=h
 exact⟨r,Ev.succ h1,h2⟩
theorem Rz.bind{α β:Type}{P:β->Prop}{g:Nat->Option α}{f:Nat->α->Option β}{a:α}(hg:Ev g a)(hf:Rz P (λk=>f k a)):Rz P (λk=>(g k).bind (f k)):=by
 obtain⟨r,h1,h2⟩:=hf
 exact⟨r,Ev.bind hg h1,h2⟩
theorem Rz.some{α:Type}{P:α->Prop}{r:α}(h:P r):Rz P (λ_=>Option.some r):=⟨r,Ev.some r,h⟩
end Mw
end
