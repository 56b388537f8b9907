/- What functions of the program do and come to, for the statement MacwilliamsAssmus, part 2. Conditions: as each theorem says. -/
import Derived.Test.YtifkbghnmhineaaQAssmus1

namespace Go.Proofs.Ytifkbghnmhineaa.qc
set_option maxHeartbeats 8000000
set_option maxRecDepth 100000
open Go.RowKit Go.Proofs.YtifkbghnmhineaaW.lJ Go.Proofs.YtifkbghnmhineaaW.rO Go.Proofs.YtifkbghnmhineaaW.uO
attribute [local go_sem] Aw Ap Aq Aj Ar Ak Au Am
set_option linter.unusedVariables false
set_option linter.unusedSimpArgs false
theorem sV.calls(k:Nat)(A0:Option Addr)(c0:Nat)(l0:List Int)(a1:Int)(r1:List Int)(r2:Int)(w:World)(aa:Kd.C (Kd.int .u32) w A0 l0.length l0)(ac:l0.length<=c0)(h:sV.f k l0 a1=some (r1,r2)):
 Calls Try.prog 115 #[.slice A0 l0.length c0, .int .u32 a1] w λe w'=>∃a6:Value,e= .returned (.tuple #[a6, .int .u32 r2])/\Kd.V (Kd.int .u32) 97 w' w.heap.size (λk_=>(w.heap.size<=k_)) a6 r1/\Below w.heap.size w w':=by
 have ag:=zk aa
 have am:=zk ac
 clear aa ac
 have HB:=zk (Below.refl w.heap.size w)
 have H:=h
 clear h
 unfold sV.f at H
 replace H:=zg H
 obtain⟨c3,H⟩:=H
 have P:=eq_true c3
 have a5:=decide_eq_true c3
 clear c3
 replace H:=zg H
 obtain⟨c4,H⟩:=H
 have W:=eq_true c4
 have U:=decide_eq_true c4
 clear c4
 obtain⟨a0,j⟩:∃y_:List Int,y_=(List.replicate ((l0.length:Int):Int).toNat 0):=⟨_,rfl⟩
 rw[<-j] at H
 have m:=zk j
 clear j
 have H':=zk H
 clear H
 go_enter Try.func115,Try.ntmps115
 go_wp2_with (first|((with_reducible refine jc (N:=11) rfl ?_);refine Kd.ug (Kd.int .u32) _ 97 rfl (N:=11) rfl 29 _ _ rfl (l0.length:Int) rfl rfl Try.underlying29 (.int .u32 0) 4 rZ rfl (by decide) (by omega) 0 (ok:=λ_=>True) (je:=λ_=>True) rfl (λ_ hk=>hk) trivial zd (Nat.le_trans (Nat.mul_le_mul_right _ (zd:(l0.length:Int).toNat<=70368744177664)) (by omega)) (Below.refl _ _) (Nat.le_refl _) ?_;intro T w5 q hb jw jv;clear jw jv;(first|rw[<-m.out] at q|(simp only[Int.reduceToNat] at q;rw[<-m.out] at q));replace q:=Kd.oD (M:=λk_=>(w.heap.size<=k_)) q (iQ (zB HB.out)) (λk_ h_=>h_);have E:=jm q HB;replace HB:=yS HB hb;clear hb q))
 go_loopg [7,8] k (λkq v7 v8 w'=>∃(c:List Int) (g:Int) (a:Int),v7= .int .u64 g/\v8= .int .i64 a/\dw (sV.l0 kq l0 a1 c g a=some (r1,r2))/\dw (kq<=k)/\dw (Kd.R (Kd.int .u32) 97 w' w.heap.size (λk_=>(w.heap.size<=k_)) T c)/\dw (Below w.heap.size w w'))
 case atStart=>exact⟨(a0),(0),(wrap64 ((l0.length:Int)-1)),zF,zF,H',⟨Nat.le_refl _⟩,⟨by(with_reducible repeat(first|apply Kd.iT|apply Kd.iU|apply Kd.iJ));exact Kd.iZ E.out (λ_ hk=>hk.1)⟩,⟨zB HB.out⟩⟩
 clear H'
 (try clear P a5 W U)
 obtain⟨c,g,a,rfl,rfl,HA,ad,b,HB⟩:=hrel
 cases gk with|zero=>exact absurd HA.out (by simp [sV.l0])|succ k1=>?_
 have H:=HA.out
 clear HA
 simp only[sV.l0] at H
 replace H:=zi H
 rcases H with⟨c7,H⟩|⟨c7,H⟩
 ·have a2:decide (0<=a)=true:=decide_eq_true c7
  clear c7
  replace H:=iV H
  obtain⟨al,H⟩:=H
  replace H:=iV H
  obtain⟨aj,H⟩:=H
  replace H:=zh H
  obtain⟨c10,H⟩:=H
  have a7:=beq_eq_false_iff_ne.mpr c10
  have ab:=bne_iff_ne.mpr c10
  replace H:=iV H
  obtain⟨a9,H⟩:=H
  obtain⟨x,l⟩:∃y_:List Int,y_=(c.set (a:Int).toNat ((IntKind.u64.wrap (Int.tdiv (Go.bits .or .u64 (IntKind.u64.wrap (g*4294967296)) (IntKind.u64.wrap (rd l0 a))) (IntKind.u64.wrap (a1)))) % 4294967296)):=⟨_,rfl⟩
  rw[<-l] at H
  have B:=zk l
  clear l
  have H':=zk H
  clear H
  have n:0<=(a:Int):=zd
  have s:a<(l0.length:Int):=zd
  obtain⟨ae,K,d⟩:=Kd.jG ag.out a n s
  cases K
  replace d:=(HB.out.cell (World.block_lt_of_cell? w _ d)).trans d
  replace n:=eq_true n
  replace s:=eq_true s
  have a4:0<=(a:Int):=zd
  have X:(a:Int)<((c.length:Int):Int):=zd
  obtain⟨r,Z,y,z,O,ai,A⟩:=Kd.qO b.out (by omega)
  (first|cases y|(injection y with iW kL kM;(first|subst iW|(injection iW with iW;subst iW));subst kM;clear kL))
  have L:=zk z
  have ak:=zk A
  clear z O A
  obtain⟨Y,J⟩:=Kd.nT 0 b.out (a:Int) a4 X
  replace a4:=eq_true a4
  replace X:=eq_true X
  have o:=Kd.qY b.out (a:Int) ((IntKind.u64.wrap (Int.tdiv (Go.bits .or .u64 (IntKind.u64.wrap (g*4294967296)) (IntKind.u64.wrap (rd l0 a))) (IntKind.u64.wrap (a1)))) % 4294967296)
  go_wp2_with (first|((with_reducible refine qM (t:=97) (p:=34) rfl ?_);refine qJ (t:=97) (p:=34) (v:=?Q_) (w1:=(wr.setCell ⟨r,(a:Int).toNat,none⟩ (.int .u32 ((IntKind.u64.wrap (Int.tdiv (Go.bits .or .u64 (IntKind.u64.wrap (g*4294967296)) (IntKind.u64.wrap (rd l0 a))) (IntKind.u64.wrap (a1)))) % 4294967296)))) ?hg ?ho ?hn ?hr ?_;(case ho=>rfl);(case hg=>rfl);(case hn=>rfl);(case hr=>first|(go_simp;done)|(go_simp;rfl));intro I hw;have hg:wr.grownBy I (some r):=(by rw[hw];exact o.2);have jY:Kd.R (Kd.int .u32) 97 I w.heap.size (λk_=>(w.heap.size<=k_)) (.slice (some ⟨r,0,none⟩) c.length Z) x:=(by rw[hw,B.out];exact o.1);clear o;replace b:=zk (jY);replace HB:=zk ((by rw[hw];exact lS (HB.out) L.out:Below w.heap.size w I));clear hg hw jY))
  go_roundg k1
  case measure=>have:=ad.out;omega
  case rel=>exact⟨(x),(Int.tmod (Go.bits .or .u64 (IntKind.u64.wrap (g*4294967296)) (IntKind.u64.wrap (rd l0 a))) (IntKind.u64.wrap (a1))),(wrap64 (a-1)),zF,zF,H',⟨kP ad⟩,⟨zR b.out⟩,⟨zB HB.out⟩⟩
 have a2:decide (0<=a)=false:=decide_eq_false c7
 clear c7
 replace H:=zb H
 obtain⟨a3,af,H⟩:=H
 simp only[Option.some.injEq,Prod.mk.injEq] at H
 obtain⟨rfl,rfl⟩:=H
 obtain⟨D,G,rfl⟩:=Kd.iD b.out
 go_wp2_with (first|((with_reducible refine gC 118 ?_);refine zG (some 40) Try.func118 #[.slice D c.length G] ?_;(with_reducible refine(jX.calls k1 (λk_=>some k_=(.slice D c.length G:Value).ownBlock) _ _ c a3 _ ?ig af.out).mono ?_);(case ig=>exact Kd.vT (Kd.uf rfl (b.out)));rintro e an ⟨ah,rfl,a8,hb⟩;refine⟨_,rfl,?_⟩;have u:=zk (Kd.qp (Kd.jf (ok':=λk_=>(w.heap.size<=k_)) a8 (λk_ iO=>Or.elim iO (λhs_=>((b.out).1 k_ hs_.symm)) (λjF=>(Nat.le_trans (iQ (zB HB.out)) jF)))) (iQ (zB HB.out)));replace b:=jl b hb;replace HB:=yS HB hb;(try clear hb a8)))
 go_ret2
 exact⟨_,zE,zV u.out,zB HB.out⟩
theorem mG.calls(k:Nat)(A0:Option Addr)(c0:Nat)(l0:List Int)(A1:Option Addr)(c1:Nat)(l1:List Int)(r:List Int)(w:World)(aV:Kd.C (Kd.int .u32) w A0 l0.length l0)(aR:l0.length<=c0)(aQ:Kd.C (Kd.int .u32) w A1 l1.length l1)(aZ:l1.length<=c1)(h:mG.f k l0 l1=some r):
 Calls Try.prog 116 #[.slice A0 l0.length c0, .slice A1 l1.length c1] w λe w'=>∃aU:Value,e= .returned (aU)/\Kd.V (Kd.int .u32) 97 w' w.heap.size (λk_=>(w.heap.size<=k_)) aU r/\Below w.heap.size w w':=by
 have b1:=zk aV
 have be:=zk aR
 clear aV aR
 have b8:=zk aQ
 have bc:=zk aZ
 clear aQ aZ
 have HB:=zk (Below.refl w.heap.size w)
 have H:=h
 clear h
 unfold mG.f at H
 obtain⟨ag,z⟩:∃j_:Int,(wrap64 ((l0.length:Int)+(l1.length:Int)))=j_:=⟨_,rfl⟩
 first|rw[z] at H|simp only[z] at H
 have aX:(IntKind.i64.wrap ((l0.length:Int)+(l1.length:Int)))=ag:=(iI _).trans z
 replace H:=zg H
 obtain⟨c4,H⟩:=H
 have aC:=eq_true c4
 have aj:=decide_eq_true c4
 clear c4
 replace H:=zg H
 obtain⟨c5,H⟩:=H
 have ai:=eq_true c5
 have ak:=decide_eq_true c5
 clear c5
 obtain⟨aq,u⟩:∃y_:List Int,y_=(List.replicate (ag:Int).toNat 0):=⟨_,rfl⟩
 rw[<-u] at H
 have E:=zk u
 clear u
 have H':=zk H
 clear H
 go_enter Try.func116,Try.ntmps116
 go_wp2_with (first|((with_reducible refine jc (N:=17) rfl ?_);refine Kd.ug (Kd.int .u32) _ 97 rfl (N:=17) rfl 29 _ _ rfl ag rfl rfl Try.underlying29 (.int .u32 0) 4 rZ rfl (by decide) (by omega) 0 (ok:=λ_=>True) (je:=λ_=>True) rfl (λ_ hk=>hk) trivial zd (Nat.le_trans (Nat.mul_le_mul_right _ (zd:ag.toNat<=70368744177664)) (by omega)) (Below.refl _ _) (Nat.le_refl _) ?_;intro a8 w6 O hb jw jv;clear jw jv;(first|rw[<-E.out] at O|(simp only[Int.reduceToNat] at O;rw[<-E.out] at O));replace O:=Kd.oD (M:=λk_=>(w.heap.size<=k_)) O (iQ (zB HB.out)) (λk_ h_=>h_);have ac:=jm O HB;replace HB:=yS HB hb;clear hb O))
 go_loopg [20] k (λkq bb w'=>∃(o:List Int) (a:Int),bb= .int .i64 a/\dw (mG.l0 kq l1 o l0 (l0.length:Int) a=some r)/\dw (kq<=k)/\dw (Kd.R (Kd.int .u32) 97 w' w.heap.size (λk_=>(w.heap.size<=k_)) a8 o)/\dw (Below w.heap.size w w'))
 case atStart=>exact⟨(aq),(0),zF,H',⟨Nat.le_refl _⟩,⟨by(with_reducible repeat(first|apply Kd.iT|apply Kd.iU|apply Kd.iJ));exact Kd.iZ ac.out (λ_ hk=>hk.1)⟩,⟨zB HB.out⟩⟩
 clear H'
 (try clear aC aj ai ak)
 obtain⟨o,a,rfl,HA,af,c,HB⟩:=hrel
 cases gk with|zero=>exact absurd HA.out (by simp [mG.l0])|succ k1=>?_
 have H:=HA.out
 clear HA
 simp only[mG.l0] at H
 replace H:=jB H
 rcases H with⟨ad,H⟩|⟨ad,H⟩
 ·replace H:=iV H
  obtain⟨aI,H⟩:=H
  replace H:=iV H
  obtain⟨a6,H⟩:=H
  have H':=zk H
  clear H
  have D:0<=(a:Int):=zd
  have B:a<(l0.length:Int):=zd
  obtain⟨aS,aB,j⟩:=Kd.jG b1.out a D B
  cases aB
  replace j:=(HB.out.cell (World.block_lt_of_cell? w _ j)).trans j
  replace D:=eq_true D
  replace B:=eq_true B
  go_wp2
  go_loopg [8,27] k1 (λkq v8 b7 w'=>∃(d:List Int) (l:Int) (b:Int),v8= .int .u64 l/\b7= .int .i64 b/\dw (mG.l1 kq l1 d a (rd l0 a) l l0 (l0.length:Int) a l1 (l1.length:Int) b=some r)/\dw (kq<=k1)/\dw (Kd.R (Kd.int .u32) 97 w' w.heap.size (λk_=>(w.heap.size<=k_)) a8 d)/\dw (Below w.heap.size w w'))
  case atStart=>exact⟨(o),(0),(0),zF,zF,H',⟨Nat.le_refl _⟩,⟨zR c.out⟩,⟨zB HB.out⟩⟩
  clear H'
  (try clear ad aI a6 j D B)
  obtain⟨d,l,b,rfl,rfl,HA,ae,c,HB⟩:=hrel
  cases gk with|zero=>exact absurd HA.out (by simp [mG.l1])|succ k2=>?_
  have H:=HA.out
  clear HA
  simp only[mG.l1] at H
  replace H:=jB H
  rcases H with⟨Y,H⟩|⟨Y,H⟩
  ·replace H:=iV H
   obtain⟨a_,H⟩:=H
   replace H:=iV H
   obtain⟨aN,H⟩:=H
   obtain⟨g,q⟩:∃j_:Int,(wrap64 (a+b))=j_:=⟨_,rfl⟩
   first|rw[q] at H|simp only[q] at H
   have ao:(IntKind.i64.wrap (a+b))=g:=(iI _).trans q
   replace H:=iV H
   obtain⟨aY,H⟩:=H
   replace H:=iV H
   obtain⟨aW,H⟩:=H
   obtain⟨X,y⟩:∃y_:List Int,y_=(d.set ((g):Int).toNat ((IntKind.u64.wrap ((IntKind.u64.wrap ((IntKind.u64.wrap ((IntKind.u64.wrap ((rd l0 a)))*(IntKind.u64.wrap (rd l1 b))))+(IntKind.u64.wrap (rd d (g)))))+l)) % 4294967296)):=⟨_,rfl⟩
   rw[<-y] at H
   have ab:=zk y
   clear y
   have H':=zk H
   clear H
   have L:0<=(b:Int):=zd
   have U:b<(l1.length:Int):=zd
   obtain⟨aO,ah,m⟩:=Kd.jG b8.out b L U
   cases ah
   replace m:=(HB.out.cell (World.block_lt_of_cell? w _ m)).trans m
   replace L:=eq_true L
   replace U:=eq_true U
   obtain⟨b5,aJ,rfl⟩:=Kd.iD c.out
   have G:0<=((g):Int):=zd
   have J:(g)<(d.length:Int):=zd
   obtain⟨aT,aK,A⟩:=Kd.jG (Kd.iw c.out).2.2 (g) G J
   cases aK
   replace G:=eq_true G
   replace J:=eq_true J
   have al:0<=((g):Int):=zd
   have ap:((g):Int)<((d.length:Int):Int):=zd
   obtain⟨T,b2,a5,W,ar,b0,a2⟩:=Kd.qO c.out (by omega)
   (first|cases a5|(injection a5 with iW kL kM;(first|subst iW|(injection iW with iW;subst iW));subst kM;clear kL))
   have ax:=zk W
   have b3:=zk a2
   clear W ar a2
   (first|simp only[add_plain] at A|skip)
   obtain⟨aH,aG⟩:=Kd.nT 0 c.out ((g):Int) al ap
   replace al:=eq_true al
   replace ap:=eq_true ap
   have K:=Kd.qY c.out ((g):Int) ((IntKind.u64.wrap ((IntKind.u64.wrap ((IntKind.u64.wrap ((IntKind.u64.wrap ((rd l0 a)))*(IntKind.u64.wrap (rd l1 b))))+(IntKind.u64.wrap (rd d (g)))))+l)) % 4294967296)
   go_wp2_with (first|((with_reducible refine qM (t:=97) (p:=53) rfl ?_);refine qJ (t:=97) (p:=53) (v:=?Y3) (w1:=(wr.setCell ⟨T,((g):Int).toNat,none⟩ (.int .u32 ((IntKind.u64.wrap ((IntKind.u64.wrap ((IntKind.u64.wrap ((IntKind.u64.wrap ((rd l0 a)))*(IntKind.u64.wrap (rd l1 b))))+(IntKind.u64.wrap (rd d (g)))))+l)) % 4294967296)))) ?hg ?ho ?hn ?hr ?_;(case ho=>rfl);(case hg=>rfl);(case hn=>rfl);(case hr=>first|(go_simp;done)|(go_simp;rfl));intro an hw;have hg:wr.grownBy an (some T):=(by rw[hw];exact K.2);have jY:Kd.R (Kd.int .u32) 97 an w.heap.size (λk_=>(w.heap.size<=k_)) (.slice (some ⟨T,0,none⟩) d.length aJ) X:=(by rw[hw,ab.out];exact K.1);clear K;replace c:=zk (jY);replace HB:=zk ((by rw[hw];exact lS (HB.out) ax.out:Below w.heap.size w an));clear hg hw jY))
   go_roundg k2
   case measure=>have:=af.out;have:=ae.out;omega
   case rel=>exact⟨(X),((IntKind.u64.wrap ((IntKind.u64.wrap ((IntKind.u64.wrap ((IntKind.u64.wrap ((rd l0 a)))*(IntKind.u64.wrap (rd l1 b))))+(IntKind.u64.wrap (rd d (g)))))+l)) / 4294967296),(wrap64 (b+1)),(by first|rfl|(simp;done)|(simp only[<-q]<;>(first|rfl|simp))|(simp [*];done)),zF,H',⟨lW af ae⟩,⟨zR c.out⟩,⟨zB HB.out⟩⟩
  obtain⟨n,s⟩:∃j_:Int,(wrap64 (a+(l1.length:Int)))=j_:=⟨_,rfl⟩
  first|rw[s] at H|simp only[s] at H
  have aF:(IntKind.i64.wrap (a+(l1.length:Int)))=n:=(iI _).trans s
  replace H:=iV H
  obtain⟨aL,H⟩:=H
  replace H:=iV H
  obtain⟨aP,H⟩:=H
  obtain⟨a9,x⟩:∃y_:List Int,y_=(d.set ((n):Int).toNat ((l) % 4294967296)):=⟨_,rfl⟩
  rw[<-x] at H
  have a4:=zk x
  clear x
  have H':=zk H
  clear H
  have aA:0<=((n):Int):=zd
  have aw:((n):Int)<((d.length:Int):Int):=zd
  obtain⟨P,aE,a1,aa,az,b9,a0⟩:=Kd.qO c.out (by omega)
  (first|cases a1|(injection a1 with iW kL kM;(first|subst iW|(injection iW with iW;subst iW));subst kM;clear kL))
  have aD:=zk aa
  have ba:=zk a0
  clear aa az a0
  obtain⟨am,av⟩:=Kd.nT 0 c.out ((n):Int) aA aw
  replace aA:=eq_true aA
  replace aw:=eq_true aw
  have I:=Kd.qY c.out ((n):Int) ((l) % 4294967296)
  go_wp2_with (first|((with_reducible refine qM (t:=97) (p:=64) rfl ?_);refine qJ (t:=97) (p:=64) (v:=?Y1) (w1:=(wr.setCell ⟨P,((n):Int).toNat,none⟩ (.int .u32 ((l) % 4294967296)))) ?hg ?ho ?hn ?hr ?_;(case ho=>rfl);(case hg=>rfl);(case hn=>rfl);(case hr=>first|(go_simp;done)|(go_simp;rfl));intro ay hw;have hg:wr.grownBy ay (some P):=(by rw[hw];exact I.2);have jY:Kd.R (Kd.int .u32) 97 ay w.heap.size (λk_=>(w.heap.size<=k_)) (.slice (some ⟨P,0,none⟩) d.length aE) a9:=(by rw[hw,a4.out];exact I.1);clear I;replace c:=zk (jY);replace HB:=zk ((by rw[hw];exact lS (HB.out) aD.out:Below w.heap.size w ay));clear hg hw jY))
  go_roundg k2
  case measure=>have:=af.out;have:=ae.out;omega
  case rel=>exact⟨(a9),(wrap64 (a+1)),zF,H',⟨lW af ae⟩,⟨zR c.out⟩,⟨zB HB.out⟩⟩
 replace H:=zb H
 obtain⟨au,b6,H⟩:=H
 obtain rfl:=Option.some.inj H
 obtain⟨a7,Z,rfl⟩:=Kd.iD c.out
 go_wp2_with (first|((with_reducible refine gC 118 ?_);refine zG (some 67) Try.func118 #[.slice a7 o.length Z] ?_;(with_reducible refine(jX.calls k1 (λk_=>some k_=(.slice a7 o.length Z:Value).ownBlock) _ _ o au _ ?ig b6.out).mono ?_);(case ig=>exact Kd.vT (Kd.uf rfl (c.out)));rintro e bf ⟨b4,rfl,aM,hb⟩;refine⟨_,rfl,?_⟩;have a3:=zk (Kd.qp (Kd.jf (ok':=λk_=>(w.heap.size<=k_)) aM (λk_ iO=>Or.elim iO (λhs_=>((c.out).1 k_ hs_.symm)) (λjF=>(Nat.le_trans (iQ (zB HB.out)) jF)))) (iQ (zB HB.out)));replace c:=jl c hb;replace HB:=yS HB hb;(try clear hb aM)))
 go_ret
 exact⟨_,by first|rfl|(simp [kV,kU]<;>rfl)|(simp only[<-z];first|rfl|(simp [kV,kU]<;>rfl))|(simp [*,kV,kU]<;>rfl),zV a3.out,zB HB.out⟩
theorem nC.calls(k:Nat)(a0:Int)(a1:Int)(r1:List Int)(r2:Int)(w:World)(h:nC.f k a0 a1=some (r1,r2)):
 Calls Try.prog 72 #[.int .i64 a0, .int .i64 a1] w λe w'=>∃a3:Value,e= .returned (.tuple #[a3, .int .i64 r2])/\Kd.R (Kd.int .u32) 97 w' w.heap.size (λ_=>True) a3 r1/\Below w.heap.size w w':=by
 have HB:=zk (Below.refl w.heap.size w)
 have H:=h
 clear h
 unfold nC.f at H
 have U:=zk H
 clear H
 go_enter Try.func72,Try.ntmps72
 go_upto_region 1 with(fail)
 go_cut [13] (λaf wc=>∃(kq:Nat) (j:Bool),af= .bool j/\dw (nC.j0 kq a0 a1 j=some (r1,r2))/\dw (kq<=k)/\dw (Below w.heap.size w wc))
 case first=>
  have H:=U.out
  clear U
  replace H:=jB H
  rcases H with⟨n,H⟩|⟨n,H⟩
  ·(first|rw[n]|(simp only[iI,iP];rw[n])|rw[yQ]|skip)
   have H':=zk H
   clear H
   go_wp2
   go_meet
   case rel=>exact⟨_,(true),zF,H',⟨zO⟩,⟨zB HB.out⟩⟩
  (first|rw[n]|(simp only[iI,iP];rw[n])|rw[yQ]|skip)
  have H':=zk H
  clear H
  go_wp2
  go_meet
  case rel=>exact⟨_,(decide (a0>4096)),zF,H',⟨zO⟩,⟨zB HB.out⟩⟩
 clear U
 obtain⟨kq,j,rfl,HA,J,HB⟩:=hcut
 cases kq with|zero=>exact absurd HA.out (by simp [nC.j0])|succ ac=>?_
 have H:=HA.out
 clear HA
 simp only[nC.j0] at H
 by_cases c5:j=true
 ·subst c5
  rw[if_pos rfl] at H
  exact absurd H (by simp)
 replace c5:=Bool.eq_false_iff.mpr c5
 subst c5
 rw[if_neg Bool.false_ne_true] at H
 have a2:=zk H
 clear H
 go_upto_region 3 with(fail)
 go_cut [20] (λaj wc=>∃(kq:Nat) (l:Bool),aj= .bool l/\dw (nC.j1 kq a0 a1 l=some (r1,r2))/\dw (kq<=ac)/\dw (Below w.heap.size w wc))
 case first=>
  have H:=a2.out
  clear a2
  replace H:=jB H
  rcases H with⟨r,H⟩|⟨r,H⟩
  ·(first|rw[r]|(simp only[iI,iP];rw[r])|rw[Jy]|skip)
   have H':=zk H
   clear H
   go_wp2
   go_meet
   case rel=>exact⟨_,(true),zF,H',⟨by have:=J.out;first|omega|exact Nat.le_refl _⟩,⟨zB HB.out⟩⟩
  (first|rw[r]|(simp only[iI,iP];rw[r])|rw[Jy]|skip)
  have H':=zk H
  clear H
  go_wp2
  go_meet
  case rel=>exact⟨_,(decide (a1>a0)),zF,H',⟨by have:=J.out;first|omega|exact Nat.le_refl _⟩,⟨zB HB.out⟩⟩
 clear a2
 (try clear c5)
 obtain⟨kq,l,rfl,HA,a4,HB⟩:=hcut
 cases kq with|zero=>exact absurd HA.out (by simp [nC.j1])|succ a6=>?_
 have H:=HA.out
 clear HA
 simp only[nC.j1] at H
 by_cases c8:l=true
 ·subst c8
  rw[if_pos rfl] at H
  exact absurd H (by simp)
 replace c8:=Bool.eq_false_iff.mpr c8
 subst c8
 rw[if_neg Bool.false_ne_true] at H
 obtain⟨Y,p⟩:∃y_:List Int,y_=(([1]:List Int)):=⟨_,rfl⟩
 rw[<-p] at H
 have x:=zk p
 clear p
 obtain⟨a7,u⟩:∃j_:Int,(mn a1 (wrap64 (a0-a1)))=j_:=⟨_,rfl⟩
 first|rw[u] at H|simp only[u] at H
 have a8:(if(wrap64 (a0-a1))<a1 then(wrap64 (a0-a1)) else a1)=a7:=u
 have H':=zk H
 clear H
 go_wp2_with (first|((with_reducible refine jc (N:=21) rfl ?_);refine Kd.qG (Kd.int .u32) _ 97 ?hg (N:=21) ?hd (xs:=([1]:List Int)) (inner:=[.int .u32 1]) (ok:=λ_=>True) (je:=λ_=>True) ?hr ?hp (λ_ hk=>hk) trivial (Below.refl _ _) (Nat.le_refl _) (by simp) ?_;(case hd=>rfl);(case hg=>rfl);(case hr=>first|(go_simp;done)|(go_simp;rfl));(case hp=>exact(iY.one (show Kd.M (Kd.int .u32) _ _ _ 1 [.int .u32 1] from rfl) (iY.none _ _)));intro ag al o hb jw jv;clear jw jv;(first|rw[<-x.out] at o|(simp only[Int.reduceToNat] at o;rw[<-x.out] at o));have G:=jm o HB;replace HB:=yS HB hb;clear hb o))
 go_loopg [6,27] a6 (λkq v6 ai w'=>∃(g:List Int) (a:Int),ai= .int .i64 a/\dw (nC.l0 kq a0 g a7 a=some (r1,r2))/\dw (kq<=a6)/\dw (Kd.V (Kd.int .u32) 97 w' w.heap.size (λ_=>True) v6 g)/\dw (Below w.heap.size w w'))
 case atStart=>exact⟨(Y),(0),zF,H',⟨Nat.le_refl _⟩,⟨Kd.vT (zR G.out)⟩,⟨zB HB.out⟩⟩
 clear H'
 (try clear c8)
 obtain⟨g,a,rfl,HA,a5,b,HB⟩:=hrel
 cases gk with|zero=>exact absurd HA.out (by simp [nC.l0])|succ k3=>?_
 have H:=HA.out
 clear HA
 simp only[nC.l0] at H
 replace H:=jB H
 rcases H with⟨I,H⟩|⟨I,H⟩
 ·obtain⟨t,q⟩:∃y_:List Int,y_=(([(wrap64 (a0-a)) % 4294967296]:List Int)):=⟨_,rfl⟩
  rw[<-q] at H
  have v:=zk q
  clear q
  replace H:=zb H
  obtain⟨y,ae,H⟩:=H
  replace H:=zb H
  obtain⟨⟨D,T⟩,aa,H⟩:=H
  dsimp only at H
  have H':=zk H
  clear H
  go_wp2_with (first|((with_reducible refine jc (N:=36) rfl ?_);refine Kd.qG (Kd.int .u32) _ 97 ?hg (N:=36) ?hd (xs:=([(wrap64 (a0-a)) % 4294967296]:List Int)) (inner:=[.int .u32 ((wrap64 (a0-a)) % 4294967296)]) (ok:=λ_=>True) (je:=λ_=>True) ?hr ?hp (λ_ hk=>hk) trivial (Below.refl _ _) (Nat.le_refl _) (by simp) ?_;(case hd=>rfl);(case hg=>rfl);(case hr=>first|(go_simp;done)|(go_simp;rfl));(case hp=>exact(iY.one (show Kd.M (Kd.int .u32) _ _ _ ((wrap64 (a0-a)) % 4294967296) [.int .u32 ((wrap64 (a0-a)) % 4294967296)] from rfl) (iY.none _ _)));intro ah ao m hb jw jv;clear jw jv;(first|rw[<-v.out] at m|(simp only[Int.reduceToNat] at m;rw[<-v.out] at m));replace b:=mO b m hb;have c:=jm m HB;replace HB:=yS HB hb;clear hb m;obtain⟨P,L,rfl⟩:=Kd.ku b.out;obtain⟨z,A,rfl⟩:=Kd.iD c.out)|((with_reducible refine gC 116 ?_);refine zG (some 37) Try.func116 #[.slice P g.length L, .slice z t.length A] ?_;(with_reducible refine(mG.calls k3 _ _ g _ _ t y _ ?ig ?ik ?iF ?iE ae.out).mono ?_);(case ig=>exact zC (Kd.jd b.out).2.2);(case ik=>exact(Kd.jd b.out).2.1);(case iF=>exact zC (Kd.iw c.out).2.2);(case iE=>exact(Kd.iw c.out).2.1);rintro e an ⟨ad,rfl,s,hb⟩;refine⟨_,rfl,?_⟩;replace b:=jy b hb;have d:=zk (Kd.qp (Kd.jf (ok':=λk_=>some k_≠(.slice z t.length A:Value).ownBlock) s (λk_ iO=>(Kd.fresh' (Kd.qZ (zR c.out)) k_ iO))) (iQ (zB HB.out)));replace c:=jl c hb;replace HB:=yS HB hb;(try clear hb s);obtain⟨Z,W,rfl⟩:=Kd.ku d.out)|((with_reducible refine gC 115 ?_);refine zG (some 41) Try.func115 #[.slice Z y.length W, .int .u32 ((wrap64 (a+1)) % 4294967296)] ?_;(with_reducible refine(sV.calls k3 _ _ y ((wrap64 (a+1)) % 4294967296) D T _ ?ig ?ik aa.out).mono ?_);(case ig=>exact zC (Kd.jd d.out).2.2);(case ik=>exact(Kd.jd d.out).2.1);rintro e ap ⟨ak,rfl,s,hb⟩;refine⟨_,rfl,?_⟩;replace b:=jy b hb;replace d:=jy d hb;have B:=zk (Kd.qp (Kd.jf (ok':=λk_=>some k_≠(.slice z t.length A:Value).ownBlock) s (λk_ iO=>(Kd.fresh' (Kd.qZ (zR c.out)) k_ iO))) (iQ (zB HB.out)));replace c:=jl c hb;replace HB:=yS HB hb;(try clear hb s)))
  go_roundg k3
  case measure=>have:=J.out;have:=a4.out;have:=a5.out;omega
  case rel=>exact⟨(D),(wrap64 (a+1)),zF,H',⟨by have:=J.out;have:=a4.out;have:=a5.out;omega⟩,⟨by(with_reducible repeat(first|apply Kd.nH|apply Kd.nG|apply Kd.lV));exact Kd.jf B.out (λ_ hk=>trivial)⟩,⟨zB HB.out⟩⟩
 replace H:=zb H
 obtain⟨K,a9,H⟩:=H
 simp only[Option.some.injEq,Prod.mk.injEq] at H
 obtain⟨rfl,rfl⟩:=H
 obtain⟨X,O,rfl⟩:=Kd.ku b.out
 go_wp2_with (first|((with_reducible refine gC 103 ?_);refine zG (some 46) Try.func103 #[.slice X g.length O] ?_;(with_reducible refine(pU.calls k3 _ _ g K _ ?ig ?ik a9.out).mono ?_);(case ig=>exact zC (Kd.jd b.out).2.2);(case ik=>exact(Kd.jd b.out).2.1);rintro e am ⟨ab,rfl,s,hb⟩;refine⟨_,rfl,?_⟩;replace b:=mO b s hb;have E:=jm s HB;replace HB:=yS HB hb;(try clear hb s)))
 go_ret2
 exact⟨_,by first|rfl|(simp [kV,kU]<;>rfl)|(simp only[<-u];first|rfl|(simp [kV,kU]<;>rfl))|(simp [*,kV,kU]<;>rfl),zR E.out,zB HB.out⟩
theorem pG.calls(k:Nat)(A0:Option Addr)(c0:Nat)(l0:List Int)(A1:Option Addr)(c1:Nat)(l1:List Int)(r:Int)(w:World)(av:Kd.C (Kd.int .u32) w A0 l0.length l0)(ax:l0.length<=c0)(aw:Kd.C (Kd.int .u32) w A1 l1.length l1)(ay:l1.length<=c1)(h:pG.f k l0 l1=some r):
 Calls Try.prog 79 #[.slice A0 l0.length c0, .slice A1 l1.length c1] w λe w'=>e= .returned (.int .i64 r)/\Below w.heap.size w w':=by
 have M:=zk av
 have U:=zk ax
 clear av ax
 have O:=zk aw
 have P:=zk ay
 clear aw ay
 have HB:=zk (Below.refl w.heap.size w)
 have H:=h
 clear h
 unfold pG.f at H
 replace H:=zb H
 obtain⟨c,A3,H⟩:=H
 replace H:=zb H
 obtain⟨g,A4,H⟩:=H
 replace H:=zi H
 rcases H with⟨c5,H⟩|⟨c5,H⟩
 ·have a4:=beq_iff_eq.mpr c5
  have a6:=bne_eq_false_iff_eq.mpr c5
  have a8:(c.length==g.length)=true:=by first|simpa using c5|(simp at c5 ⊢;omega)
  clear c5
  have H':=zk H
  clear H
  go_enter Try.func79,Try.ntmps79
  go_wp2_with (first|(go_at_call 118;(with_reducible refine(jX.calls k (λk_=>k_<w.heap.size) _ _ l0 c _ ?ig A3.out).mono ?_);(case ig=>exact Kd.lT U.out (Kd.nZ (Kd.o6 (Kd.oW .u32) M.out) (zB HB.out)));rintro e w6 ⟨q,rfl,j,hb⟩;have a:=ou j HB;replace HB:=yS HB hb;(try clear hb j))|(go_at_call 118;(with_reducible refine(jX.calls k (λk_=>k_<w.heap.size) _ _ l1 g _ ?ig A4.out).mono ?_);(case ig=>exact Kd.lT P.out (Kd.nZ (Kd.o6 (Kd.oW .u32) O.out) (zB HB.out)));rintro e w7 ⟨s,rfl,j,hb⟩;replace a:=jy a hb;have d:=ou j HB;replace HB:=yS HB hb;(try clear hb j);obtain⟨aj,ao,rfl⟩:=Kd.ku a.out;obtain⟨ap,an,rfl⟩:=Kd.ku d.out))
  repeat(go_quiet (first|(go_at_call 118;(with_reducible refine(jX.calls k (λk_=>k_<w.heap.size) _ _ l0 c _ ?ig A3.out).mono ?_);(case ig=>exact Kd.lT U.out (Kd.nZ (Kd.o6 (Kd.oW .u32) M.out) (zB HB.out)));rintro e w6 ⟨q,rfl,j,hb⟩;have a:=ou j HB;replace HB:=yS HB hb;(try clear hb j))|(go_at_call 118;(with_reducible refine(jX.calls k (λk_=>k_<w.heap.size) _ _ l1 g _ ?ig A4.out).mono ?_);(case ig=>exact Kd.lT P.out (Kd.nZ (Kd.o6 (Kd.oW .u32) O.out) (zB HB.out)));rintro e w7 ⟨s,rfl,j,hb⟩;replace a:=jy a hb;have d:=ou j HB;replace HB:=yS HB hb;(try clear hb j);obtain⟨aj,ao,rfl⟩:=Kd.ku a.out;obtain⟨ap,an,rfl⟩:=Kd.ku d.out));try go_wp2_with (first|(go_at_call 118;(with_reducible refine(jX.calls k (λk_=>k_<w.heap.size) _ _ l0 c _ ?ig A3.out).mono ?_);(case ig=>exact Kd.lT U.out (Kd.nZ (Kd.o6 (Kd.oW .u32) M.out) (zB HB.out)));rintro e w6 ⟨q,rfl,j,hb⟩;have t:=ou j HB;have p:=yS HB hb;clear HB;have a:=t;have HB:=p;clear t p;(try clear hb j))|(go_at_call 118;(with_reducible refine(jX.calls k (λk_=>k_<w.heap.size) _ _ l1 g _ ?ig A4.out).mono ?_);(case ig=>exact Kd.lT P.out (Kd.nZ (Kd.o6 (Kd.oW .u32) O.out) (zB HB.out)));rintro e w7 ⟨s,rfl,j,hb⟩;have t:=jy a hb;have p:=ou j HB;have X:=yS HB hb;clear a;clear HB;have a:=t;have d:=p;have HB:=X;clear t p X;(try clear hb j);obtain⟨aj,ao,aE⟩:=Kd.ku a.out;subst aE;obtain⟨ap,an,aF⟩:=Kd.ku d.out;subst aF)))
  go_loopg [5] k (λkq v5 w'=>∃(b:Int),v5= .int .i64 b/\dw (pG.l0 kq c g b=some r)/\dw (kq<=k)/\dw (Kd.V (Kd.int .u32) 97 w' w.heap.size (λ_=>True) (.slice aj c.length ao) c)/\dw (Kd.V (Kd.int .u32) 97 w' w.heap.size (λ_=>True) (.slice ap g.length an) g)/\dw (Below w.heap.size w w'))
  case atStart=>exact⟨(wrap64 ((c.length:Int)-1)),zF,H',⟨Nat.le_refl _⟩,⟨zV a.out⟩,⟨zV d.out⟩,⟨zB HB.out⟩⟩
  clear H'
  (try clear a4 a6 a8)
  obtain⟨b,rfl,HA,az,E,G,HB⟩:=hrel
  cases gk with|zero=>exact absurd HA.out (by simp [pG.l0])|succ k1=>?_
  have H:=HA.out
  clear HA
  simp only[pG.l0] at H
  replace H:=zi H
  rcases H with⟨c10,H⟩|⟨c10,H⟩
  ·have a2:decide (0<=b)=true:=decide_eq_true c10
   clear c10
   replace H:=iV H
   obtain⟨ar,H⟩:=H
   replace H:=iV H
   obtain⟨aB,H⟩:=H
   replace H:=iV H
   obtain⟨au,H⟩:=H
   replace H:=jB H
   rcases H with⟨ag,H⟩|⟨ag,H⟩
   ·obtain rfl:=Option.some.inj H
    have n:0<=(b:Int):=zd
    have m:b<(c.length:Int):=zd
    obtain⟨D,K,A⟩:=Kd.jG (Kd.jd E.out).2.2 b n m
    cases K
    replace n:=eq_true n
    replace m:=eq_true m
    have l:0<=(b:Int):=zd
    have o:b<(g.length:Int):=zd
    obtain⟨B,J,z⟩:=Kd.jG (Kd.jd G.out).2.2 b l o
    cases J
    replace l:=eq_true l
    replace o:=eq_true o
    go_wp2
    repeat(go_quiet (fail);try go_wp2)
    go_ret
    exact⟨zE,zB HB.out⟩
   replace H:=zi H
   rcases H with⟨ad,H⟩|⟨ad,H⟩
   ·have ab:decide ((rd g b)<(rd c b))=true:=decide_eq_true ad
    clear ad
    obtain rfl:=Option.some.inj H
    have n:0<=(b:Int):=zd
    have m:b<(c.length:Int):=zd
    obtain⟨D,K,A⟩:=Kd.jG (Kd.jd E.out).2.2 b n m
    cases K
    replace n:=eq_true n
    replace m:=eq_true m
    have l:0<=(b:Int):=zd
    have o:b<(g.length:Int):=zd
    obtain⟨B,J,z⟩:=Kd.jG (Kd.jd G.out).2.2 b l o
    cases J
    replace l:=eq_true l
    replace o:=eq_true o
    have u:0<=(b:Int):=zd
    have y:b<(c.length:Int):=zd
    obtain⟨L,a0,T⟩:=Kd.jG (Kd.jd E.out).2.2 b u y
    obtain rfl:D=L:=(by injection a0)
    replace u:=eq_true u
    replace y:=eq_true y
    have x:0<=(b:Int):=zd
    have v:b<(g.length:Int):=zd
    obtain⟨I,Y,W⟩:=Kd.jG (Kd.jd G.out).2.2 b x v
    obtain rfl:B=I:=(by injection Y)
    replace x:=eq_true x
    replace v:=eq_true v
    go_wp2
    repeat(go_quiet (fail);try go_wp2)
    go_ret
    exact⟨zE,zB HB.out⟩
   have ab:decide ((rd g b)<(rd c b))=false:=decide_eq_false ad
   clear ad
   have H':=zk H
   clear H
   have n:0<=(b:Int):=zd
   have m:b<(c.length:Int):=zd
   obtain⟨D,K,A⟩:=Kd.jG (Kd.jd E.out).2.2 b n m
   cases K
   replace n:=eq_true n
   replace m:=eq_true m
   have l:0<=(b:Int):=zd
   have o:b<(g.length:Int):=zd
   obtain⟨B,J,z⟩:=Kd.jG (Kd.jd G.out).2.2 b l o
   cases J
   replace l:=eq_true l
   replace o:=eq_true o
   have u:0<=(b:Int):=zd
   have y:b<(c.length:Int):=zd
   obtain⟨L,a0,T⟩:=Kd.jG (Kd.jd E.out).2.2 b u y
   obtain rfl:D=L:=(by injection a0)
   replace u:=eq_true u
   replace y:=eq_true y
   have x:0<=(b:Int):=zd
   have v:b<(g.length:Int):=zd
   obtain⟨I,Y,W⟩:=Kd.jG (Kd.jd G.out).2.2 b x v
   obtain rfl:B=I:=(by injection Y)
   replace x:=eq_true x
   replace v:=eq_true v
   go_wp2
   repeat(go_quiet (fail);try go_wp2)
   go_roundg k1
   case measure=>have:=az.out;omega
   case rel=>exact⟨(wrap64 (b-1)),zF,H',⟨kP az⟩,⟨zV E.out⟩,⟨zV G.out⟩,⟨zB HB.out⟩⟩
  have a2:decide (0<=b)=false:=decide_eq_false c10
  clear c10
  obtain rfl:=Option.some.inj H
  go_wp2
  repeat(go_quiet (fail);try go_wp2)
  go_ret
  exact⟨zE,zB HB.out⟩
 have a4:=beq_eq_false_iff_ne.mpr c5
 have a6:=bne_iff_ne.mpr c5
 have a8:(c.length==g.length)=false:=by first|simpa using c5|(simp at c5 ⊢;omega)
 replace H:=zi H
 rcases H with⟨Z,H⟩|⟨Z,H⟩
 ·have a9:=decide_eq_true Z
  have a5:decide (c.length<g.length)=true:=decide_eq_true (Int.ofNat_lt.mp Z)
  clear Z
  obtain rfl:=Option.some.inj H
  go_enter Try.func79,Try.ntmps79
  go_wp2_with (first|(go_at_call 118;(with_reducible refine(jX.calls k (λk_=>k_<w.heap.size) _ _ l0 c _ ?ig A3.out).mono ?_);(case ig=>exact Kd.lT U.out (Kd.nZ (Kd.o6 (Kd.oW .u32) M.out) (zB HB.out)));rintro e aD ⟨q,rfl,j,hb⟩;have a:=ou j HB;replace HB:=yS HB hb;(try clear hb j))|(go_at_call 118;(with_reducible refine(jX.calls k (λk_=>k_<w.heap.size) _ _ l1 g _ ?ig A4.out).mono ?_);(case ig=>exact Kd.lT P.out (Kd.nZ (Kd.o6 (Kd.oW .u32) O.out) (zB HB.out)));rintro e aC ⟨s,rfl,j,hb⟩;replace a:=jy a hb;have d:=ou j HB;replace HB:=yS HB hb;(try clear hb j);obtain⟨ac,ae,rfl⟩:=Kd.ku a.out;obtain⟨ah,a7,rfl⟩:=Kd.ku d.out))
  repeat(go_quiet (first|(go_at_call 118;(with_reducible refine(jX.calls k (λk_=>k_<w.heap.size) _ _ l0 c _ ?ig A3.out).mono ?_);(case ig=>exact Kd.lT U.out (Kd.nZ (Kd.o6 (Kd.oW .u32) M.out) (zB HB.out)));rintro e aD ⟨q,rfl,j,hb⟩;have a:=ou j HB;replace HB:=yS HB hb;(try clear hb j))|(go_at_call 118;(with_reducible refine(jX.calls k (λk_=>k_<w.heap.size) _ _ l1 g _ ?ig A4.out).mono ?_);(case ig=>exact Kd.lT P.out (Kd.nZ (Kd.o6 (Kd.oW .u32) O.out) (zB HB.out)));rintro e aC ⟨s,rfl,j,hb⟩;replace a:=jy a hb;have d:=ou j HB;replace HB:=yS HB hb;(try clear hb j);obtain⟨ac,ae,rfl⟩:=Kd.ku a.out;obtain⟨ah,a7,rfl⟩:=Kd.ku d.out));try go_wp2_with (first|(go_at_call 118;(with_reducible refine(jX.calls k (λk_=>k_<w.heap.size) _ _ l0 c _ ?ig A3.out).mono ?_);(case ig=>exact Kd.lT U.out (Kd.nZ (Kd.o6 (Kd.oW .u32) M.out) (zB HB.out)));rintro e aD ⟨q,rfl,j,hb⟩;have t:=ou j HB;have p:=yS HB hb;clear HB;have a:=t;have HB:=p;clear t p;(try clear hb j))|(go_at_call 118;(with_reducible refine(jX.calls k (λk_=>k_<w.heap.size) _ _ l1 g _ ?ig A4.out).mono ?_);(case ig=>exact Kd.lT P.out (Kd.nZ (Kd.o6 (Kd.oW .u32) O.out) (zB HB.out)));rintro e aC ⟨s,rfl,j,hb⟩;have t:=jy a hb;have p:=ou j HB;have X:=yS HB hb;clear a;clear HB;have a:=t;have d:=p;have HB:=X;clear t p X;(try clear hb j);obtain⟨ac,ae,al⟩:=Kd.ku a.out;subst al;obtain⟨ah,a7,am⟩:=Kd.ku d.out;subst am)))
  go_ret
  exact⟨zE,zB HB.out⟩
 have a9:=decide_eq_false Z
 have a5:decide (c.length<g.length)=false:=decide_eq_false (λh=>Z (Int.ofNat_lt.mpr h))
 clear Z
 obtain rfl:=Option.some.inj H
 go_enter Try.func79,Try.ntmps79
 go_wp2_with (first|(go_at_call 118;(with_reducible refine(jX.calls k (λk_=>k_<w.heap.size) _ _ l0 c _ ?ig A3.out).mono ?_);(case ig=>exact Kd.lT U.out (Kd.nZ (Kd.o6 (Kd.oW .u32) M.out) (zB HB.out)));rintro e aA ⟨q,rfl,j,hb⟩;have a:=ou j HB;replace HB:=yS HB hb;(try clear hb j))|(go_at_call 118;(with_reducible refine(jX.calls k (λk_=>k_<w.heap.size) _ _ l1 g _ ?ig A4.out).mono ?_);(case ig=>exact Kd.lT P.out (Kd.nZ (Kd.o6 (Kd.oW .u32) O.out) (zB HB.out)));rintro e aq ⟨s,rfl,j,hb⟩;replace a:=jy a hb;have d:=ou j HB;replace HB:=yS HB hb;(try clear hb j);obtain⟨af,a3,rfl⟩:=Kd.ku a.out;obtain⟨a1,aa,rfl⟩:=Kd.ku d.out))
 repeat(go_quiet (first|(go_at_call 118;(with_reducible refine(jX.calls k (λk_=>k_<w.heap.size) _ _ l0 c _ ?ig A3.out).mono ?_);(case ig=>exact Kd.lT U.out (Kd.nZ (Kd.o6 (Kd.oW .u32) M.out) (zB HB.out)));rintro e aA ⟨q,rfl,j,hb⟩;have a:=ou j HB;replace HB:=yS HB hb;(try clear hb j))|(go_at_call 118;(with_reducible refine(jX.calls k (λk_=>k_<w.heap.size) _ _ l1 g _ ?ig A4.out).mono ?_);(case ig=>exact Kd.lT P.out (Kd.nZ (Kd.o6 (Kd.oW .u32) O.out) (zB HB.out)));rintro e aq ⟨s,rfl,j,hb⟩;replace a:=jy a hb;have d:=ou j HB;replace HB:=yS HB hb;(try clear hb j);obtain⟨af,a3,rfl⟩:=Kd.ku a.out;obtain⟨a1,aa,rfl⟩:=Kd.ku d.out));try go_wp2_with (first|(go_at_call 118;(with_reducible refine(jX.calls k (λk_=>k_<w.heap.size) _ _ l0 c _ ?ig A3.out).mono ?_);(case ig=>exact Kd.lT U.out (Kd.nZ (Kd.o6 (Kd.oW .u32) M.out) (zB HB.out)));rintro e aA ⟨q,rfl,j,hb⟩;have t:=ou j HB;have p:=yS HB hb;clear HB;have a:=t;have HB:=p;clear t p;(try clear hb j))|(go_at_call 118;(with_reducible refine(jX.calls k (λk_=>k_<w.heap.size) _ _ l1 g _ ?ig A4.out).mono ?_);(case ig=>exact Kd.lT P.out (Kd.nZ (Kd.o6 (Kd.oW .u32) O.out) (zB HB.out)));rintro e aq ⟨s,rfl,j,hb⟩;have t:=jy a hb;have p:=ou j HB;have X:=yS HB hb;clear a;clear HB;have a:=t;have d:=p;have HB:=X;clear t p X;(try clear hb j);obtain⟨af,a3,ai⟩:=Kd.ku a.out;subst ai;obtain⟨a1,aa,ak⟩:=Kd.ku d.out;subst ak)))
 go_ret
 exact⟨zE,zB HB.out⟩
theorem uZ.calls(k:Nat)(a0:Int)(r:List Int)(w:World)(h:uZ.f k a0=some r):
 Calls Try.prog 80 #[.int .u64 a0] w λe w'=>∃n:Value,e= .returned (n)/\Kd.R (Kd.int .u32) 97 w' w.heap.size (λ_=>True) n r/\Below w.heap.size w w':=by
 have HB:=zk (Below.refl w.heap.size w)
 have H:=h
 clear h
 unfold uZ.f at H
 obtain⟨m,b⟩:∃y_:List Int,y_=(([(a0) % 4294967296,(a0 / 4294967296) % 4294967296]:List Int)):=⟨_,rfl⟩
 rw[<-b] at H
 have c:=zk b
 clear b
 replace H:=zb H
 obtain⟨d,A2,H⟩:=H
 obtain rfl:=Option.some.inj H
 go_enter Try.func80,Try.ntmps80
 go_wp2_with (first|((with_reducible refine jc (N:=8) rfl ?_);refine Kd.qG (Kd.int .u32) _ 97 ?hg (N:=8) ?hd (xs:=([(a0) % 4294967296,(a0 / 4294967296) % 4294967296]:List Int)) (inner:=[.int .u32 ((a0) % 4294967296), .int .u32 ((a0 / 4294967296) % 4294967296)]) (ok:=λ_=>True) (je:=λ_=>True) ?hr ?hp (λ_ hk=>hk) trivial (Below.refl _ _) (Nat.le_refl _) (by simp) ?_;(case hd=>rfl);(case hg=>rfl);(case hr=>first|(go_simp;done)|(go_simp;rfl));(case hp=>exact(iY.one (show Kd.M (Kd.int .u32) _ _ _ ((a0) % 4294967296) [.int .u32 ((a0) % 4294967296)] from rfl) (iY.one (show Kd.M (Kd.int .u32) _ _ _ ((a0 / 4294967296) % 4294967296) [.int .u32 ((a0 / 4294967296) % 4294967296)] from rfl) (iY.none _ _))));intro s w3 j hb jw jv;clear jw jv;(first|rw[<-c.out] at j|(simp only[Int.reduceToNat] at j;rw[<-c.out] at j));have a:=jm j HB;replace HB:=yS HB hb;clear hb j;obtain⟨q,o,rfl⟩:=Kd.iD a.out)|((with_reducible refine gC 103 ?_);refine zG (some 9) Try.func103 #[.slice q m.length o] ?_;(with_reducible refine(pU.calls k _ _ m d _ ?ig ?ik A2.out).mono ?_);(case ig=>exact zC (Kd.iw a.out).2.2);(case ik=>exact(Kd.iw a.out).2.1);rintro e w6 ⟨p,rfl,l,hb⟩;refine⟨_,rfl,?_⟩;replace l:=yn l a;have g:=jm l HB;replace a:=iG a l hb;replace HB:=yS HB hb;(try clear hb l)))
 go_ret
 exact⟨_,zE,by(with_reducible repeat(first|apply Kd.iT|apply Kd.iU|apply Kd.iJ));exact Kd.iZ g.out (λ_ hk=>trivial),zB HB.out⟩
mutual
def kR.j0:Nat->Int->List (List Int)->Int->Bool->Option (Int×Int)
 |0,_,_,_,_=>none
 |k+1,x0,x1,x2,x24=>if x24=true then(some (0,6)) else(kR.l0 k x0 x2 ([]:List Int) x1 (x1.length:Int) 0)
def kR.l0:Nat->Int->Int->List Int->List (List Int)->Int->Int->Option (Int×Int)
 |0,_,_,_,_,_,_=>none
 |k+1,x0,x2,x8,x25,xg,x27=>if x27<xg then(if 0<=x27 then(if x27<(x25.length:Int) then(kR.l1 k x0 x2 x8 0 (-1) x25 xg x27 (jD x25 x27) ((jD x25 x27).length:Int) 0) else(none)) else(none)) else(if x2<0 then(kR.j3 k x0 x2 x8 true) else(kR.j3 k x0 x2 x8 (decide (x2>x0))))
def kR.l1:Nat->Int->Int->List Int->Int->Int->List (List Int)->Int->Int->List Int->Int->Int->Option (Int×Int)
 |0,_,_,_,_,_,_,_,_,_,_,_=>none
 |k+1,x0,x2,x8,x11,x12,x25,xg,x27,x31,x32,yw=>if yw<x32 then(if 0<=yw then(if yw<(x31.length:Int) then(if(rd x31 yw)<=x12 then(some (0,5)) else(if(rd x31 yw)>=x0 then(some (0,5)) else(if 0<=(rd x31 yw) then(kR.l1 k x0 x2 x8 (Go.bits .or .u64 x11 (shl .u64 1 (rd x31 yw))) (rd x31 yw) x25 xg x27 x31 x32 (wrap64 (yw+1))) else(none)))) else(none)) else(none)) else(if x8.length<17592186044416 then(kR.l0 k x0 x2 (x8++[x11]) x25 xg (wrap64 (x27+1))) else(none))
def kR.j3:Nat->Int->Int->List Int->Bool->Option (Int×Int)
 |0,_,_,_,_=>none
 |k+1,x0,x2,x8,QL=>if QL=true then(some (0,6)) else((nC.f k x0 x2).bind λXD=>((uZ.f k 65536).bind λtb0=>((pG.f k XD.1 tb0).bind λDY=>(if DY>0 then(some (0,8)) else((rD.f k x0 x2 0 0 x8 (-1) true).bind λr=>(if r.2.2=true then(some (r.2.1,0)) else(some (0,11))))))))
end
def kR.f(k:Nat)(a0:Int)(l1:List (List Int))(a2:Int):Option (Int×Int):=if a0<0 then(kR.j0 k a0 l1 a2 true) else(kR.j0 k a0 l1 a2 (decide (a0>64)))
theorem VL:(Try.prog.info? 37).map (λi=>(i.zero,i.size,i.bytes))=some (some (.int .u64 0),1,8):=by kernel_rfl
theorem yM{W w1:World}{b:Nat}{o:Obj}(h:dw (W.heap[b]?=some o))(k:Below W.heap.size W w1):dw (w1.heap[b]?=some o):=⟨(k.block b (lt_of_block h.out)).trans h.out⟩
theorem Po{W:World}{Bm base:Nat}{ok:Nat->Prop}{A:Option Addr}{c:Nat}{l:List Int}(HM:W.heap[Bm]?=some (.cells #[.slice A l.length c] 101 (0,0)))(HO:Kd.R (Kd.int .u64) 37 W base ok (.slice A l.length c) l):
 Cap ((W.alloc (.cells #[.int .i64 (-1)] 3)).alloc (.cells #[.bool true] 4)) Bm W.heap.size (W.heap.size+1) A c l (-1) true:=by
 have hs:(W.alloc (.cells #[.int .i64 (-1)] 3)).heap.size=W.heap.size+1:=by simp
 have hlt:=lt_of_block HM
 refine⟨?_,?_,?_,?_,(Kd.iw HO).2.1⟩
 ·rw[Below.heap_alloc _ _ _ (by omega),Below.heap_alloc _ _ _ hlt];exact HM
 ·rw[Below.heap_alloc _ _ _ (by omega)];exact heap_alloc_new _ _
 ·rw[<-hs];exact heap_alloc_new _ _
 ·have h1:=Kd.iZ (ok':=λk=>k<W.heap.size) (Kd.wE HO) (λk hk=>hk.2.2.1)
  have h2:=Kd.iT (Kd.iT h1 (.cells #[.int .i64 (-1)] 3)) (.cells #[.bool true] 4)
  exact Kd.YP h2 (λk hk e=>by rcases e with e|e<;>omega)
theorem Le{w W w1:World}{o o':Obj}(HB:Below w.heap.size w W)(k:nP ((W.alloc o).alloc o') w1 W.heap.size (W.heap.size+1)):Below w.heap.size w w1:=
 nP.below (oZ (oZ HB o) o') k HB.size (Nat.le_succ_of_le HB.size)
theorem kR.calls(k:Nat)(a0:Int)(A1:Option Addr)(c1:Nat)(l1:List (List Int))(a2:Int)(r1:Int)(r2:Int)(w:World)(aN:Kd.C (Kd.slice 3 (Kd.int .i64)) w A1 l1.length l1)(aW:l1.length<=c1)(h:kR.f k a0 l1 a2=some (r1,r2)):
 Calls Try.prog 30 #[.int .i64 a0, .slice A1 l1.length c1, .int .i64 a2] w λe w'=>e= .returned (.tuple #[.int .i64 r1, .int .i64 r2])/\Below w.heap.size w w':=by
 have b7:=zk aN
 have bf:=zk aW
 clear aN aW
 have HB:=zk (Below.refl w.heap.size w)
 have H:=h
 clear h
 unfold kR.f at H
 have az:=zk H
 clear H
 go_enter Try.func30,Try.ntmps30
 go_upto_region 1 with(fail)
 go_cut [24] (λbc wc=>∃(kq:Nat) (E:Bool),bc= .bool E/\dw (kR.j0 kq a0 l1 a2 E=some (r1,r2))/\dw (kq<=k)/\dw (Below w.heap.size w wc))
 case first=>
  have H:=az.out
  clear az
  replace H:=jB H
  rcases H with⟨I,H⟩|⟨I,H⟩
  ·(first|rw[I]|(simp only[iI,iP];rw[I])|rw[Xw]|skip)
   have H':=zk H
   clear H
   go_wp2
   go_meet
   case rel=>exact⟨_,(true),zF,H',⟨zO⟩,⟨zB HB.out⟩⟩
  (first|rw[I]|(simp only[iI,iP];rw[I])|rw[Xw]|skip)
  have H':=zk H
  clear H
  go_wp2
  go_meet
  case rel=>exact⟨_,(decide (a0>64)),zF,H',⟨zO⟩,⟨zB HB.out⟩⟩
 clear az
 obtain⟨kq,E,rfl,HA,aa,HB⟩:=hcut
 cases kq with|zero=>exact absurd HA.out (by simp [kR.j0])|succ aY=>?_
 have H:=HA.out
 clear HA
 simp only[kR.j0] at H
 by_cases c6:E=true
 ·subst c6
  rw[if_pos rfl] at H
  simp only[Option.some.injEq,Prod.mk.injEq] at H
  obtain⟨rfl,rfl⟩:=H
  go_wp2
  go_ret2
  exact⟨zE,zB HB.out⟩
 replace c6:=Bool.eq_false_iff.mpr c6
 subst c6
 rw[if_neg Bool.false_ne_true] at H
 have H':=zk H
 clear H
 go_wp2
 have YB:=zk HB.out.size
 go_loopg [27] aY (λkq b4 w'=>∃(t:List Int) (d:Int) (u8:Value),b4= .int .i64 d/\dw (kR.l0 kq a0 a2 t l1 (l1.length:Int) d=some (r1,r2))/\dw (kq<=aY)/\dw (w'.heap[wc.heap.size]?=some (.cells #[u8] 101 (0,0)))/\dw (Kd.R (Kd.int .u64) 37 w' w.heap.size (λk_=>k_≠wc.heap.size) u8 t)/\dw (Below w.heap.size w w'))
 case atStart=>exact⟨(([]:List Int)),(0),_,zF,H',⟨Nat.le_refl _⟩,⟨heap_alloc_new _ _⟩,⟨Kd.qN _ _ _ _ _⟩,⟨zB HB.out⟩⟩
 clear H'
 (try clear c6)
 obtain⟨t,d,u8,rfl,HA,a9,HM,g,HB⟩:=hrel
 cases gk with|zero=>exact absurd HA.out (by simp [kR.l0])|succ k2=>?_
 have H:=HA.out
 clear HA
 simp only[kR.l0] at H
 replace H:=jB H
 rcases H with⟨a8,H⟩|⟨a8,H⟩
 ·replace H:=iV H
  obtain⟨aJ,H⟩:=H
  replace H:=iV H
  obtain⟨aH,H⟩:=H
  have H':=zk H
  clear H
  have O:0<=(d:Int):=zd
  have P:d<(l1.length:Int):=zd
  obtain⟨aR,ao,aC,au,n,B,D⟩:=rH b7.out d O P
  cases au
  replace n:=(HB.out.cell (World.block_lt_of_cell? w _ n)).trans n
  have x:=zk D
  have an:=zk B
  clear D B
  replace O:=eq_true O
  replace P:=eq_true P
  go_wp2
  go_loopg [11,12,33] k2 (λkq b6 b8 b9 w'=>∃(q:Int) (G:Int) (c:Int),b6= .int .u64 q/\b8= .int .i64 G/\b9= .int .i64 c/\dw (kR.l1 kq a0 a2 t q G l1 (l1.length:Int) d (jD l1 d) ((jD l1 d).length:Int) c=some (r1,r2))/\dw (kq<=k2)/\dw (w'.heap[wc.heap.size]?=some (.cells #[u8] 101 (0,0)))/\dw (Kd.R (Kd.int .u64) 37 w' w.heap.size (λk_=>k_≠wc.heap.size) u8 t)/\dw (Below w.heap.size w w'))
  case atStart=>exact⟨(0),((-1)),(0),zF,zF,zF,H',⟨Nat.le_refl _⟩,HM,⟨zR g.out⟩,⟨zB HB.out⟩⟩
  clear H'
  (try clear a8 aJ aH n O P)
  obtain⟨q,G,c,rfl,rfl,rfl,HA,al,HM,g,HB⟩:=hrel
  cases gk with|zero=>exact absurd HA.out (by simp [kR.l1])|succ k3=>?_
  have H:=HA.out
  clear HA
  simp only[kR.l1] at H
  replace H:=jB H
  rcases H with⟨ah,H⟩|⟨ah,H⟩
  ·replace H:=iV H
   obtain⟨aM,H⟩:=H
   replace H:=iV H
   obtain⟨a_,H⟩:=H
   replace H:=jB H
   rcases H with⟨ab,H⟩|⟨ab,H⟩
   ·simp only[Option.some.injEq,Prod.mk.injEq] at H
    obtain⟨rfl,rfl⟩:=H
    have r:0<=(c:Int):=zd
    have o:c<((jD l1 d).length:Int):=zd
    obtain⟨T,K,j⟩:=Kd.jG x.out c r o
    cases K
    replace j:=(HB.out.cell (World.block_lt_of_cell? w _ j)).trans j
    replace r:=eq_true r
    replace o:=eq_true o
    go_wp2
    go_ret2
    exact⟨zE,zB HB.out⟩
   replace H:=zi H
   rcases H with⟨ak,H⟩|⟨ak,H⟩
   ·have af:decide (a0<=(rd (jD l1 d) c))=true:=decide_eq_true ak
    clear ak
    simp only[Option.some.injEq,Prod.mk.injEq] at H
    obtain⟨rfl,rfl⟩:=H
    have r:0<=(c:Int):=zd
    have o:c<((jD l1 d).length:Int):=zd
    obtain⟨T,K,j⟩:=Kd.jG x.out c r o
    cases K
    replace j:=(HB.out.cell (World.block_lt_of_cell? w _ j)).trans j
    replace r:=eq_true r
    replace o:=eq_true o
    go_wp2
    go_ret2
    exact⟨zE,zB HB.out⟩
   have af:decide (a0<=(rd (jD l1 d) c))=false:=decide_eq_false ak
   clear ak
   replace H:=zg H
   obtain⟨aw,H⟩:=H
   have aV:=eq_true aw
   have aZ:=decide_eq_true aw
   clear aw
   obtain⟨M,A⟩:∃j_:Int,(shl .u64 1 (rd (jD l1 d) c))=j_:=⟨_,rfl⟩
   first|rw[A] at H|simp only[A] at H
   have Y:(IntKind.u64.wrap (1*2^min (rd (jD l1 d) c).toNat 64))=M:=A
   have a7:(rd (jD l1 d) c)<=64->(IntKind.u64.wrap (1*2^(rd (jD l1 d) c).toNat))=M:=Ic A
   have av:(IntKind.u64.wrap (2^min (rd (jD l1 d) c).toNat 64))=M:=by have h_:=Y;rw[Int.one_mul] at h_;exact h_
   have aE:(rd (jD l1 d) c)<=64->(IntKind.u64.wrap (2^(rd (jD l1 d) c).toNat))=M:=λJc=>by have h_:=a7 Jc;rw[Int.one_mul] at h_;exact h_
   have H':=zk H
   clear H
   have r:0<=(c:Int):=zd
   have o:c<((jD l1 d).length:Int):=zd
   obtain⟨T,K,j⟩:=Kd.jG x.out c r o
   cases K
   replace j:=(HB.out.cell (World.block_lt_of_cell? w _ j)).trans j
   replace r:=eq_true r
   replace o:=eq_true o
   go_wp2
   go_roundg k3
   case measure=>have:=aa.out;have:=a9.out;have:=al.out;omega
   case rel=>exact⟨(Go.bits .or .u64 q (M)),(rd (jD l1 d) c),(wrap64 (c+1)),(by first|rfl|(simp;done)|(simp only[<-A]<;>(first|rfl|simp))|(simp [*];done)),zF,zF,H',⟨by have:=aa.out;have:=a9.out;have:=al.out;omega⟩,HM,⟨zR g.out⟩,⟨zB HB.out⟩⟩
  replace H:=zg H
  obtain⟨aT,H⟩:=H
  have aj:=zk aT
  clear aT
  obtain⟨aI,L⟩:∃y_:List Int,y_=(t++[q]):=⟨_,rfl⟩
  rw[<-L] at H
  have ad:=zk L
  clear L
  have H':=zk H
  clear H
  have cM:=cell_of_one HM.out
  go_wp2_with (first|((with_reducible refine qE (b:= .append) (xs:= #[.tmp 51, .tmp 53]) rfl ?_);at_builtin;refine Kd.yU (Kd.int .u64) (w0:=w) w.heap.size rfl (.tmp 51) (.tmp 53) 101 37 (.int .u64 0) 8 rfl Try.underlying101 VL rfl (by decide) (by omega) u8 t q [.int .u64 q] (λk_=>k_≠wc.heap.size) (λ_=>False) rfl rfl ?aP (λ_ hk=>hk.elim) ?aF ?aO ?aB ?aS ?aL ?_;(case aP=>exact rfl);(case aB=>exact(zB HB.out));(case aF=>exact(λk_ iO e_=>by have h_:=lt_of_block HM.out;omega));(case aO=>exact(zR g.out));(case aS=>exact(iQ (zB HB.out)));(case aL=>have:=aj.out;omega);intro b5 bi ho hb hg hat;rw[<-ad.out] at ho;replace HB:=zk (hb);have U:=zk (ho);have aG:=zk ((hg.block _ (lt_of_block HM.out) (λe=>g.out.1 _ e.symm rfl)).trans HM.out);have fM:=free_of_one aG.out;have bg:=cell_of_one aG.out;clear g;clear ho hb hg hat;obtain⟨aU,aK,rfl⟩:=Kd.iD U.out))
  go_roundg k3
  case measure=>have:=aa.out;have:=a9.out;have:=al.out;omega
  case rel=>exact⟨(aI),(wrap64 (d+1)),_,zF,H',⟨by have:=aa.out;have:=a9.out;have:=al.out;omega⟩,⟨one_setCell aG.out⟩,⟨Kd.rM U.out (p:=⟨wc.heap.size,0,none⟩) (λk_ iO=>iO) _⟩,⟨HB.out.setCell YB.out _⟩⟩
 have X:=zk H
 clear H
 go_upto_region 18 with(fail)
 go_cut [62] (λb3 wd=>∃(kq:Nat) (v:Bool),b3= .bool v/\dw (kR.j3 kq a0 a2 t v=some (r1,r2))/\dw (kq<=k2)/\dw (wd.heap[wc.heap.size]?=some (.cells #[u8] 101 (0,0)))/\dw (Kd.R (Kd.int .u64) 37 wd w.heap.size (λk_=>k_≠wc.heap.size) u8 t)/\dw (Below w.heap.size w wd))
 case first=>
  have H:=X.out
  clear X
  replace H:=jB H
  rcases H with⟨z,H⟩|⟨z,H⟩
  ·(first|rw[z]|(simp only[iI,iP];rw[z])|rw[Xy]|skip)
   have H':=zk H
   clear H
   go_wp2
   go_meet
   case rel=>exact⟨_,(true),zF,H',⟨by have:=aa.out;have:=a9.out;first|omega|exact Nat.le_refl _⟩,HM,⟨zR g.out⟩,⟨zB HB.out⟩⟩
  (first|rw[z]|(simp only[iI,iP];rw[z])|rw[Xy]|skip)
  have H':=zk H
  clear H
  go_wp2
  go_meet
  case rel=>exact⟨_,(decide (a2>a0)),zF,H',⟨by have:=aa.out;have:=a9.out;first|omega|exact Nat.le_refl _⟩,HM,⟨zR g.out⟩,⟨zB HB.out⟩⟩
 clear X
 (try clear a8)
 obtain⟨kq,v,rfl,HA,ba,HM,g,HB⟩:=hcut
 cases kq with|zero=>exact absurd HA.out (by simp [kR.j3])|succ s=>?_
 have H:=HA.out
 clear HA
 simp only[kR.j3] at H
 by_cases am:v=true
 ·subst am
  rw[if_pos rfl] at H
  simp only[Option.some.injEq,Prod.mk.injEq] at H
  obtain⟨rfl,rfl⟩:=H
  go_wp2
  go_ret2
  exact⟨zE,zB HB.out⟩
 replace am:=Bool.eq_false_iff.mpr am
 subst am
 rw[if_neg Bool.false_ne_true] at H
 replace H:=zb H
 obtain⟨⟨y,W⟩,aA,H⟩:=H
 dsimp only at H
 replace H:=zb H
 obtain⟨u,ay,H⟩:=H
 replace H:=zb H
 obtain⟨J,aq,H⟩:=H
 replace H:=zi H
 rcases H with⟨ai,H⟩|⟨ai,H⟩
 ·have ae:decide (0<J)=true:=decide_eq_true ai
  clear ai
  simp only[Option.some.injEq,Prod.mk.injEq] at H
  obtain⟨rfl,rfl⟩:=H
  go_wp2_with (first|((with_reducible refine gC 72 ?_);refine zG (some 66) Try.func72 #[.int .i64 a0, .int .i64 a2] ?_;(with_reducible refine(nC.calls s a0 a2 y W _ aA.out).mono ?_);rintro e bj ⟨ac,rfl,m,hb⟩;refine⟨_,rfl,?_⟩;replace g:=jl g hb;have a:=jm m HB;replace HB:=yS HB hb;(try clear hb m))|((with_reducible refine gC 80 ?_);refine zG (some 70) Try.func80 #[.int .u64 65536] ?_;(with_reducible refine(uZ.calls s 65536 u _ ay.out).mono ?_);rintro e be ⟨ag,rfl,m,hb⟩;refine⟨_,rfl,?_⟩;replace g:=jl g hb;replace m:=yn m a;have l:=jm m HB;replace a:=iG a m hb;replace HB:=yS HB hb;(try clear hb m);obtain⟨aD,ap,rfl⟩:=Kd.iD a.out;obtain⟨ax,ar,rfl⟩:=Kd.iD l.out)|((with_reducible refine gC 79 ?_);refine zG (some 71) Try.func79 #[.slice aD y.length ap, .slice ax u.length ar] ?_;(with_reducible refine(pG.calls s _ _ y _ _ u J _ ?ig ?ik ?iF ?iE aq.out).mono ?_);(case ig=>exact zC (Kd.iw a.out).2.2);(case ik=>exact(Kd.iw a.out).2.1);(case iF=>exact zC (Kd.iw l.out).2.2);(case iE=>exact(Kd.iw l.out).2.1);rintro e bh ⟨rfl,hb⟩;refine⟨_,rfl,?_⟩;replace g:=jl g hb;replace a:=jl a hb;replace l:=jl l hb;replace HB:=yS HB hb;(try clear hb)))
  go_ret2
  exact⟨zE,zB HB.out⟩
 have ae:decide (0<J)=false:=decide_eq_false ai
 clear ai
 obtain⟨⟨q1,q2,q3⟩,aX,H⟩:=Option.bind_eq_some_iff.mp H
 have aQ:=zk aX
 clear aX
 dsimp only at H
 cases q3 with
 |true=>
  rw[if_pos rfl] at H
  simp only[Option.some.injEq,Prod.mk.injEq] at H
  obtain⟨rfl,rfl⟩:=H
  go_wp2_with (first|((with_reducible refine gC 72 ?_);refine zG (some 66) Try.func72 #[.int .i64 a0, .int .i64 a2] ?_;(with_reducible refine(nC.calls s a0 a2 y W _ aA.out).mono ?_);rintro e bb ⟨ac,rfl,m,hb⟩;refine⟨_,rfl,?_⟩;replace g:=jl g hb;replace HM:=yM HM hb;have a:=jm m HB;replace HB:=yS HB hb;(try clear hb m))|((with_reducible refine gC 80 ?_);refine zG (some 70) Try.func80 #[.int .u64 65536] ?_;(with_reducible refine(uZ.calls s 65536 u _ ay.out).mono ?_);rintro e b0 ⟨ag,rfl,m,hb⟩;refine⟨_,rfl,?_⟩;replace g:=jl g hb;replace HM:=yM HM hb;replace m:=yn m a;have l:=jm m HB;replace a:=iG a m hb;replace HB:=yS HB hb;(try clear hb m);obtain⟨a4,a5,rfl⟩:=Kd.iD a.out;obtain⟨Z,a3,rfl⟩:=Kd.iD l.out)|((with_reducible refine gC 79 ?_);refine zG (some 71) Try.func79 #[.slice a4 y.length a5, .slice Z u.length a3] ?_;(with_reducible refine(pG.calls s _ _ y _ _ u J _ ?ig ?ik ?iF ?iE aq.out).mono ?_);(case ig=>exact zC (Kd.iw a.out).2.2);(case ik=>exact(Kd.iw a.out).2.1);(case iF=>exact zC (Kd.iw l.out).2.2);(case iE=>exact(Kd.iw l.out).2.1);rintro e b1 ⟨rfl,hb⟩;refine⟨_,rfl,?_⟩;replace g:=jl g hb;replace HM:=yM HM hb;replace a:=jl a hb;replace l:=jl l hb;replace HB:=yS HB hb;(try clear hb);obtain⟨a6,a1,rfl⟩:=Kd.iD g.out)|(go_at_call 81;refine(rD.calls s _ _ _ a6 a1 t a0 a2 0 0 (-1) true q1 q2 true _ (Po HM.out g.out) aQ.out).mono ?_;rintro e b2 ⟨rfl,h1,h2,h3⟩;have cS:=cell_of_one h2;have cC:=cell_of_one h1;replace HB:=zk (Le HB.out h3);clear h1 h2 h3))
  go_ret2
  exact⟨zE,zB HB.out⟩
 |false=>
  rw[if_neg Bool.false_ne_true] at H
  simp only[Option.some.injEq,Prod.mk.injEq] at H
  obtain⟨rfl,rfl⟩:=H
  go_wp2_with (first|((with_reducible refine gC 72 ?_);refine zG (some 66) Try.func72 #[.int .i64 a0, .int .i64 a2] ?_;(with_reducible refine(nC.calls s a0 a2 y W _ aA.out).mono ?_);rintro e bb ⟨ac,rfl,m,hb⟩;refine⟨_,rfl,?_⟩;replace g:=jl g hb;replace HM:=yM HM hb;have a:=jm m HB;replace HB:=yS HB hb;(try clear hb m))|((with_reducible refine gC 80 ?_);refine zG (some 70) Try.func80 #[.int .u64 65536] ?_;(with_reducible refine(uZ.calls s 65536 u _ ay.out).mono ?_);rintro e b0 ⟨ag,rfl,m,hb⟩;refine⟨_,rfl,?_⟩;replace g:=jl g hb;replace HM:=yM HM hb;replace m:=yn m a;have l:=jm m HB;replace a:=iG a m hb;replace HB:=yS HB hb;(try clear hb m);obtain⟨a4,a5,rfl⟩:=Kd.iD a.out;obtain⟨Z,a3,rfl⟩:=Kd.iD l.out)|((with_reducible refine gC 79 ?_);refine zG (some 71) Try.func79 #[.slice a4 y.length a5, .slice Z u.length a3] ?_;(with_reducible refine(pG.calls s _ _ y _ _ u J _ ?ig ?ik ?iF ?iE aq.out).mono ?_);(case ig=>exact zC (Kd.iw a.out).2.2);(case ik=>exact(Kd.iw a.out).2.1);(case iF=>exact zC (Kd.iw l.out).2.2);(case iE=>exact(Kd.iw l.out).2.1);rintro e b1 ⟨rfl,hb⟩;refine⟨_,rfl,?_⟩;replace g:=jl g hb;replace HM:=yM HM hb;replace a:=jl a hb;replace l:=jl l hb;replace HB:=yS HB hb;(try clear hb);obtain⟨a6,a1,rfl⟩:=Kd.iD g.out)|(go_at_call 81;refine(rD.calls s _ _ _ a6 a1 t a0 a2 0 0 (-1) true q1 q2 false _ (Po HM.out g.out) aQ.out).mono ?_;rintro e b2 ⟨rfl,h1,h2,h3⟩;have cS:=cell_of_one h2;have cC:=cell_of_one h1;replace HB:=zk (Le HB.out h3);clear h1 h2 h3))
  go_ret2
  exact⟨zE,zB HB.out⟩
theorem bits_Len32.byte(i:Int)(h0:0<=i)(h1:i<=255)(h:i.toNat<Lib.len8tab.size):(((Lib.len8tab[i.toNat]'h).toNat:Nat):Int)=((Lib.bitLen i.toNat:Nat):Int):=by
 have e:=Lib.len8_of i h0 h1
 unfold Lib.len8 at e
 rw[show Lib.len8tab[i.toNat]?=some (Lib.len8tab[i.toNat]'h) from by simp [h]] at e
 simpa using e
theorem bits_Len32.small(i:Int)(h0:0<=i)(h1:i<=255):((Lib.bitLen i.toNat:Nat):Int)<=8:=by
 have:=Lib.bitLen_le8' i h0 h1
 omega
theorem bits_Len32.ret{a b:Int}(h:a=b):Ending.returned (.int .i64 a)= .returned (.int .i64 b):=by rw[h]
theorem bits_Len32.calls(a0:Int)(r:Int)(w:World)(h:bits_Len32.f a0=some r):
 Calls Try.prog 121 #[.int .u32 a0] w λe w'=>e= .returned (.int .i64 r)/\jh w w':=by
 unfold bits_Len32.f at h
 by_cases h0:0<=a0
 ·rw[if_pos h0] at h
  by_cases h1:a0<=4294967295
  ·rw[if_pos h1] at h
   obtain rfl:=Option.some.inj h
   clear h
   go_enter Try.func121,Try.ntmps121
   go_wp2
   all_goals first
    |(
     exfalso
     rename_i hneg
     apply hneg
     rw[Lib.len8tab_size]
     omega)
    |(
     go_ret
     refine⟨bits_Len32.ret ?_,jh.refl _⟩
     first
     |(
      rw[bits_Len32.byte (a0 / 65536 / 256) (by omega) (by omega)]
      have h2:=bits_Len32.small (a0 / 65536 / 256) (by omega) (by omega)
      have h3:=Lib.bitLen_shift16 a0.toNat (by omega) (by omega)
      have h4:=Lib.bitLen_shift8 (a0.toNat / 65536) (by omega) (by omega)
      rw[show a0.toNat / 65536 / 256=(a0 / 65536 / 256).toNat by omega] at h4
      rw[h3,h4]
      unfold wrap64
      omega)
     |(
      rw[bits_Len32.byte (a0 / 65536) (by omega) (by omega)]
      have h2:=bits_Len32.small (a0 / 65536) (by omega) (by omega)
      have h3:=Lib.bitLen_shift16 a0.toNat (by omega) (by omega)
      rw[show a0.toNat / 65536=(a0 / 65536).toNat by omega] at h3
      rw[h3]
      unfold wrap64
      omega)
     |(
      rw[bits_Len32.byte (a0 / 256) (by omega) (by omega)]
      have h2:=bits_Len32.small (a0 / 256) (by omega) (by omega)
      have h3:=Lib.bitLen_shift8 a0.toNat (by omega) (by omega)
      rw[show a0.toNat / 256=(a0 / 256).toNat by omega] at h3
      rw[h3]
      unfold wrap64
      omega)
     |(
      rw[bits_Len32.byte a0 (by omega) (by omega)]
      have h2:=bits_Len32.small a0 (by omega) (by omega)
      unfold wrap64
      omega))
  rw[if_neg h1] at h;exact absurd h (by simp)
 rw[if_neg h0] at h;exact absurd h (by simp)
theorem u_.calls(k:Nat)(A0:Option Addr)(c0:Nat)(l0:List Int)(r:Int)(w:World)(x:Kd.C (Kd.int .u32) w A0 l0.length l0)(z:l0.length<=c0)(h:u_.f k l0=some r):
 Calls Try.prog 87 #[.slice A0 l0.length c0] w λe w'=>e= .returned (.int .i64 r)/\Below w.heap.size w w':=by
 have t:=zk x
 have v:=zk z
 clear x z
 have HB:=zk (Below.refl w.heap.size w)
 have H:=h
 clear h
 unfold u_.f at H
 replace H:=zb H
 obtain⟨a,A2,H⟩:=H
 replace H:=zi H
 rcases H with⟨c3,H⟩|⟨c3,H⟩
 ·have p:=beq_iff_eq.mpr c3
  have s:=bne_eq_false_iff_eq.mpr c3
  clear c3
  obtain rfl:=Option.some.inj H
  go_enter Try.func87,Try.ntmps87
  go_wp2_with (first|((with_reducible refine gC 118 ?_);refine zG (some 4) Try.func118 #[.slice A0 l0.length c0] ?_;(with_reducible refine(jX.calls k (λk_=>k_<w.heap.size) _ _ l0 a _ ?ig A2.out).mono ?_);(case ig=>exact Kd.lT v.out (Kd.nZ (Kd.o6 (Kd.oW .u32) t.out) (zB HB.out)));rintro e w4 ⟨q,rfl,m,hb⟩;refine⟨_,rfl,?_⟩;have b:=ou m HB;replace HB:=yS HB hb;(try clear hb m);obtain⟨J,I,rfl⟩:=Kd.ku b.out))
  go_ret
  exact⟨zE,zB HB.out⟩
 have p:=beq_eq_false_iff_ne.mpr c3
 have s:=bne_iff_ne.mpr c3
 have A:¬(a=[]):=λh_=>c3 (by rw[h_];rfl)
 obtain⟨l,c⟩:∃j_:Int,(wrap64 ((a.length:Int)-1))=j_:=⟨_,rfl⟩
 first|rw[c] at H|simp only[c] at H
 (try rw[c] at A2)
 have u:(IntKind.i64.wrap ((a.length:Int)-1))=l:=(iI _).trans c
 replace H:=iV H
 obtain⟨D,H⟩:=H
 replace H:=iV H
 obtain⟨G,H⟩:=H
 replace H:=zb H
 obtain⟨g,A9,H⟩:=H
 obtain rfl:=Option.some.inj H
 go_enter Try.func87,Try.ntmps87
 go_wp2_with (first|((with_reducible refine gC 118 ?_);refine zG (some 4) Try.func118 #[.slice A0 l0.length c0] ?_;(with_reducible refine(jX.calls k (λk_=>k_<w.heap.size) _ _ l0 a _ ?ig A2.out).mono ?_);(case ig=>exact Kd.lT v.out (Kd.nZ (Kd.o6 (Kd.oW .u32) t.out) (zB HB.out)));rintro e K ⟨q,rfl,m,hb⟩;refine⟨_,rfl,?_⟩;have b:=ou m HB;replace HB:=yS HB hb;(try clear hb m);obtain⟨B,E,rfl⟩:=Kd.ku b.out;have d:0<=((l):Int):=zd;have j:(l)<(a.length:Int):=zd;obtain⟨y,o,n⟩:=Kd.jG (Kd.jd b.out).2.2 (l) d j;cases o;replace d:=eq_true d;replace j:=eq_true j)|((with_reducible refine gC 121 ?_);refine Jl (some 18) rfl rfl Try.func121 (by kernel_rfl) rfl #[.int .u32 (rd a (l))] rfl (by(try simp only[List.map_toArray,List.map_cons,List.map_nil]);first|done|(simp only[c];rfl)|rfl|(simp only[List.length_drop,List.length_take];rfl)) ?_;(with_reducible refine(bits_Len32.calls (rd a (l)) g _ A9.out).mono ?_);rintro e w' ⟨rfl,⟨nd,rfl⟩⟩;refine⟨_,rfl,?_⟩))
 go_ret
 exact⟨by first|rfl|(simp [kV,kU]<;>rfl)|(simp only[<-c];first|rfl|(simp [kV,kU]<;>rfl))|(simp [*,kV,kU]<;>rfl),zB HB.out⟩
theorem oV.calls(k:Nat)(y:Nat->Prop)(A0:Option Addr)(c0:Nat)(l0:List Int)(A:Nat->Prop)(A1:Option Addr)(c1:Nat)(l1:List Int)(r:List Int)(w:World)(bv:Kd.V (Kd.int .u32) 97 w w.heap.size (λk_=>y k_) (.slice A0 l0.length c0) l0)(bz:Kd.V (Kd.int .u32) 97 w w.heap.size (λk_=>A k_) (.slice A1 l1.length c1) l1)(h:oV.f k l0 l1=some r):
 Calls Try.prog 117 #[.slice A0 l0.length c0, .slice A1 l1.length c1] w λe w'=>∃b6:Value,e= .returned (b6)/\Kd.V (Kd.int .u32) 97 w' w.heap.size (λk_=>((y k_\/A k_)\/w.heap.size<=k_)) b6 r/\Below w.heap.size w w':=by
 have b7:=zk (show Kd.V (Kd.int .u32) 97 w w.heap.size (λk_=>((y k_\/A k_)\/w.heap.size<=k_)) (.slice A0 l0.length c0) l0 from Kd.jf bv (λk_ hk=> .inl (.inl hk)))
 have b5:=zk (show Kd.V (Kd.int .u32) 97 w w.heap.size (λk_=>((y k_\/A k_)\/w.heap.size<=k_)) (.slice A1 l1.length c1) l1 from Kd.jf bz (λk_ hk=> .inl (.inr hk)))
 have HB:=zk (Below.refl w.heap.size w)
 have H:=h
 clear h
 unfold oV.f at H
 have az:=zk H
 clear H
 go_enter Try.func117,Try.ntmps117
 go_upto_if 13 with(fail)
 go_cut [0,1] (λv0 v1 wc=>∃(kq:Nat) (c:List Int) (m:List Int),dw (oV.j0 kq c m=some r)/\dw (kq<=k)/\dw (Kd.V (Kd.int .u32) 97 wc w.heap.size (λk_=>((y k_\/A k_)\/w.heap.size<=k_)) v0 c)/\dw (Kd.V (Kd.int .u32) 97 wc w.heap.size (λk_=>((y k_\/A k_)\/w.heap.size<=k_)) v1 m)/\dw (Below w.heap.size w wc))
 case first=>
  have H:=az.out
  clear az
  replace H:=zi H
  rcases H with⟨c4,H⟩|⟨c4,H⟩
  ·have I:=decide_eq_true c4
   have X:decide (l0.length<l1.length)=true:=decide_eq_true (Int.ofNat_lt.mp c4)
   clear c4
   (first|rw[I]|(simp only[iI,iP];rw[I])|rw[X]|skip)
   have H':=zk H
   clear H
   go_wp2
   go_meet
   case rel=>exact⟨_,(l1),(l0),H',⟨zO⟩,⟨zV b5.out⟩,⟨zV b7.out⟩,⟨zB HB.out⟩⟩
  have I:=decide_eq_false c4
  have X:decide (l0.length<l1.length)=false:=decide_eq_false (λh=>c4 (Int.ofNat_lt.mpr h))
  clear c4
  (first|rw[I]|(simp only[iI,iP];rw[I])|rw[X]|skip)
  have H':=zk H
  clear H
  go_wp2
  go_meet
  case rel=>exact⟨_,(l0),(l1),H',⟨zO⟩,⟨zV b7.out⟩,⟨zV b5.out⟩,⟨zB HB.out⟩⟩
 clear az
 obtain⟨kq,c,m,HA,ar,g,j,HB⟩:=hcut
 cases kq with|zero=>exact absurd HA.out (by simp [oV.j0])|succ a_=>?_
 have H:=HA.out
 clear HA
 simp only[oV.j0] at H
 obtain⟨ao,P⟩:∃j_:Int,(wrap64 ((c.length:Int)+1))=j_:=⟨_,rfl⟩
 first|rw[P] at H|simp only[P] at H
 have b8:(IntKind.i64.wrap ((c.length:Int)+1))=ao:=(iI _).trans P
 replace H:=zg H
 obtain⟨c6,H⟩:=H
 have aE:=eq_true c6
 have av:=decide_eq_true c6
 clear c6
 replace H:=zg H
 obtain⟨c7,H⟩:=H
 have aX:=eq_true c7
 have aD:=decide_eq_true c7
 clear c7
 obtain⟨aI,G⟩:∃y_:List Int,y_=(List.replicate (ao:Int).toNat 0):=⟨_,rfl⟩
 rw[<-G] at H
 have T:=zk G
 clear G
 have H':=zk H
 clear H
 obtain⟨bq,bx,rfl⟩:=Kd.ku g.out
 go_wp2_with (first|((with_reducible refine jc (N:=19) rfl ?_);refine Kd.ug (Kd.int .u32) _ 97 rfl (N:=19) rfl 29 _ _ rfl ao rfl rfl Try.underlying29 (.int .u32 0) 4 rZ rfl (by decide) (by omega) 0 (ok:=λ_=>True) (je:=λ_=>True) rfl (λ_ hk=>hk) trivial zd (Nat.le_trans (Nat.mul_le_mul_right _ (zd:ao.toNat<=70368744177664)) (by omega)) (Below.refl _ _) (Nat.le_refl _) ?_;intro a1 w9 o hb jw jv;clear jw jv;(first|rw[<-T.out] at o|(simp only[Int.reduceToNat] at o;rw[<-T.out] at o));replace g:=mO g o hb;replace j:=mO j o hb;replace o:=Kd.oD (M:=λk_=>(w.heap.size<=k_)) o (iQ (zB HB.out)) (λk_ h_=>h_);have al:=jm o HB;replace HB:=yS HB hb;clear hb o))
 go_loopg [6,22] a_ (λkq v6 bo w'=>∃(b:List Int) (l:Int) (a:Int),v6= .int .u64 l/\bo= .int .i64 a/\dw (oV.l0 kq c m b l (c.length:Int) a=some r)/\dw (kq<=a_)/\dw (Kd.V (Kd.int .u32) 97 w' w.heap.size (λk_=>((y k_\/A k_)\/w.heap.size<=k_)/\some k_≠(a1:Value).ownBlock) (.slice bq c.length bx) c)/\dw (Kd.V (Kd.int .u32) 97 w' w.heap.size (λk_=>((y k_\/A k_)\/w.heap.size<=k_)/\some k_≠(a1:Value).ownBlock) u1 m)/\dw (Kd.R (Kd.int .u32) 97 w' w.heap.size (λk_=>(w.heap.size<=k_)) a1 b)/\dw (Below w.heap.size w w'))
 case atStart=>exact⟨(aI),(0),(0),zF,zF,H',⟨Nat.le_refl _⟩,⟨zV g.out⟩,⟨zV j.out⟩,⟨by(with_reducible repeat(first|apply Kd.iT|apply Kd.iU|apply Kd.iJ));exact Kd.iZ al.out (λ_ hk=>hk.1)⟩,⟨zB HB.out⟩⟩
 clear H'
 (try clear aE av aX aD)
 obtain⟨b,l,a,rfl,rfl,HA,aq,g,j,d,HB⟩:=hrel
 cases gk with|zero=>exact absurd HA.out (by simp [oV.l0])|succ k2=>?_
 have H:=HA.out
 clear HA
 simp only[oV.l0] at H
 replace H:=jB H
 rcases H with⟨a3,H⟩|⟨a3,H⟩
 ·replace H:=iV H
  obtain⟨bb,H⟩:=H
  replace H:=iV H
  obtain⟨aZ,H⟩:=H
  replace H:=jB H
  rcases H with⟨ab,H⟩|⟨ab,H⟩
  ·replace H:=iV H
   obtain⟨ba,H⟩:=H
   obtain⟨a8,E⟩:∃y_:List Int,y_=(b.set (a:Int).toNat ((IntKind.u64.wrap ((IntKind.u64.wrap ((IntKind.u64.wrap (rd c a))+l))+(IntKind.u64.wrap (rd m a)))) % 4294967296)):=⟨_,rfl⟩
   rw[<-E] at H
   have am:=zk E
   clear E
   have H':=zk H
   clear H
   have q:0<=(a:Int):=zd
   have z:a<(c.length:Int):=zd
   obtain⟨ac,W,O⟩:=Kd.jG (Kd.jd g.out).2.2 a q z
   cases W
   replace q:=eq_true q
   replace z:=eq_true z
   obtain⟨bh,bg,rfl⟩:=Kd.ku j.out
   have a2:0<=(a:Int):=zd
   have Z:a<(m.length:Int):=zd
   obtain⟨bc,aB,ap⟩:=Kd.jG (Kd.jd j.out).2.2 a a2 Z
   cases aB
   replace a2:=eq_true a2
   replace Z:=eq_true Z
   have aA:0<=(a:Int):=zd
   have au:(a:Int)<((b.length:Int):Int):=zd
   obtain⟨x,L,aa,a7,aO,bu,ag⟩:=Kd.qO d.out (by omega)
   (first|cases aa|(injection aa with iW kL kM;(first|subst iW|(injection iW with iW;subst iW));subst kM;clear kL))
   have aM:=zk a7
   have bw:=zk ag
   clear a7 aO ag
   obtain⟨aP,ax⟩:=Kd.nT 0 d.out (a:Int) aA au
   replace aA:=eq_true aA
   replace au:=eq_true au
   have Y:=Kd.qY d.out (a:Int) ((IntKind.u64.wrap ((IntKind.u64.wrap ((IntKind.u64.wrap (rd c a))+l))+(IntKind.u64.wrap (rd m a)))) % 4294967296)
   go_wp2_with (first|((with_reducible refine qM (t:=97) (p:=47) rfl ?_);refine qJ (t:=97) (p:=47) (v:=?Hr) (w1:=(wr.setCell ⟨x,(a:Int).toNat,none⟩ (.int .u32 ((IntKind.u64.wrap ((IntKind.u64.wrap ((IntKind.u64.wrap (rd c a))+l))+(IntKind.u64.wrap (rd m a)))) % 4294967296)))) ?hg ?ho ?hn ?hr ?_;(case ho=>rfl);(case hg=>rfl);(case hn=>rfl);(case hr=>first|(go_simp;done)|(go_simp;rfl));intro aC hw;have hg:wr.grownBy aC (some x):=(by rw[hw];exact Y.2);have jY:Kd.R (Kd.int .u32) 97 aC w.heap.size (λk_=>(w.heap.size<=k_)) (.slice (some ⟨x,0,none⟩) b.length L) a8:=(by rw[hw,am.out];exact Y.1);clear Y;replace g:=zk (Kd.rJ (v:=(.slice (some ⟨x,0,none⟩) b.length L)) (v1:=(.slice (some ⟨x,0,none⟩) b.length L)) (ok:=(λk_=>((y k_\/A k_)\/w.heap.size<=k_))) (zV g.out) hg (.inl rfl));replace j:=zk (Kd.rJ (v:=(.slice (some ⟨x,0,none⟩) b.length L)) (v1:=(.slice (some ⟨x,0,none⟩) b.length L)) (ok:=(λk_=>((y k_\/A k_)\/w.heap.size<=k_))) (zV j.out) hg (.inl rfl));replace d:=zk (jY);replace HB:=zk ((by rw[hw];exact lS (HB.out) aM.out:Below w.heap.size w aC));clear hg hw jY))
   go_roundg k2
   case measure=>have:=ar.out;have:=aq.out;omega
   case rel=>exact⟨(a8),((IntKind.u64.wrap ((IntKind.u64.wrap ((IntKind.u64.wrap (rd c a))+l))+(IntKind.u64.wrap (rd m a)))) / 4294967296),(wrap64 (a+1)),zF,zF,H',⟨lW ar aq⟩,⟨zV g.out⟩,⟨zV j.out⟩,⟨zR d.out⟩,⟨zB HB.out⟩⟩
  replace H:=iV H
  obtain⟨b2,H⟩:=H
  obtain⟨a4,D⟩:∃y_:List Int,y_=(b.set (a:Int).toNat ((IntKind.u64.wrap ((IntKind.u64.wrap (rd c a))+l)) % 4294967296)):=⟨_,rfl⟩
  rw[<-D] at H
  have aj:=zk D
  clear D
  have H':=zk H
  clear H
  have q:0<=(a:Int):=zd
  have z:a<(c.length:Int):=zd
  obtain⟨ac,W,O⟩:=Kd.jG (Kd.jd g.out).2.2 a q z
  cases W
  replace q:=eq_true q
  replace z:=eq_true z
  obtain⟨bs,bk,rfl⟩:=Kd.ku j.out
  have aG:0<=(a:Int):=zd
  have aQ:(a:Int)<((b.length:Int):Int):=zd
  obtain⟨s,B,a6,an,aK,bf,ae⟩:=Kd.qO d.out (by omega)
  (first|cases a6|(injection a6 with iW kL kM;(first|subst iW|(injection iW with iW;subst iW));subst kM;clear kL))
  have ay:=zk an
  have bn:=zk ae
  clear an aK ae
  obtain⟨aV,aw⟩:=Kd.nT 0 d.out (a:Int) aG aQ
  replace aG:=eq_true aG
  replace aQ:=eq_true aQ
  have U:=Kd.qY d.out (a:Int) ((IntKind.u64.wrap ((IntKind.u64.wrap (rd c a))+l)) % 4294967296)
  go_wp2_with (first|((with_reducible refine qM (t:=97) (p:=47) rfl ?_);refine qJ (t:=97) (p:=47) (v:=?Y2) (w1:=(wr.setCell ⟨s,(a:Int).toNat,none⟩ (.int .u32 ((IntKind.u64.wrap ((IntKind.u64.wrap (rd c a))+l)) % 4294967296)))) ?hg ?ho ?hn ?hr ?_;(case ho=>rfl);(case hg=>rfl);(case hn=>rfl);(case hr=>first|(go_simp;done)|(go_simp;rfl));intro aT hw;have hg:wr.grownBy aT (some s):=(by rw[hw];exact U.2);have jY:Kd.R (Kd.int .u32) 97 aT w.heap.size (λk_=>(w.heap.size<=k_)) (.slice (some ⟨s,0,none⟩) b.length B) a4:=(by rw[hw,aj.out];exact U.1);clear U;replace g:=zk (Kd.rJ (v:=(.slice (some ⟨s,0,none⟩) b.length B)) (v1:=(.slice (some ⟨s,0,none⟩) b.length B)) (ok:=(λk_=>((y k_\/A k_)\/w.heap.size<=k_))) (zV g.out) hg (.inl rfl));replace j:=zk (Kd.rJ (v:=(.slice (some ⟨s,0,none⟩) b.length B)) (v1:=(.slice (some ⟨s,0,none⟩) b.length B)) (ok:=(λk_=>((y k_\/A k_)\/w.heap.size<=k_))) (zV j.out) hg (.inl rfl));replace d:=zk (jY);replace HB:=zk ((by rw[hw];exact lS (HB.out) ay.out:Below w.heap.size w aT));clear hg hw jY))
  go_roundg k2
  case measure=>have:=ar.out;have:=aq.out;omega
  case rel=>exact⟨(a4),((IntKind.u64.wrap ((IntKind.u64.wrap (rd c a))+l)) / 4294967296),(wrap64 (a+1)),zF,zF,H',⟨lW ar aq⟩,⟨zV g.out⟩,⟨zV j.out⟩,⟨zR d.out⟩,⟨zB HB.out⟩⟩
 replace H:=zg H
 obtain⟨b9,H⟩:=H
 have b4:=decide_eq_true b9
 have b3:decide (0<=c.length)=true:=decide_eq_true (by omega)
 clear b9
 replace H:=zg H
 obtain⟨aW,H⟩:=H
 have b0:=decide_eq_true aW
 have b1:decide (c.length<b.length)=true:=decide_eq_true (Int.ofNat_lt.mp aW)
 clear aW
 obtain⟨K,J⟩:∃y_:List Int,y_=(b.set ((c.length:Int):Int).toNat ((l) % 4294967296)):=⟨_,rfl⟩
 rw[<-J] at H
 have a9:=zk J
 clear J
 replace H:=zb H
 obtain⟨aR,be,H⟩:=H
 obtain rfl:=Option.some.inj H
 have aN:0<=((c.length:Int):Int):=zd
 have aF:((c.length:Int):Int)<((b.length:Int):Int):=zd
 obtain⟨n,u,ad,af,aJ,bi,ah⟩:=Kd.qO d.out (by omega)
 (first|cases ad|(injection ad with iW kL kM;(first|subst iW|(injection iW with iW;subst iW));subst kM;clear kL))
 have aL:=zk af
 have br:=zk ah
 clear af aJ ah
 obtain⟨aU,aS⟩:=Kd.nT 0 d.out ((c.length:Int):Int) aN aF
 replace aN:=eq_true aN
 replace aF:=eq_true aF
 obtain⟨ai,ak⟩:=Kd.nT 0 d.out ((c.length:Int):Int) zd zd
 (try simp only[Go.IntWalk.toNatUp] at ai ak)
 have a0:=Kd.qY d.out ((c.length:Int):Int) ((l) % 4294967296)
 go_wp2_with (first|((with_reducible refine qM (t:=97) (p:=56) rfl ?_);refine qJ (t:=97) (p:=56) (v:=?YY) (w1:=(wr.setCell ⟨n,((c.length:Int):Int).toNat,none⟩ (.int .u32 ((l) % 4294967296)))) ?hg ?ho ?hn ?hr ?_;(case ho=>rfl);(case hg=>rfl);(case hn=>rfl);(case hr=>first|(go_simp;done)|(go_simp;rfl));intro aH hw;have hg:wr.grownBy aH (some n):=(by rw[hw];exact a0.2);have jY:Kd.R (Kd.int .u32) 97 aH w.heap.size (λk_=>(w.heap.size<=k_)) (.slice (some ⟨n,0,none⟩) b.length u) K:=(by rw[hw,a9.out];exact a0.1);clear a0;replace g:=zk (Kd.rJ (v:=(.slice (some ⟨n,0,none⟩) b.length u)) (v1:=(.slice (some ⟨n,0,none⟩) b.length u)) (ok:=(λk_=>((y k_\/A k_)\/w.heap.size<=k_))) (zV g.out) hg (.inl rfl));replace j:=zk (Kd.rJ (v:=(.slice (some ⟨n,0,none⟩) b.length u)) (v1:=(.slice (some ⟨n,0,none⟩) b.length u)) (ok:=(λk_=>((y k_\/A k_)\/w.heap.size<=k_))) (zV j.out) hg (.inl rfl));replace d:=zk (jY);replace HB:=zk ((by rw[hw];exact lS (HB.out) aL.out:Below w.heap.size w aH));clear hg hw jY)|((with_reducible refine gC 118 ?_);refine Jl (some 58) rfl rfl Try.func118 (by kernel_rfl) rfl #[.slice (some ⟨n,0,none⟩) K.length u] rfl (by(try simp only[List.map_toArray,List.map_cons,List.map_nil]);first|done|(rw[show K.length=b.length from(Kd.iw d.out).1.symm]<;>rfl)|rfl|(simp only[List.length_drop,List.length_take];rfl)) ?_;(with_reducible refine(jX.calls k2 (λk_=>some k_=(.slice (some ⟨n,0,none⟩) b.length u:Value).ownBlock) _ _ K aR _ ?ig be.out).mono ?_);(case ig=>rw[show K.length=b.length from(Kd.iw d.out).1.symm];exact Kd.vT (Kd.uf rfl (d.out)));rintro e bA ⟨bj,rfl,aY,hb⟩;refine⟨_,rfl,?_⟩;replace g:=jy g hb;replace j:=jy j hb;have a5:=zk (Kd.qp (Kd.jf (ok':=λk_=>((y k_\/A k_)\/w.heap.size<=k_)) aY (λk_ iO=>Or.elim iO (λhs_=>(.inr (((d.out).1 k_ hs_.symm)))) (λjF=>(.inr (Nat.le_trans (iQ (zB HB.out)) jF))))) (iQ (zB HB.out)));replace d:=jl d hb;replace HB:=yS HB hb;(try clear hb aY)))
 go_ret
 exact⟨_,by first|rfl|(simp [kV,kU]<;>rfl)|(simp only[<-P];first|rfl|(simp [kV,kU]<;>rfl))|(simp [*,kV,kU]<;>rfl),zV a5.out,zB HB.out⟩
theorem rY.calls(k:Nat)(A0:Option Addr)(c0:Nat)(l0:List (List Int))(r:List Int)(w:World)(K:Kd.C (Kd.slice 97 (Kd.int .u32)) w A0 l0.length l0)(L:l0.length<=c0)(h:rY.f k l0=some r):
 Calls Try.prog 73 #[.slice A0 l0.length c0] w λe w'=>∃I:Value,e= .returned (I)/\Kd.R (Kd.int .u32) 97 w' w.heap.size (λ_=>True) I r/\Below w.heap.size w w':=by
 have P:=zk K
 have a3:=zk L
 clear K L
 have HB:=zk (Below.refl w.heap.size w)
 have H:=h
 clear h
 unfold rY.f at H
 have H':=zk H
 clear H
 go_enter Try.func73,Try.ntmps73
 go_wp2
 go_loopg [3,8] k (λkq v3 v8 w'=>∃(d:List Int) (b:Int),v8= .int .i64 b/\dw (rY.l0 kq d l0 (l0.length:Int) b=some r)/\dw (kq<=k)/\dw (Kd.V (Kd.int .u32) 97 w' w.heap.size (λ_=>True) v3 d)/\dw (Below w.heap.size w w'))
 case atStart=>exact⟨(([]:List Int)),(0),zF,H',⟨Nat.le_refl _⟩,⟨by exact Kd.qX _ _ _ _ _⟩,⟨zB HB.out⟩⟩
 clear H'
 obtain⟨d,b,rfl,HA,J,a,HB⟩:=hrel
 cases gk with|zero=>exact absurd HA.out (by simp [rY.l0])|succ k1=>?_
 have H:=HA.out
 clear HA
 simp only[rY.l0] at H
 replace H:=jB H
 rcases H with⟨B,H⟩|⟨B,H⟩
 ·replace H:=iV H
  obtain⟨Y,H⟩:=H
  replace H:=iV H
  obtain⟨a0,H⟩:=H
  replace H:=zb H
  obtain⟨u,A5,H⟩:=H
  replace H:=zb H
  obtain⟨v,A6,H⟩:=H
  have H':=zk H
  clear H
  have t:0<=(b:Int):=zd
  have s:b<(l0.length:Int):=zd
  obtain⟨G,p,q,z,c,g,j⟩:=wo P.out b t s
  cases z
  replace c:=(HB.out.cell (World.block_lt_of_cell? w _ c)).trans c
  have n:=zk j
  have o:=zk g
  clear j g
  replace t:=eq_true t
  replace s:=eq_true s
  go_wp2_with (first|((with_reducible refine gC 118 ?_);refine zG (some 14) Try.func118 #[.slice p (kD l0 b).length q] ?_;(with_reducible refine(jX.calls k1 (λk_=>k_<w.heap.size) _ _ (kD l0 b) u _ ?ig A5.out).mono ?_);(case ig=>exact Kd.lT o.out (Kd.nZ (Kd.o6 (Kd.oW .u32) n.out) (zB HB.out)));rintro e w7 ⟨W,rfl,m,hb⟩;refine⟨_,rfl,?_⟩;replace a:=jy a hb;have l:=ou m HB;replace HB:=yS HB hb;(try clear hb m);obtain⟨U,Z,rfl⟩:=Kd.ku a.out;obtain⟨a1,X,rfl⟩:=Kd.ku l.out)|((with_reducible refine gC 117 ?_);refine zG (some 15) Try.func117 #[.slice U d.length Z, .slice a1 u.length X] ?_;(with_reducible refine(oV.calls k1 (λk_=>True) _ _ d (λk_=>True) _ _ u v _ ?ig ?ik A6.out).mono ?_);(case ig=>exact a.out);(case ik=>exact l.out);rintro e a4 ⟨T,rfl,m,hb⟩;refine⟨_,rfl,?_⟩;replace a:=jy a hb;replace l:=jy l hb;have x:=ou m HB;replace HB:=yS HB hb;(try clear hb m)))
  go_roundg k1
  case measure=>have:=J.out;omega
  case rel=>exact⟨(v),(wrap64 (b+1)),zF,H',⟨kP J⟩,⟨zV x.out⟩,⟨zB HB.out⟩⟩
 replace H:=zb H
 obtain⟨D,M,H⟩:=H
 obtain rfl:=Option.some.inj H
 obtain⟨E,A,rfl⟩:=Kd.ku a.out
 go_wp2_with (first|((with_reducible refine gC 103 ?_);refine zG (some 18) Try.func103 #[.slice E d.length A] ?_;(with_reducible refine(pU.calls k1 _ _ d D _ ?ig ?ik M.out).mono ?_);(case ig=>exact zC (Kd.jd a.out).2.2);(case ik=>exact(Kd.jd a.out).2.1);rintro e a2 ⟨O,rfl,m,hb⟩;refine⟨_,rfl,?_⟩;replace a:=mO a m hb;have y:=jm m HB;replace HB:=yS HB hb;(try clear hb m)))
 go_ret
 exact⟨_,zE,zR y.out,zB HB.out⟩
theorem CG.calls(a0:Int)(r:Int)(w:World)(h:CG.f a0=some r):
 Calls Try.prog 71 #[.int .i64 a0] w λe w'=>e= .returned (.int .i64 r)/\jh w w':=by
 have H:=h
 clear h
 unfold CG.f at H
 replace H:=jB H
 rcases H with⟨b,H⟩|⟨b,H⟩
 ·obtain rfl:=Option.some.inj H
  go_enter Try.func71,Try.ntmps71
  go_wp2
  go_ret
  exact⟨zF,by repeat(first|exact jh.refl _|apply jh.step)⟩
 replace H:=zi H
 rcases H with⟨c3,H⟩|⟨c3,H⟩
 ·have a:decide (65<a0)=true:=decide_eq_true c3
  clear c3
  obtain rfl:=Option.some.inj H
  go_enter Try.func71,Try.ntmps71
  go_wp2
  go_ret
  exact⟨zF,by repeat(first|exact jh.refl _|apply jh.step)⟩
 have a:decide (65<a0)=false:=decide_eq_false c3
 clear c3
 obtain rfl:=Option.some.inj H
 go_enter Try.func71,Try.ntmps71
 go_wp2
 go_ret
 exact⟨zF,by repeat(first|exact jh.refl _|apply jh.step)⟩
theorem Ai.calls(a0:Int)(a1:Int)(r:Int)(w:World)(h:Ai.f a0 a1=some r):
 Calls Try.prog 102 #[.int .i64 a0, .int .i64 a1] w λe w'=>e= .returned (.int .i64 r)/\jh w w':=by
 have H:=h
 clear h
 unfold Ai.f at H
 replace H:=jB H
 rcases H with⟨b,H⟩|⟨b,H⟩
 ·obtain rfl:=Option.some.inj H
  go_enter Try.func102,Try.ntmps102
  go_wp2
  go_ret
  exact⟨zF,by repeat(first|exact jh.refl _|apply jh.step)⟩
 replace H:=zi H
 rcases H with⟨c4,H⟩|⟨c4,H⟩
 ·have c:decide (256<a0)=true:=decide_eq_true c4
  clear c4
  obtain rfl:=Option.some.inj H
  go_enter Try.func102,Try.ntmps102
  go_wp2
  go_ret
  exact⟨zF,by repeat(first|exact jh.refl _|apply jh.step)⟩
 have c:decide (256<a0)=false:=decide_eq_false c4
 clear c4
 replace H:=zb H
 obtain⟨a,A5,H⟩:=H
 obtain rfl:=Option.some.inj H
 go_enter Try.func102,Try.ntmps102
 go_wp2_with (first|((with_reducible refine gC 71 ?_);refine zG (some 12) Try.func71 #[.int .i64 a1] ?_;(with_reducible refine(CG.calls a1 a _ A5.out).mono ?_);rintro e w' ⟨rfl,⟨nd,rfl⟩⟩;refine⟨_,rfl,?_⟩))
 go_ret
 exact⟨zF,by repeat(first|exact jh.refl _|apply jh.step)⟩
theorem qU.calls(k:Nat)(A0:Option Addr)(c0:Nat)(l0:List Int)(A1:Option Addr)(c1:Nat)(l1:List Int)(r1:List Int)(r2:Int)(w:World)(aB:Kd.C (Kd.int .u32) w A0 l0.length l0)(av:l0.length<=c0)(au:Kd.C (Kd.int .u32) w A1 l1.length l1)(aD:l1.length<=c1)(h:qU.f k l0 l1=some (r1,r2)):
 Calls Try.prog 137 #[.slice A0 l0.length c0, .slice A1 l1.length c1] w λe w'=>∃ax:Value,e= .returned (.tuple #[ax, .int .i64 r2])/\Kd.V (Kd.int .u32) 97 w' w.heap.size (λk_=>(w.heap.size<=k_)) ax r1/\Below w.heap.size w w':=by
 have ar:=zk aB
 have aw:=zk av
 clear aB av
 have az:=zk au
 have aF:=zk aD
 clear au aD
 have HB:=zk (Below.refl w.heap.size w)
 have H:=h
 clear h
 unfold qU.f at H
 replace H:=zb H
 obtain⟨G,A3,H⟩:=H
 replace H:=zh H
 obtain⟨c4,H⟩:=H
 have ao:=decide_eq_false c4
 clear c4
 replace H:=zb H
 obtain⟨m,A5,H⟩:=H
 have H':=zk H
 clear H
 go_enter Try.func137,Try.ntmps137
 go_wp2_with (first|((with_reducible refine gC 79 ?_);refine zG (some 12) Try.func79 #[.slice A0 l0.length c0, .slice A1 l1.length c1] ?_;(with_reducible refine(pG.calls k _ _ l0 _ _ l1 G _ ?ig ?ik ?iF ?iE A3.out).mono ?_);(case ig=>exact zC ar.out);(case ik=>exact aw.out);(case iF=>exact zC az.out);(case iE=>exact aF.out);rintro e w6 ⟨rfl,hb⟩;refine⟨_,rfl,?_⟩;replace HB:=yS HB hb;(try clear hb))|((with_reducible refine gC 103 ?_);refine zG (some 15) Try.func103 #[.slice A0 l0.length c0] ?_;(with_reducible refine(pU.calls k _ _ l0 m _ ?ig ?ik A5.out).mono ?_);(case ig=>exact zC (Kd.iR ar.out HB.out));(case ik=>exact aw.out);rintro e w7 ⟨aM,rfl,y,hb⟩;refine⟨_,rfl,?_⟩;replace y:=Kd.oD (M:=λk_=>(w.heap.size<=k_)) y (iQ (zB HB.out)) (λk_ h_=>h_);have x:=jm y HB;replace HB:=yS HB hb;(try clear hb y);obtain⟨am,a5,rfl⟩:=Kd.iD x.out))
 go_loopg [7,18] k (λkq v7 aH w'=>∃(b:List Int) (g:Int) (a:Int),v7= .int .u64 g/\aH= .int .i64 a/\dw (qU.l0 kq l1 b g (m.length:Int) a=some (r1,r2))/\dw (kq<=k)/\dw (Kd.R (Kd.int .u32) 97 w' w.heap.size (λk_=>(w.heap.size<=k_)) (.slice am m.length a5) b)/\dw (Below w.heap.size w w'))
 case atStart=>exact⟨(m),(0),(0),zF,zF,H',⟨Nat.le_refl _⟩,⟨by(with_reducible repeat(first|apply Kd.iT|apply Kd.iU|apply Kd.iJ));exact Kd.iZ x.out (λ_ hk=>hk.1)⟩,⟨zB HB.out⟩⟩
 clear H'
 (try clear ao)
 obtain⟨b,g,a,rfl,rfl,HA,a8,c,HB⟩:=hrel
 have d:=(Kd.iw c.out).1
 rw[d] at c
 (try simp only[d])
 cases gk with|zero=>exact absurd HA.out (by simp [qU.l0])|succ k1=>?_
 have H:=HA.out
 clear HA
 simp only[qU.l0] at H
 replace H:=zi H
 rcases H with⟨c9,H⟩|⟨c9,H⟩
 ·have L:=decide_eq_true c9
  (try(have D:=L;simp only[d] at D))
  clear c9
  replace H:=iV H
  obtain⟨ay,H⟩:=H
  replace H:=zg H
  obtain⟨aA,H⟩:=H
  have O:=decide_eq_true aA
  (try(have Y:=O;simp only[d] at Y))
  clear aA
  replace H:=zi H
  rcases H with⟨a2,H⟩|⟨a2,H⟩
  ·have u:=decide_eq_true a2
   (try(have r:=u;simp only[d] at r))
   clear a2
   obtain⟨P,q⟩:∃y_:List Int,y_=(b.set (a:Int).toNat ((IntKind.u64.wrap ((IntKind.u64.wrap ((IntKind.u64.wrap (rd b a))-g))-(IntKind.u64.wrap (rd l1 a)))) % 4294967296)):=⟨_,rfl⟩
   rw[<-q] at H
   have a3:=zk q
   clear q
   have H':=zk H
   clear H
   have o:0<=(a:Int):=zd
   have n:a<(b.length:Int):=zd
   obtain⟨a6,A,j⟩:=Kd.jG (Kd.iw c.out).2.2 a o n
   cases A
   replace o:=eq_true o
   replace n:=eq_true n
   have B:0<=(a:Int):=zd
   have I:a<(l1.length:Int):=zd
   obtain⟨aC,aa,l⟩:=Kd.jG az.out a B I
   cases aa
   replace l:=(HB.out.cell (World.block_lt_of_cell? w _ l)).trans l
   replace B:=eq_true B
   replace I:=eq_true I
   have ac:0<=(a:Int):=zd
   have al:(a:Int)<((b.length:Int):Int):=zd
   obtain⟨E,aI,a7,a0,aj,aN,Z⟩:=Kd.qO c.out (by omega)
   (first|cases a7|(injection a7 with iW kL kM;(first|subst iW|(injection iW with iW;subst iW));subst kM;clear kL))
   have aq:=zk a0
   have aE:=zk Z
   clear a0 aj Z
   (first|simp only[add_plain] at j|skip)
   obtain⟨af,ae⟩:=Kd.nT 0 c.out (a:Int) ac al
   replace ac:=eq_true ac
   replace al:=eq_true al
   have z:=Kd.qY c.out (a:Int) ((IntKind.u64.wrap ((IntKind.u64.wrap ((IntKind.u64.wrap (rd b a))-g))-(IntKind.u64.wrap (rd l1 a)))) % 4294967296)
   go_wp2_with (first|((with_reducible refine qM (t:=97) (p:=43) rfl ?_);refine qJ (t:=97) (p:=43) (v:=?Q9) (w1:=(wr.setCell ⟨E,(a:Int).toNat,none⟩ (.int .u32 ((IntKind.u64.wrap ((IntKind.u64.wrap ((IntKind.u64.wrap (rd b a))-g))-(IntKind.u64.wrap (rd l1 a)))) % 4294967296)))) ?hg ?ho ?hn ?hr ?_;(case ho=>rfl);(case hg=>rfl);(case hn=>rfl);(case hr=>first|(go_simp;done)|(go_simp;rfl));intro ap hw;have hg:wr.grownBy ap (some E):=(by rw[hw];exact z.2);have jY:Kd.R (Kd.int .u32) 97 ap w.heap.size (λk_=>(w.heap.size<=k_)) (.slice (some ⟨E,0,none⟩) b.length a5) P:=(by rw[hw,a3.out];exact z.1);clear z;replace c:=zk (jY);replace HB:=zk ((by rw[hw];exact lS (HB.out) aq.out:Below w.heap.size w ap));clear hg hw jY))
   (try simp only[<-d])
   go_roundg k1
   case measure=>have:=a8.out;omega
   case rel=>exact⟨(P),((IntKind.u64.wrap ((IntKind.u64.wrap ((IntKind.u64.wrap (rd b a))-g))-(IntKind.u64.wrap (rd l1 a)))) / 9223372036854775808),(wrap64 (a+1)),zF,zF,H',⟨kP a8⟩,⟨by(try simp only[d]);(with_reducible repeat(first|apply Kd.iT|apply Kd.iU|apply Kd.iJ));exact c.out⟩,⟨zB HB.out⟩⟩
  have u:=decide_eq_false a2
  (try(have r:=u;simp only[d] at r))
  clear a2
  obtain⟨a4,s⟩:∃y_:List Int,y_=(b.set (a:Int).toNat ((IntKind.u64.wrap ((IntKind.u64.wrap (rd b a))-g)) % 4294967296)):=⟨_,rfl⟩
  rw[<-s] at H
  have W:=zk s
  clear s
  have H':=zk H
  clear H
  have o:0<=(a:Int):=zd
  have n:a<(b.length:Int):=zd
  obtain⟨a6,A,j⟩:=Kd.jG (Kd.iw c.out).2.2 a o n
  cases A
  replace o:=eq_true o
  replace n:=eq_true n
  have ad:0<=(a:Int):=zd
  have a9:(a:Int)<((b.length:Int):Int):=zd
  obtain⟨J,aO,X,U,ai,aJ,a1⟩:=Kd.qO c.out (by omega)
  (first|cases X|(injection X with iW kL kM;(first|subst iW|(injection iW with iW;subst iW));subst kM;clear kL))
  have ah:=zk U
  have aL:=zk a1
  clear U ai a1
  (first|simp only[add_plain] at j|skip)
  obtain⟨ak,ab⟩:=Kd.nT 0 c.out (a:Int) ad a9
  replace ad:=eq_true ad
  replace a9:=eq_true a9
  have K:=Kd.qY c.out (a:Int) ((IntKind.u64.wrap ((IntKind.u64.wrap (rd b a))-g)) % 4294967296)
  go_wp2_with (first|((with_reducible refine qM (t:=97) (p:=43) rfl ?_);refine qJ (t:=97) (p:=43) (v:=?Y4) (w1:=(wr.setCell ⟨J,(a:Int).toNat,none⟩ (.int .u32 ((IntKind.u64.wrap ((IntKind.u64.wrap (rd b a))-g)) % 4294967296)))) ?hg ?ho ?hn ?hr ?_;(case ho=>rfl);(case hg=>rfl);(case hn=>rfl);(case hr=>first|(go_simp;done)|(go_simp;rfl));intro ag hw;have hg:wr.grownBy ag (some J):=(by rw[hw];exact K.2);have jY:Kd.R (Kd.int .u32) 97 ag w.heap.size (λk_=>(w.heap.size<=k_)) (.slice (some ⟨J,0,none⟩) b.length a5) a4:=(by rw[hw,W.out];exact K.1);clear K;replace c:=zk (jY);replace HB:=zk ((by rw[hw];exact lS (HB.out) ah.out:Below w.heap.size w ag));clear hg hw jY))
  (try simp only[<-d])
  go_roundg k1
  case measure=>have:=a8.out;omega
  case rel=>exact⟨(a4),((IntKind.u64.wrap ((IntKind.u64.wrap (rd b a))-g)) / 9223372036854775808),(wrap64 (a+1)),zF,zF,H',⟨kP a8⟩,⟨by(try simp only[d]);(with_reducible repeat(first|apply Kd.iT|apply Kd.iU|apply Kd.iJ));exact c.out⟩,⟨zB HB.out⟩⟩
 have L:=decide_eq_false c9
 (try(have D:=L;simp only[d] at D))
 clear c9
 replace H:=zb H
 obtain⟨an,aK,H⟩:=H
 simp only[Option.some.injEq,Prod.mk.injEq] at H
 obtain⟨rfl,rfl⟩:=H
 go_wp2_with (first|((with_reducible refine gC 118 ?_);refine zG (some 48) Try.func118 #[.slice am b.length a5] ?_;(with_reducible refine(jX.calls k1 (λk_=>some k_=(.slice am b.length a5:Value).ownBlock) _ _ b an _ ?ig aK.out).mono ?_);(case ig=>exact Kd.vT (Kd.uf rfl (c.out)));rintro e aP ⟨aG,rfl,y,hb⟩;refine⟨_,rfl,?_⟩;have T:=zk (Kd.qp (Kd.jf (ok':=λk_=>(w.heap.size<=k_)) y (λk_ iO=>Or.elim iO (λhs_=>((c.out).1 k_ hs_.symm)) (λjF=>(Nat.le_trans (iQ (zB HB.out)) jF)))) (iQ (zB HB.out)));replace c:=jl c hb;replace HB:=yS HB hb;(try clear hb y)))
 go_ret2
 exact⟨_,zE,zV T.out,zB HB.out⟩
def rE.T2:Bool×List (List Nat×List Nat):=(true,[([],[]),([0],[0]),([],[]),([2],[2]),([],[]),([4],[4]),([3,5],[3,5]),([6],[6]),([1,7],[1,7]),([8,7,0,1,2,3,4,5,6,7,8],[8])])
def rE.B2:List Nat:=[0,1,0,4,0,16,60,124,255,511]
theorem rE.RH:lM .any (opsOf Try.f128 2)=rE.T2:=by kernel_rfl
theorem rE.XP:qh rE.T2.2 rE.B2=true:=by kernel_rfl
theorem rE.calls(k:Nat)(I:Bool)(W:Nat->Prop)(T:Option Addr)(O:Nat)(D:List Int)(J:Bool)(X:Nat->Prop)(U:Option Addr)(P:Nat)(B:List Int)(r1:Bool)(r2:List Int)(w:World)(ad:Kd.V (Kd.int .u32) 97 w w.heap.size (λk_=>W k_) (.slice T D.length O) D)(ao:Kd.V (Kd.int .u32) 97 w w.heap.size (λk_=>X k_) (.slice U B.length P) B)(h:rE.f k I D J B=some (r1,r2)):
 Calls Try.prog 128 #[.agg #[.bool I, .slice T D.length O], .agg #[.bool J, .slice U B.length P]] w λe w'=>∃bX:Value,e= .returned (.agg #[.bool r1,bX])/\Kd.V (Kd.int .u32) 97 w' w.heap.size (λk_=>((W k_\/X k_)\/w.heap.size<=k_)) bX r2/\Below w.heap.size w w':=by
 have bZ:=Try.underlying113
 have j:=zk (show Kd.V (Kd.int .u32) 97 w w.heap.size (λk_=>((W k_\/X k_)\/w.heap.size<=k_)) (.slice T D.length O) D from Kd.jf ad (λk_ hk=> .inl (.inl hk)))
 have b:=zk (show Kd.V (Kd.int .u32) 97 w w.heap.size (λk_=>((W k_\/X k_)\/w.heap.size<=k_)) (.slice U B.length P) B from Kd.jf ao (λk_ hk=> .inl (.inr hk)))
 have HB:=zk (Below.refl w.heap.size w)
 have H:=h
 clear h
 unfold rE.f at H
 replace H:=zi H
 rcases H with⟨c3,H⟩|⟨c3,H⟩
 ·have bF:(I==J)=true:=c3
  (try(have bG:decide (I=J)=true:=by simpa using c3))
  (try(have bC:(I==J)=true:=by simpa using c3))
  clear c3
  obtain⟨aj,a2⟩:∃y_:List (List Int),y_=(([D,B]:List (List Int))):=⟨_,rfl⟩
  rw[<-a2] at H
  have a4:=zk a2
  clear a2
  replace H:=zb H
  obtain⟨a1,A4,H⟩:=H
  simp only[Option.some.injEq,Prod.mk.injEq] at H
  obtain⟨rfl,rfl⟩:=H
  go_enter Try.func128,Try.ntmps128
  try go_wp2_with (first|((with_reducible refine jc (N:=2) rfl ?_);refine jM ?hg (N:=2) ?hd (cs:= #[.bool I, .slice T D.length O]) (t:=113) ?hr ?_;(case hd=>rfl);(case hg=>rfl);(case hr=>first|(go_simp;done)|(go_simp;rfl));intro q hg w5 hbox hb;replace j:=nJ j hg hb;replace b:=nJ b hg hb;have a:=zk (hbox);have a5:=yg hg HB;have m:=yg hg HB;replace HB:=yS HB hb;clear hb hbox hg)|((with_reducible refine jc (N:=3) rfl ?_);refine jM ?hg (N:=3) ?hd (cs:= #[.bool J, .slice U B.length P]) (t:=113) ?hr ?_;(case hd=>rfl);(case hg=>rfl);(case hr=>first|(go_simp;done)|(go_simp;rfl));intro r hg w6 hbox hb;replace j:=nJ j hg hb;replace b:=nJ b hg hb;have d:=zk (hbox);have a8:=qg hg HB m;have u:=qg hg HB m;replace HB:=jg HB m hb;have E:=mZ hg a;have G:=ng hg a;replace a:=yK a hb;clear hb hbox hg)|((with_reducible refine jc (N:=4) rfl ?_);refine jM ?hg (N:=4) ?hd (cs:= #[.bool false, .slice none 0 0]) (t:=113) ?hr ?_;(case hd=>rfl);(case hg=>rfl);(case hr=>first|(go_simp;done)|(go_simp;rfl));intro l hg w7 hbox hb;replace j:=nJ j hg hb;replace b:=nJ b hg hb;have s:=zk (hbox);have a9:=qH hg HB m u;have L:=qH hg HB m u;replace HB:=oH HB m u hb;have A:=mZ hg a;have y:=ng hg a;replace a:=yK a hb;have z:=mZ hg d;have x:=ng hg d;replace d:=yK d hb;clear hb hbox hg;have cq:=E.out;have cp:=G.out;have ci:=A.out;have ch:=y.out;obtain⟨b4,b2,az,aD⟩:=oM a;have bQ:=z.out;have bR:=x.out;obtain⟨aI,aQ,aV,ax⟩:=oM d))
  replace j:=zk (Kd.lV j.out)
  replace b:=zk (Kd.lV b.out)
  replace a:=zk (iC a.out)
  replace d:=zk (iC d.out)
  replace s:=zk (iC s.out)
  replace HB:=zk (l9 HB.out)
  refine qi (n:=10) (S:=λw'=>w'.cell? ⟨q,0,none⟩=some (.bool I)/\w'.cell? ⟨q,1,none⟩=some (.slice T D.length O)/\w'.cell? ⟨r,0,none⟩=some (.bool J)/\w'.cell? ⟨r,1,none⟩=some (.slice U B.length P)) (ds:=[]) #[false,false,false,false,false,false,false,false,false,false] (by kernel_rfl) rfl rfl ⟨(iy a.out 0).trans rfl,(iy a.out 1).trans rfl,(iy d.out 0).trans rfl,(iy d.out 1).trans rfl⟩ (λhHeld=>?_);refine qx rE.RH rE.XP (λiq jq=>?_)
  generalize w7.drew=cf at j b a d s HB hHeld ⊢
  refine zp (i:=0) (N:=some 12) iq ?_
  refine zp (i:=2) (N:=some 14) iq ?_
  refine zp (i:=4) (N:=some 16) iq ?_
  refine jI (i:=1) (N:=some 13) (v:=?_) (a':=?_) #[true,true,true,false,true,false,false,false,false,false] rfl rfl (jO iq.out jq.out (by kernel_rfl)) (λ_ _ _ h=>h) (Or.inl ⟨by rfl,?_⟩) hHeld ?_ ?_
  rotate_left
  ·rintro w' ⟨s0,s1,s2,s3⟩
   go_simp
   with_reducible rfl
  rotate_left
  ·simp only[Act.put,List.setIfInBounds_toArray,List.set_cons_zero,List.set_cons_succ,iI,iP]
   rfl
  refine jI (i:=3) (N:=some 15) (v:=?_) (a':=?_) #[true,true,true,true,true,false,false,false,false,false] rfl rfl (jO iq.out jq.out (by kernel_rfl)) (λ_ _ _ h=>h) (Or.inl ⟨by rfl,?_⟩) hHeld ?_ ?_
  rotate_left
  ·rintro w' ⟨s0,s1,s2,s3⟩
   go_simp
   with_reducible rfl
  rotate_left
  ·simp only[Act.put,List.setIfInBounds_toArray,List.set_cons_zero,List.set_cons_succ,iI,iP]
   rfl
  refine jI (i:=5) (N:=some 17) (v:=?_) (a':=?_) #[true,true,true,true,true,true,false,false,false,false] rfl rfl (jO iq.out jq.out (by kernel_rfl)) (λ_ _ _ h=>h) (Or.inl ⟨by rfl,?_⟩) hHeld ?_ ?_
  rotate_left
  ·rintro w' ⟨s0,s1,s2,s3⟩
   go_simp
   with_reducible rfl
  rotate_left
  ·simp only[Act.put,List.setIfInBounds_toArray,List.set_cons_zero,List.set_cons_succ,iI,iP]
   rfl
  refine lN (i:=6) (N:=some 18) #[true,true,true,true,true,true,true,false,false,false] rfl rfl (kH iq.out (by kernel_rfl)) (by decide) (λK hK=>?_)
  refine Kd.Qs (Kd.slice 97 (Kd.int .u32)) _ 29 ?hg (N':=18) ?hd (xs:=([D,B]:List (List Int))) (inner:=[.slice T D.length O, .slice U B.length P]) (ok:=(λk_=>((W k_\/X k_)\/w.heap.size<=k_)/\k_≠q/\k_≠r/\k_≠l)) (je:=(λk_=>((W k_\/X k_)\/w.heap.size<=k_)/\k_≠q/\k_≠r/\k_≠l)) ?hr ?hp (λ_ hk=>hk) ((show ∀k_,cf.heap.size<=k_->(λk_=>((W k_\/X k_)\/w.heap.size<=k_)/\k_≠q/\k_≠r/\k_≠l) k_ from λk_ hk=>⟨(.inr (Nat.le_trans (iQ (nI HB.out m.out u.out L.out)) hk)),Kd.kT (g:=q) (o:= .cells #[.bool I, .slice T D.length O] 113 (0,0)) (by(with_reducible repeat(first|refine iM ?_ _|refine iC ?_|refine iL ?_ _));exact a.out) k_ hk,Kd.kT (g:=r) (o:= .cells #[.bool J, .slice U B.length P] 113 (0,0)) (by(with_reducible repeat(first|refine iM ?_ _|refine iC ?_|refine iL ?_ _));exact d.out) k_ hk,Kd.kT (g:=l) (o:= .cells #[.bool false, .slice none 0 0] 113 (0,0)) (by(with_reducible repeat(first|refine iM ?_ _|refine iC ?_|refine iL ?_ _));exact s.out) k_ hk⟩) _ (Nat.le_refl _)) (Below.refl _ _) (Nat.le_refl _) (by simp) ?_;(case hd=>rfl);(case hg=>rfl);(case hr=>first|(go_simp;done)|(go_simp;rfl));(case hp=>exact(iY.one (show Kd.FK (Kd.slice 97 (Kd.int .u32)) _ _ D [.slice T D.length O] from(Kd.yj (Kd.jd (Kd.jf (ok':=(λk_=>((W k_\/X k_)\/w.heap.size<=k_)/\k_≠q/\k_≠r/\k_≠l)) (j.out) (λk_ hk=>by exact⟨hk.1.1.1,⟨hk.1.1.2,⟨hk.1.2,hk.2⟩⟩⟩))).2.1 (Kd.xG (Kd.jf (ok':=(λk_=>((W k_\/X k_)\/w.heap.size<=k_)/\k_≠q/\k_≠r/\k_≠l)) (j.out) (λk_ hk=>by exact⟨hk.1.1.1,⟨hk.1.1.2,⟨hk.1.2,hk.2⟩⟩⟩))))) (iY.one (show Kd.FK (Kd.slice 97 (Kd.int .u32)) _ _ B [.slice U B.length P] from(Kd.yj (Kd.jd (Kd.jf (ok':=(λk_=>((W k_\/X k_)\/w.heap.size<=k_)/\k_≠q/\k_≠r/\k_≠l)) (b.out) (λk_ hk=>by exact⟨hk.1.1.1,⟨hk.1.1.2,⟨hk.1.2,hk.2⟩⟩⟩))).2.1 (Kd.xG (Kd.jf (ok':=(λk_=>((W k_\/X k_)\/w.heap.size<=k_)/\k_≠q/\k_≠r/\k_≠l)) (b.out) (λk_ hk=>by exact⟨hk.1.1.1,⟨hk.1.1.2,⟨hk.1.2,hk.2⟩⟩⟩))))) (iY.none _ _))))
  intro cg ct Z hb jw jv
  clear jw jv
  (first|rw[<-a4.out] at Z|(simp only[Int.reduceToNat] at Z;rw[<-a4.out] at Z))
  replace j:=zk (Kd.xE (zV j.out) (Kd.vC Z) hb)
  replace b:=zk (Kd.xE (zV b.out) (Kd.vC Z) hb)
  have Y:=zk (Kd.qf Z (iQ (nI HB.out m.out u.out L.out)))
  replace a:=yK a hb
  replace d:=yK d hb
  replace s:=yK s hb
  replace HB:=lX HB m u L hb
  clear hb Z
  obtain⟨bJ,bL,ai⟩:=Kd.oG Y.out
  (first|subst ai|(injection ai with ap bK aq;have bH:=ap.symm;have bE:=aq.symm;clear ap bK aq;subst bH;subst bE))
  refine hK.out _ _ ⟨(iy a.out 0).trans rfl,(iy a.out 1).trans rfl,(iy d.out 0).trans rfl,(iy d.out 1).trans rfl⟩ (λhHeld=>?_)
  clear hK K
  refine mr (a':=?_) ?_ ?_
  rotate_left
  ·show Act.put _ (some 18) _=_
   simp only[Act.put,List.setIfInBounds_toArray,List.set_cons_zero,List.set_cons_succ,iI,iP]
   rfl
  refine lN (i:=7) (N:=some 19) #[true,true,true,true,true,true,true,true,false,false] rfl rfl (kH iq.out (by kernel_rfl)) (by decide) (λK hK=>?_)
  refine nS Try.func73 (by kernel_rfl) rfl #[.slice bJ aj.length bL] (by rfl) rfl rfl (by(try simp only[List.map_toArray,List.map_cons,List.map_nil]);first|done|rfl|(simp only[List.length_drop,List.length_take];rfl)) ?_
  with_reducible refine(rY.calls k _ _ aj a1 _ ?ig ?ik A4.out).mono ?_
  (case ig=>exact zC (Kd.jR Y.out).2.2)
  (case ik=>exact(Kd.jR Y.out).2.1)
  rintro e cc ⟨cd,rfl,a0,hb⟩
  refine⟨_,rfl,?_⟩
  replace j:=mO j a0 hb
  replace b:=mO b a0 hb
  replace Y:=o7 Y a0 hb
  replace a0:=Kd.oD (M:=λk_=>(w.heap.size<=k_)) a0 (iQ (nI HB.out m.out u.out L.out)) (λk_ h_=>h_)
  have a6:=kX a0 HB m u L
  replace a:=yK a hb
  replace d:=yK d hb
  replace s:=yK s hb
  replace HB:=lX HB m u L hb
  (try clear hb)
  (try clear a0)
  obtain⟨ag,an,am⟩:=Kd.iD a6.out
  (first|subst am|(injection am with ap bK aq;have bH:=ap.symm;have bE:=aq.symm;clear ap bK aq;subst bH;subst bE))
  refine hK.out _ _ ⟨(iy a.out 0).trans rfl,(iy a.out 1).trans rfl,(iy d.out 0).trans rfl,(iy d.out 1).trans rfl⟩ (λhHeld=>?_)
  clear hK K
  refine mr (a':=?_) ?_ ?_
  rotate_left
  ·show Act.put _ (some 19) _=_
   simp only[Act.put,List.setIfInBounds_toArray,List.set_cons_zero,List.set_cons_succ,iI,iP]
   rfl
  refine zp (i:=8) (N:=some 20) iq ?_
  refine lN (i:=9) (N:=none) #[true,true,true,true,true,true,true,true,true,true] rfl rfl (kH iq.out (by kernel_rfl)) (by decide) (λK hK=>?_)
  have cr:cc.cell? ⟨l,0,none⟩=some (.bool false):=(iy s.out 0).trans rfl
  have bM:=pY s.out 0
  have aW:=A.out
  have bo:=z.out
  have bj:=y.out
  have aC:=x.out
  have cj:cc.cell? ⟨l,1,none⟩=some (.slice none 0 0):=(iy s.out 1).trans rfl
  have bS:=pY s.out 1
  have aX:=A.out
  have b0:=z.out
  have aA:=y.out
  have bi:=x.out
  refine vH (w1:=?_) (by rfl) rfl ?_ ?_
  rotate_left
  ·go_simp
   rfl
  refine hK.out _ _ ⟨((cell_far (p:=⟨l,_,none⟩) A.out _).trans (((cell_far (p:=⟨l,_,none⟩) A.out _).trans (hHeld.1)))),((cell_far (p:=⟨l,_,none⟩) A.out _).trans (((cell_far (p:=⟨l,_,none⟩) A.out _).trans (hHeld.2.1)))),((cell_far (p:=⟨l,_,none⟩) z.out _).trans (((cell_far (p:=⟨l,_,none⟩) z.out _).trans (hHeld.2.2.1)))),((cell_far (p:=⟨l,_,none⟩) z.out _).trans (((cell_far (p:=⟨l,_,none⟩) z.out _).trans (hHeld.2.2.2))))⟩ (λhHeld=>?_)
  clear hK K
  refine ql (qF iq.out (by kernel_rfl)) ?_
  try go_wp2
  refine bodyPost_ret (results_cell_row rfl _ _ l 113 #[.bool I, .slice ag a1.length an] (0,0) _ rfl (yl s.out) Try.underlying113 rfl (by kernel_rfl)) rfl ?_
  exact⟨_,zE,Kd.jf (Kd.vT (by(with_reducible repeat(first|apply Kd.iT|apply Kd.iU|apply Kd.iJ));exact Kd.iZ (Kd.rM (p:=⟨l,1,none⟩) (Kd.rM (p:=⟨l,0,none⟩) (Kd.mM a6.out s.out (by decide)) (λ_ hk=>hk.2) (.bool I)) (λ_ hk=>hk.2) (.slice ag a1.length an)) (λ_ hk=>hk.1.1))) (λk_ hk=>by first|exact⟨(.inr (hk.1)),hk.2⟩|exact(.inr (hk))),nI HB.out m.out u.out L.out⟩
 have bF:(I==J)=false:=by simpa using c3
 (try(have bG:decide (I=J)=false:=by simpa using c3))
 (try(have bC:(I==J)=false:=by simpa using c3))
 (try(have cn:¬(I=J):=by simpa using c3))
 clear c3
 replace H:=zb H
 obtain⟨a3,bU,H⟩:=H
 replace H:=jB H
 rcases H with⟨ae,H⟩|⟨ae,H⟩
 ·replace H:=zb H
  obtain⟨⟨ac,bD⟩,ck,H⟩:=H
  dsimp only at H
  simp only[Option.some.injEq,Prod.mk.injEq] at H
  obtain⟨rfl,rfl⟩:=H
  go_enter Try.func128,Try.ntmps128
  go_wp2_with (first|((with_reducible refine jc (N:=2) rfl ?_);refine jM ?hg (N:=2) ?hd (cs:= #[.bool I, .slice T D.length O]) (t:=113) ?hr ?_;(case hd=>rfl);(case hg=>rfl);(case hr=>first|(go_simp;done)|(go_simp;rfl));intro q hg cD hbox hb;replace j:=nJ j hg hb;replace b:=nJ b hg hb;have a:=zk (hbox);have a5:=yg hg HB;have m:=yg hg HB;replace HB:=yS HB hb;clear hb hbox hg)|((with_reducible refine jc (N:=3) rfl ?_);refine jM ?hg (N:=3) ?hd (cs:= #[.bool J, .slice U B.length P]) (t:=113) ?hr ?_;(case hd=>rfl);(case hg=>rfl);(case hr=>first|(go_simp;done)|(go_simp;rfl));intro r hg cv hbox hb;replace j:=nJ j hg hb;replace b:=nJ b hg hb;have d:=zk (hbox);have a8:=qg hg HB m;have u:=qg hg HB m;replace HB:=jg HB m hb;have E:=mZ hg a;have G:=ng hg a;replace a:=yK a hb;clear hb hbox hg)|((with_reducible refine jc (N:=4) rfl ?_);refine jM ?hg (N:=4) ?hd (cs:= #[.bool false, .slice none 0 0]) (t:=113) ?hr ?_;(case hd=>rfl);(case hg=>rfl);(case hr=>first|(go_simp;done)|(go_simp;rfl));intro l hg cB hbox hb;replace j:=nJ j hg hb;replace b:=nJ b hg hb;have s:=zk (hbox);have a9:=qH hg HB m u;have L:=qH hg HB m u;replace HB:=oH HB m u hb;have A:=mZ hg a;have y:=ng hg a;replace a:=yK a hb;have z:=mZ hg d;have x:=ng hg d;replace d:=yK d hb;clear hb hbox hg;have cb:=E.out;have c0:=G.out;have bO:=A.out;have ca:=y.out;obtain⟨bz,bf,av,aF⟩:=oM a;have bY:=z.out;have bP:=x.out;obtain⟨aE,aN,aH,bs⟩:=oM d)|((with_reducible refine gC 79 ?_);refine zG (some 25) Try.func79 #[.slice T D.length O, .slice U B.length P] ?_;(with_reducible refine(pG.calls k _ _ D _ _ B a3 _ ?ig ?ik ?iF ?iE bU.out).mono ?_);(case ig=>exact zC (Kd.jd j.out).2.2);(case ik=>exact(Kd.jd j.out).2.1);(case iF=>exact zC (Kd.jd b.out).2.2);(case iE=>exact(Kd.jd b.out).2.1);rintro e cu ⟨rfl,hb⟩;refine⟨_,rfl,?_⟩;replace j:=jy j hb;replace b:=jy b hb;replace a:=yK a hb;replace d:=yK d hb;replace s:=yK s hb;replace HB:=lX HB m u L hb;(try clear hb);obtain⟨bq,be,aT,bw⟩:=oM d;obtain⟨aY,aJ,b3,a_⟩:=oM a)|((with_reducible refine gC 137 ?_);refine zG (some 34) Try.func137 #[.slice U B.length P, .slice T D.length O] ?_;(with_reducible refine(qU.calls k _ _ B _ _ D ac bD _ ?ig ?ik ?iF ?iE ck.out).mono ?_);(case ig=>refine(Kd.jd (e:=97) (base:=w.heap.size) (ok:=λk_=>(((((W k_\/X k_)\/w.heap.size<=k_)/\k_≠q)/\k_≠r)/\k_≠l)) (n:=B.length) (c:=P) ?_).2.2;exact(by(with_reducible repeat(first|apply Kd.nH|apply Kd.nG|apply Kd.lV));exact(Kd.jf (Kd.jf (Kd.pJ (p:=⟨r,1,none⟩) (Kd.pJ (p:=⟨r,0,none⟩) (Kd.pJ (p:=⟨q,1,none⟩) (Kd.pJ (p:=⟨q,0,none⟩) (Kd.jf (Kd.jf b.out (λk_ hk=>(⟨hk,hk.1.1.2⟩:_/\k_≠q))) (λk_ hk=>(⟨hk,hk.1.1.2⟩:_/\k_≠r))) (λ_ hk=>hk.1.2) (.bool J)) (λ_ hk=>hk.1.2) (.slice U B.length P)) (λ_ hk=>hk.2) (.bool I)) (λ_ hk=>hk.2) (.slice T D.length O)) (λ_ h_=>h_.1)) (λ_ h_=>h_.1))));(case ik=>exact(Kd.jd b.out).2.1);(case iF=>refine(Kd.jd (e:=97) (base:=w.heap.size) (ok:=λk_=>(((((W k_\/X k_)\/w.heap.size<=k_)/\k_≠q)/\k_≠r)/\k_≠l)) (n:=D.length) (c:=O) ?_).2.2;exact(by(with_reducible repeat(first|apply Kd.nH|apply Kd.nG|apply Kd.lV));exact(Kd.jf (Kd.jf (Kd.pJ (p:=⟨r,1,none⟩) (Kd.pJ (p:=⟨r,0,none⟩) (Kd.pJ (p:=⟨q,1,none⟩) (Kd.pJ (p:=⟨q,0,none⟩) (Kd.jf (Kd.jf j.out (λk_ hk=>(⟨hk,hk.1.1.2⟩:_/\k_≠q))) (λk_ hk=>(⟨hk,hk.1.1.2⟩:_/\k_≠r))) (λ_ hk=>hk.1.2) (.bool J)) (λ_ hk=>hk.1.2) (.slice U B.length P)) (λ_ hk=>hk.2) (.bool I)) (λ_ hk=>hk.2) (.slice T D.length O)) (λ_ h_=>h_.1)) (λ_ h_=>h_.1))));(case iE=>exact(Kd.jd j.out).2.1);rintro e cy ⟨cl,rfl,a0,hb⟩;refine⟨_,rfl,?_⟩;replace j:=zk (Kd.GK (by(with_reducible repeat(first|apply Kd.nH|apply Kd.nG|apply Kd.lV));exact(Kd.jf (Kd.jf (Kd.pJ (p:=⟨r,1,none⟩) (Kd.pJ (p:=⟨r,0,none⟩) (Kd.pJ (p:=⟨q,1,none⟩) (Kd.pJ (p:=⟨q,0,none⟩) (Kd.jf (Kd.jf j.out (λk_ hk=>(⟨hk,hk.1.1.2⟩:_/\k_≠q))) (λk_ hk=>(⟨hk,hk.1.1.2⟩:_/\k_≠r))) (λ_ hk=>hk.1.2) (.bool J)) (λ_ hk=>hk.1.2) (.slice U B.length P)) (λ_ hk=>hk.2) (.bool I)) (λ_ hk=>hk.2) (.slice T D.length O)) (λ_ h_=>h_.1)) (λ_ h_=>h_.1))) hb);replace b:=zk (Kd.GK (by(with_reducible repeat(first|apply Kd.nH|apply Kd.nG|apply Kd.lV));exact(Kd.jf (Kd.jf (Kd.pJ (p:=⟨r,1,none⟩) (Kd.pJ (p:=⟨r,0,none⟩) (Kd.pJ (p:=⟨q,1,none⟩) (Kd.pJ (p:=⟨q,0,none⟩) (Kd.jf (Kd.jf b.out (λk_ hk=>(⟨hk,hk.1.1.2⟩:_/\k_≠q))) (λk_ hk=>(⟨hk,hk.1.1.2⟩:_/\k_≠r))) (λ_ hk=>hk.1.2) (.bool J)) (λ_ hk=>hk.1.2) (.slice U B.length P)) (λ_ hk=>hk.2) (.bool I)) (λ_ hk=>hk.2) (.slice T D.length O)) (λ_ h_=>h_.1)) (λ_ h_=>h_.1))) hb);have a7:=zk (Kd.qp (Kd.jf (ok':=λk_=>((W k_\/X k_)\/w.heap.size<=k_)/\k_≠q/\k_≠r/\k_≠l) a0 (λk_ iO=>⟨(.inr (Nat.le_trans (iQ (nI HB.out m.out u.out L.out)) iO)),(Kd.kT (g:=q) (o:= .cells #[.bool J, .slice U B.length P] 113 (0,0)) (by(with_reducible repeat(first|refine iM ?_ _|refine iC ?_|refine iL ?_ _));refine qo ?_ E.out _;(with_reducible repeat(first|refine iM ?_ _|refine iC ?_|refine iL ?_ _));refine qo ?_ E.out _;(with_reducible repeat(first|refine iM ?_ _|refine iC ?_|refine iL ?_ _));refine vw (cs:= #[.bool J, .slice T D.length O]) ?_ 1 _ rfl;(with_reducible repeat(first|refine iM ?_ _|refine iC ?_|refine iL ?_ _));refine vw (cs:= #[.bool I, .slice T D.length O]) ?_ 0 _ rfl;(with_reducible repeat(first|refine iM ?_ _|refine iC ?_|refine iL ?_ _));exact a.out) k_ iO),(Kd.kT (g:=r) (o:= .cells #[.bool I, .slice T D.length O] 113 (0,0)) (by(with_reducible repeat(first|refine iM ?_ _|refine iC ?_|refine iL ?_ _));refine vw (cs:= #[.bool I, .slice U B.length P]) ?_ 1 _ rfl;(with_reducible repeat(first|refine iM ?_ _|refine iC ?_|refine iL ?_ _));refine vw (cs:= #[.bool J, .slice U B.length P]) ?_ 0 _ rfl;(with_reducible repeat(first|refine iM ?_ _|refine iC ?_|refine iL ?_ _));refine qo ?_ G.out _;(with_reducible repeat(first|refine iM ?_ _|refine iC ?_|refine iL ?_ _));refine qo ?_ G.out _;(with_reducible repeat(first|refine iM ?_ _|refine iC ?_|refine iL ?_ _));exact d.out) k_ iO),(Kd.kT (g:=l) (o:= .cells #[.bool false, .slice none 0 0] 113 (0,0)) (by(with_reducible repeat(first|refine iM ?_ _|refine iC ?_|refine iL ?_ _));refine qo ?_ x.out _;(with_reducible repeat(first|refine iM ?_ _|refine iC ?_|refine iL ?_ _));refine qo ?_ x.out _;(with_reducible repeat(first|refine iM ?_ _|refine iC ?_|refine iL ?_ _));refine qo ?_ y.out _;(with_reducible repeat(first|refine iM ?_ _|refine iC ?_|refine iL ?_ _));refine qo ?_ y.out _;(with_reducible repeat(first|refine iM ?_ _|refine iC ?_|refine iL ?_ _));exact s.out) k_ iO)⟩)) (iQ (nI HB.out m.out u.out L.out)));replace a:=zk (Df (g:=q) (o:= .cells #[.bool J, .slice U B.length P] 113 (0,0)) (by(with_reducible repeat(first|refine iM ?_ _|refine iC ?_|refine iL ?_ _));refine qo ?_ E.out _;(with_reducible repeat(first|refine iM ?_ _|refine iC ?_|refine iL ?_ _));refine qo ?_ E.out _;(with_reducible repeat(first|refine iM ?_ _|refine iC ?_|refine iL ?_ _));refine vw (cs:= #[.bool J, .slice T D.length O]) ?_ 1 _ rfl;(with_reducible repeat(first|refine iM ?_ _|refine iC ?_|refine iL ?_ _));refine vw (cs:= #[.bool I, .slice T D.length O]) ?_ 0 _ rfl;(with_reducible repeat(first|refine iM ?_ _|refine iC ?_|refine iL ?_ _));exact a.out) hb);replace d:=zk (Df (g:=r) (o:= .cells #[.bool I, .slice T D.length O] 113 (0,0)) (by(with_reducible repeat(first|refine iM ?_ _|refine iC ?_|refine iL ?_ _));refine vw (cs:= #[.bool I, .slice U B.length P]) ?_ 1 _ rfl;(with_reducible repeat(first|refine iM ?_ _|refine iC ?_|refine iL ?_ _));refine vw (cs:= #[.bool J, .slice U B.length P]) ?_ 0 _ rfl;(with_reducible repeat(first|refine iM ?_ _|refine iC ?_|refine iL ?_ _));refine qo ?_ G.out _;(with_reducible repeat(first|refine iM ?_ _|refine iC ?_|refine iL ?_ _));refine qo ?_ G.out _;(with_reducible repeat(first|refine iM ?_ _|refine iC ?_|refine iL ?_ _));exact d.out) hb);replace s:=zk (Df (g:=l) (o:= .cells #[.bool false, .slice none 0 0] 113 (0,0)) (by(with_reducible repeat(first|refine iM ?_ _|refine iC ?_|refine iL ?_ _));refine qo ?_ x.out _;(with_reducible repeat(first|refine iM ?_ _|refine iC ?_|refine iL ?_ _));refine qo ?_ x.out _;(with_reducible repeat(first|refine iM ?_ _|refine iC ?_|refine iL ?_ _));refine qo ?_ y.out _;(with_reducible repeat(first|refine iM ?_ _|refine iC ?_|refine iL ?_ _));refine qo ?_ y.out _;(with_reducible repeat(first|refine iM ?_ _|refine iC ?_|refine iL ?_ _));exact s.out) hb);replace HB:=lX HB m u L hb;(try clear hb a0);obtain⟨b7,bx,b5,b8⟩:=oM a;obtain⟨al,af,rfl⟩:=Kd.ku a7.out;obtain⟨aZ,bB,b1,aU⟩:=oM s))
  refine bodyPost_ret (results_cell_row rfl _ _ l 113 #[.bool J, .slice al ac.length af] (0,0) _ rfl (yl s.out) Try.underlying113 rfl (by kernel_rfl)) rfl ?_
  exact⟨_,zE,by(with_reducible repeat(first|apply Kd.nH|apply Kd.nG|apply Kd.lV));exact Kd.jf (Kd.pJ (p:=⟨l,1,none⟩) (Kd.pJ (p:=⟨l,0,none⟩) (Kd.jf a7.out (λk_ hk=>(⟨hk,hk.2.2.2⟩:_/\k_≠l))) (λ_ hk=>hk.2) (.bool J)) (λ_ hk=>hk.2) (.slice al ac.length af)) (λ_ hk=>hk.1.1),nI HB.out m.out u.out L.out⟩
 replace H:=zb H
 obtain⟨⟨ab,bI⟩,ce,H⟩:=H
 dsimp only at H
 simp only[Option.some.injEq,Prod.mk.injEq] at H
 obtain⟨rfl,rfl⟩:=H
 go_enter Try.func128,Try.ntmps128
 go_wp2_with (first|((with_reducible refine jc (N:=2) rfl ?_);refine jM ?hg (N:=2) ?hd (cs:= #[.bool I, .slice T D.length O]) (t:=113) ?hr ?_;(case hd=>rfl);(case hg=>rfl);(case hr=>first|(go_simp;done)|(go_simp;rfl));intro q hg cC hbox hb;replace j:=nJ j hg hb;replace b:=nJ b hg hb;have a:=zk (hbox);have a5:=yg hg HB;have m:=yg hg HB;replace HB:=yS HB hb;clear hb hbox hg)|((with_reducible refine jc (N:=3) rfl ?_);refine jM ?hg (N:=3) ?hd (cs:= #[.bool J, .slice U B.length P]) (t:=113) ?hr ?_;(case hd=>rfl);(case hg=>rfl);(case hr=>first|(go_simp;done)|(go_simp;rfl));intro r hg cx hbox hb;replace j:=nJ j hg hb;replace b:=nJ b hg hb;have d:=zk (hbox);have a8:=qg hg HB m;have u:=qg hg HB m;replace HB:=jg HB m hb;have E:=mZ hg a;have G:=ng hg a;replace a:=yK a hb;clear hb hbox hg)|((with_reducible refine jc (N:=4) rfl ?_);refine jM ?hg (N:=4) ?hd (cs:= #[.bool false, .slice none 0 0]) (t:=113) ?hr ?_;(case hd=>rfl);(case hg=>rfl);(case hr=>first|(go_simp;done)|(go_simp;rfl));intro l hg cA hbox hb;replace j:=nJ j hg hb;replace b:=nJ b hg hb;have s:=zk (hbox);have a9:=qH hg HB m u;have L:=qH hg HB m u;replace HB:=oH HB m u hb;have A:=mZ hg a;have y:=ng hg a;replace a:=yK a hb;have z:=mZ hg d;have x:=ng hg d;replace d:=yK d hb;clear hb hbox hg;have bV:=E.out;have c1:=G.out;have bN:=A.out;have b_:=y.out;obtain⟨br,aG,bA,bg⟩:=oM a;have bW:=z.out;have bT:=x.out;obtain⟨bc,b9,bu,aw⟩:=oM d)|((with_reducible refine gC 79 ?_);refine zG (some 25) Try.func79 #[.slice T D.length O, .slice U B.length P] ?_;(with_reducible refine(pG.calls k _ _ D _ _ B a3 _ ?ig ?ik ?iF ?iE bU.out).mono ?_);(case ig=>exact zC (Kd.jd j.out).2.2);(case ik=>exact(Kd.jd j.out).2.1);(case iF=>exact zC (Kd.jd b.out).2.2);(case iE=>exact(Kd.jd b.out).2.1);rintro e cE ⟨rfl,hb⟩;refine⟨_,rfl,?_⟩;replace j:=jy j hb;replace b:=jy b hb;replace a:=yK a hb;replace d:=yK d hb;replace s:=yK s hb;replace HB:=lX HB m u L hb;(try clear hb);obtain⟨aP,ay,aL,bb⟩:=oM a;obtain⟨bn,aR,aS,bh⟩:=oM d)|((with_reducible refine gC 137 ?_);refine zG (some 34) Try.func137 #[.slice T D.length O, .slice U B.length P] ?_;(with_reducible refine(qU.calls k _ _ D _ _ B ab bI _ ?ig ?ik ?iF ?iE ce.out).mono ?_);(case ig=>exact zC (Kd.jd j.out).2.2);(case ik=>exact(Kd.jd j.out).2.1);(case iF=>exact zC (Kd.jd b.out).2.2);(case iE=>exact(Kd.jd b.out).2.1);rintro e cz ⟨cm,rfl,a0,hb⟩;refine⟨_,rfl,?_⟩;replace j:=jy j hb;replace b:=jy b hb;have aa:=zk (Kd.qp (Kd.jf (ok':=λk_=>((W k_\/X k_)\/w.heap.size<=k_)/\k_≠q/\k_≠r/\k_≠l) a0 (λk_ iO=>⟨(.inr (Nat.le_trans (iQ (nI HB.out m.out u.out L.out)) iO)),(Kd.kT (g:=q) (o:= .cells #[.bool I, .slice T D.length O] 113 (0,0)) (by(with_reducible repeat(first|refine iM ?_ _|refine iC ?_|refine iL ?_ _));exact a.out) k_ iO),(Kd.kT (g:=r) (o:= .cells #[.bool J, .slice U B.length P] 113 (0,0)) (by(with_reducible repeat(first|refine iM ?_ _|refine iC ?_|refine iL ?_ _));exact d.out) k_ iO),(Kd.kT (g:=l) (o:= .cells #[.bool false, .slice none 0 0] 113 (0,0)) (by(with_reducible repeat(first|refine iM ?_ _|refine iC ?_|refine iL ?_ _));exact s.out) k_ iO)⟩)) (iQ (nI HB.out m.out u.out L.out)));replace a:=yK a hb;replace d:=yK d hb;replace s:=yK s hb;replace HB:=lX HB m u L hb;(try clear hb a0);obtain⟨aK,ba,aO,aB⟩:=oM a;obtain⟨ar,ah,rfl⟩:=Kd.ku aa.out;obtain⟨bk,bv,aM,b6⟩:=oM s))
 refine bodyPost_ret (results_cell_row rfl _ _ l 113 #[.bool I, .slice ar ab.length ah] (0,0) _ rfl (yl s.out) Try.underlying113 rfl (by kernel_rfl)) rfl ?_
 exact⟨_,zE,by(with_reducible repeat(first|apply Kd.nH|apply Kd.nG|apply Kd.lV));exact Kd.jf (Kd.pJ (p:=⟨l,1,none⟩) (Kd.pJ (p:=⟨l,0,none⟩) (Kd.jf aa.out (λk_ hk=>(⟨hk,hk.2.2.2⟩:_/\k_≠l))) (λ_ hk=>hk.2) (.bool I)) (λ_ hk=>hk.2) (.slice ar ab.length ah)) (λ_ hk=>hk.1.1),nI HB.out m.out u.out L.out⟩
theorem sW.calls(k:Nat)(A0:Option Addr)(c0:Nat)(l0:List (List Int))(r:List Int)(w:World)(X:Kd.C (Kd.slice 97 (Kd.int .u32)) w A0 l0.length l0)(Y:l0.length<=c0)(h:sW.f k l0=some r):
 Calls Try.prog 74 #[.slice A0 l0.length c0] w λe w'=>∃W:Value,e= .returned (W)/\Kd.R (Kd.int .u32) 97 w' w.heap.size (λ_=>True) W r/\Below w.heap.size w w':=by
 have a2:=zk X
 have a9:=zk Y
 clear X Y
 have HB:=zk (Below.refl w.heap.size w)
 have H:=h
 clear h
 unfold sW.f at H
 obtain⟨P,m⟩:∃y_:List Int,y_=(([1]:List Int)):=⟨_,rfl⟩
 rw[<-m] at H
 have q:=zk m
 clear m
 have H':=zk H
 clear H
 go_enter Try.func74,Try.ntmps74
 go_wp2_with (first|((with_reducible refine jc (N:=6) rfl ?_);refine Kd.qG (Kd.int .u32) _ 97 ?hg (N:=6) ?hd (xs:=([1]:List Int)) (inner:=[.int .u32 1]) (ok:=λ_=>True) (je:=λ_=>True) ?hr ?hp (λ_ hk=>hk) trivial (Below.refl _ _) (Nat.le_refl _) (by simp) ?_;(case hd=>rfl);(case hg=>rfl);(case hr=>first|(go_simp;done)|(go_simp;rfl));(case hp=>exact(iY.one (show Kd.M (Kd.int .u32) _ _ _ 1 [.int .u32 1] from rfl) (iY.none _ _)));intro a6 w2 z hb jw jv;clear jw jv;(first|rw[<-q.out] at z|(simp only[Int.reduceToNat] at z;rw[<-q.out] at z));have B:=jm z HB;replace HB:=yS HB hb;clear hb z))
 go_loopg [3,9] k (λkq v3 v9 w'=>∃(g:List Int) (c:Int),v9= .int .i64 c/\dw (sW.l0 kq g l0 (l0.length:Int) c=some r)/\dw (kq<=k)/\dw (Kd.V (Kd.int .u32) 97 w' w.heap.size (λ_=>True) v3 g)/\dw (Below w.heap.size w w'))
 case atStart=>exact⟨(P),(0),zF,H',⟨Nat.le_refl _⟩,⟨Kd.vT (zR B.out)⟩,⟨zB HB.out⟩⟩
 clear H'
 obtain⟨g,c,rfl,HA,Z,a,HB⟩:=hrel
 cases gk with|zero=>exact absurd HA.out (by simp [sW.l0])|succ k1=>?_
 have H:=HA.out
 clear HA
 simp only[sW.l0] at H
 replace H:=jB H
 rcases H with⟨J,H⟩|⟨J,H⟩
 ·replace H:=iV H
  obtain⟨a5,H⟩:=H
  replace H:=iV H
  obtain⟨a7,H⟩:=H
  replace H:=zb H
  obtain⟨t,A7,H⟩:=H
  replace H:=zb H
  obtain⟨D,A8,H⟩:=H
  have H':=zk H
  clear H
  have s:0<=(c:Int):=zd
  have u:c<(l0.length:Int):=zd
  obtain⟨a0,v,x,I,b,l,j⟩:=wo a2.out c s u
  cases I
  replace b:=(HB.out.cell (World.block_lt_of_cell? w _ b)).trans b
  have p:=zk j
  have o:=zk l
  clear j l
  replace s:=eq_true s
  replace u:=eq_true u
  go_wp2_with (first|((with_reducible refine gC 118 ?_);refine zG (some 15) Try.func118 #[.slice v (kD l0 c).length x] ?_;(with_reducible refine(jX.calls k1 (λk_=>k_<w.heap.size) _ _ (kD l0 c) t _ ?ig A7.out).mono ?_);(case ig=>exact Kd.lT o.out (Kd.nZ (Kd.o6 (Kd.oW .u32) p.out) (zB HB.out)));rintro e w9 ⟨a8,rfl,n,hb⟩;refine⟨_,rfl,?_⟩;replace a:=jy a hb;have d:=ou n HB;replace HB:=yS HB hb;(try clear hb n);obtain⟨O,U,rfl⟩:=Kd.ku a.out;obtain⟨G,T,rfl⟩:=Kd.ku d.out)|((with_reducible refine gC 116 ?_);refine zG (some 16) Try.func116 #[.slice O g.length U, .slice G t.length T] ?_;(with_reducible refine(mG.calls k1 _ _ g _ _ t D _ ?ig ?ik ?iF ?iE A8.out).mono ?_);(case ig=>exact zC (Kd.jd a.out).2.2);(case ik=>exact(Kd.jd a.out).2.1);(case iF=>exact zC (Kd.jd d.out).2.2);(case iE=>exact(Kd.jd d.out).2.1);rintro e ab ⟨a1,rfl,n,hb⟩;refine⟨_,rfl,?_⟩;replace a:=jy a hb;replace d:=jy d hb;have y:=ou n HB;replace HB:=yS HB hb;(try clear hb n)))
  go_roundg k1
  case measure=>have:=Z.out;omega
  case rel=>exact⟨(D),(wrap64 (c+1)),zF,H',⟨kP Z⟩,⟨zV y.out⟩,⟨zB HB.out⟩⟩
 replace H:=zb H
 obtain⟨L,a3,H⟩:=H
 obtain rfl:=Option.some.inj H
 obtain⟨E,K,rfl⟩:=Kd.ku a.out
 go_wp2_with (first|((with_reducible refine gC 103 ?_);refine zG (some 19) Try.func103 #[.slice E g.length K] ?_;(with_reducible refine(pU.calls k1 _ _ g L _ ?ig ?ik a3.out).mono ?_);(case ig=>exact zC (Kd.jd a.out).2.2);(case ik=>exact(Kd.jd a.out).2.1);rintro e aa ⟨a4,rfl,n,hb⟩;refine⟨_,rfl,?_⟩;replace a:=mO a n hb;have A:=jm n HB;replace HB:=yS HB hb;(try clear hb n)))
 go_ret
 exact⟨_,zE,zR A.out,zB HB.out⟩
def sZ.T1:Bool×List (List Nat×List Nat):=(true,[([],[]),([0],[0]),([],[]),([2],[2]),([1,3],[1,3]),([],[]),([5],[5]),([],[]),([7],[7]),([6,8],[6,8]),([9],[9]),([4,10],[4,10]),([11,10,0,1,2,3,4,5,6,7,8,9,10,11],[11])])
def sZ.B1:List Nat:=[0,1,0,4,15,0,32,0,128,480,992,2047,4095]
theorem sZ.HY:lM .any (opsOf Try.f126 1)=sZ.T1:=by kernel_rfl
theorem sZ.JF:qh sZ.T1.2 sZ.B1=true:=by kernel_rfl
theorem sZ.calls(k:Nat)(P:Bool)(x:Nat->Prop)(J:Option Addr)(L:Nat)(B:List Int)(T:Bool)(z:Nat->Prop)(O:Option Addr)(U:Nat)(A:List Int)(r1:Bool)(r2:List Int)(w:World)(a4:Kd.V (Kd.int .u32) 97 w w.heap.size (λk_=>x k_) (.slice J B.length L) B)(a9:Kd.V (Kd.int .u32) 97 w w.heap.size (λk_=>z k_) (.slice O A.length U) A)(h:sZ.f k P B T A=some (r1,r2)):
 Calls Try.prog 126 #[.agg #[.bool P, .slice J B.length L], .agg #[.bool T, .slice O A.length U]] w λe w'=>∃av:Value,e= .returned (.agg #[.bool r1,av])/\Kd.R (Kd.int .u32) 97 w' w.heap.size (λk_=>(w.heap.size<=k_)) av r2/\Below w.heap.size w w':=by
 have aw:=Try.underlying113
 have m:=zk (show Kd.V (Kd.int .u32) 97 w w.heap.size (λk_=>((x k_\/z k_)\/w.heap.size<=k_)) (.slice J B.length L) B from Kd.jf a4 (λk_ hk=> .inl (.inl hk)))
 have l:=zk (show Kd.V (Kd.int .u32) 97 w w.heap.size (λk_=>((x k_\/z k_)\/w.heap.size<=k_)) (.slice O A.length U) A from Kd.jf a9 (λk_ hk=> .inl (.inr hk)))
 have HB:=zk (Below.refl w.heap.size w)
 have H:=h
 clear h
 unfold sZ.f at H
 obtain⟨a7,X⟩:∃y_:List (List Int),y_=(([B,A]:List (List Int))):=⟨_,rfl⟩
 rw[<-X] at H
 have Y:=zk X
 clear X
 replace H:=zb H
 obtain⟨W,A3,H⟩:=H
 simp only[Option.some.injEq,Prod.mk.injEq] at H
 obtain⟨rfl,rfl⟩:=H
 go_enter Try.func126,Try.ntmps126
 try go_wp2_with (first|((with_reducible refine jc (N:=2) rfl ?_);refine jM ?hg (N:=2) ?hd (cs:= #[.bool P, .slice J B.length L]) (t:=113) ?hr ?_;(case hd=>rfl);(case hg=>rfl);(case hr=>first|(go_simp;done)|(go_simp;rfl));intro u hg w4 hbox hb;replace m:=nJ m hg hb;replace l:=nJ l hg hb;have a:=zk (hbox);have ar:=yg hg HB;have r:=yg hg HB;replace HB:=yS HB hb;clear hb hbox hg)|((with_reducible refine jc (N:=3) rfl ?_);refine jM ?hg (N:=3) ?hd (cs:= #[.bool T, .slice O A.length U]) (t:=113) ?hr ?_;(case hd=>rfl);(case hg=>rfl);(case hr=>first|(go_simp;done)|(go_simp;rfl));intro y hg w5 hbox hb;replace m:=nJ m hg hb;replace l:=nJ l hg hb;have c:=zk (hbox);have ax:=qg hg HB r;have s:=qg hg HB r;replace HB:=jg HB r hb;have a2:=mZ hg a;have a3:=ng hg a;replace a:=yK a hb;clear hb hbox hg)|((with_reducible refine jc (N:=4) rfl ?_);refine jM ?hg (N:=4) ?hd (cs:= #[.bool false, .slice none 0 0]) (t:=113) ?hr ?_;(case hd=>rfl);(case hg=>rfl);(case hr=>first|(go_simp;done)|(go_simp;rfl));intro b hg w6 hbox hb;replace m:=nJ m hg hb;replace l:=nJ l hg hb;have q:=zk (hbox);have az:=qH hg HB r s;have D:=qH hg HB r s;replace HB:=oH HB r s hb;have j:=mZ hg a;have G:=ng hg a;replace a:=yK a hb;have d:=mZ hg c;have E:=ng hg c;replace c:=yK c hb;clear hb hbox hg))
 replace m:=zk (Kd.lV m.out)
 replace l:=zk (Kd.lV l.out)
 replace a:=zk (iC a.out)
 replace c:=zk (iC c.out)
 replace q:=zk (iC q.out)
 replace HB:=zk (l9 HB.out)
 refine qi (n:=13) (S:=λw'=>w'.cell? ⟨u,0,none⟩=some (.bool P)/\w'.cell? ⟨u,1,none⟩=some (.slice J B.length L)/\w'.cell? ⟨y,0,none⟩=some (.bool T)/\w'.cell? ⟨y,1,none⟩=some (.slice O A.length U)) (ds:=[]) #[false,false,false,false,false,false,false,false,false,false,false,false,false] (by kernel_rfl) rfl rfl ⟨(iy a.out 0).trans rfl,(iy a.out 1).trans rfl,(iy c.out 0).trans rfl,(iy c.out 1).trans rfl⟩ (λhHeld=>?_);refine qx sZ.HY sZ.JF (λiq jq=>?_)
 generalize w6.drew=w7 at m l a c q HB hHeld ⊢
 refine zp (i:=0) (N:=some 5) iq ?_
 refine zp (i:=2) (N:=some 7) iq ?_
 refine zp (i:=5) (N:=some 10) iq ?_
 refine zp (i:=7) (N:=some 12) iq ?_
 refine jI (i:=1) (N:=some 6) (v:=?_) (a':=?_) #[true,true,true,false,false,true,false,true,false,false,false,false,false] rfl rfl (jO iq.out jq.out (by kernel_rfl)) (λ_ _ _ h=>h) (Or.inl ⟨by rfl,?_⟩) hHeld ?_ ?_
 rotate_left
 ·rintro w' ⟨s0,s1,s2,s3⟩
  go_simp
  with_reducible rfl
 rotate_left
 ·simp only[Act.put,List.setIfInBounds_toArray,List.set_cons_zero,List.set_cons_succ,iI,iP]
  rfl
 refine jI (i:=3) (N:=some 8) (v:=?_) (a':=?_) #[true,true,true,true,false,true,false,true,false,false,false,false,false] rfl rfl (jO iq.out jq.out (by kernel_rfl)) (λ_ _ _ h=>h) (Or.inl ⟨by rfl,?_⟩) hHeld ?_ ?_
 rotate_left
 ·rintro w' ⟨s0,s1,s2,s3⟩
  go_simp
  with_reducible rfl
 rotate_left
 ·simp only[Act.put,List.setIfInBounds_toArray,List.set_cons_zero,List.set_cons_succ,iI,iP]
  rfl
 refine zp (i:=4) (N:=some 9) iq ?_
 refine jI (i:=6) (N:=some 11) (v:=?_) (a':=?_) #[true,true,true,true,true,true,true,true,false,false,false,false,false] rfl rfl (jO iq.out jq.out (by kernel_rfl)) (λ_ _ _ h=>h) (Or.inl ⟨by rfl,?_⟩) hHeld ?_ ?_
 rotate_left
 ·rintro w' ⟨s0,s1,s2,s3⟩
  go_simp
  with_reducible rfl
 rotate_left
 ·simp only[Act.put,List.setIfInBounds_toArray,List.set_cons_zero,List.set_cons_succ,iI,iP]
  rfl
 refine jI (i:=8) (N:=some 13) (v:=?_) (a':=?_) #[true,true,true,true,true,true,true,true,true,false,false,false,false] rfl rfl (jO iq.out jq.out (by kernel_rfl)) (λ_ _ _ h=>h) (Or.inl ⟨by rfl,?_⟩) hHeld ?_ ?_
 rotate_left
 ·rintro w' ⟨s0,s1,s2,s3⟩
  go_simp
  with_reducible rfl
 rotate_left
 ·simp only[Act.put,List.setIfInBounds_toArray,List.set_cons_zero,List.set_cons_succ,iI,iP]
  rfl
 refine lN (i:=9) (N:=some 14) #[true,true,true,true,true,true,true,true,true,true,false,false,false] rfl rfl (kH iq.out (by kernel_rfl)) (by decide) (λK hK=>?_)
 refine Kd.Qs (Kd.slice 97 (Kd.int .u32)) _ 29 ?hg (N':=14) ?hd (xs:=([B,A]:List (List Int))) (inner:=[.slice J B.length L, .slice O A.length U]) (ok:=(λk_=>((x k_\/z k_)\/w.heap.size<=k_)/\k_≠u/\k_≠y/\k_≠b)) (je:=(λk_=>((x k_\/z k_)\/w.heap.size<=k_)/\k_≠u/\k_≠y/\k_≠b)) ?hr ?hp (λ_ hk=>hk) ((show ∀k_,w7.heap.size<=k_->(λk_=>((x k_\/z k_)\/w.heap.size<=k_)/\k_≠u/\k_≠y/\k_≠b) k_ from λk_ hk=>⟨(.inr (Nat.le_trans (iQ (nI HB.out r.out s.out D.out)) hk)),Kd.kT (g:=u) (o:= .cells #[.bool P, .slice J B.length L] 113 (0,0)) (by(with_reducible repeat(first|refine iM ?_ _|refine iC ?_|refine iL ?_ _));exact a.out) k_ hk,Kd.kT (g:=y) (o:= .cells #[.bool T, .slice O A.length U] 113 (0,0)) (by(with_reducible repeat(first|refine iM ?_ _|refine iC ?_|refine iL ?_ _));exact c.out) k_ hk,Kd.kT (g:=b) (o:= .cells #[.bool false, .slice none 0 0] 113 (0,0)) (by(with_reducible repeat(first|refine iM ?_ _|refine iC ?_|refine iL ?_ _));exact q.out) k_ hk⟩) _ (Nat.le_refl _)) (Below.refl _ _) (Nat.le_refl _) (by simp) ?_;(case hd=>rfl);(case hg=>rfl);(case hr=>first|(go_simp;done)|(go_simp;rfl));(case hp=>exact(iY.one (show Kd.FK (Kd.slice 97 (Kd.int .u32)) _ _ B [.slice J B.length L] from(Kd.yj (Kd.jd (Kd.jf (ok':=(λk_=>((x k_\/z k_)\/w.heap.size<=k_)/\k_≠u/\k_≠y/\k_≠b)) (m.out) (λk_ hk=>by exact⟨hk.1.1.1,⟨hk.1.1.2,⟨hk.1.2,hk.2⟩⟩⟩))).2.1 (Kd.xG (Kd.jf (ok':=(λk_=>((x k_\/z k_)\/w.heap.size<=k_)/\k_≠u/\k_≠y/\k_≠b)) (m.out) (λk_ hk=>by exact⟨hk.1.1.1,⟨hk.1.1.2,⟨hk.1.2,hk.2⟩⟩⟩))))) (iY.one (show Kd.FK (Kd.slice 97 (Kd.int .u32)) _ _ A [.slice O A.length U] from(Kd.yj (Kd.jd (Kd.jf (ok':=(λk_=>((x k_\/z k_)\/w.heap.size<=k_)/\k_≠u/\k_≠y/\k_≠b)) (l.out) (λk_ hk=>by exact⟨hk.1.1.1,⟨hk.1.1.2,⟨hk.1.2,hk.2⟩⟩⟩))).2.1 (Kd.xG (Kd.jf (ok':=(λk_=>((x k_\/z k_)\/w.heap.size<=k_)/\k_≠u/\k_≠y/\k_≠b)) (l.out) (λk_ hk=>by exact⟨hk.1.1.1,⟨hk.1.1.2,⟨hk.1.2,hk.2⟩⟩⟩))))) (iY.none _ _))))
 intro aC w8 a1 hb jw jv
 clear jw jv
 (first|rw[<-Y.out] at a1|(simp only[Int.reduceToNat] at a1;rw[<-Y.out] at a1))
 replace m:=zk (Kd.xE (zV m.out) (Kd.vC a1) hb)
 replace l:=zk (Kd.xE (zV l.out) (Kd.vC a1) hb)
 have I:=zk (Kd.qf a1 (iQ (nI HB.out r.out s.out D.out)))
 replace a:=yK a hb
 replace c:=yK c hb
 replace q:=yK q hb
 replace HB:=lX HB r s D hb
 clear hb a1
 obtain⟨am,ap,a5⟩:=Kd.oG I.out
 (first|subst a5|(injection a5 with aa ao ab;have an:=aa.symm;have al:=ab.symm;clear aa ao ab;subst an;subst al))
 refine hK.out _ _ ⟨(iy a.out 0).trans rfl,(iy a.out 1).trans rfl,(iy c.out 0).trans rfl,(iy c.out 1).trans rfl⟩ (λhHeld=>?_)
 clear hK K
 refine mr (a':=?_) ?_ ?_
 rotate_left
 ·show Act.put _ (some 14) _=_
  simp only[Act.put,List.setIfInBounds_toArray,List.set_cons_zero,List.set_cons_succ,iI,iP]
  rfl
 refine lN (i:=10) (N:=some 15) #[true,true,true,true,true,true,true,true,true,true,true,false,false] rfl rfl (kH iq.out (by kernel_rfl)) (by decide) (λK hK=>?_)
 refine nS Try.func74 (by kernel_rfl) rfl #[.slice am a7.length ap] (by rfl) rfl rfl (by(try simp only[List.map_toArray,List.map_cons,List.map_nil]);first|done|rfl|(simp only[List.length_drop,List.length_take];rfl)) ?_
 with_reducible refine(sW.calls k _ _ a7 W _ ?ig ?ik A3.out).mono ?_
 (case ig=>exact zC (Kd.jR I.out).2.2)
 (case ik=>exact(Kd.jR I.out).2.1)
 rintro e aq ⟨aB,rfl,a0,hb⟩
 refine⟨_,rfl,?_⟩
 replace m:=mO m a0 hb
 replace l:=mO l a0 hb
 replace I:=o7 I a0 hb
 replace a0:=Kd.oD (M:=λk_=>(w.heap.size<=k_)) a0 (iQ (nI HB.out r.out s.out D.out)) (λk_ h_=>h_)
 have Z:=kX a0 HB r s D
 replace a:=yK a hb
 replace c:=yK c hb
 replace q:=yK q hb
 replace HB:=lX HB r s D hb
 (try clear hb)
 (try clear a0)
 obtain⟨ac,a8,a6⟩:=Kd.iD Z.out
 (first|subst a6|(injection a6 with aa ao ab;have an:=aa.symm;have al:=ab.symm;clear aa ao ab;subst an;subst al))
 refine hK.out _ _ ⟨(iy a.out 0).trans rfl,(iy a.out 1).trans rfl,(iy c.out 0).trans rfl,(iy c.out 1).trans rfl⟩ (λhHeld=>?_)
 clear hK K
 refine mr (a':=?_) ?_ ?_
 rotate_left
 ·show Act.put _ (some 15) _=_
  simp only[Act.put,List.setIfInBounds_toArray,List.set_cons_zero,List.set_cons_succ,iI,iP]
  rfl
 refine zp (i:=11) (N:=some 16) iq ?_
 refine lN (i:=12) (N:=none) #[true,true,true,true,true,true,true,true,true,true,true,true,true] rfl rfl (kH iq.out (by kernel_rfl)) (by decide) (λK hK=>?_)
 have aD:aq.cell? ⟨b,0,none⟩=some (.bool false):=(iy q.out 0).trans rfl
 have au:=pY q.out 0
 have aj:=j.out
 have ah:=d.out
 have ag:=G.out
 have ak:=E.out
 have aA:aq.cell? ⟨b,1,none⟩=some (.slice none 0 0):=(iy q.out 1).trans rfl
 have ay:=pY q.out 1
 have af:=j.out
 have ad:=d.out
 have ae:=G.out
 have ai:=E.out
 refine vH (w1:=?_) (by rfl) rfl ?_ ?_
 rotate_left
 ·go_simp
  rfl
 refine hK.out _ _ ⟨((cell_far (p:=⟨b,_,none⟩) j.out _).trans (((cell_far (p:=⟨b,_,none⟩) j.out _).trans (hHeld.1)))),((cell_far (p:=⟨b,_,none⟩) j.out _).trans (((cell_far (p:=⟨b,_,none⟩) j.out _).trans (hHeld.2.1)))),((cell_far (p:=⟨b,_,none⟩) d.out _).trans (((cell_far (p:=⟨b,_,none⟩) d.out _).trans (hHeld.2.2.1)))),((cell_far (p:=⟨b,_,none⟩) d.out _).trans (((cell_far (p:=⟨b,_,none⟩) d.out _).trans (hHeld.2.2.2))))⟩ (λhHeld=>?_)
 clear hK K
 refine ql (qF iq.out (by kernel_rfl)) ?_
 try go_wp2
 refine bodyPost_ret (results_cell_row rfl _ _ b 113 #[.bool (P != T), .slice ac W.length a8] (0,0) _ rfl (yl q.out) Try.underlying113 rfl (by kernel_rfl)) rfl ?_
 exact⟨_,zE,by(with_reducible repeat(first|apply Kd.iT|apply Kd.iU|apply Kd.iJ));exact Kd.iZ (Kd.rM (p:=⟨b,1,none⟩) (Kd.rM (p:=⟨b,0,none⟩) (Kd.mM Z.out q.out (by decide)) (λ_ hk=>hk.2) (.bool (P != T))) (λ_ hk=>hk.2) (.slice ac W.length a8)) (λ_ hk=>hk.1.1),nI HB.out r.out s.out D.out⟩
theorem pF.calls(k:Nat)(A0:Option Addr)(c0:Nat)(l0:List Int)(a1:Int)(r1:List Int)(r2:Int)(w:World)(aF:Kd.C (Kd.int .u32) w A0 l0.length l0)(ay:l0.length<=c0)(h:pF.f k l0 a1=some (r1,r2)):
 Calls Try.prog 85 #[.slice A0 l0.length c0, .int .i64 a1] w λe w'=>∃aD:Value,e= .returned (.tuple #[aD, .int .i64 r2])/\Kd.R (Kd.int .u32) 97 w' w.heap.size (λ_=>True) aD r1/\Below w.heap.size w w':=by
 have ax:=zk aF
 have aB:=zk ay
 clear aF ay
 have HB:=zk (Below.refl w.heap.size w)
 have H:=h
 clear h
 unfold pF.f at H
 replace H:=zh H
 obtain⟨c3,H⟩:=H
 have ag:=decide_eq_false c3
 clear c3
 replace H:=zb H
 obtain⟨l,A4,H⟩:=H
 have aj:=zk H
 clear H
 go_enter Try.func85,Try.ntmps85
 go_upto_region 4 with(first|((with_reducible refine gC 87 ?_);refine zG (some 12) Try.func87 #[.slice A0 l0.length c0] ?_;(with_reducible refine(u_.calls k _ _ l0 l _ ?ig ?ik A4.out).mono ?_);(case ig=>exact zC ax.out);(case ik=>exact aB.out);rintro e w6 ⟨rfl,hb⟩;refine⟨_,rfl,?_⟩;replace HB:=yS HB hb;(try clear hb)))
 (try simp only[Act.put,List.setIfInBounds_toArray,List.set_cons_zero,List.set_cons_succ])
 go_cut [13] (λaM wc=>∃(kq:Nat) (o:Bool),aM= .bool o/\dw (pF.j0 kq l0 a1 l o=some (r1,r2))/\dw (kq<=k)/\dw (Below w.heap.size w wc))
 case first=>
  have H:=aj.out
  clear aj
  replace H:=zi H
  rcases H with⟨c7,H⟩|⟨c7,H⟩
  ·have u:=beq_iff_eq.mpr c7
   have B:=bne_eq_false_iff_eq.mpr c7
   clear c7
   (first|rw[u]|(simp only[iI,iP];rw[u])|rw[B]|skip)
   have H':=zk H
   clear H
   go_wp2
   go_meet
   case rel=>exact⟨_,(true),zF,H',⟨zO⟩,⟨zB HB.out⟩⟩
  have u:=beq_eq_false_iff_ne.mpr c7
  have B:=bne_iff_ne.mpr c7
  (first|rw[u]|(simp only[iI,iP];rw[u])|rw[B]|skip)
  have H':=zk H
  clear H
  go_wp2
  go_meet
  case rel=>exact⟨_,((l==1)),zF,H',⟨zO⟩,⟨zB HB.out⟩⟩
 clear aj
 (try clear ag)
 obtain⟨kq,o,rfl,HA,ac,HB⟩:=hcut
 cases kq with|zero=>exact absurd HA.out (by simp [pF.j0])|succ ar=>?_
 have H:=HA.out
 clear HA
 simp only[pF.j0] at H
 by_cases c8:o=true
 ·subst c8
  rw[if_pos rfl] at H
  obtain⟨aV,p⟩:∃y_:List Int,y_=(([1]:List Int)):=⟨_,rfl⟩
  rw[<-p] at H
  have x:=zk p
  clear p
  simp only[Option.some.injEq,Prod.mk.injEq] at H
  obtain⟨rfl,rfl⟩:=H
  go_wp2_with (first|((with_reducible refine jc (N:=20) rfl ?_);refine Kd.qG (Kd.int .u32) _ 97 ?hg (N:=20) ?hd (xs:=([1]:List Int)) (inner:=[.int .u32 1]) (ok:=λ_=>True) (je:=λ_=>True) ?hr ?hp (λ_ hk=>hk) trivial (Below.refl _ _) (Nat.le_refl _) (by simp) ?_;(case hd=>rfl);(case hg=>rfl);(case hr=>first|(go_simp;done)|(go_simp;rfl));(case hp=>exact(iY.one (show Kd.M (Kd.int .u32) _ _ _ 1 [.int .u32 1] from rfl) (iY.none _ _)));intro aW w9 r hb jw jv;clear jw jv;(first|rw[<-x.out] at r|(simp only[Int.reduceToNat] at r;rw[<-x.out] at r));have a9:=jm r HB;replace HB:=yS HB hb;clear hb r))
  go_ret2
  exact⟨_,zE,zR a9.out,zB HB.out⟩
 replace c8:=Bool.eq_false_iff.mpr c8
 subst c8
 rw[if_neg Bool.false_ne_true] at H
 replace H:=zi H
 rcases H with⟨G,H⟩|⟨G,H⟩
 ·have v:=beq_iff_eq.mpr G
  have z:=bne_eq_false_iff_eq.mpr G
  clear G
  simp only[Option.some.injEq,Prod.mk.injEq] at H
  obtain⟨rfl,rfl⟩:=H
  go_wp2
  go_ret2
  exact⟨_,zE,z0,zB HB.out⟩
 have v:=beq_eq_false_iff_ne.mpr G
 have z:=bne_iff_ne.mpr G
 replace H:=zi H
 rcases H with⟨a8,H⟩|⟨a8,H⟩
 ·have A:decide (131072<a1)=true:=decide_eq_true a8
  clear a8
  simp only[Option.some.injEq,Prod.mk.injEq] at H
  obtain⟨rfl,rfl⟩:=H
  go_wp2
  go_ret2
  exact⟨_,zE,z0,zB HB.out⟩
 have A:decide (131072<a1)=false:=decide_eq_false a8
 clear a8
 replace H:=zh H
 obtain⟨aA,H⟩:=H
 have O:decide (131072<=(wrap64 ((wrap64 (l-1))*a1)))=false:=decide_eq_false aA
 clear aA
 obtain⟨ah,t⟩:∃y_:List Int,y_=(([1]:List Int)):=⟨_,rfl⟩
 rw[<-t] at H
 have y:=zk t
 clear t
 replace H:=zb H
 obtain⟨aa,aL,H⟩:=H
 have H':=zk H
 clear H
 go_wp2_with (first|((with_reducible refine jc (N:=34) rfl ?_);refine Kd.qG (Kd.int .u32) _ 97 ?hg (N:=34) ?hd (xs:=([1]:List Int)) (inner:=[.int .u32 1]) (ok:=λ_=>True) (je:=λ_=>True) ?hr ?hp (λ_ hk=>hk) trivial (Below.refl _ _) (Nat.le_refl _) (by simp) ?_;(case hd=>rfl);(case hg=>rfl);(case hr=>first|(go_simp;done)|(go_simp;rfl));(case hp=>exact(iY.one (show Kd.M (Kd.int .u32) _ _ _ 1 [.int .u32 1] from rfl) (iY.none _ _)));intro al b2 q hb jw jv;clear jw jv;(first|rw[<-y.out] at q|(simp only[Int.reduceToNat] at q;rw[<-y.out] at q));have m:=jm q HB;replace HB:=yS HB hb;clear hb q)|((with_reducible refine gC 118 ?_);refine zG (some 36) Try.func118 #[.slice A0 l0.length c0] ?_;(with_reducible refine(jX.calls ar (λk_=>k_<w.heap.size) _ _ l0 aa _ ?ig aL.out).mono ?_);(case ig=>exact Kd.lT aB.out (Kd.nZ (Kd.o6 (Kd.oW .u32) ax.out) (zB HB.out)));rintro e b3 ⟨aQ,rfl,g,hb⟩;refine⟨_,rfl,?_⟩;have X:=zk (Kd.qp (Kd.jf (ok':=λk_=>some k_≠(al:Value).ownBlock) g (λk_ iO=>Or.elim iO (λhs_=>λe_=>Nat.not_le.2 hs_ (Kd.pM m.out k_ e_.symm)) (λjF=>(Kd.fresh' (Kd.qZ (zR m.out)) k_ jF)))) (iQ (zB HB.out)));replace m:=jl m hb;replace HB:=yS HB hb;(try clear hb g)))
 go_loopg [1,7,8] ar (λkq v1 v7 v8 w'=>∃(s:Int) (j:List Int) (c:List Int),v1= .int .i64 s/\dw (pF.l0 kq s j c=some (r1,r2))/\dw (kq<=ar)/\dw (Kd.V (Kd.int .u32) 97 w' w.heap.size (λ_=>True) v7 j)/\dw (Kd.V (Kd.int .u32) 97 w' w.heap.size (λ_=>True) v8 c)/\dw (Below w.heap.size w w'))
 case atStart=>exact⟨(a1),(ah),(aa),zF,H',⟨Nat.le_refl _⟩,⟨Kd.vT (zR m.out)⟩,⟨by(with_reducible repeat(first|apply Kd.nH|apply Kd.nG|apply Kd.lV));exact Kd.jf X.out (λ_ hk=>trivial)⟩,⟨zB HB.out⟩⟩
 clear H'
 (try clear c8 G v z A O)
 obtain⟨s,j,c,rfl,HA,ab,b,a,HB⟩:=hrel
 cases gk with|zero=>exact absurd HA.out (by simp [pF.l0])|succ k2=>?_
 have H:=HA.out
 clear HA
 simp only[pF.l0] at H
 replace H:=zi H
 rcases H with⟨K,H⟩|⟨K,H⟩
 ·have Y:=beq_iff_eq.mpr K
  have P:=bne_eq_false_iff_eq.mpr K
  clear K
  replace H:=zb H
  obtain⟨n,aG,H⟩:=H
  replace H:=zi H
  rcases H with⟨J,H⟩|⟨J,H⟩
  ·have U:=beq_iff_eq.mpr J
   have a4:=bne_eq_false_iff_eq.mpr J
   clear J
   replace H:=zh H
   obtain⟨az,H⟩:=H
   have aJ:decide (4096<(n.length:Int))=false:=decide_eq_false az
   have aE:decide (4096<n.length)=false:=decide_eq_false (by omega)
   clear az
   replace H:=zb H
   obtain⟨ae,aR,H⟩:=H
   simp only[Option.some.injEq,Prod.mk.injEq] at H
   obtain⟨rfl,rfl⟩:=H
   obtain⟨am,af,rfl⟩:=Kd.ku b.out
   obtain⟨ad,au,rfl⟩:=Kd.ku a.out
   go_wp2_with (first|((with_reducible refine gC 116 ?_);refine zG (some 42) Try.func116 #[.slice am j.length af, .slice ad c.length au] ?_;(with_reducible refine(mG.calls k2 _ _ j _ _ c n _ ?ig ?ik ?iF ?iE aG.out).mono ?_);(case ig=>exact zC (Kd.jd b.out).2.2);(case ik=>exact(Kd.jd b.out).2.1);(case iF=>exact zC (Kd.jd a.out).2.2);(case iE=>exact(Kd.jd a.out).2.1);rintro e aZ ⟨ap,rfl,g,hb⟩;refine⟨_,rfl,?_⟩;replace b:=jy b hb;replace a:=jy a hb;have d:=ou g HB;replace HB:=yS HB hb;(try clear hb g);obtain⟨aw,aq,rfl⟩:=Kd.ku d.out)|((with_reducible refine gC 103 ?_);refine zG (some 54) Try.func103 #[.slice aw n.length aq] ?_;(with_reducible refine(pU.calls k2 _ _ n ae _ ?ig ?ik aR.out).mono ?_);(case ig=>exact zC (Kd.jd d.out).2.2);(case ik=>exact(Kd.jd d.out).2.1);rintro e aX ⟨aS,rfl,g,hb⟩;refine⟨_,rfl,?_⟩;replace b:=mO b g hb;replace a:=mO a g hb;replace d:=mO d g hb;have a7:=jm g HB;replace HB:=yS HB hb;(try clear hb g)))
   go_ret2
   exact⟨_,zE,zR a7.out,zB HB.out⟩
  have U:=beq_eq_false_iff_ne.mpr J
  have a4:=bne_iff_ne.mpr J
  replace H:=zb H
  obtain⟨a5,aK,H⟩:=H
  have H':=zk H
  clear H
  obtain⟨ak,ai,rfl⟩:=Kd.ku b.out
  obtain⟨D,E,rfl⟩:=Kd.ku a.out
  go_wp2_with (first|((with_reducible refine gC 116 ?_);refine zG (some 42) Try.func116 #[.slice ak j.length ai, .slice D c.length E] ?_;(with_reducible refine(mG.calls k2 _ _ j _ _ c n _ ?ig ?ik ?iF ?iE aG.out).mono ?_);(case ig=>exact zC (Kd.jd b.out).2.2);(case ik=>exact(Kd.jd b.out).2.1);(case iF=>exact zC (Kd.jd a.out).2.2);(case iE=>exact(Kd.jd a.out).2.1);rintro e b1 ⟨ap,rfl,g,hb⟩;refine⟨_,rfl,?_⟩;replace b:=jy b hb;replace a:=jy a hb;have d:=ou g HB;replace HB:=yS HB hb;(try clear hb g))|((with_reducible refine gC 116 ?_);refine zG (some 49) Try.func116 #[.slice D c.length E, .slice D c.length E] ?_;(with_reducible refine(mG.calls k2 _ _ c _ _ c a5 _ ?ig ?ik ?iF ?iE aK.out).mono ?_);(case ig=>exact zC (Kd.jd a.out).2.2);(case ik=>exact(Kd.jd a.out).2.1);(case iF=>exact zC (Kd.jd a.out).2.2);(case iE=>exact(Kd.jd a.out).2.1);rintro e aY ⟨aT,rfl,g,hb⟩;refine⟨_,rfl,?_⟩;replace b:=jy b hb;replace a:=jy a hb;replace d:=jy d hb;have a6:=ou g HB;replace HB:=yS HB hb;(try clear hb g)))
  go_roundg k2
  case measure=>have:=ac.out;have:=ab.out;omega
  case rel=>exact⟨(s / 2),(n),(a5),zF,H',⟨lW ac ab⟩,⟨zV d.out⟩,⟨zV a6.out⟩,⟨zB HB.out⟩⟩
 have Y:=beq_eq_false_iff_ne.mpr K
 have P:=bne_iff_ne.mpr K
 replace H:=zi H
 rcases H with⟨I,H⟩|⟨I,H⟩
 ·have W:=beq_iff_eq.mpr I
  have a0:=bne_eq_false_iff_eq.mpr I
  clear I
  replace H:=zh H
  obtain⟨aC,H⟩:=H
  have aH:decide (4096<(j.length:Int))=false:=decide_eq_false aC
  have aI:decide (4096<j.length)=false:=decide_eq_false (by omega)
  clear aC
  replace H:=zb H
  obtain⟨ao,aO,H⟩:=H
  simp only[Option.some.injEq,Prod.mk.injEq] at H
  obtain⟨rfl,rfl⟩:=H
  obtain⟨av,an,rfl⟩:=Kd.ku b.out
  go_wp2_with (first|((with_reducible refine gC 103 ?_);refine zG (some 54) Try.func103 #[.slice av j.length an] ?_;(with_reducible refine(pU.calls k2 _ _ j ao _ ?ig ?ik aO.out).mono ?_);(case ig=>exact zC (Kd.jd b.out).2.2);(case ik=>exact(Kd.jd b.out).2.1);rintro e a_ ⟨aP,rfl,g,hb⟩;refine⟨_,rfl,?_⟩;replace b:=mO b g hb;replace a:=mO a g hb;have a2:=jm g HB;replace HB:=yS HB hb;(try clear hb g)))
  go_ret2
  exact⟨_,zE,zR a2.out,zB HB.out⟩
 have W:=beq_eq_false_iff_ne.mpr I
 have a0:=bne_iff_ne.mpr I
 replace H:=zb H
 obtain⟨Z,aU,H⟩:=H
 have H':=zk H
 clear H
 obtain⟨a3,T,rfl⟩:=Kd.ku a.out
 go_wp2_with (first|((with_reducible refine gC 116 ?_);refine zG (some 49) Try.func116 #[.slice a3 c.length T, .slice a3 c.length T] ?_;(with_reducible refine(mG.calls k2 _ _ c _ _ c Z _ ?ig ?ik ?iF ?iE aU.out).mono ?_);(case ig=>exact zC (Kd.jd a.out).2.2);(case ik=>exact(Kd.jd a.out).2.1);(case iF=>exact zC (Kd.jd a.out).2.2);(case iE=>exact(Kd.jd a.out).2.1);rintro e b0 ⟨aN,rfl,g,hb⟩;refine⟨_,rfl,?_⟩;replace b:=jy b hb;replace a:=jy a hb;have L:=ou g HB;replace HB:=yS HB hb;(try clear hb g)))
 go_roundg k2
 case measure=>have:=ac.out;have:=ab.out;omega
 case rel=>exact⟨(s / 2),(j),(Z),zF,H',⟨lW ac ab⟩,⟨zV b.out⟩,⟨zV L.out⟩,⟨zB HB.out⟩⟩
theorem CE.calls(k:Nat)(a0:Int)(r1:Bool)(r2:List Int)(w:World)(h:CE.f k a0=some (r1,r2)):
 Calls Try.prog 124 #[.int .i64 a0] w λe w'=>∃q:Value,e= .returned (.agg #[.bool r1,q])/\Kd.R (Kd.int .u32) 97 w' w.heap.size (λ_=>True) q r2/\Below w.heap.size w w':=by
 have s:=Try.underlying113
 have HB:=zk (Below.refl w.heap.size w)
 have H:=h
 clear h
 unfold CE.f at H
 replace H:=zb H
 obtain⟨d,A2,H⟩:=H
 simp only[Option.some.injEq,Prod.mk.injEq] at H
 obtain⟨rfl,rfl⟩:=H
 go_enter Try.func124,Try.ntmps124
 go_wp2_with (first|((with_reducible refine jc (N:=2) rfl ?_);refine jM ?hg (N:=2) ?hd (cs:= #[.bool false, .slice none 0 0]) (t:=113) ?hr ?_;(case hd=>rfl);(case hg=>rfl);(case hr=>first|(go_simp;done)|(go_simp;rfl));intro c hg w3 hbox hb;have a:=zk (hbox);have r:=yg hg HB;have b:=yg hg HB;replace HB:=yS HB hb;clear hb hbox hg)|((with_reducible refine gC 80 ?_);refine zG (some 5) Try.func80 #[.int .u64 (IntKind.u64.wrap (a0))] ?_;(with_reducible refine(uZ.calls k (IntKind.u64.wrap (a0)) d _ A2.out).mono ?_);rintro e w4 ⟨x,rfl,u,hb⟩;refine⟨_,rfl,?_⟩;have g:=kY u HB b;replace a:=yK a hb;replace HB:=jg HB b hb;(try clear hb u);obtain⟨v,o,rfl⟩:=Kd.iD g.out;obtain⟨m,l,j,n⟩:=oM a))
 refine bodyPost_ret (results_cell_row rfl _ _ c 113 #[.bool false, .slice v d.length o] (0,0) _ rfl (yl a.out) Try.underlying113 rfl (by kernel_rfl)) rfl ?_
 exact⟨_,zE,by(with_reducible repeat(first|apply Kd.iT|apply Kd.iU|apply Kd.iJ));exact Kd.iZ (Kd.rM (p:=⟨c,1,none⟩) (Kd.rM (p:=⟨c,0,none⟩) (Kd.mM g.out a.out (by decide)) (λ_ hk=>hk.2) (.bool false)) (λ_ hk=>hk.2) (.slice v d.length o)) (λ_ hk=>trivial),iH HB.out b.out⟩
theorem yH.calls(k:Nat)(v:Bool)(q:Nat->Prop)(B:Option Addr)(G:Nat)(r:List Int)(x:Bool)(s:Nat->Prop)(I:Option Addr)(O:Nat)(m:List Int)(r1:Bool)(r2:List Int)(w:World)(X:Kd.V (Kd.int .u32) 97 w w.heap.size (λk_=>q k_) (.slice B r.length G) r)(a0:Kd.V (Kd.int .u32) 97 w w.heap.size (λk_=>s k_) (.slice I m.length O) m)(h:yH.f k v r x m=some (r1,r2)):
 Calls Try.prog 125 #[.agg #[.bool v, .slice B r.length G], .agg #[.bool x, .slice I m.length O]] w λe w'=>∃ak:Value,e= .returned (.agg #[.bool r1,ak])/\Kd.V (Kd.int .u32) 97 w' w.heap.size (λk_=>((q k_\/s k_)\/w.heap.size<=k_)) ak r2/\Below w.heap.size w w':=by
 have af:=Try.underlying113
 have c:=zk (show Kd.V (Kd.int .u32) 97 w w.heap.size (λk_=>((q k_\/s k_)\/w.heap.size<=k_)) (.slice B r.length G) r from Kd.jf X (λk_ hk=> .inl (.inl hk)))
 have d:=zk (show Kd.V (Kd.int .u32) 97 w w.heap.size (λk_=>((q k_\/s k_)\/w.heap.size<=k_)) (.slice I m.length O) m from Kd.jf a0 (λk_ hk=> .inl (.inr hk)))
 have HB:=zk (Below.refl w.heap.size w)
 have H:=h
 clear h
 unfold yH.f at H
 replace H:=zb H
 obtain⟨⟨W,U⟩,A3,H⟩:=H
 dsimp only at H
 simp only[Option.some.injEq,Prod.mk.injEq] at H
 obtain⟨rfl,rfl⟩:=H
 go_enter Try.func125,Try.ntmps125
 go_wp2_with (first|((with_reducible refine jc (N:=2) rfl ?_);refine jM ?hg (N:=2) ?hd (cs:= #[.bool v, .slice B r.length G]) (t:=113) ?hr ?_;(case hd=>rfl);(case hg=>rfl);(case hr=>first|(go_simp;done)|(go_simp;rfl));intro y hg w4 hbox hb;replace c:=nJ c hg hb;replace d:=nJ d hg hb;have a:=zk (hbox);have ai:=yg hg HB;have b:=yg hg HB;replace HB:=yS HB hb;clear hb hbox hg)|((with_reducible refine jc (N:=3) rfl ?_);refine jM ?hg (N:=3) ?hd (cs:= #[.bool x, .slice I m.length O]) (t:=113) ?hr ?_;(case hd=>rfl);(case hg=>rfl);(case hr=>first|(go_simp;done)|(go_simp;rfl));intro z hg w5 hbox hb;replace c:=nJ c hg hb;replace d:=nJ d hg hb;have l:=zk (hbox);have ag:=qg hg HB b;have n:=qg hg HB b;replace HB:=jg HB b hb;have K:=mZ hg a;have J:=ng hg a;replace a:=yK a hb;clear hb hbox hg)|((with_reducible refine jc (N:=4) rfl ?_);refine jM ?hg (N:=4) ?hd (cs:= #[.bool false, .slice none 0 0]) (t:=113) ?hr ?_;(case hd=>rfl);(case hg=>rfl);(case hr=>first|(go_simp;done)|(go_simp;rfl));intro j hg w6 hbox hb;replace c:=nJ c hg hb;replace d:=nJ d hg hb;have u:=zk (hbox);have aj:=qH hg HB b n;have A:=qH hg HB b n;replace HB:=oH HB b n hb;have D:=mZ hg a;have L:=ng hg a;replace a:=yK a hb;have M:=mZ hg l;have E:=ng hg l;replace l:=yK l hb;clear hb hbox hg;have ap:=K.out;have al:=J.out;have ao:=D.out;have am:=L.out;obtain⟨a9,aa,ac,ab⟩:=oM a;have ae:=M.out;have ah:=E.out;obtain⟨a1,a6,a3,a2⟩:=oM l)|((with_reducible refine gC 128 ?_);refine zG (some 12) Try.func128 #[.agg #[.bool v, .slice B r.length G], .agg #[.bool (!x), .slice I m.length O]] ?_;(with_reducible refine(rE.calls k v (λk_=>(((((q k_\/s k_)\/w.heap.size<=k_)/\k_≠y)/\k_≠z)/\k_≠j)) _ _ r (!x) (λk_=>(((((q k_\/s k_)\/w.heap.size<=k_)/\k_≠y)/\k_≠z)/\k_≠j)) _ _ m W U _ ?ig ?ik A3.out).mono ?_);(case ig=>exact c.out);(case ik=>exact d.out);rintro e aq ⟨an,rfl,ad,hb⟩;refine⟨_,rfl,?_⟩;replace c:=jy c hb;replace d:=jy d hb;have T:=zk (Kd.qp (Kd.jf (ok':=λk_=>((q k_\/s k_)\/w.heap.size<=k_)/\k_≠y/\k_≠z/\k_≠j) ad (λk_ iO=>⟨Or.elim iO (λhs_=>Or.elim hs_ (λhs_=>hs_.1.1.1) (λhs_=>hs_.1.1.1)) (λjF=>(.inr (Nat.le_trans (iQ (nI HB.out b.out n.out A.out)) jF))),Or.elim iO (λhs_=>Or.elim hs_ (λhs_=>hs_.1.1.2) (λhs_=>hs_.1.1.2)) (λjF=>(Kd.kT (g:=y) (o:= .cells #[.bool v, .slice B r.length G] 113 (0,0)) (by(with_reducible repeat(first|refine iM ?_ _|refine iC ?_|refine iL ?_ _));exact a.out) k_ jF)),Or.elim iO (λhs_=>Or.elim hs_ (λhs_=>hs_.1.2) (λhs_=>hs_.1.2)) (λjF=>(Kd.kT (g:=z) (o:= .cells #[.bool x, .slice I m.length O] 113 (0,0)) (by(with_reducible repeat(first|refine iM ?_ _|refine iC ?_|refine iL ?_ _));exact l.out) k_ jF)),Or.elim iO (λhs_=>Or.elim hs_ (λhs_=>hs_.2) (λhs_=>hs_.2)) (λjF=>(Kd.kT (g:=j) (o:= .cells #[.bool false, .slice none 0 0] 113 (0,0)) (by(with_reducible repeat(first|refine iM ?_ _|refine iC ?_|refine iL ?_ _));exact u.out) k_ jF))⟩)) (iQ (nI HB.out b.out n.out A.out)));replace a:=yK a hb;replace l:=yK l hb;replace u:=yK u hb;replace HB:=lX HB b n A hb;(try clear hb ad);obtain⟨a5,a7,a8,a4⟩:=oM u;obtain⟨Y,Z,rfl⟩:=Kd.ku T.out))
 refine bodyPost_ret (results_cell_row rfl _ _ j 113 #[.bool W, .slice Y U.length Z] (0,0) _ rfl (yl u.out) Try.underlying113 rfl (by kernel_rfl)) rfl ?_
 exact⟨_,zE,by(with_reducible repeat(first|apply Kd.nH|apply Kd.nG|apply Kd.lV));exact Kd.jf (Kd.pJ (p:=⟨j,1,none⟩) (Kd.pJ (p:=⟨j,0,none⟩) (Kd.jf T.out (λk_ hk=>(⟨hk,hk.2.2.2⟩:_/\k_≠j))) (λ_ hk=>hk.2) (.bool W)) (λ_ hk=>hk.2) (.slice Y U.length Z)) (λ_ hk=>hk.1.1),nI HB.out b.out n.out A.out⟩
def lI.Qd:Bool×List (List Nat×List Nat):=(true,[([],[]),([],[]),([],[]),([1,2],[1,2]),([3],[3]),([],[]),([],[]),([6],[6]),([5,7],[5,7]),([8],[8]),([4,9],[4,9]),([],[]),([],[]),([],[]),([13],[13]),([12,14],[12,14]),([15],[15]),([11,16,10],[11,16]),([10,17,17],[10,17]),([18],[18]),([0,19,18],[0,19]),([20,20,0,1,2,3,4,5,6,7,8,9,10,11,12,13,14,15,16,17,18,19,20],[0,12,20])])
def lI.YR:List Nat:=[0,0,0,6,14,0,0,64,224,480,1022,0,0,0,8192,28672,61440,131070,262142,524286,1048575,2097151]
theorem lI.RI:lM .any (opsOf Try.f94 18)=lI.Qd:=by kernel_rfl
theorem lI.XQ:qh lI.Qd.2 lI.YR=true:=by kernel_rfl
theorem lI.calls(k:Nat)(a0:Int)(a1:Int)(r:List (List (jb)))(w:World)(h:lI.f k a0 a1=some r):
 Calls Try.prog 94 #[.int .i64 a0, .int .i64 a1] w λe w'=>∃f4:Value,e= .returned (f4)/\Kd.N (Kd.slice 113 lq) 114 w' w.heap.size (λk_=>(w.heap.size<=k_)) f4 r/\Below w.heap.size w w':=by
 have eT:=Try.underlying113
 have HB:=zk (Below.refl w.heap.size w)
 have H:=h
 clear h
 unfold lI.f at H
 obtain⟨dZ,ck⟩:∃j_:Int,(wrap64 (a1+1))=j_:=⟨_,rfl⟩
 first|rw[ck] at H|simp only[ck] at H
 have f7:(IntKind.i64.wrap (a1+1))=dZ:=(iI _).trans ck
 replace H:=zg H
 obtain⟨c4,H⟩:=H
 have eh:=eq_true c4
 have er:=decide_eq_true c4
 clear c4
 replace H:=zg H
 obtain⟨c5,H⟩:=H
 have e5:=eq_true c5
 have es:=decide_eq_true c5
 clear c5
 obtain⟨be,bQ⟩:∃y_:List (jb),y_=(List.replicate (dZ:Int).toNat oN):=⟨_,rfl⟩
 rw[<-bQ] at H
 have cr:=zk bQ
 clear bQ
 have H':=zk H
 clear H
 go_enter Try.func94,Try.ntmps94
 go_wp2_with (first|((with_reducible refine jc (N:=18) rfl ?_);refine Kd.Qr lq _ 113 rfl (N':=18) rfl 114 _ _ rfl dZ rfl rfl Try.underlying114 (.agg #[(.bool false),(.slice none 0 0)]) 32 Gg rfl (by decide) (by omega) oN (ok:=λk_=>w.heap.size<=k_) (je:=λ_=>False) (AL _ _ oN (Nat.le_refl _) (Kd.JU _ _ _)) (λ_ hk=>hk.elim) (Nat.le_refl _) zd (Nat.le_trans (Nat.mul_le_mul_right _ (zd:dZ.toNat<=8796093022208)) (by omega)) (Below.refl _ _) (Nat.le_refl _) ?_;intro fo w6 dH hb jw jv;clear jw jv;(first|rw[<-cr.out] at dH|(simp only[Int.reduceToNat] at dH;rw[<-cr.out] at dH));have cy:=zk (Kd.qf (Kd.ji (ok':=λk_=>(w.heap.size<=k_)) dH (λk_ iO=>(Nat.le_trans (iQ (zB HB.out)) iO))) (iQ (zB HB.out)));replace HB:=yS HB hb;clear hb dH;obtain⟨cA,bg,rfl⟩:=Kd.oG cy.out))
 go_loopg [21] k (λkq fz w'=>∃(X:List (jb)) (D:Int),fz= .int .i64 D/\dw (lI.l0 kq a0 a1 X (be.length:Int) D=some r)/\dw (kq<=k)/\dw (Kd.N lq 113 w' w.heap.size (λk_=>(w.heap.size<=k_)) (.slice cA be.length bg) X)/\dw (Below w.heap.size w w'))
 case atStart=>exact⟨(be),(0),zF,H',⟨Nat.le_refl _⟩,⟨zN cy.out⟩,⟨zB HB.out⟩⟩
 clear H'
 (try clear eh er e5 es)
 obtain⟨X,D,rfl,HA,d1,I,HB⟩:=hrel
 have y:=(Kd.jR I.out).1
 rw[y] at I
 (try simp only[y])
 cases gk with|zero=>exact absurd HA.out (by simp [lI.l0])|succ k1=>?_
 have H:=HA.out
 clear HA
 simp only[lI.l0] at H
 replace H:=zi H
 rcases H with⟨c9,H⟩|⟨c9,H⟩
 ·have ch:=decide_eq_true c9
  (try(have cH:=ch;simp only[y] at cH))
  clear c9
  replace H:=zb H
  obtain⟨⟨bi,eC⟩,fj,H⟩:=H
  dsimp only at H
  replace H:=zb H
  obtain⟨a9,fC,H⟩:=H
  replace H:=zb H
  obtain⟨⟨bk,eb⟩,ft,H⟩:=H
  dsimp only at H
  obtain⟨aU,bD⟩:∃y_:List (List Int),y_=(([bi,bk]:List (List Int))):=⟨_,rfl⟩
  rw[<-bD] at H
  have cx:=zk bD
  clear bD
  replace H:=zb H
  obtain⟨aT,fc,H⟩:=H
  replace H:=iV H
  obtain⟨eQ,H⟩:=H
  replace H:=zg H
  obtain⟨eO,H⟩:=H
  have dK:=decide_eq_true eO
  (try(have dp:=dK;simp only[y] at dp))
  clear eO
  obtain⟨dA,bn⟩:∃y_:List (jb),y_=(X.set (D:Int).toNat (⟨false,aT⟩:jb)):=⟨_,rfl⟩
  rw[<-bn] at H
  have dE:=zk bn
  clear bn
  have H':=zk H
  clear H
  go_wp2_with (first|((with_reducible refine gC 72 ?_);refine zG (some 27) Try.func72 #[.int .i64 a1, .int .i64 D] ?_;(with_reducible refine(nC.calls k1 a1 D bi eC _ fj.out).mono ?_);rintro e fU ⟨fg,rfl,G,hb⟩;refine⟨_,rfl,?_⟩;replace I:=o7 I G hb;replace G:=Kd.oD (M:=λk_=>(w.heap.size<=k_)) G (iQ (zB HB.out)) (λk_ h_=>h_);have ad:=jm G HB;replace HB:=yS HB hb;(try clear hb G))|((with_reducible refine gC 80 ?_);refine zG (some 34) Try.func80 #[.int .u64 (IntKind.u64.wrap (wrap64 (a0-1)))] ?_;(with_reducible refine(uZ.calls k1 (IntKind.u64.wrap (wrap64 (a0-1))) a9 _ fC.out).mono ?_);rintro e fP ⟨fl,rfl,G,hb⟩;refine⟨_,rfl,?_⟩;replace I:=o7 I G hb;replace G:=Kd.oD (M:=λk_=>(w.heap.size<=k_)) G (iQ (zB HB.out)) (λk_ h_=>h_);replace G:=yn G ad;have Y:=jm G HB;replace ad:=iG ad G hb;replace HB:=yS HB hb;(try clear hb G);obtain⟨ag,af,rfl⟩:=Kd.iD Y.out)|((with_reducible refine gC 85 ?_);refine zG (some 36) Try.func85 #[.slice ag a9.length af, .int .i64 D] ?_;(with_reducible refine(pF.calls k1 _ _ a9 D bk eb _ ?ig ?ik ft.out).mono ?_);(case ig=>exact zC (Kd.iw Y.out).2.2);(case ik=>exact(Kd.iw Y.out).2.1);rintro e fe ⟨fA,rfl,G,hb⟩;refine⟨_,rfl,?_⟩;replace I:=o7 I G hb;replace G:=Kd.oD (M:=λk_=>(w.heap.size<=k_)) G (iQ (zB HB.out)) (λk_ h_=>h_);replace G:=yn G ad;replace G:=yn G Y;have bA:=jm G HB;replace ad:=iG ad G hb;replace Y:=iG Y G hb;replace HB:=yS HB hb;(try clear hb G);obtain⟨dd,d2,rfl⟩:=Kd.iD ad.out;obtain⟨dJ,dB,rfl⟩:=Kd.iD bA.out)|((with_reducible refine jc (N:=43) rfl ?_);refine Kd.G5 (Kd.slice 97 (Kd.int .u32)) _ 29 ?hg (N':=43) ?hd (xs:=([bi,bk]:List (List Int))) (inner:=[.slice dd bi.length d2, .slice dJ bk.length dB]) (ok:=(λk_=>(w.heap.size<=k_)/\some k_≠(.slice cA X.length bg:Value).ownBlock/\some k_≠(.slice ag a9.length af:Value).ownBlock)) (je:=(λk_=>(w.heap.size<=k_)/\some k_≠(.slice cA X.length bg:Value).ownBlock/\some k_≠(.slice ag a9.length af:Value).ownBlock)) ?hr ?hp (λ_ hk=>hk) ((show ∀k_,fe.heap.size<=k_->(λk_=>(w.heap.size<=k_)/\some k_≠(.slice cA X.length bg:Value).ownBlock/\some k_≠(.slice ag a9.length af:Value).ownBlock) k_ from λk_ hk=>⟨(Nat.le_trans (iQ (zB HB.out)) hk),Kd.fresh' (Kd.mQ (zN I.out)) k_ hk,Kd.fresh' (Kd.qZ (zR Y.out)) k_ hk⟩) _ (Nat.le_refl _)) (Below.refl _ _) (Nat.le_refl _) (by simp) ?_;(case hd=>rfl);(case hg=>rfl);(case hr=>first|(go_simp;done)|(go_simp;rfl));(case hp=>exact(iY.one (show Kd.FK (Kd.slice 97 (Kd.int .u32)) _ _ bi [.slice dd bi.length d2] from(Mw.Dy (Kd.iZ (ok':=(λk_=>(w.heap.size<=k_)/\some k_≠(.slice cA X.length bg:Value).ownBlock/\some k_≠(.slice ag a9.length af:Value).ownBlock)) (Kd.jL (ad.out) (Kd.jQ I.out) (by decide)) (λk_ hk=>by exact⟨hk.1.1.1.1,⟨hk.2,hk.1.1.2⟩⟩)))) (iY.one (show Kd.FK (Kd.slice 97 (Kd.int .u32)) _ _ bk [.slice dJ bk.length dB] from(Mw.Dy (Kd.iZ (ok':=(λk_=>(w.heap.size<=k_)/\some k_≠(.slice cA X.length bg:Value).ownBlock/\some k_≠(.slice ag a9.length af:Value).ownBlock)) (Kd.jL (bA.out) (Kd.jQ I.out) (by decide)) (λk_ hk=>by exact⟨hk.1.1.1.1,⟨hk.2,hk.1.2⟩⟩)))) (iY.none _ _))));intro fE fQ bj hb jw jv;clear jw jv;(first|rw[<-cx.out] at bj|(simp only[Int.reduceToNat] at bj;rw[<-cx.out] at bj));replace I:=zk (Kd.rf (zN I.out) (Kd.vC bj) hb);replace Y:=jl Y hb;have aa:=zk (Kd.qf bj (iQ (zB HB.out)));replace HB:=yS HB hb;clear ad bA;clear hb bj;obtain⟨bh,bf,rfl⟩:=Kd.oG aa.out)|((with_reducible refine gC 74 ?_);refine zG (some 44) Try.func74 #[.slice bh aU.length bf] ?_;(with_reducible refine(sW.calls k1 _ _ aU aT _ ?ig ?ik fc.out).mono ?_);(case ig=>exact zC (Kd.jR aa.out).2.2);(case ik=>exact(Kd.jR aa.out).2.1);rintro e cY ⟨ff,rfl,G,hb⟩;refine⟨_,rfl,?_⟩;replace I:=o7 I G hb;replace aa:=o7 aa G hb;replace G:=Kd.oD (M:=λk_=>(w.heap.size<=k_)) G (iQ (zB HB.out)) (λk_ h_=>h_);replace G:=yn G Y;have aY:=jm G HB;replace Y:=iG Y G hb;replace HB:=yS HB hb;(try clear hb G);obtain⟨cn,cl,rfl⟩:=Kd.iD aY.out;have eq:0<=(D:Int):=zd;have em:(D:Int)<((X.length:Int):Int):=zd;obtain⟨ac,fH,d9,dv,ez,fp,dc⟩:=Kd.Qu I.out (by omega);(first|cases d9|(injection d9 with iW kL kM;(first|subst iW|(injection iW with iW;subst iW));subst kM;clear kL));have dD:=zk dv;have fG:=zk dc;clear dv ez dc;obtain⟨fy,dt,dI,bG,bK⟩:=Kd.E_ I.out oN (D:Int) eq em;obtain⟨cK,cW,rfl,ed,ek⟩:=wX dI;have ec:cY.cell? ⟨ac,(D:Int).toNat*2,none⟩=some (.bool ((iK X D).f0)):=bG 0 _ rfl;have e7:cY.cell? ⟨ac,(D:Int).toNat*2+1,none⟩=some (.slice cK ((iK X D).f1).length cW):=bG 1 _ rfl;have ep:cY.frozen? ⟨ac,(D:Int).toNat*2,none⟩=false:=bK 0;have eH:cY.frozen? ⟨ac,(D:Int).toNat*2+1,none⟩=false:=bK 1;clear dt bG bK dI;replace eq:=eq_true eq;replace em:=eq_true em;have n_:=zk (Kd.ji (ok':=(λk_=>(w.heap.size<=k_)/\some k_≠(.slice ag a9.length af:Value).ownBlock/\some k_≠(.slice bh aU.length bf:Value).ownBlock/\some k_≠(.slice cn aT.length cl:Value).ownBlock)) I.out (λk_ hk=>⟨hk.1.1.1.1.1,⟨hk.1.1.1.2,⟨hk.1.2,hk.2⟩⟩⟩));clear I;have I:=n_;clear n_;have dr:=zk (show Kd.N lq 113 cY w.heap.size (λk_=>(w.heap.size<=k_)/\some k_≠(.slice ag a9.length af:Value).ownBlock/\some k_≠(.slice bh aU.length bf:Value).ownBlock) (.slice (some ⟨ac,0,none⟩) X.length bg) X from(by(with_reducible repeat(first|apply Kd.jK|apply Kd.jJ|apply Kd.jA));exact Kd.ji I.out (λ_ hk=>⟨hk.1,⟨hk.2.1,hk.2.2.1⟩⟩)));obtain⟨fb,cq,dy,bb,bH⟩:=Kd.E_ dr.out oN (D:Int) zd (by have h_:(D:Int)<((X.length:Int):Int):=zd;first|exact h_|(have e_:=(Kd.jR I.out).1;omega)|simpa using h_);obtain⟨ea,e8,rfl,ej,ee⟩:=wX dy;have cU:=Kd.Qq dr.out (D:Int) zd (by have h_:(D:Int)<((X.length:Int):Int):=zd;first|exact h_|(have e_:=(Kd.jR I.out).1;omega)|simpa using h_) (lH:=[.bool false, .slice cn aT.length cl]) (j:=0) cq bb (show 2<=2 from by decide) (x':=(⟨false,aT⟩:jb)) (AL _ _ (⟨false,aT⟩:jb) (Kd.iw (Kd.iZ (ok':=(λk_=>((λk_=>(w.heap.size<=k_)/\some k_≠(.slice ag a9.length af:Value).ownBlock/\some k_≠(.slice bh aU.length bf:Value).ownBlock)) k_/\k_≠ac)) (Kd.jL (Kd.jL (aY.out) (Kd.jQ aa.out) (by decide)) (Kd.jQ I.out) (by decide)) (λk_ hk=>by exact⟨⟨hk.1.1.1.1,⟨hk.1.1.2,hk.1.2⟩⟩,λe_=>(hk.2) (by rw[e_];rfl)⟩))).2.1 (Kd.GY (Kd.iZ (ok':=(λk_=>((λk_=>(w.heap.size<=k_)/\some k_≠(.slice ag a9.length af:Value).ownBlock/\some k_≠(.slice bh aU.length bf:Value).ownBlock)) k_/\k_≠ac)) (Kd.jL (Kd.jL (aY.out) (Kd.jQ aa.out) (by decide)) (Kd.jQ I.out) (by decide)) (λk_ hk=>by exact⟨⟨hk.1.1.1.1,⟨hk.1.1.2,hk.1.2⟩⟩,λe_=>(hk.2) (by rw[e_];rfl)⟩)))) (λ_ hk=>hk);have cX:=bb 0 _ rfl;(try simp only[show(lq).sz=2 from rfl,Nat.mul_one,Nat.add_zero] at cX);have cS:=bH 0;(try simp only[show(lq).sz=2 from rfl,Nat.mul_one,Nat.add_zero] at cS);have cM:=bb 1 _ rfl;(try simp only[show(lq).sz=2 from rfl,Nat.mul_one,Nat.add_zero] at cM);have cF:=bH 1;(try simp only[show(lq).sz=2 from rfl,Nat.mul_one,Nat.add_zero] at cF);clear cq bb bH dy)|((with_reducible refine qM (t:=113) (p:=46) rfl ?_);refine qJ (t:=113) (p:=46) (v:=?YZ) (w1:=((cY.setCell ⟨ac,(D:Int).toNat*2,none⟩ (.bool false)).setCell ⟨ac,(D:Int).toNat*2+1,none⟩ (.slice cn aT.length cl))) ?hg ?ho ?hn ?hr ?_;(case ho=>rfl);(case hg=>rfl);(case hn=>rfl);(case hr=>first|(go_simp;done)|(go_simp;rfl));intro eA hw;have hg:cY.grownBy eA (some ac):=(by rw[hw];exact cU.2);have jY:Kd.N lq 113 eA w.heap.size (λk_=>(w.heap.size<=k_)/\some k_≠(.slice ag a9.length af:Value).ownBlock/\some k_≠(.slice bh aU.length bf:Value).ownBlock) (.slice (some ⟨ac,0,none⟩) X.length bg) dA:=(by rw[hw,dE.out];exact cU.1);clear cU;replace Y:=zk (Kd.vz (v:=(.slice (some ⟨ac,0,none⟩) X.length bg)) (zR Y.out) (Kd.jQ I.out) (by decide) hg);replace I:=zk (jY);replace aa:=zk (Kd.zJ (v:=(.slice (some ⟨ac,0,none⟩) X.length bg)) (v1:=(.slice (some ⟨ac,0,none⟩) X.length bg)) (ok:=(λk_=>(w.heap.size<=k_)/\some k_≠(.slice ag a9.length af:Value).ownBlock/\some k_≠(.slice cn aT.length cl:Value).ownBlock)) (by(with_reducible repeat(first|apply Kd.jK|apply Kd.jJ|apply Kd.jA));exact Kd.ji aa.out (λ_ hk=>⟨⟨hk.1.1,⟨hk.1.2.2,hk.2⟩⟩,hk.1.2.1⟩)) hg (.inl rfl));replace HB:=zk ((by rw[hw];exact lS (lS (HB.out) dD.out) dD.out:Below w.heap.size w eA));clear aY;clear hg hw jY))
  (try simp only[<-y])
  go_roundg k1
  case measure=>have:=d1.out;omega
  case rel=>exact⟨(dA),(wrap64 (D+1)),zF,H',⟨kP d1⟩,⟨by(try simp only[y]);(with_reducible repeat(first|apply Kd.jK|apply Kd.jJ|apply Kd.jA));exact Kd.ji I.out (λ_ hk=>hk.1)⟩,⟨zB HB.out⟩⟩
 have ch:=decide_eq_false c9
 (try(have cH:=ch;simp only[y] at cH))
 clear c9
 obtain⟨eI,bw⟩:∃y_:List (List (jb)),y_=(([X]:List (List (jb)))):=⟨_,rfl⟩
 rw[<-bw] at H
 have cB:=zk bw
 clear bw
 replace H:=zb H
 obtain⟨⟨a5,q⟩,fq,H⟩:=H
 dsimp only at H
 have H':=zk H
 clear H
 go_wp2_with (first|((with_reducible refine jc (N:=49) rfl ?_);refine Kd.G5 (Kd.slice 113 lq) _ 114 ?hg (N':=49) ?hd (xs:=([X]:List (List (jb)))) (inner:=[.slice cA X.length bg]) (ok:=(λk_=>(w.heap.size<=k_))) (je:=(λk_=>(w.heap.size<=k_))) ?hr ?hp (λ_ hk=>hk) ((show ∀k_,wr.heap.size<=k_->(λk_=>(w.heap.size<=k_)) k_ from λk_ hk=>(Nat.le_trans (iQ (zB HB.out)) hk)) _ (Nat.le_refl _)) (Below.refl _ _) (Nat.le_refl _) (by simp) ?_;(case hd=>rfl);(case hg=>rfl);(case hr=>first|(go_simp;done)|(go_simp;rfl));(case hp=>exact(iY.one (show Kd.FK (Kd.slice 113 lq) _ _ X [.slice cA X.length bg] from(Kd.yj (Kd.jR (Kd.ji (ok':=(λk_=>(w.heap.size<=k_))) (I.out) (λk_ hk=>by exact hk))).2.1 (Kd.JO (Kd.ji (ok':=(λk_=>(w.heap.size<=k_))) (I.out) (λk_ hk=>by exact hk))))) (iY.none _ _)));intro fF fR bO hb jw jv;clear jw jv;(first|rw[<-cB.out] at bO|(simp only[Int.reduceToNat] at bO;rw[<-cB.out] at bO));have aR:=zk (Kd.qf bO (iQ (zB HB.out)));replace HB:=yS HB hb;clear I;clear hb bO)|((with_reducible refine gC 124 ?_);refine zG (some 52) Try.func124 #[.int .i64 (wrap64 (a0-1))] ?_;(with_reducible refine(CE.calls k1 (wrap64 (a0-1)) a5 q _ fq.out).mono ?_);rintro e fJ ⟨fd,rfl,G,hb⟩;refine⟨_,rfl,?_⟩;replace aR:=o7 aR G hb;replace G:=Kd.oD (M:=λk_=>(w.heap.size<=k_)) G (iQ (zB HB.out)) (λk_ h_=>h_);have b7:=jm G HB;replace HB:=yS HB hb;(try clear hb G))|((with_reducible refine jc (N:=12) rfl ?_);refine jM ?hg (N:=12) ?hd (cs:= #[.bool false, .slice none 0 0]) (t:=113) ?hr ?_;(case hd=>rfl);(case hg=>rfl);(case hr=>first|(go_simp;done)|(go_simp;rfl));intro d hg fM hbox hb;replace aR:=zk (Kd.vU (Kd.yV (zN aR.out) d (Nat.le_of_eq hg.symm)) hb);replace b7:=jl b7 hb;have l:=zk (hbox);have eX:=yg hg HB;have E:=yg hg HB;replace HB:=yS HB hb;clear hb hbox hg;obtain⟨cf,ce,cb,ca⟩:=oM l;obtain⟨u,x,rfl⟩:=Kd.iD b7.out))
 go_loopg [11,54] k1 (λkq fm fw w'=>∃(a:List (List (jb))) (aK:Int),fw= .int .i64 aK/\dw (lI.l1 kq a1 a a1 aK a5 q=some r)/\dw (kq<=k1)/\dw (Kd.N (Kd.slice 113 lq) 114 w' w.heap.size (λk_=>(w.heap.size<=k_)/\some k_≠((.slice u q.length x):Value).ownBlock/\k_≠d) fm a)/\dw (Kd.R (Kd.int .u32) 97 w' w.heap.size (λk_=>(w.heap.size<=k_)) (.slice u q.length x) q)/\dw (w'.heap[d]?=some (.cells #[.bool a5,(.slice u q.length x)] 113 (0,0)))/\dw (Below w.heap.size w w'))
 case atStart=>exact⟨(eI),(0),zF,H',⟨Nat.le_refl _⟩,⟨by(try simp only[y]);(with_reducible repeat(first|apply Kd.jK|apply Kd.jJ|apply Kd.jA));exact Kd.ji (Kd.qP (p:=⟨d,1,none⟩) (Kd.qP (p:=⟨d,0,none⟩) (Kd.ji aR.out (λk_ hk=>(⟨hk,hk.2⟩:_/\k_≠d))) (λ_ hk=>hk.2) (.bool a5)) (λ_ hk=>hk.2) (.slice u q.length x)) (λ_ hk=>⟨hk.1.1.1,⟨hk.1.1.2,hk.1.2⟩⟩)⟩,⟨by(try simp only[y]);(with_reducible repeat(first|apply Kd.iT|apply Kd.iU|apply Kd.iJ));exact Kd.iZ (Kd.rM (p:=⟨d,1,none⟩) (Kd.rM (p:=⟨d,0,none⟩) (Kd.mM b7.out l.out (by decide)) (λ_ hk=>hk.2) (.bool a5)) (λ_ hk=>hk.2) (.slice u q.length x)) (λ_ hk=>hk.1.1)⟩,⟨by(try simp only[y]);(with_reducible repeat(first|refine iM ?_ _|refine iC ?_|refine iL ?_ _));refine vw (cs:= #[.bool a5, .slice none 0 0]) ?_ 1 _ rfl;(with_reducible repeat(first|refine iM ?_ _|refine iC ?_|refine iL ?_ _));refine vw (cs:= #[.bool false, .slice none 0 0]) ?_ 0 _ rfl;(with_reducible repeat(first|refine iM ?_ _|refine iC ?_|refine iL ?_ _));exact l.out⟩,⟨iH HB.out E.out⟩⟩
 clear H'
 (try clear ch cf ce cb ca)
 obtain⟨a,aK,rfl,HA,dT,m,c,l,HB⟩:=hrel
 cases gk with|zero=>exact absurd HA.out (by simp [lI.l1])|succ k2=>?_
 have H:=HA.out
 clear HA
 simp only[lI.l1] at H
 replace H:=jB H
 rcases H with⟨cp,H⟩|⟨cp,H⟩
 ·obtain⟨A,b5⟩:∃j_:Int,(wrap64 ((a.length:Int)-1))=j_:=⟨_,rfl⟩
  first|rw[b5] at H|simp only[b5] at H
  have e6:(IntKind.i64.wrap ((a.length:Int)-1))=A:=(iI _).trans b5
  replace H:=iV H
  obtain⟨dN,H⟩:=H
  replace H:=zg H
  obtain⟨f5,H⟩:=H
  have ct:=decide_eq_true f5
  (try(have dC:=ct;simp only[y] at dC))
  clear f5
  replace H:=zg H
  obtain⟨f8,H⟩:=H
  have cv:=decide_eq_true f8
  (try(have d4:=cv;simp only[y] at d4))
  have cu:decide (0<(jT a (A)).length)=true:=decide_eq_true (by omega)
  (try(have dm:=cu;simp only[y] at dm))
  clear f8
  obtain⟨eu,bE⟩:∃y_:List (jb),y_=(([(⟨(iK (jT a (A)) 0).f0,(iK (jT a (A)) 0).f1⟩:jb)]:List (jb))):=⟨_,rfl⟩
  rw[<-bE] at H
  have cz:=zk bE
  clear bE
  have H':=zk H
  clear H
  obtain⟨fa,P,rfl⟩:=Kd.oG m.out
  have bo:0<=((A):Int):=zd
  have bR:(A)<(a.length:Int):=zd
  obtain⟨z,en,cT,eo,b3,b2,aX⟩:=P5 (Kd.jR m.out).2.2 (A) bo bR
  cases eo
  obtain⟨eS,cO,cL,bs⟩:=Kd.BA m.out [] (A) bo (by first|exact bR|exact zd|(have e_:=(Kd.jR m.out).1;omega))
  obtain⟨dP,dO,rfl,aE,aI⟩:=Kd.Ff cL
  have an:=bs 0 _ rfl
  rw[Nat.add_zero,show((Kd.slice 113 lq)).sz=1 from rfl,Nat.mul_one] at an
  replace an:=Option.some.inj (an.symm.trans b3)
  injection an with mF pV mD
  rw[mF] at aI
  rw[mD] at aE
  have ab:=zk (show Kd.V lq 113 _ w.heap.size _ _ (jT a (A)) from Kd.lT aE aI)
  clear mF pV mD aI aE
  clear bs cO
  have ax:=zk aX
  have dV:=zk b2
  clear aX b2
  replace bo:=eq_true bo
  replace bR:=eq_true bR
  have bF:0<=(0:Int):=(by omega)
  have bV:0<((jT a (A)).length:Int):=zd
  obtain⟨a8,bM,c0,ei,ak,a7,b8,b6⟩:=xW (yY ax.out) 0 bF bV
  cases ei
  obtain⟨eW,cG,cV,bS⟩:=Kd.Dj ab.out oN 0 bF (by first|exact bV|exact zd|(have e_:=(Kd.jd ab.out).1;omega))
  obtain⟨e3,dU,rfl,aH,av⟩:=wX cV
  have ai:=bS 1 _ rfl
  rw[wz _ _ 1 (by omega)] at ai
  replace ai:=Option.some.inj (ai.symm.trans a7)
  injection ai with mF pV mD
  rw[mF] at av
  rw[mD] at aH
  have am:=zk (show Kd.V (Kd.int .u32) 97 _ w.heap.size _ _ ((iK (jT a (A)) 0).f1) from Kd.lT aH av)
  clear mF pV mD av aH
  clear bS cG
  have f6:(0<(jT a (A)).length)=True:=eq_true (by omega)
  (try rw[show((0:Int)).toNat=0 from rfl] at ak)
  (try rw[show 0*2=0 from rfl] at ak)
  (try rw[Addr.add_zero'] at ak)
  (try rw[show((0:Int)).toNat=0 from rfl] at a7)
  (try rw[show 0*2=0 from rfl] at a7)
  (try rw[Addr.add_zero'] at a7)
  have b0:=zk b6
  have e4:=zk b8
  clear b6 b8
  replace bF:=eq_true bF
  replace bV:=eq_true bV
  go_wp2_with (first|((with_reducible refine jc (N:=65) rfl ?_);refine Kd.G5 lq _ 113 ?hg (N':=65) ?hd (xs:=([(⟨(iK (jT a (A)) 0).f0,(iK (jT a (A)) 0).f1⟩:jb)]:List (jb))) (inner:=[.bool ((iK (jT a (A)) 0).f0), .slice bM ((iK (jT a (A)) 0).f1).length c0]) (ok:=(λk_=>(w.heap.size<=k_)/\some k_≠(.slice (some z) a.length P:Value).ownBlock/\some k_≠(.slice u q.length x:Value).ownBlock/\k_≠d)) (je:=(λk_=>(w.heap.size<=k_)/\some k_≠(.slice (some z) a.length P:Value).ownBlock/\some k_≠(.slice u q.length x:Value).ownBlock/\k_≠d)) ?hr ?hp (λ_ hk=>hk) ((show ∀k_,wr.heap.size<=k_->(λk_=>(w.heap.size<=k_)/\some k_≠(.slice (some z) a.length P:Value).ownBlock/\some k_≠(.slice u q.length x:Value).ownBlock/\k_≠d) k_ from λk_ hk=>⟨(Nat.le_trans (iQ (iH HB.out E.out)) hk),Kd.fresh' (Kd.mQ (zN m.out)) k_ hk,Kd.fresh' (Kd.qZ (zR c.out)) k_ hk,Kd.kT (g:=d) (o:= .cells #[.bool a5, .slice u q.length x] 113 (0,0)) (by(with_reducible repeat(first|refine iM ?_ _|refine iC ?_|refine iL ?_ _));exact l.out) k_ hk⟩) _ (Nat.le_refl _)) (Below.refl _ _) (Nat.le_refl _) (by simp) ?_;(case hd=>rfl);(case hg=>rfl);(case hr=>first|(go_simp;done)|(go_simp;rfl));(case hp=>exact(iY.c2 (show Kd.FK lq _ _ (⟨(iK (jT a (A)) 0).f0,(iK (jT a (A)) 0).f1⟩:jb) [.bool ((iK (jT a (A)) 0).f0), .slice bM ((iK (jT a (A)) 0).f1).length c0] from(AL _ _ (⟨(iK (jT a (A)) 0).f0,(iK (jT a (A)) 0).f1⟩:jb) (Kd.jd (Kd.jf (ok':=(λk_=>(w.heap.size<=k_)/\some k_≠(.slice (some z) a.length P:Value).ownBlock/\some k_≠(.slice u q.length x:Value).ownBlock/\k_≠d)) (am.out) (λk_ hk=>by exact⟨hk.1.1,⟨hk.2,⟨hk.1.2.1,hk.1.2.2⟩⟩⟩))).2.1 (Kd.xG (Kd.jf (ok':=(λk_=>(w.heap.size<=k_)/\some k_≠(.slice (some z) a.length P:Value).ownBlock/\some k_≠(.slice u q.length x:Value).ownBlock/\k_≠d)) (am.out) (λk_ hk=>by exact⟨hk.1.1,⟨hk.2,⟨hk.1.2.1,hk.1.2.2⟩⟩⟩))))) (iY.none _ _)));intro fn fL aM hb jw jv;clear jw jv;(first|rw[<-cz.out] at aM|(simp only[Int.reduceToNat] at aM;rw[<-cz.out] at aM));replace m:=zk (Kd.rf (zN m.out) (Kd.vC aM) hb);replace c:=jl c hb;replace ab:=zk (Kd.xE (zV ab.out) (Kd.vC aM) hb);replace am:=zk (Kd.xE (zV am.out) (Kd.vC aM) hb);have d6:=zk (Kd.qf aM (iQ (iH HB.out E.out)));replace l:=yK l hb;(try replace ax:=oO ax hb);(try replace b0:=oO b0 hb);replace HB:=jg HB E hb;clear hb aM))
  go_loopg [14,15] k2 (λkq ey fB w'=>∃(B:List (jb)) (L:Int),fB= .int .i64 L/\dw (lI.l2 kq a1 a (jT a (A)) B L a1 aK a5 q=some r)/\dw (kq<=k2)/\dw (Kd.N (Kd.slice 113 lq) 114 w' w.heap.size (λk_=>(w.heap.size<=k_)/\some k_≠(ey:Value).ownBlock/\some k_≠((.slice u q.length x):Value).ownBlock/\k_≠d) (.slice (some z) a.length P) a)/\dw (Kd.V lq 113 w' w.heap.size (λk_=>(w.heap.size<=k_)/\some k_≠((.slice (some z) a.length P):Value).ownBlock/\some k_≠(ey:Value).ownBlock/\some k_≠((.slice u q.length x):Value).ownBlock/\k_≠d) (.slice (some a8) (jT a (A)).length cT) (jT a (A)))/\dw (Kd.N lq 113 w' w.heap.size (λk_=>(w.heap.size<=k_)/\some k_≠((.slice (some z) a.length P):Value).ownBlock/\some k_≠((.slice u q.length x):Value).ownBlock/\k_≠d) ey B)/\dw (Kd.R (Kd.int .u32) 97 w' w.heap.size (λk_=>(w.heap.size<=k_)) (.slice u q.length x) q)/\dw (w'.heap[d]?=some (.cells #[.bool a5,(.slice u q.length x)] 113 (0,0)))/\dw (Below w.heap.size w w'))
  case atStart=>exact⟨(eu),(1),zF,H',⟨Nat.le_refl _⟩,⟨by(try simp only[y]);(with_reducible repeat(first|apply Kd.jK|apply Kd.jJ|apply Kd.jA));exact Kd.ji m.out (λ_ hk=>⟨hk.1.1,⟨hk.2,⟨hk.1.2.1,hk.1.2.2⟩⟩⟩)⟩,⟨by(try simp only[y]);(with_reducible repeat(first|apply Kd.nH|apply Kd.nG|apply Kd.lV));exact Kd.jf ab.out (λ_ hk=>⟨hk.1.1.1,⟨hk.1.2,⟨hk.2,⟨hk.1.1.2.1,hk.1.1.2.2⟩⟩⟩⟩)⟩,⟨by(try simp only[y]);(with_reducible repeat(first|apply Kd.jK|apply Kd.jJ|apply Kd.jA));exact d6.out⟩,⟨by(try simp only[y]);(with_reducible repeat(first|apply Kd.iT|apply Kd.iU|apply Kd.iJ));exact c.out⟩,⟨by(try simp only[y]);(with_reducible repeat(first|refine iM ?_ _|refine iC ?_|refine iL ?_ _));exact l.out⟩,⟨iH HB.out E.out⟩⟩
  clear H'
  (try clear cp dN ct cv cu b3 ak a7 bo bF bR bV)
  obtain⟨B,L,rfl,HA,dQ,m,J,s,c,l,HB⟩:=hrel
  cases gk with|zero=>exact absurd HA.out (by simp [lI.l2])|succ k3=>?_
  have H:=HA.out
  clear HA
  simp only[lI.l2] at H
  replace H:=jB H
  rcases H with⟨dk,H⟩|⟨dk,H⟩
  ·replace H:=iV H
   obtain⟨f2,H⟩:=H
   replace H:=zg H
   obtain⟨eM,H⟩:=H
   have df:=decide_eq_true eM
   (try(have dn:=df;simp only[y] at dn))
   clear eM
   obtain⟨O,aN⟩:∃j_:Int,(wrap64 (L-1))=j_:=⟨_,rfl⟩
   first|rw[aN] at H|simp only[aN] at H
   have et:(IntKind.i64.wrap (L-1))=O:=(iI _).trans aN
   replace H:=iV H
   obtain⟨eR,H⟩:=H
   replace H:=zg H
   obtain⟨eY,H⟩:=H
   have dL:=decide_eq_true eY
   (try(have dG:=dL;simp only[y] at dG))
   clear eY
   replace H:=zb H
   obtain⟨⟨cC,cI⟩,fi,H⟩:=H
   dsimp only at H
   replace H:=zg H
   obtain⟨eJ,H⟩:=H
   have dx:=decide_eq_true eJ
   (try(have dq:=dx;simp only[y] at dq))
   clear eJ
   replace H:=zb H
   obtain⟨⟨cR,ao⟩,fk,H⟩:=H
   dsimp only at H
   replace H:=zb H
   obtain⟨⟨bJ,b_⟩,fr,H⟩:=H
   dsimp only at H
   replace H:=zg H
   obtain⟨eU,H⟩:=H
   have da:=zk eU
   clear eU
   obtain⟨eG,bX⟩:∃y_:List (jb),y_=(B++[(⟨bJ,b_⟩:jb)]):=⟨_,rfl⟩
   rw[<-bX] at H
   have dM:=zk bX
   clear bX
   have H':=zk H
   clear H
   try go_wp2
   replace m:=zk (Kd.jA m.out)
   replace J:=zk (Kd.lV J.out)
   replace s:=zk (Kd.jA s.out)
   replace c:=zk (Kd.iJ c.out)
   replace l:=zk (iC l.out)
   replace HB:=zk (l9 HB.out)
   have ci:0<=(L:Int):=zd
   have cd:L<((jT a (A)).length:Int):=zd
   obtain⟨di,bq,bL,eg,b1,ar,ba,a_⟩:=xW (Kd.jd J.out).2.2 L ci cd
   obtain rfl:a8=di:=(by injection eg)
   obtain⟨eP,cE,cZ,bB⟩:=Kd.Dj J.out oN L ci (by first|exact cd|exact zd|(have e_:=(Kd.jd J.out).1;omega))
   obtain⟨e0,dX,rfl,aG,aw⟩:=wX cZ
   have aj:=bB 1 _ rfl
   rw[wz _ _ 1 (by omega)] at aj
   replace aj:=Option.some.inj (aj.symm.trans ar)
   injection aj with mF pV mD
   rw[mF] at aw
   rw[mD] at aG
   have U:=zk (show Kd.V (Kd.int .u32) 97 _ w.heap.size _ _ ((iK (jT a (A)) L).f1) from Kd.lT aG aw)
   clear mF pV mD aw aG
   clear bB cE
   have a4:=zk a_
   have dS:=zk ba
   clear a_ ba
   replace ci:=eq_true ci
   replace cd:=eq_true cd
   have cm:0<=((O):Int):=zd
   have cg:(O)<((jT a (A)).length:Int):=zd
   obtain⟨dF,br,bI,ex,aZ,ay,bc,aV⟩:=xW (Kd.jd J.out).2.2 (O) cm cg
   obtain rfl:a8=dF:=(by injection ex)
   obtain⟨eV,d0,cQ,bC⟩:=Kd.Dj J.out oN (O) cm (by first|exact cg|exact zd|(have e_:=(Kd.jd J.out).1;omega))
   obtain⟨e1,d_,rfl,aD,aC⟩:=wX cQ
   have ah:=bC 1 _ rfl
   rw[wz _ _ 1 (by omega)] at ah
   replace ah:=Option.some.inj (ah.symm.trans ay)
   injection ah with mF pV mD
   rw[mF] at aC
   rw[mD] at aD
   have T:=zk (show Kd.V (Kd.int .u32) 97 _ w.heap.size _ _ ((iK (jT a (A)) (O)).f1) from Kd.lT aD aC)
   clear mF pV mD aC aD
   clear bC d0
   have a3:=zk aV
   have dR:=zk bc
   clear aV bc
   replace cm:=eq_true cm
   replace cg:=eq_true cg
   obtain⟨f9,ap,du⟩:=Kd.oG s.out
   (first|subst du|(injection du with bZ c_ c1;have cJ:=bZ.symm;have cD:=c1.symm;clear bZ c_ c1;subst cJ;subst cD))
   have cc:0<=((O):Int):=zd
   have cj:(O)<(B.length:Int):=zd
   obtain⟨Z,bW,bx,eE,b9,aA,aW,b4⟩:=xW (Kd.jR s.out).2.2 (O) cc cj
   cases eE
   obtain⟨f3,cN,cP,bT⟩:=Kd.BA s.out oN (O) cc (by first|exact cj|exact zd|(have e_:=(Kd.jR s.out).1;omega))
   obtain⟨dY,e2,rfl,az,au⟩:=wX cP
   have al:=bT 1 _ rfl
   rw[wz _ _ 1 (by omega)] at al
   replace al:=Option.some.inj (al.symm.trans aA)
   injection al with mF pV mD
   rw[mF] at au
   rw[mD] at az
   have W:=zk (show Kd.V (Kd.int .u32) 97 _ w.heap.size _ _ ((iK B (O)).f1) from Kd.lT az au)
   clear mF pV mD au az
   clear bT cN
   have a2:=zk b4
   have dW:=zk aW
   clear b4 aW
   replace cc:=eq_true cc
   replace cj:=eq_true cj
   refine qi (n:=22) (S:=λw'=>w'.cell? ⟨d,0,none⟩=some (.bool a5)/\w'.cell? ⟨d,1,none⟩=some (.slice u q.length x)/\w'.cell? (a8.add ((L).toNat*2))=some (.bool ((iK (jT a (A)) L).f0))/\w'.cell? ⟨(a8.add ((L).toNat*2)).block,(a8.add ((L).toNat*2)).off+1,none⟩=some (.slice bq ((iK (jT a (A)) L).f1).length bL)/\w'.cell? (a8.add (((O)).toNat*2))=some (.bool ((iK (jT a (A)) (O)).f0))/\w'.cell? ⟨(a8.add (((O)).toNat*2)).block,(a8.add (((O)).toNat*2)).off+1,none⟩=some (.slice br ((iK (jT a (A)) (O)).f1).length bI)/\w'.cell? (Z.add (((O)).toNat*2))=some (.bool ((iK B (O)).f0))/\w'.cell? ⟨(Z.add (((O)).toNat*2)).block,(Z.add (((O)).toNat*2)).off+1,none⟩=some (.slice bW ((iK B (O)).f1).length bx)) (ds:=[19,20]) #[false,false,false,false,false,false,false,false,false,false,false,false,false,false,false,false,false,false,false,false,false,false] (by kernel_rfl) rfl rfl ⟨(iy l.out 0).trans rfl,(iy l.out 1).trans rfl,b1,ar,aZ,ay,b9,aA⟩ (λhHeld=>?_);refine qx lI.RI lI.XQ (λiq jq=>?_)
   generalize wr.drew=fS at m J s c l HB U T W a4 a3 a2 b1 ar aZ ay b9 aA hHeld ⊢
   refine zp (i:=0) (N:=some 71) iq ?_
   refine zp (i:=1) (N:=some 72) iq ?_
   refine zp (i:=2) (N:=some 73) iq ?_
   refine zp (i:=3) (N:=some 74) iq ?_
   refine zp (i:=5) (N:=some 76) iq ?_
   refine zp (i:=6) (N:=some 77) iq ?_
   refine zp (i:=7) (N:=some 78) iq ?_
   refine zp (i:=8) (N:=some 79) iq ?_
   refine zp (i:=12) (N:=some 83) iq ?_
   refine zp (i:=13) (N:=some 84) iq ?_
   refine zp (i:=14) (N:=some 85) iq ?_
   refine zp (i:=15) (N:=some 86) iq ?_
   refine jI (i:=4) (N:=some 75) (v:=?_) (a':=?_) #[true,true,true,true,true,true,true,true,true,false,false,false,true,true,true,true,false,false,false,false,false,false] rfl rfl (jO iq.out jq.out (by kernel_rfl)) (λ_ _ _ h=>h) (Or.inl ⟨by rfl,?_⟩) hHeld ?_ ?_
   rotate_left
   ·rintro w' ⟨s0,s1,s2,s3,s4,s5,s6,s7⟩
    go_simp
    with_reducible rfl
   rotate_left
   ·simp only[Act.put,List.setIfInBounds_toArray,List.set_cons_zero,List.set_cons_succ,iI,iP]
    rfl
   refine jI (i:=9) (N:=some 80) (v:=?_) (a':=?_) #[true,true,true,true,true,true,true,true,true,true,false,false,true,true,true,true,false,false,false,false,false,false] rfl rfl (jO iq.out jq.out (by kernel_rfl)) (λ_ _ _ h=>h) (Or.inl ⟨by rfl,?_⟩) hHeld ?_ ?_
   rotate_left
   ·rintro w' ⟨s0,s1,s2,s3,s4,s5,s6,s7⟩
    go_simp
    with_reducible rfl
   rotate_left
   ·simp only[Act.put,List.setIfInBounds_toArray,List.set_cons_zero,List.set_cons_succ,iI,iP]
    rfl
   refine jI (i:=11) (N:=some 82) (v:=?_) (a':=?_) #[true,true,true,true,true,true,true,true,true,true,false,true,true,true,true,true,false,false,false,false,false,false] rfl rfl (jO iq.out jq.out (by kernel_rfl)) (λ_ _ _ h=>h) (Or.inl ⟨by rfl,?_⟩) hHeld ?_ ?_
   rotate_left
   ·rintro w' ⟨s0,s1,s2,s3,s4,s5,s6,s7⟩
    go_simp
    with_reducible rfl
   rotate_left
   ·simp only[Act.put,List.setIfInBounds_toArray,List.set_cons_zero,List.set_cons_succ,iI,iP]
    rfl
   refine jI (i:=16) (N:=some 87) (v:=?_) (a':=?_) #[true,true,true,true,true,true,true,true,true,true,false,true,true,true,true,true,true,false,false,false,false,false] rfl rfl (jO iq.out jq.out (by kernel_rfl)) (λ_ _ _ h=>h) (Or.inl ⟨by rfl,?_⟩) hHeld ?_ ?_
   rotate_left
   ·rintro w' ⟨s0,s1,s2,s3,s4,s5,s6,s7⟩
    go_simp
    with_reducible rfl
   rotate_left
   ·simp only[Act.put,List.setIfInBounds_toArray,List.set_cons_zero,List.set_cons_succ,iI,iP]
    rfl
   refine lN (i:=10) (N:=some 81) #[true,true,true,true,true,true,true,true,true,true,true,true,true,true,true,true,true,false,false,false,false,false] rfl rfl (kH iq.out (by kernel_rfl)) (by decide) (λK hK=>?_)
   refine nS Try.func125 (by kernel_rfl) rfl #[.agg #[.bool ((iK (jT a (A)) L).f0), .slice bq ((iK (jT a (A)) L).f1).length bL], .agg #[.bool ((iK (jT a (A)) (O)).f0), .slice br ((iK (jT a (A)) (O)).f1).length bI]] (by rfl) rfl rfl (by(try simp only[List.map_toArray,List.map_cons,List.map_nil]);first|done|(simp only[b5,aN];rfl)|rfl|(simp only[List.length_drop,List.length_take];rfl)) ?_
   with_reducible refine(yH.calls k3 ((iK (jT a (A)) L).f0) (λk_=>((w.heap.size<=k_)/\(some k_≠(.slice (some z) a.length P:Value).ownBlock/\(some k_≠(.slice (some Z) B.length ap:Value).ownBlock/\(some k_≠(.slice u q.length x:Value).ownBlock/\k_≠d))))) _ _ ((iK (jT a (A)) L).f1) ((iK (jT a (A)) (O)).f0) (λk_=>((w.heap.size<=k_)/\(some k_≠(.slice (some z) a.length P:Value).ownBlock/\(some k_≠(.slice (some Z) B.length ap:Value).ownBlock/\(some k_≠(.slice u q.length x:Value).ownBlock/\k_≠d))))) _ _ ((iK (jT a (A)) (O)).f1) cC cI _ ?ig ?ik fi.out).mono ?_
   (case ig=>exact U.out)
   (case ik=>exact T.out)
   rintro e fT ⟨fs,rfl,G,hb⟩
   have bz:=(hb.cell (World.block_lt_of_cell? _ _ (hHeld.2.2.1))).trans (hHeld.2.2.1)
   have bP:=(hb.cell (World.block_lt_of_cell? _ _ (hHeld.2.2.2.1))).trans (hHeld.2.2.2.1)
   have bv:=(hb.cell (World.block_lt_of_cell? _ _ (hHeld.2.2.2.2.1))).trans (hHeld.2.2.2.2.1)
   have bY:=(hb.cell (World.block_lt_of_cell? _ _ (hHeld.2.2.2.2.2.1))).trans (hHeld.2.2.2.2.2.1)
   have bu:=(hb.cell (World.block_lt_of_cell? _ _ (hHeld.2.2.2.2.2.2.1))).trans (hHeld.2.2.2.2.2.2.1)
   have bN:=(hb.cell (World.block_lt_of_cell? _ _ (hHeld.2.2.2.2.2.2.2))).trans (hHeld.2.2.2.2.2.2.2)
   refine⟨_,rfl,?_⟩
   replace J:=jy J hb
   replace U:=jy U hb
   replace T:=jy T hb
   replace W:=jy W hb
   have ae:=zk (Kd.qp (Kd.jf (ok':=λk_=>(w.heap.size<=k_)/\some k_≠(.slice (some z) a.length P:Value).ownBlock/\some k_≠(.slice (some Z) B.length ap:Value).ownBlock/\some k_≠(.slice u q.length x:Value).ownBlock/\k_≠d) G (λk_ iO=>⟨Or.elim iO (λhs_=>Or.elim hs_ (λhs_=>hs_.1) (λhs_=>hs_.1)) (λjF=>(Nat.le_trans (iQ (iH HB.out E.out)) jF)),Or.elim iO (λhs_=>Or.elim hs_ (λhs_=>hs_.2.1) (λhs_=>hs_.2.1)) (λjF=>(Kd.fresh' (Kd.mQ (zN m.out)) k_ jF)),Or.elim iO (λhs_=>Or.elim hs_ (λhs_=>hs_.2.2.1) (λhs_=>hs_.2.2.1)) (λjF=>(Kd.fresh' (Kd.mQ (zN s.out)) k_ jF)),Or.elim iO (λhs_=>Or.elim hs_ (λhs_=>hs_.2.2.2.1) (λhs_=>hs_.2.2.2.1)) (λjF=>(Kd.fresh' (Kd.qZ (zR c.out)) k_ jF)),Or.elim iO (λhs_=>Or.elim hs_ (λhs_=>hs_.2.2.2.2) (λhs_=>hs_.2.2.2.2)) (λjF=>(Kd.kT (g:=d) (o:= .cells #[.bool a5, .slice u q.length x] 113 (0,0)) (by(with_reducible repeat(first|refine iM ?_ _|refine iC ?_|refine iL ?_ _));exact l.out) k_ jF))⟩)) (iQ (iH HB.out E.out)))
   replace m:=kG m hb
   replace s:=kG s hb
   replace c:=jl c hb
   replace l:=yK l hb
   (try replace a4:=oO a4 hb)
   (try replace a3:=oO a3 hb)
   (try replace a2:=oO a2 hb)
   replace HB:=jg HB E hb
   (try clear hb)
   (try clear G)
   refine hK.out _ _ ⟨(iy l.out 0).trans rfl,(iy l.out 1).trans rfl,bz,bP,bv,bY,bu,bN⟩ (λhHeld=>?_)
   clear hK K
   refine mr (a':=?_) ?_ ?_
   rotate_left
   ·show Act.put _ (some 81) _=_
    simp only[Act.put,List.setIfInBounds_toArray,List.set_cons_zero,List.set_cons_succ,iI,iP]
    rfl
   refine lN (i:=17) (N:=some 88) #[true,true,true,true,true,true,true,true,true,true,true,true,true,true,true,true,true,true,false,false,false,false] rfl rfl (kH iq.out (by kernel_rfl)) (by decide) (λK hK=>?_)
   refine nS Try.func126 (by kernel_rfl) rfl #[.agg #[.bool a5, .slice u q.length x], .agg #[.bool ((iK B (O)).f0), .slice bW ((iK B (O)).f1).length bx]] (by rfl) rfl rfl (by(try simp only[List.map_toArray,List.map_cons,List.map_nil]);first|done|(simp only[aN];rfl)|rfl|(simp only[List.length_drop,List.length_take];rfl)) ?_
   with_reducible refine(sZ.calls k3 a5 (λk_=>some k_=(.slice u q.length x:Value).ownBlock) _ _ q ((iK B (O)).f0) (λk_=>(((w.heap.size<=k_)/\(some k_≠(.slice (some z) a.length P:Value).ownBlock/\(some k_≠(.slice u q.length x:Value).ownBlock/\k_≠d)))/\some k_≠(.slice (some Z) B.length ap:Value).ownBlock)) _ _ ((iK B (O)).f1) cR ao _ ?ig ?ik fk.out).mono ?_
   (case ig=>exact Kd.vT (Kd.uf rfl (Kd.mM (Kd.jL (Kd.jL (c.out) (Kd.jQ m.out) (by decide)) (Kd.jQ s.out) (by decide)) l.out (by decide))))
   (case ik=>exact W.out)
   rintro e fK ⟨fD,rfl,G,hb⟩
   have bz:=(hb.cell (World.block_lt_of_cell? _ _ (hHeld.2.2.1))).trans (hHeld.2.2.1)
   have bP:=(hb.cell (World.block_lt_of_cell? _ _ (hHeld.2.2.2.1))).trans (hHeld.2.2.2.1)
   have bv:=(hb.cell (World.block_lt_of_cell? _ _ (hHeld.2.2.2.2.1))).trans (hHeld.2.2.2.2.1)
   have bY:=(hb.cell (World.block_lt_of_cell? _ _ (hHeld.2.2.2.2.2.1))).trans (hHeld.2.2.2.2.2.1)
   have bu:=(hb.cell (World.block_lt_of_cell? _ _ (hHeld.2.2.2.2.2.2.1))).trans (hHeld.2.2.2.2.2.2.1)
   have bN:=(hb.cell (World.block_lt_of_cell? _ _ (hHeld.2.2.2.2.2.2.2))).trans (hHeld.2.2.2.2.2.2.2)
   refine⟨_,rfl,?_⟩
   replace m:=o7 m G hb
   replace J:=mO J G hb
   replace s:=o7 s G hb
   replace U:=mO U G hb
   replace T:=mO T G hb
   replace W:=mO W G hb
   replace ae:=mO ae G hb
   replace G:=Kd.oD (M:=λk_=>(w.heap.size<=k_)) (yt G) (iQ (iH HB.out E.out)) (λk_ h_=>h_)
   replace G:=yn G c
   have a6:=kY G HB E
   replace c:=iG c G hb
   replace l:=yK l hb
   (try replace a4:=oO a4 hb)
   (try replace a3:=oO a3 hb)
   (try replace a2:=oO a2 hb)
   replace HB:=jg HB E hb
   (try clear hb)
   (try clear G)
   obtain⟨e9,eF,dj⟩:=Kd.ku ae.out
   (first|subst dj|(injection dj with bZ c_ c1;have cJ:=bZ.symm;have cD:=c1.symm;clear bZ c_ c1;subst cJ;subst cD))
   obtain⟨aq,aJ,d5⟩:=Kd.iD a6.out
   (first|subst d5|(injection d5 with bZ c_ c1;have cJ:=bZ.symm;have cD:=c1.symm;clear bZ c_ c1;subst cJ;subst cD))
   refine hK.out _ _ ⟨(iy l.out 0).trans rfl,(iy l.out 1).trans rfl,bz,bP,bv,bY,bu,bN⟩ (λhHeld=>?_)
   clear hK K
   refine mr (a':=?_) ?_ ?_
   rotate_left
   ·show Act.put _ (some 88) _=_
    simp only[Act.put,List.setIfInBounds_toArray,List.set_cons_zero,List.set_cons_succ,iI,iP]
    rfl
   refine lN (i:=18) (N:=some 89) #[true,true,true,true,true,true,true,true,true,true,true,true,true,true,true,true,true,true,true,false,false,false] rfl rfl (kH iq.out (by kernel_rfl)) (by decide) (λK hK=>?_)
   refine nS Try.func125 (by kernel_rfl) rfl #[.agg #[.bool cC, .slice e9 cI.length eF], .agg #[.bool cR, .slice aq ao.length aJ]] (by rfl) rfl rfl (by(try simp only[List.map_toArray,List.map_cons,List.map_nil]);first|done|rfl|(simp only[List.length_drop,List.length_take];rfl)) ?_
   with_reducible refine(yH.calls k3 cC (λk_=>(((w.heap.size<=k_)/\(some k_≠(.slice (some z) a.length P:Value).ownBlock/\(some k_≠(.slice (some Z) B.length ap:Value).ownBlock/\(some k_≠(.slice u q.length x:Value).ownBlock/\k_≠d))))/\some k_≠(.slice aq ao.length aJ:Value).ownBlock)) _ _ cI cR (λk_=>some k_=(.slice aq ao.length aJ:Value).ownBlock) _ _ ao bJ b_ _ ?ig ?ik fr.out).mono ?_
   (case ig=>exact ae.out)
   (case ik=>exact Kd.vT (Kd.uf rfl (Kd.mM (Kd.jL (Kd.jL (a6.out) (Kd.jQ m.out) (by decide)) (Kd.jQ s.out) (by decide)) l.out (by decide))))
   rintro e fO ⟨fx,rfl,G,hb⟩
   have bz:=(hb.cell (World.block_lt_of_cell? _ _ (hHeld.2.2.1))).trans (hHeld.2.2.1)
   have bP:=(hb.cell (World.block_lt_of_cell? _ _ (hHeld.2.2.2.1))).trans (hHeld.2.2.2.1)
   have bv:=(hb.cell (World.block_lt_of_cell? _ _ (hHeld.2.2.2.2.1))).trans (hHeld.2.2.2.2.1)
   have bY:=(hb.cell (World.block_lt_of_cell? _ _ (hHeld.2.2.2.2.2.1))).trans (hHeld.2.2.2.2.2.1)
   have bu:=(hb.cell (World.block_lt_of_cell? _ _ (hHeld.2.2.2.2.2.2.1))).trans (hHeld.2.2.2.2.2.2.1)
   have bN:=(hb.cell (World.block_lt_of_cell? _ _ (hHeld.2.2.2.2.2.2.2))).trans (hHeld.2.2.2.2.2.2.2)
   refine⟨_,rfl,?_⟩
   replace J:=jy J hb
   replace U:=jy U hb
   replace T:=jy T hb
   replace W:=jy W hb
   replace ae:=jy ae hb
   have aQ:=zk (Kd.qp (Kd.jf (ok':=λk_=>(w.heap.size<=k_)/\some k_≠(.slice (some z) a.length P:Value).ownBlock/\some k_≠(.slice (some Z) B.length ap:Value).ownBlock/\some k_≠(.slice u q.length x:Value).ownBlock/\k_≠d) G (λk_ iO=>⟨Or.elim iO (λhs_=>Or.elim hs_ (λhs_=>hs_.1.1) (λhs_=>((Kd.mM (Kd.jL (Kd.jL (a6.out) (Kd.jQ m.out) (by decide)) (Kd.jQ s.out) (by decide)) l.out (by decide)).1 k_ hs_.symm).1.1.1.1.1)) (λjF=>(Nat.le_trans (iQ (iH HB.out E.out)) jF)),Or.elim iO (λhs_=>Or.elim hs_ (λhs_=>hs_.1.2.1) (λhs_=>((Kd.mM (Kd.jL (Kd.jL (a6.out) (Kd.jQ m.out) (by decide)) (Kd.jQ s.out) (by decide)) l.out (by decide)).1 k_ hs_.symm).1.1.2)) (λjF=>(Kd.fresh' (Kd.mQ (zN m.out)) k_ jF)),Or.elim iO (λhs_=>Or.elim hs_ (λhs_=>hs_.1.2.2.1) (λhs_=>((Kd.mM (Kd.jL (Kd.jL (a6.out) (Kd.jQ m.out) (by decide)) (Kd.jQ s.out) (by decide)) l.out (by decide)).1 k_ hs_.symm).1.2)) (λjF=>(Kd.fresh' (Kd.mQ (zN s.out)) k_ jF)),Or.elim iO (λhs_=>Or.elim hs_ (λhs_=>hs_.1.2.2.2.1) (λhs_=>((Kd.mM (Kd.jL (Kd.jL (a6.out) (Kd.jQ m.out) (by decide)) (Kd.jQ s.out) (by decide)) l.out (by decide)).1 k_ hs_.symm).1.1.1.2)) (λjF=>(Kd.fresh' (Kd.qZ (zR c.out)) k_ jF)),Or.elim iO (λhs_=>Or.elim hs_ (λhs_=>hs_.1.2.2.2.2) (λhs_=>((Kd.mM (Kd.jL (Kd.jL (a6.out) (Kd.jQ m.out) (by decide)) (Kd.jQ s.out) (by decide)) l.out (by decide)).1 k_ hs_.symm).2)) (λjF=>(Kd.kT (g:=d) (o:= .cells #[.bool a5, .slice u q.length x] 113 (0,0)) (by(with_reducible repeat(first|refine iM ?_ _|refine iC ?_|refine iL ?_ _));exact l.out) k_ jF))⟩)) (iQ (iH HB.out E.out)))
   replace m:=kG m hb
   replace s:=kG s hb
   replace c:=jl c hb
   replace a6:=jl a6 hb
   replace l:=yK l hb
   (try replace a4:=oO a4 hb)
   (try replace a3:=oO a3 hb)
   (try replace a2:=oO a2 hb)
   replace HB:=jg HB E hb
   (try clear hb)
   (try clear G)
   obtain⟨ev,ef,db⟩:=Kd.ku aQ.out
   (first|subst db|(injection db with bZ c_ c1;have cJ:=bZ.symm;have cD:=c1.symm;clear bZ c_ c1;subst cJ;subst cD))
   refine hK.out _ _ ⟨(iy l.out 0).trans rfl,(iy l.out 1).trans rfl,bz,bP,bv,bY,bu,bN⟩ (λhHeld=>?_)
   clear hK K
   refine mr (a':=?_) ?_ ?_
   rotate_left
   ·show Act.put _ (some 89) _=_
    simp only[Act.put,List.setIfInBounds_toArray,List.set_cons_zero,List.set_cons_succ,iI,iP]
    rfl
   refine xR (i:=19) (N:=some 90) #[true,true,true,true,true,true,true,true,true,true,true,true,true,true,true,true,true,true,true,true,false,false] rfl rfl (kH iq.out (by kernel_rfl)) (by decide) (λK hK=>?_)
   refine KQ (w1:=?_) (v:=?_) (by rfl) rfl ?_ ?_
   rotate_left 2
   ·go_simp
    constructor
    ·rfl
    rfl
   refine hK.out _ _ ?_
   clear hK K
   refine mr (a':=?_) ?_ ?_
   rotate_left
   ·show Act.put _ (some 90) _=_
    simp only[Act.put,List.setIfInBounds_toArray,List.set_cons_zero,List.set_cons_succ,iI,iP]
    rfl
   refine xR (i:=20) (N:=some 91) #[true,true,true,true,true,true,true,true,true,true,true,true,true,true,true,true,true,true,true,true,true,false] rfl rfl (kH iq.out (by kernel_rfl)) (by decide) (λK hK=>?_)
   refine Kd.Qw lq (w0:=w) w.heap.size (by rfl) (.tmp 71) (.tmp 90) 114 113 (.agg #[(.bool false),(.slice none 0 0)]) 32 rfl Try.underlying114 Gg rfl (by decide) (by omega) (.slice (some Z) B.length ap) B (⟨bJ,b_⟩:jb) [.bool bJ, .slice ev b_.length ef] (λk_=>(w.heap.size<=k_)/\some k_≠(.slice (some z) a.length P:Value).ownBlock/\some k_≠(.slice u q.length x:Value).ownBlock/\k_≠d) (λk_=>((λk_=>(w.heap.size<=k_)/\some k_≠(.slice (some z) a.length P:Value).ownBlock/\some k_≠(.slice u q.length x:Value).ownBlock/\k_≠d)) k_/\some k_≠(.slice (some Z) B.length ap:Value).ownBlock) rfl rfl ?aP (λ_ hk=>hk) ?aF ?aO ?aB ?aS ?aL ?_
   (case aP=>exact(AL _ _ (⟨bJ,b_⟩:jb) (Kd.jd (Kd.jf (ok':=(λk_=>((λk_=>(w.heap.size<=k_)/\some k_≠(.slice (some z) a.length P:Value).ownBlock/\some k_≠(.slice u q.length x:Value).ownBlock/\k_≠d)) k_/\some k_≠(.slice (some Z) B.length ap:Value).ownBlock)) (aQ.out) (λk_ hk=>by exact⟨⟨hk.1,⟨hk.2.1,⟨hk.2.2.2.1,hk.2.2.2.2⟩⟩⟩,hk.2.2.1⟩))).2.1 (Kd.xG (Kd.jf (ok':=(λk_=>((λk_=>(w.heap.size<=k_)/\some k_≠(.slice (some z) a.length P:Value).ownBlock/\some k_≠(.slice u q.length x:Value).ownBlock/\k_≠d)) k_/\some k_≠(.slice (some Z) B.length ap:Value).ownBlock)) (aQ.out) (λk_ hk=>by exact⟨⟨hk.1,⟨hk.2.1,⟨hk.2.2.2.1,hk.2.2.2.2⟩⟩⟩,hk.2.2.1⟩)))))
   (case aB=>exact(iH HB.out E.out))
   (case aF=>exact(λk_ hk=>⟨(Nat.le_trans (iQ (iH HB.out E.out)) hk),Kd.fresh' (Kd.mQ (zN m.out)) k_ hk,Kd.fresh' (Kd.qZ (zR c.out)) k_ hk,Kd.kT (g:=d) (o:= .cells #[.bool a5, .slice u q.length x] 113 (0,0)) (by(with_reducible repeat(first|refine iM ?_ _|refine iC ?_|refine iL ?_ _));exact l.out) k_ hk⟩))
   (case aO=>exact(by(with_reducible repeat(first|apply Kd.jK|apply Kd.jJ|apply Kd.jA));exact Kd.ji s.out (λ_ hk=>⟨hk.1.1,⟨hk.1.2.1,⟨hk.1.2.2.1,hk.1.2.2.2⟩⟩⟩)))
   (case aS=>exact(iQ (iH HB.out E.out)))
   (case aL=>have:=da.out;omega)
   intro fv fI ho hb hg hat
   rw[<-dM.out] at ho
   replace m:=zk (Kd.zJ (ok:=(λk_=>(w.heap.size<=k_)/\some k_≠(.slice u q.length x:Value).ownBlock/\some k_≠(.slice aq ao.length aJ:Value).ownBlock/\k_≠d)) (by(with_reducible repeat(first|apply Kd.jK|apply Kd.jJ|apply Kd.jA));exact Kd.ji m.out (λ_ hk=>⟨⟨hk.1.1,⟨hk.1.2.2.1,⟨hk.2,hk.1.2.2.2⟩⟩⟩,hk.1.2.1⟩)) hg hat)
   replace J:=zk (Kd.rJ (ok:=(λk_=>(w.heap.size<=k_)/\some k_≠(.slice (some z) a.length P:Value).ownBlock/\some k_≠(.slice u q.length x:Value).ownBlock/\some k_≠(.slice aq ao.length aJ:Value).ownBlock/\k_≠d)) (by(with_reducible repeat(first|apply Kd.nH|apply Kd.nG|apply Kd.lV));exact Kd.jf J.out (λ_ hk=>⟨⟨hk.1.1,⟨hk.1.2.1,⟨hk.1.2.2.2.1,⟨hk.2,hk.1.2.2.2.2⟩⟩⟩⟩,hk.1.2.2.1⟩)) hg hat)
   replace c:=zk (Kd.vz (zR c.out) (Kd.jQ (zN s.out)) (by decide) hg)
   replace l:=zk (xU (g:=d) (o:= .cells #[.bool a5, .slice u q.length x] 113 (0,0)) (by(with_reducible repeat(first|refine iM ?_ _|refine iC ?_|refine iL ?_ _));exact l.out) hg (Kd.Yz s.out (λ_ hk=>hk.1.2.2.2)))
   replace U:=zk (Kd.rJ (ok:=(λk_=>(w.heap.size<=k_)/\some k_≠(.slice (some z) a.length P:Value).ownBlock/\some k_≠(.slice u q.length x:Value).ownBlock/\some k_≠(.slice aq ao.length aJ:Value).ownBlock/\k_≠d)) (by(with_reducible repeat(first|apply Kd.nH|apply Kd.nG|apply Kd.lV));exact Kd.jf U.out (λ_ hk=>⟨⟨hk.1.1,⟨hk.1.2.1,⟨hk.1.2.2.2.1,⟨hk.2,hk.1.2.2.2.2⟩⟩⟩⟩,hk.1.2.2.1⟩)) hg hat)
   replace T:=zk (Kd.rJ (ok:=(λk_=>(w.heap.size<=k_)/\some k_≠(.slice (some z) a.length P:Value).ownBlock/\some k_≠(.slice u q.length x:Value).ownBlock/\some k_≠(.slice aq ao.length aJ:Value).ownBlock/\k_≠d)) (by(with_reducible repeat(first|apply Kd.nH|apply Kd.nG|apply Kd.lV));exact Kd.jf T.out (λ_ hk=>⟨⟨hk.1.1,⟨hk.1.2.1,⟨hk.1.2.2.2.1,⟨hk.2,hk.1.2.2.2.2⟩⟩⟩⟩,hk.1.2.2.1⟩)) hg hat)
   replace W:=zk (Kd.rJ (ok:=(λk_=>(w.heap.size<=k_)/\some k_≠(.slice (some z) a.length P:Value).ownBlock/\some k_≠(.slice u q.length x:Value).ownBlock/\some k_≠(.slice aq ao.length aJ:Value).ownBlock/\k_≠d)) (by(with_reducible repeat(first|apply Kd.nH|apply Kd.nG|apply Kd.lV));exact Kd.jf W.out (λ_ hk=>⟨⟨hk.1.1.1,⟨hk.1.1.2.1,⟨hk.1.1.2.2.1,⟨hk.2,hk.1.1.2.2.2⟩⟩⟩⟩,hk.1.2⟩)) hg hat)
   replace ae:=zk (Kd.rJ (ok:=(λk_=>(w.heap.size<=k_)/\some k_≠(.slice (some z) a.length P:Value).ownBlock/\some k_≠(.slice u q.length x:Value).ownBlock/\some k_≠(.slice aq ao.length aJ:Value).ownBlock/\k_≠d)) (by(with_reducible repeat(first|apply Kd.nH|apply Kd.nG|apply Kd.lV));exact Kd.jf ae.out (λ_ hk=>⟨⟨hk.1.1,⟨hk.1.2.1,⟨hk.1.2.2.2.1,⟨hk.2,hk.1.2.2.2.2⟩⟩⟩⟩,hk.1.2.2.1⟩)) hg hat)
   replace a6:=zk (Kd.vz (zR a6.out) (Kd.jQ (zN s.out)) (by decide) hg)
   replace aQ:=zk (Kd.rJ (ok:=(λk_=>(w.heap.size<=k_)/\some k_≠(.slice (some z) a.length P:Value).ownBlock/\some k_≠(.slice u q.length x:Value).ownBlock/\k_≠d)) (by(with_reducible repeat(first|apply Kd.nH|apply Kd.nG|apply Kd.lV));exact Kd.jf aQ.out (λ_ hk=>⟨⟨hk.1,⟨hk.2.1,⟨hk.2.2.2.1,hk.2.2.2.2⟩⟩⟩,hk.2.2.1⟩)) hg hat)
   replace HB:=zk (hb)
   have dz:=zk (ho)
   clear s
   clear ho hb hg hat
   refine hK.out _ _ ?_
   clear hK K
   refine mr (a':=?_) ?_ ?_
   rotate_left
   ·show Act.put _ (some 91) _=_
    simp only[Act.put,List.setIfInBounds_toArray,List.set_cons_zero,List.set_cons_succ,iI,iP]
    rfl
   refine zp (i:=21) (N:=some 14) iq ?_
   refine ql (qF iq.out (by kernel_rfl)) ?_
   try go_wp2
   go_roundg k3
   case measure=>have:=d1.out;have:=dT.out;have:=dQ.out;omega
   case rel=>exact⟨(eG),(wrap64 (L+1)),zF,H',⟨by have:=d1.out;have:=dT.out;have:=dQ.out;omega⟩,⟨by(try simp only[y]);(with_reducible repeat(first|apply Kd.jK|apply Kd.jJ|apply Kd.jA));exact Kd.ji m.out (λ_ hk=>⟨hk.1.1,⟨hk.2,⟨hk.1.2.1,hk.1.2.2.2⟩⟩⟩)⟩,⟨by(try simp only[y]);(with_reducible repeat(first|apply Kd.nH|apply Kd.nG|apply Kd.lV));exact Kd.jf J.out (λ_ hk=>⟨hk.1.1,⟨hk.1.2.1,⟨hk.2,⟨hk.1.2.2.1,hk.1.2.2.2.2⟩⟩⟩⟩)⟩,⟨by(try simp only[y]);(with_reducible repeat(first|apply Kd.jK|apply Kd.jJ|apply Kd.jA));exact dz.out⟩,⟨by(try simp only[y]);(with_reducible repeat(first|apply Kd.iT|apply Kd.iU|apply Kd.iJ));exact Kd.iZ c.out (λ_ hk=>hk.1)⟩,⟨by(try simp only[y]);(with_reducible repeat(first|refine iM ?_ _|refine iC ?_|refine iL ?_ _));exact l.out⟩,⟨iH HB.out E.out⟩⟩
  replace H:=zg H
  obtain⟨eK,H⟩:=H
  have de:=zk eK
  clear eK
  obtain⟨ew,bU⟩:∃y_:List (List (jb)),y_=(a++[B]):=⟨_,rfl⟩
  rw[<-bU] at H
  have d7:=zk bU
  clear bU
  have H':=zk H
  clear H
  obtain⟨dh,d3,rfl⟩:=Kd.oG s.out
  go_wp2_with (first|((with_reducible refine qE (b:= .append) (xs:= #[.tmp 92, .tmp 94]) rfl ?_);at_builtin;refine Kd.BB (Kd.slice 113 lq) (w0:=w) w.heap.size rfl (.tmp 92) (.tmp 94) 115 114 (.slice none 0 0) 24 rfl Try.underlying115 VM rfl (by decide) (by omega) (.slice (some z) a.length P) a B [.slice dh B.length d3] (λk_=>(w.heap.size<=k_)/\some k_≠(.slice u q.length x:Value).ownBlock/\k_≠d) (λk_=>((λk_=>(w.heap.size<=k_)/\some k_≠(.slice u q.length x:Value).ownBlock/\k_≠d)) k_/\some k_≠(.slice (some z) a.length P:Value).ownBlock) rfl rfl ?aP (λ_ hk=>hk) ?aF ?aO ?aB ?aS ?aL ?_;(case aP=>exact(Kd.yj (Kd.jR (Kd.ji (ok':=(λk_=>((λk_=>(w.heap.size<=k_)/\some k_≠(.slice u q.length x:Value).ownBlock/\k_≠d)) k_/\some k_≠(.slice (some z) a.length P:Value).ownBlock)) (s.out) (λk_ hk=>by exact⟨⟨hk.1,⟨hk.2.2.1,hk.2.2.2⟩⟩,hk.2.1⟩))).2.1 (Kd.JO (Kd.ji (ok':=(λk_=>((λk_=>(w.heap.size<=k_)/\some k_≠(.slice u q.length x:Value).ownBlock/\k_≠d)) k_/\some k_≠(.slice (some z) a.length P:Value).ownBlock)) (s.out) (λk_ hk=>by exact⟨⟨hk.1,⟨hk.2.2.1,hk.2.2.2⟩⟩,hk.2.1⟩)))));(case aB=>exact(iH HB.out E.out));(case aF=>exact(λk_ hk=>⟨(Nat.le_trans (iQ (iH HB.out E.out)) hk),Kd.fresh' (Kd.qZ (zR c.out)) k_ hk,Kd.kT (g:=d) (o:= .cells #[.bool a5, .slice u q.length x] 113 (0,0)) (by(with_reducible repeat(first|refine iM ?_ _|refine iC ?_|refine iL ?_ _));exact l.out) k_ hk⟩));(case aO=>exact(by(with_reducible repeat(first|apply Kd.jK|apply Kd.jJ|apply Kd.jA));exact Kd.ji m.out (λ_ hk=>⟨hk.1,⟨hk.2.2.1,hk.2.2.2⟩⟩)));(case aS=>exact(iQ (iH HB.out E.out)));(case aL=>have:=de.out;omega);intro fh fN ho hb hg hat;rw[<-d7.out] at ho;replace J:=zk (Kd.rJ (ok:=(λk_=>(w.heap.size<=k_)/\some k_≠(.slice dh B.length d3:Value).ownBlock/\some k_≠(.slice u q.length x:Value).ownBlock/\k_≠d)) (by(with_reducible repeat(first|apply Kd.nH|apply Kd.nG|apply Kd.lV));exact Kd.jf J.out (λ_ hk=>⟨⟨hk.1,⟨hk.2.2.1,⟨hk.2.2.2.1,hk.2.2.2.2⟩⟩⟩,hk.2.1⟩)) hg hat);replace c:=zk (Kd.vz (zR c.out) (Kd.jQ (zN m.out)) (by decide) hg);replace l:=zk (xU (g:=d) (o:= .cells #[.bool a5, .slice u q.length x] 113 (0,0)) (by(with_reducible repeat(first|refine iM ?_ _|refine iC ?_|refine iL ?_ _));exact l.out) hg (Kd.Bz m.out l.out (by decide)));replace HB:=zk (hb);have d8:=zk (ho);clear m s;clear ho hb hg hat))
  go_roundg k3
  case measure=>have:=d1.out;have:=dT.out;have:=dQ.out;omega
  case rel=>exact⟨(ew),(wrap64 (aK+1)),zF,H',⟨by have:=d1.out;have:=dT.out;have:=dQ.out;omega⟩,⟨by(try simp only[y]);(with_reducible repeat(first|apply Kd.jK|apply Kd.jJ|apply Kd.jA));exact d8.out⟩,⟨by(try simp only[y]);(with_reducible repeat(first|apply Kd.iT|apply Kd.iU|apply Kd.iJ));exact c.out⟩,⟨by(try simp only[y]);(with_reducible repeat(first|refine iM ?_ _|refine iC ?_|refine iL ?_ _));exact l.out⟩,⟨iH HB.out E.out⟩⟩
 obtain rfl:=Option.some.inj H
 go_wp2
 go_ret
 exact⟨_,by first|rfl|(simp [kV,kU]<;>rfl)|(simp only[<-ck];first|rfl|(simp [kV,kU]<;>rfl))|(simp [*,kV,kU]<;>rfl),by(with_reducible repeat(first|apply Kd.jK|apply Kd.jJ|apply Kd.jA));exact Kd.ji m.out (λ_ hk=>hk.1),iH HB.out E.out⟩
def mW.T10:Bool×List (List Nat×List Nat):=(true,[([],[]),([],[]),([],[]),([],[]),([2,3],[2,3]),([4],[4]),([],[]),([],[]),([],[]),([7,8],[7,8]),([9],[9]),([],[]),([10,11],[10,11]),([12],[12]),([6,13],[6,13]),([5,14,14],[5,14]),([0,1,0,1,2,3,4,5,6,7,8,9,10,11,12,13,14,15],[0,1]),([16,15,15,0,1,2,3,4,5,6,7,8,9,10,11,12,13,14,15],[15,16])])
def mW.B10:List Nat:=[0,0,0,0,12,28,0,0,0,384,896,0,3968,8064,16320,32764,65535,131071]
theorem mW.DZ:lM .any (opsOf Try.f104 10)=mW.T10:=by kernel_rfl
theorem mW.EP:qh mW.T10.2 mW.B10=true:=by kernel_rfl
theorem mW.calls(k:Nat)(a0:Int)(A1:Option Addr)(c1:Nat)(l1:List (jb))(r:List (jb))(w:World)(cZ:Kd.C lq w A1 l1.length l1)(d9:l1.length<=c1)(h:mW.f k a0 l1=some r):
 Calls Try.prog 104 #[.int .i64 a0, .slice A1 l1.length c1] w λe w'=>∃d2:Value,e= .returned (d2)/\Kd.N lq 113 w' w.heap.size (λk_=>(w.heap.size<=k_)) d2 r/\Below w.heap.size w w':=by
 have d6:=Try.underlying113
 have d4:=zk cZ
 have dv:=zk d9
 clear cZ d9
 have HB:=zk (Below.refl w.heap.size w)
 have H:=h
 clear h
 unfold mW.f at H
 replace H:=zb H
 obtain⟨T,A3,H⟩:=H
 replace H:=zg H
 obtain⟨c4,H⟩:=H
 have cT:=eq_true c4
 have cD:=decide_eq_true c4
 clear c4
 replace H:=zg H
 obtain⟨c5,H⟩:=H
 have cC:=eq_true c5
 have cE:=decide_eq_true c5
 clear c5
 obtain⟨ag,aL⟩:∃y_:List (jb),y_=(List.replicate ((l1.length:Int):Int).toNat oN):=⟨_,rfl⟩
 rw[<-aL] at H
 have b5:=zk aL
 clear aL
 have H':=zk H
 clear H
 go_enter Try.func104,Try.ntmps104
 go_wp2_with (first|((with_reducible refine gC 94 ?_);refine zG (some 14) Try.func94 #[.int .i64 a0, .int .i64 (wrap64 ((l1.length:Int)-1))] ?_;(with_reducible refine(lI.calls k a0 (wrap64 ((l1.length:Int)-1)) T _ A3.out).mono ?_);rintro e w6 ⟨al,rfl,ah,hb⟩;refine⟨_,rfl,?_⟩;have ax:=zk (Kd.qf (Kd.ji (ok':=λk_=>(w.heap.size<=k_)) ah (λk_ iO=>(Nat.le_trans (iQ (zB HB.out)) iO))) (iQ (zB HB.out)));replace HB:=yS HB hb;(try clear hb ah))|((with_reducible refine jc (N:=17) rfl ?_);refine Kd.Qr lq _ 113 rfl (N':=17) rfl 114 _ _ rfl (l1.length:Int) rfl rfl Try.underlying114 (.agg #[(.bool false),(.slice none 0 0)]) 32 Gg rfl (by decide) (by omega) oN (ok:=λk_=>w6.heap.size<=k_) (je:=λ_=>False) (AL _ _ oN (Nat.le_refl _) (Kd.JU _ _ _)) (λ_ hk=>hk.elim) (Nat.le_refl _) zd (Nat.le_trans (Nat.mul_le_mul_right _ (zd:(l1.length:Int).toNat<=8796093022208)) (by omega)) (Below.refl _ _) (Nat.le_refl _) ?_;intro dh w7 bx hb jw jv;clear jw jv;(first|rw[<-b5.out] at bx|(simp only[Int.reduceToNat] at bx;rw[<-b5.out] at bx));have b7:=zk (Kd.qf (Kd.ji (ok':=λk_=>(w.heap.size<=k_)/\some k_≠(al:Value).ownBlock) bx (λk_ iO=>⟨(Nat.le_trans (iQ (zB HB.out)) iO),(Kd.fresh' (Kd.mQ (zN ax.out)) k_ iO)⟩)) (iQ (zB HB.out)));replace ax:=zk (Kd.rf (zN ax.out) (Kd.vC bx) hb);replace HB:=yS HB hb;clear hb bx;obtain⟨bA,aT,rfl⟩:=Kd.oG b7.out))
 go_loopg [20] k (λkq dq w'=>∃(aA:List (jb)) (u:Int),dq= .int .i64 u/\dw (mW.l0 kq l1 T aA (ag.length:Int) u=some r)/\dw (kq<=k)/\dw (Kd.N (Kd.slice 113 lq) 114 w' w.heap.size (λk_=>(w.heap.size<=k_)/\some k_≠((.slice bA ag.length aT):Value).ownBlock) al T)/\dw (Kd.N lq 113 w' w.heap.size (λk_=>(w.heap.size<=k_)/\some k_≠(al:Value).ownBlock) (.slice bA ag.length aT) aA)/\dw (Below w.heap.size w w'))
 case atStart=>exact⟨(ag),(0),zF,H',⟨Nat.le_refl _⟩,⟨zN ax.out⟩,⟨zN b7.out⟩,⟨zB HB.out⟩⟩
 clear H'
 (try clear cT cD cC cE)
 obtain⟨aA,u,rfl,HA,bB,y,x,HB⟩:=hrel
 have I:=(Kd.jR x.out).1
 rw[I] at x
 (try simp only[I])
 (try simp only[I] at y)
 cases gk with|zero=>exact absurd HA.out (by simp [mW.l0])|succ k1=>?_
 have H:=HA.out
 clear HA
 simp only[mW.l0] at H
 replace H:=zi H
 rcases H with⟨c10,H⟩|⟨c10,H⟩
 ·have ar:=decide_eq_true c10
  (try(have aO:=ar;simp only[I] at aO))
  clear c10
  have H':=zk H
  clear H
  go_wp2
  go_loopg [25] k1 (λkq dj w'=>∃(P:List (jb)) (q:Int),dj= .int .i64 q/\dw (mW.l1 kq l1 T P u (ag.length:Int) u l1 (l1.length:Int) q=some r)/\dw (kq<=k1)/\dw (Kd.N (Kd.slice 113 lq) 114 w' w.heap.size (λk_=>(w.heap.size<=k_)/\some k_≠((.slice bA aA.length aT):Value).ownBlock) al T)/\dw (Kd.N lq 113 w' w.heap.size (λk_=>(w.heap.size<=k_)/\some k_≠(al:Value).ownBlock) (.slice bA aA.length aT) P)/\dw (Below w.heap.size w w'))
  case atStart=>exact⟨(aA),(0),zF,H',⟨Nat.le_refl _⟩,⟨by(try simp only[I]);(with_reducible repeat(first|apply Kd.jK|apply Kd.jJ|apply Kd.jA));exact y.out⟩,⟨by(try simp only[I]);(with_reducible repeat(first|apply Kd.jK|apply Kd.jJ|apply Kd.jA));exact x.out⟩,⟨zB HB.out⟩⟩
  clear H'
  (try clear ar)
  obtain⟨P,q,rfl,HA,bz,y,x,HB⟩:=hrel
  have J:=(Kd.jR x.out).1
  rw[J] at x
  (try simp only[J])
  (try simp only[J] at y)
  cases gk with|zero=>exact absurd HA.out (by simp [mW.l1])|succ k2=>?_
  have H:=HA.out
  clear HA
  simp only[mW.l1] at H
  replace H:=zi H
  rcases H with⟨bV,H⟩|⟨bV,H⟩
  ·have aE:=decide_eq_true bV
   (try(have aK:=aE;simp only[I,J] at aK))
   clear bV
   replace H:=iV H
   obtain⟨db,H⟩:=H
   replace H:=zg H
   obtain⟨c_,H⟩:=H
   have bE:=decide_eq_true c_
   (try(have bY:=bE;simp only[I,J] at bY))
   clear c_
   replace H:=zi H
   rcases H with⟨c0,H⟩|⟨c0,H⟩
   ·have aN:decide (0<(((iK l1 q).f1).length:Int))=true:=decide_eq_true c0
    (try(have aQ:=aN;simp only[I,J] at aQ))
    have aI:decide (0<((iK l1 q).f1).length)=true:=decide_eq_true (by omega)
    (try(have aW:=aI;simp only[I,J] at aW))
    clear c0
    replace H:=iV H
    obtain⟨d8,H⟩:=H
    replace H:=zg H
    obtain⟨da,H⟩:=H
    have bZ:=decide_eq_true da
    (try(have bQ:=bZ;simp only[I,J] at bQ))
    clear da
    replace H:=zg H
    obtain⟨d1,H⟩:=H
    have bU:=decide_eq_true d1
    (try(have bK:=bU;simp only[I,J] at bK))
    clear d1
    replace H:=zg H
    obtain⟨d3,H⟩:=H
    have bM:=decide_eq_true d3
    (try(have bR:=bM;simp only[I,J] at bR))
    clear d3
    replace H:=zb H
    obtain⟨⟨bn,az⟩,dp,H⟩:=H
    dsimp only at H
    replace H:=zb H
    obtain⟨⟨aC,aB⟩,de,H⟩:=H
    dsimp only at H
    obtain⟨cU,aU⟩:∃y_:List (jb),y_=(P.set (u:Int).toNat (⟨aC,aB⟩:jb)):=⟨_,rfl⟩
    rw[<-aU] at H
    have ca:=zk aU
    clear aU
    have H':=zk H
    clear H
    have aj:0<=(q:Int):=zd
    have ai:q<(l1.length:Int):=zd
    obtain⟨bJ,L,O,bs,W,U,a2,a1⟩:=xW d4.out q aj ai
    cases bs
    replace W:=(HB.out.cell (World.block_lt_of_cell? w _ W)).trans W
    replace U:=(HB.out.cell (World.block_lt_of_cell? w _ U)).trans U
    have av:=zk a1
    have aq:=zk a2
    clear a1 a2
    replace aj:=eq_true aj
    replace ai:=eq_true ai
    try go_wp2_with (first|((with_reducible refine jc (N:=9) rfl ?_);refine jM ?hg (N:=9) ?hd (cs:= #[.bool false, .slice none 0 0]) (t:=113) ?hr ?_;(case hd=>rfl);(case hg=>rfl);(case hr=>first|(go_simp;done)|(go_simp;rfl));intro z hg bD hbox hb;replace y:=zk (Kd.vU (Kd.yV (zN y.out) z (Nat.le_of_eq hg.symm)) hb);replace x:=zk (Kd.vU (Kd.yV (zN x.out) z (Nat.le_of_eq hg.symm)) hb);have s:=zk (hbox);have b_:=yg hg HB;have X:=yg hg HB;replace HB:=yS HB hb;clear hb hbox hg;obtain⟨ch,ce,cm,cn⟩:=oM s))
    have cK:dw (Kd.N (Kd.slice 113 lq) 114 ((bD.setCell ⟨z,0,none⟩ (.bool ((iK l1 q).f0))).setCell ⟨z,1,none⟩ (.slice L ((iK l1 q).f1).length O)) w.heap.size (λk_=>(w.heap.size<=k_)/\some k_≠(.slice bA P.length aT:Value).ownBlock/\k_≠z) al T):=⟨by(with_reducible repeat(first|apply Kd.jK|apply Kd.jJ|apply Kd.jA));exact Kd.ji (Kd.qP (p:=⟨z,1,none⟩) (Kd.qP (p:=⟨z,0,none⟩) (Kd.ji y.out (λk_ hk=>(⟨hk,hk.2⟩:_/\k_≠z))) (λ_ hk=>hk.2) (.bool ((iK l1 q).f0))) (λ_ hk=>hk.2) (.slice L ((iK l1 q).f1).length O)) (λ_ hk=>⟨hk.1.1.1,⟨hk.1.1.2,hk.1.2⟩⟩)⟩
    have cz:dw (Kd.N lq 113 ((bD.setCell ⟨z,0,none⟩ (.bool ((iK l1 q).f0))).setCell ⟨z,1,none⟩ (.slice L ((iK l1 q).f1).length O)) w.heap.size (λk_=>(w.heap.size<=k_)/\some k_≠(al:Value).ownBlock/\k_≠z) (.slice bA P.length aT) P):=⟨by(with_reducible repeat(first|apply Kd.jK|apply Kd.jJ|apply Kd.jA));exact Kd.ji (Kd.qP (p:=⟨z,1,none⟩) (Kd.qP (p:=⟨z,0,none⟩) (Kd.ji x.out (λk_ hk=>(⟨hk,hk.2⟩:_/\k_≠z))) (λ_ hk=>hk.2) (.bool ((iK l1 q).f0))) (λ_ hk=>hk.2) (.slice L ((iK l1 q).f1).length O)) (λ_ hk=>⟨hk.1.1.1,⟨hk.1.1.2,hk.1.2⟩⟩)⟩
    have cI:dw (((bD.setCell ⟨z,0,none⟩ (.bool ((iK l1 q).f0))).setCell ⟨z,1,none⟩ (.slice L ((iK l1 q).f1).length O)).heap[z]?=some (.cells #[.bool ((iK l1 q).f0), .slice L ((iK l1 q).f1).length O] 113 (0,0))):=⟨yl s.out⟩
    have cF:dw (Below w.heap.size w ((bD.setCell ⟨z,0,none⟩ (.bool ((iK l1 q).f0))).setCell ⟨z,1,none⟩ (.slice L ((iK l1 q).f1).length O))):=⟨iH HB.out X.out⟩
    (try clear y)
    (try clear x)
    (try clear s)
    (try clear HB)
    generalize ((bD.setCell ⟨z,0,none⟩ (.bool ((iK l1 q).f0))).setCell ⟨z,1,none⟩ (.slice L ((iK l1 q).f1).length O))=Y at cK cz cI cF ⊢
    have y:=cK
    have x:=cz
    have s:=cI
    have HB:=cF
    clear cK cz cI cF
    replace y:=zk (Kd.jA y.out)
    replace x:=zk (Kd.jA x.out)
    replace s:=zk (iC s.out)
    replace HB:=zk (l9 HB.out)
    have aX:0<=(u:Int):=zd
    have b0:u<(P.length:Int):=zd
    obtain⟨a9,aJ,aH,cY,B,A,au,am⟩:=xW (Kd.jR x.out).2.2 u aX b0
    cases cY
    obtain⟨d5,bb,bh,aG⟩:=Kd.BA x.out oN u aX (by first|exact b0|exact zd|(have e_:=(Kd.jR x.out).1;omega))
    obtain⟨cf,cl,rfl,ae,af⟩:=wX bh
    have a5:=aG 1 _ rfl
    rw[wz _ _ 1 (by omega)] at a5
    replace a5:=Option.some.inj (a5.symm.trans A)
    injection a5 with mF pV mD
    rw[mF] at af
    rw[mD] at ae
    have b:=zk (show Kd.V (Kd.int .u32) 97 _ w.heap.size _ _ ((iK P u).f1) from Kd.lT ae af)
    clear mF pV mD af ae
    clear aG bb
    have m:=zk am
    have cg:=zk au
    clear am au
    replace aX:=eq_true aX
    replace b0:=eq_true b0
    obtain⟨dr,ak,bF⟩:=Kd.oG y.out
    (first|subst bF|(injection bF with b9 cb ba;have bS:=b9.symm;have bC:=ba.symm;clear b9 cb ba;subst bS;subst bC))
    have aZ:0<=(q:Int):=zd
    have b1:q<(T.length:Int):=zd
    obtain⟨a3,cy,bk,cH,D,ay,an⟩:=P5 (Kd.jR y.out).2.2 q aZ b1
    cases cH
    obtain⟨d7,br,bu,aP⟩:=Kd.BA y.out [] q aZ (by first|exact b1|exact zd|(have e_:=(Kd.jR y.out).1;omega))
    obtain⟨cp,cq,rfl,aa,ab⟩:=Kd.Ff bu
    have a7:=aP 0 _ rfl
    rw[Nat.add_zero,show((Kd.slice 113 lq)).sz=1 from rfl,Nat.mul_one] at a7
    replace a7:=Option.some.inj (a7.symm.trans D)
    injection a7 with mF pV mD
    rw[mF] at ab
    rw[mD] at aa
    have a:=zk (show Kd.V lq 113 _ w.heap.size _ _ (jT T q) from Kd.lT aa ab)
    clear mF pV mD ab aa
    clear aP br
    have d:=zk an
    have cu:=zk ay
    clear an ay
    replace aZ:=eq_true aZ
    replace b1:=eq_true b1
    have b3:0<=(u:Int):=zd
    have a_:u<((jT T q).length:Int):=zd
    obtain⟨aw,aF,aD,cR,G,E,ao,ap⟩:=xW (yY d.out) u b3 a_
    cases cR
    obtain⟨d0,bj,bg,aV⟩:=Kd.Dj a.out oN u b3 (by first|exact a_|exact zd|(have e_:=(Kd.jd a.out).1;omega))
    obtain⟨ci,ck,rfl,ad,ac⟩:=wX bg
    have a6:=aV 1 _ rfl
    rw[wz _ _ 1 (by omega)] at a6
    replace a6:=Option.some.inj (a6.symm.trans E)
    injection a6 with mF pV mD
    rw[mF] at ac
    rw[mD] at ad
    have c:=zk (show Kd.V (Kd.int .u32) 97 _ w.heap.size _ _ ((iK (jT T q) u).f1) from Kd.lT ad ac)
    clear mF pV mD ac ad
    clear aV bj
    have l:=zk ap
    have ct:=zk ao
    clear ap ao
    replace b3:=eq_true b3
    replace a_:=eq_true a_
    refine qi (n:=18) (S:=λw'=>w'.cell? ⟨z,0,none⟩=some (.bool ((iK l1 q).f0))/\w'.cell? ⟨z,1,none⟩=some (.slice L ((iK l1 q).f1).length O)/\w'.cell? (a9.add ((u).toNat*2))=some (.bool ((iK P u).f0))/\w'.cell? ⟨(a9.add ((u).toNat*2)).block,(a9.add ((u).toNat*2)).off+1,none⟩=some (.slice aJ ((iK P u).f1).length aH)/\w'.cell? (a3.add (q).toNat)=some (.slice (some aw) (jT T q).length bk)/\w'.cell? (aw.add ((u).toNat*2))=some (.bool ((iK (jT T q) u).f0))/\w'.cell? ⟨(aw.add ((u).toNat*2)).block,(aw.add ((u).toNat*2)).off+1,none⟩=some (.slice aF ((iK (jT T q) u).f1).length aD)) (ds:=[17]) #[false,false,false,false,false,false,false,false,false,false,false,false,false,false,false,false,false,false] (by kernel_rfl) rfl rfl ⟨(iy s.out 0).trans rfl,(iy s.out 1).trans rfl,B,A,D,G,E⟩ (λhHeld=>?_);refine qx mW.DZ mW.EP (λiq jq=>?_)
    first|(generalize Y.drew=Z at y x s HB b a c m d l B A D G E hHeld ⊢)|(generalize Y.drew=Z at y x s HB b a c m d l A D G E hHeld ⊢)|(generalize Y.drew=Z at y x s HB b a c m d l B D G E hHeld ⊢)|(generalize Y.drew=Z at y x s HB b a c m d l B A G E hHeld ⊢)|(generalize Y.drew=Z at y x s HB b a c m d l B A D E hHeld ⊢)|(generalize Y.drew=Z at y x s HB b a c m d l B A D G hHeld ⊢)|(generalize Y.drew=Z at y x s HB b a c m d l D G E hHeld ⊢)|(generalize Y.drew=Z at y x s HB b a c m d l A G E hHeld ⊢)|(generalize Y.drew=Z at y x s HB b a c m d l A D E hHeld ⊢)|(generalize Y.drew=Z at y x s HB b a c m d l A D G hHeld ⊢)|(generalize Y.drew=Z at y x s HB b a c m d l B G E hHeld ⊢)|(generalize Y.drew=Z at y x s HB b a c m d l B D E hHeld ⊢)|(generalize Y.drew=Z at y x s HB b a c m d l B D G hHeld ⊢)|(generalize Y.drew=Z at y x s HB b a c m d l B A E hHeld ⊢)|(generalize Y.drew=Z at y x s HB b a c m d l B A G hHeld ⊢)|(generalize Y.drew=Z at y x s HB b a c m d l B A D hHeld ⊢)|(generalize Y.drew=Z at y x s HB b a c m d l G E hHeld ⊢)|(generalize Y.drew=Z at y x s HB b a c m d l D E hHeld ⊢)|(generalize Y.drew=Z at y x s HB b a c m d l D G hHeld ⊢)|(generalize Y.drew=Z at y x s HB b a c m d l A E hHeld ⊢)|(generalize Y.drew=Z at y x s HB b a c m d l A G hHeld ⊢)|(generalize Y.drew=Z at y x s HB b a c m d l A D hHeld ⊢)|(generalize Y.drew=Z at y x s HB b a c m d l B E hHeld ⊢)|(generalize Y.drew=Z at y x s HB b a c m d l B G hHeld ⊢)|(generalize Y.drew=Z at y x s HB b a c m d l B D hHeld ⊢)|(generalize Y.drew=Z at y x s HB b a c m d l B A hHeld ⊢)|(generalize Y.drew=Z at y x s HB b a c m d l E hHeld ⊢)|(generalize Y.drew=Z at y x s HB b a c m d l G hHeld ⊢)|(generalize Y.drew=Z at y x s HB b a c m d l D hHeld ⊢)|(generalize Y.drew=Z at y x s HB b a c m d l A hHeld ⊢)|(generalize Y.drew=Z at y x s HB b a c m d l B hHeld ⊢)|(generalize Y.drew=Z at y x s HB b a c m d l hHeld ⊢)
    refine zp (i:=0) (N:=some 34) iq ?_
    refine zp (i:=1) (N:=some 35) iq ?_
    refine zp (i:=2) (N:=some 36) iq ?_
    refine zp (i:=3) (N:=some 37) iq ?_
    refine zp (i:=4) (N:=some 38) iq ?_
    refine zp (i:=7) (N:=some 41) iq ?_
    refine zp (i:=8) (N:=some 42) iq ?_
    refine zp (i:=9) (N:=some 43) iq ?_
    refine zp (i:=11) (N:=some 45) iq ?_
    refine jI (i:=5) (N:=some 39) (v:=?_) (a':=?_) #[true,true,true,true,true,true,false,true,true,true,false,true,false,false,false,false,false,false] rfl rfl (jO iq.out jq.out (by kernel_rfl)) (λ_ _ _ h=>h) (Or.inl ⟨by rfl,?_⟩) hHeld ?_ ?_
    rotate_left
    ·rintro w' ⟨s0,s1,s2,s3,s4,s5,s6⟩
     go_simp
     with_reducible rfl
    rotate_left
    ·simp only[Act.put,List.setIfInBounds_toArray,List.set_cons_zero,List.set_cons_succ,iI,iP]
     rfl
    refine jI (i:=6) (N:=some 40) (v:=?_) (a':=?_) #[true,true,true,true,true,true,true,true,true,true,false,true,false,false,false,false,false,false] rfl rfl (jO iq.out jq.out (by kernel_rfl)) (λ_ _ _ h=>h) (Or.inl ⟨by rfl,?_⟩) hHeld ?_ ?_
    rotate_left
    ·rintro w' ⟨s0,s1,s2,s3,s4,s5,s6⟩
     go_simp
     with_reducible rfl
    rotate_left
    ·simp only[Act.put,List.setIfInBounds_toArray,List.set_cons_zero,List.set_cons_succ,iI,iP]
     rfl
    refine jI (i:=10) (N:=some 44) (v:=?_) (a':=?_) #[true,true,true,true,true,true,true,true,true,true,true,true,false,false,false,false,false,false] rfl rfl (jO iq.out jq.out (by kernel_rfl)) (λ_ _ _ h=>h) (Or.inl ⟨by rfl,?_⟩) hHeld ?_ ?_
    rotate_left
    ·rintro w' ⟨s0,s1,s2,s3,s4,s5,s6⟩
     go_simp
     with_reducible rfl
    rotate_left
    ·simp only[Act.put,List.setIfInBounds_toArray,List.set_cons_zero,List.set_cons_succ,iI,iP]
     rfl
    refine zp (i:=12) (N:=some 46) iq ?_
    refine jI (i:=13) (N:=some 47) (v:=?_) (a':=?_) #[true,true,true,true,true,true,true,true,true,true,true,true,true,true,false,false,false,false] rfl rfl (jO iq.out jq.out (by kernel_rfl)) (λ_ _ _ h=>h) (Or.inl ⟨by rfl,?_⟩) hHeld ?_ ?_
    rotate_left
    ·rintro w' ⟨s0,s1,s2,s3,s4,s5,s6⟩
     go_simp
     with_reducible rfl
    rotate_left
    ·simp only[Act.put,List.setIfInBounds_toArray,List.set_cons_zero,List.set_cons_succ,iI,iP]
     rfl
    refine lN (i:=14) (N:=some 48) #[true,true,true,true,true,true,true,true,true,true,true,true,true,true,true,false,false,false] rfl rfl (kH iq.out (by kernel_rfl)) (by decide) (λK hK=>?_)
    refine nS Try.func126 (by kernel_rfl) rfl #[.agg #[.bool ((iK l1 q).f0), .slice L ((iK l1 q).f1).length O], .agg #[.bool ((iK (jT T q) u).f0), .slice aF ((iK (jT T q) u).f1).length aD]] (by rfl) rfl rfl (by(try simp only[List.map_toArray,List.map_cons,List.map_nil]);first|done|rfl|(simp only[List.length_drop,List.length_take];rfl)) ?_
    with_reducible refine(sZ.calls k2 ((iK l1 q).f0) (λk_=>k_<w.heap.size) _ _ ((iK l1 q).f1) ((iK (jT T q) u).f0) (λk_=>(((w.heap.size<=k_)/\(some k_≠(.slice (some a9) P.length aT:Value).ownBlock/\k_≠z))/\some k_≠(.slice (some a3) T.length ak:Value).ownBlock)) _ _ ((iK (jT T q) u).f1) bn az _ ?ig ?ik dp.out).mono ?_
    (case ig=>exact Kd.lT aq.out (Kd.nZ (Kd.o6 (Kd.oW .u32) av.out) (iH HB.out X.out)))
    (case ik=>exact c.out)
    rintro e dt ⟨di,rfl,ah,hb⟩
    have bo:=(hb.cell (World.block_lt_of_cell? _ _ (hHeld.2.2.1))).trans (hHeld.2.2.1)
    have bf:=(hb.cell (World.block_lt_of_cell? _ _ (hHeld.2.2.2.1))).trans (hHeld.2.2.2.1)
    have bi:=(hb.cell (World.block_lt_of_cell? _ _ (hHeld.2.2.2.2.1))).trans (hHeld.2.2.2.2.1)
    have bv:=(hb.cell (World.block_lt_of_cell? _ _ (hHeld.2.2.2.2.2.1))).trans (hHeld.2.2.2.2.2.1)
    have be:=(hb.cell (World.block_lt_of_cell? _ _ (hHeld.2.2.2.2.2.2))).trans (hHeld.2.2.2.2.2.2)
    refine⟨_,rfl,?_⟩
    replace y:=o7 y ah hb
    replace x:=o7 x ah hb
    replace b:=mO b ah hb
    replace a:=mO a ah hb
    replace c:=mO c ah hb
    replace ah:=Kd.oD (M:=λk_=>(w.heap.size<=k_)) (yt ah) (iQ (iH HB.out X.out)) (λk_ h_=>h_)
    have a4:=kY ah HB X
    replace s:=yK s hb
    (try replace m:=oO m hb)
    (try replace d:=oO d hb)
    (try replace l:=oO l hb)
    replace HB:=jg HB X hb
    (try clear hb)
    (try clear ah)
    obtain⟨b2,aY,bW⟩:=Kd.iD a4.out
    (first|subst bW|(injection bW with b9 cb ba;have bS:=b9.symm;have bC:=ba.symm;clear b9 cb ba;subst bS;subst bC))
    refine hK.out _ _ ⟨(iy s.out 0).trans rfl,(iy s.out 1).trans rfl,bo,bf,bi,bv,be⟩ (λhHeld=>?_)
    clear hK K
    refine mr (a':=?_) ?_ ?_
    rotate_left
    ·show Act.put _ (some 48) _=_
     simp only[Act.put,List.setIfInBounds_toArray,List.set_cons_zero,List.set_cons_succ,iI,iP]
     rfl
    refine lN (i:=15) (N:=some 49) #[true,true,true,true,true,true,true,true,true,true,true,true,true,true,true,true,false,false] rfl rfl (kH iq.out (by kernel_rfl)) (by decide) (λK hK=>?_)
    refine nS Try.func128 (by kernel_rfl) rfl #[.agg #[.bool ((iK P u).f0), .slice aJ ((iK P u).f1).length aH], .agg #[.bool bn, .slice b2 az.length aY]] (by rfl) rfl rfl (by(try simp only[List.map_toArray,List.map_cons,List.map_nil]);first|done|rfl|(simp only[List.length_drop,List.length_take];rfl)) ?_
    with_reducible refine(rE.calls k2 ((iK P u).f0) (λk_=>((((w.heap.size<=k_)/\(some k_≠(.slice (some a3) T.length ak:Value).ownBlock/\k_≠z))/\some k_≠(.slice (some a9) P.length aT:Value).ownBlock)/\some k_≠(.slice b2 az.length aY:Value).ownBlock)) _ _ ((iK P u).f1) bn (λk_=>some k_=(.slice b2 az.length aY:Value).ownBlock) _ _ az aC aB _ ?ig ?ik de.out).mono ?_
    (case ig=>exact b.out)
    (case ik=>exact Kd.vT (Kd.uf rfl (Kd.mM (Kd.jL (Kd.jL (a4.out) (Kd.jQ y.out) (by decide)) (Kd.jQ x.out) (by decide)) s.out (by decide))))
    rintro e dx ⟨dn,rfl,ah,hb⟩
    have bo:=(hb.cell (World.block_lt_of_cell? _ _ (hHeld.2.2.1))).trans (hHeld.2.2.1)
    have bf:=(hb.cell (World.block_lt_of_cell? _ _ (hHeld.2.2.2.1))).trans (hHeld.2.2.2.1)
    have bi:=(hb.cell (World.block_lt_of_cell? _ _ (hHeld.2.2.2.2.1))).trans (hHeld.2.2.2.2.1)
    have bv:=(hb.cell (World.block_lt_of_cell? _ _ (hHeld.2.2.2.2.2.1))).trans (hHeld.2.2.2.2.2.1)
    have be:=(hb.cell (World.block_lt_of_cell? _ _ (hHeld.2.2.2.2.2.2))).trans (hHeld.2.2.2.2.2.2)
    refine⟨_,rfl,?_⟩
    replace b:=jy b hb
    replace a:=jy a hb
    replace c:=jy c hb
    have aS:=zk (Kd.qp (Kd.jf (ok':=λk_=>(w.heap.size<=k_)/\some k_≠(.slice (some a3) T.length ak:Value).ownBlock/\some k_≠(.slice (some a9) P.length aT:Value).ownBlock/\k_≠z) ah (λk_ iO=>⟨Or.elim iO (λhs_=>Or.elim hs_ (λhs_=>hs_.1.1.1) (λhs_=>((Kd.mM (Kd.jL (Kd.jL (a4.out) (Kd.jQ y.out) (by decide)) (Kd.jQ x.out) (by decide)) s.out (by decide)).1 k_ hs_.symm).1.1.1.1)) (λjF=>(Nat.le_trans (iQ (iH HB.out X.out)) jF)),Or.elim iO (λhs_=>Or.elim hs_ (λhs_=>hs_.1.1.2.1) (λhs_=>((Kd.mM (Kd.jL (Kd.jL (a4.out) (Kd.jQ y.out) (by decide)) (Kd.jQ x.out) (by decide)) s.out (by decide)).1 k_ hs_.symm).1.1.2)) (λjF=>(Kd.fresh' (Kd.mQ (zN y.out)) k_ jF)),Or.elim iO (λhs_=>Or.elim hs_ (λhs_=>hs_.1.2) (λhs_=>((Kd.mM (Kd.jL (Kd.jL (a4.out) (Kd.jQ y.out) (by decide)) (Kd.jQ x.out) (by decide)) s.out (by decide)).1 k_ hs_.symm).1.2)) (λjF=>(Kd.fresh' (Kd.mQ (zN x.out)) k_ jF)),Or.elim iO (λhs_=>Or.elim hs_ (λhs_=>hs_.1.1.2.2) (λhs_=>((Kd.mM (Kd.jL (Kd.jL (a4.out) (Kd.jQ y.out) (by decide)) (Kd.jQ x.out) (by decide)) s.out (by decide)).1 k_ hs_.symm).2)) (λjF=>(Kd.kT (g:=z) (o:= .cells #[.bool ((iK l1 q).f0), .slice L ((iK l1 q).f1).length O] 113 (0,0)) (by(with_reducible repeat(first|refine iM ?_ _|refine iC ?_|refine iL ?_ _));exact s.out) k_ jF))⟩)) (iQ (iH HB.out X.out)))
    replace y:=kG y hb
    replace x:=kG x hb
    replace a4:=jl a4 hb
    replace s:=yK s hb
    (try replace m:=oO m hb)
    (try replace d:=oO d hb)
    (try replace l:=oO l hb)
    replace HB:=jg HB X hb
    (try clear hb)
    (try clear ah)
    have cJ:0<=(u:Int):=zd
    have cQ:(u:Int)<((P.length:Int):Int):=zd
    obtain⟨a8,dc,bI,bP,cN,dd,bT⟩:=Kd.Qu x.out (by omega)
    (first|cases bI|(injection bI with iW kL kM;(first|subst iW|(injection iW with iW;subst iW));subst kM;clear kL))
    have bG:=zk bP
    have dk:=zk bT
    clear bP cN bT
    (first|simp only[add_plain] at B|skip)
    (first|simp only[add_plain] at A|skip)
    obtain⟨dm,bX,cc,aR,aM⟩:=Kd.E_ x.out oN (u:Int) cJ cQ
    obtain⟨bc,bw,rfl,cS,cX⟩:=wX cc
    have cV:World.cell? _ ⟨a8,(u:Int).toNat*2,none⟩=some (.bool ((iK P u).f0)):=aR 0 _ rfl
    have cG:World.cell? _ ⟨a8,(u:Int).toNat*2+1,none⟩=some (.slice bc ((iK P u).f1).length bw):=aR 1 _ rfl
    have cA:World.frozen? _ ⟨a8,(u:Int).toNat*2,none⟩=false:=aM 0
    have cL:World.frozen? _ ⟨a8,(u:Int).toNat*2+1,none⟩=false:=aM 1
    clear bX aR aM cc
    replace cJ:=eq_true cJ
    replace cQ:=eq_true cQ
    obtain⟨bL,bH,bN⟩:=Kd.ku aS.out
    (first|subst bN|(injection bN with b9 cb ba;have bS:=b9.symm;have bC:=ba.symm;clear b9 cb ba;subst bS;subst bC))
    have b4:=zk (show Kd.N lq 113 _ w.heap.size (λk_=>(w.heap.size<=k_)/\some k_≠(.slice (some a3) T.length ak:Value).ownBlock/\some k_≠(.slice b2 az.length aY:Value).ownBlock/\k_≠z) (.slice (some ⟨a8,0,none⟩) P.length aT) P from(Kd.ji (x.out) (λk_ hk=>⟨hk.1.1,⟨hk.1.2.1,⟨hk.2,hk.1.2.2⟩⟩⟩)))
    replace b4:=zk (show Kd.N lq 113 _ w.heap.size (λk_=>(w.heap.size<=k_)/\some k_≠(.slice (some a3) T.length ak:Value).ownBlock/\k_≠z) (.slice (some ⟨a8,0,none⟩) P.length aT) P from Kd.ji b4.out (λk_ hk=>⟨hk.1,⟨hk.2.1,hk.2.2.2⟩⟩))
    obtain⟨df,b8,cd,b6,bO⟩:=Kd.E_ b4.out oN (u:Int) zd (by have h_:(u:Int)<((P.length:Int):Int):=zd;first|exact h_|(have e_:=(Kd.jR x.out).1;omega)|simpa using h_)
    obtain⟨cW,cB,rfl,cP,cM⟩:=wX cd
    have bq:=(Kd.Qq b4.out (u:Int) zd (by have h_:(u:Int)<((P.length:Int):Int):=zd;first|exact h_|(have e_:=(Kd.jR x.out).1;omega)|simpa using h_) (lH:=[.bool aC, .slice bL aB.length bH]) (j:=0) b8 b6 (show 2<=2 from by decide) (x':=(⟨aC,aB⟩:jb)) (AL _ _ (⟨aC,aB⟩:jb) (Kd.jd (Kd.jf (ok':=(λk_=>((λk_=>(w.heap.size<=k_)/\some k_≠(.slice (some a3) T.length ak:Value).ownBlock/\k_≠z)) k_/\k_≠a8)) (aS.out) (λk_ hk=>by exact⟨⟨hk.1,⟨hk.2.1,hk.2.2.2⟩⟩,λe_=>(hk.2.2.1) (by rw[e_];rfl)⟩))).2.1 (Kd.xG (Kd.jf (ok':=(λk_=>((λk_=>(w.heap.size<=k_)/\some k_≠(.slice (some a3) T.length ak:Value).ownBlock/\k_≠z)) k_/\k_≠a8)) (aS.out) (λk_ hk=>by exact⟨⟨hk.1,⟨hk.2.1,hk.2.2.2⟩⟩,λe_=>(hk.2.2.1) (by rw[e_];rfl)⟩)))) (λ_ hk=>hk)).1
    rw[<-ca.out] at bq
    have cO:=zk bq
    clear b8 b6 bO cd bq
    refine hK.out _ _ ⟨(iy s.out 0).trans rfl,(iy s.out 1).trans rfl,bo,bf,bi,bv,be⟩ (λhHeld=>?_)
    clear hK K
    refine mr (a':=?_) ?_ ?_
    rotate_left
    ·show Act.put _ (some 49) _=_
     simp only[Act.put,List.setIfInBounds_toArray,List.set_cons_zero,List.set_cons_succ,iI,iP]
     rfl
    refine zp (i:=16) (N:=some 50) iq ?_
    refine xR (i:=17) (N:=none) #[true,true,true,true,true,true,true,true,true,true,true,true,true,true,true,true,true,true] rfl rfl (kH iq.out (by kernel_rfl)) (by decide) (λK hK=>?_)
    refine vH (w1:=?_) (by rfl) rfl ?_ ?_
    rotate_left
    ·go_simp
     rfl
    refine hK.out _ _ ?_
    clear hK K
    refine ql (qF iq.out (by kernel_rfl)) ?_
    try go_wp2
    (try simp only[<-J])
    go_roundg k2
    case measure=>have:=bB.out;have:=bz.out;omega
    case rel=>exact⟨(cU),(wrap64 (q+1)),zF,H',⟨lW bB bz⟩,⟨by(try simp only[I]);(try simp only[J]);(with_reducible repeat(first|apply Kd.jK|apply Kd.jJ|apply Kd.jA));exact Kd.ji (Kd.qP (p:=⟨a8,(u:Int).toNat*2+1,none⟩) (Kd.qP (p:=⟨a8,(u:Int).toNat*2,none⟩) (Kd.ji y.out (λk_ hk=>(⟨hk,λe_=>hk.1.2.1 (by rw[e_];rfl)⟩:_/\k_≠a8))) (λ_ hk=>hk.2) (.bool aC)) (λ_ hk=>hk.2) (.slice bL aB.length bH)) (λ_ hk=>⟨hk.1.1.1,hk.1.1.2.1⟩)⟩,⟨by(try simp only[I]);(try simp only[J]);(with_reducible repeat(first|apply Kd.jK|apply Kd.jJ|apply Kd.jA));exact Kd.ji cO.out (λ_ hk=>⟨hk.1,hk.2.1⟩)⟩,⟨nI HB.out bG.out bG.out X.out⟩⟩
   have aN:decide (0<(((iK l1 q).f1).length:Int))=false:=decide_eq_false c0
   (try(have aQ:=aN;simp only[I,J] at aQ))
   have aI:decide (0<((iK l1 q).f1).length)=false:=decide_eq_false (by omega)
   (try(have aW:=aI;simp only[I,J] at aW))
   clear c0
   have H':=zk H
   clear H
   have aj:0<=(q:Int):=zd
   have ai:q<(l1.length:Int):=zd
   obtain⟨bJ,L,O,bs,W,U,a2,a1⟩:=xW d4.out q aj ai
   cases bs
   replace W:=(HB.out.cell (World.block_lt_of_cell? w _ W)).trans W
   replace U:=(HB.out.cell (World.block_lt_of_cell? w _ U)).trans U
   have av:=zk a1
   have aq:=zk a2
   clear a1 a2
   replace aj:=eq_true aj
   replace ai:=eq_true ai
   go_wp2_with (first|((with_reducible refine jc (N:=9) rfl ?_);refine jM ?hg (N:=9) ?hd (cs:= #[.bool false, .slice none 0 0]) (t:=113) ?hr ?_;(case hd=>rfl);(case hg=>rfl);(case hr=>first|(go_simp;done)|(go_simp;rfl));intro z hg du hbox hb;replace y:=zk (Kd.vU (Kd.yV (zN y.out) z (Nat.le_of_eq hg.symm)) hb);replace x:=zk (Kd.vU (Kd.yV (zN x.out) z (Nat.le_of_eq hg.symm)) hb);have s:=zk (hbox);have b_:=yg hg HB;have X:=yg hg HB;replace HB:=yS HB hb;clear hb hbox hg;obtain⟨cv,cr,cj,cx⟩:=oM s))
   (try simp only[<-J])
   go_roundg k2
   case measure=>have:=bB.out;have:=bz.out;omega
   case rel=>exact⟨(P),(wrap64 (q+1)),zF,H',⟨lW bB bz⟩,⟨by(try simp only[I]);(try simp only[J]);(with_reducible repeat(first|apply Kd.jK|apply Kd.jJ|apply Kd.jA));exact Kd.ji (Kd.qP (p:=⟨z,1,none⟩) (Kd.qP (p:=⟨z,0,none⟩) (Kd.ji y.out (λk_ hk=>(⟨hk,hk.2⟩:_/\k_≠z))) (λ_ hk=>hk.2) (.bool ((iK l1 q).f0))) (λ_ hk=>hk.2) (.slice L ((iK l1 q).f1).length O)) (λ_ hk=>⟨hk.1.1.1,hk.1.1.2⟩)⟩,⟨by(try simp only[I]);(try simp only[J]);(with_reducible repeat(first|apply Kd.jK|apply Kd.jJ|apply Kd.jA));exact Kd.ji (Kd.qP (p:=⟨z,1,none⟩) (Kd.qP (p:=⟨z,0,none⟩) (Kd.ji x.out (λk_ hk=>(⟨hk,hk.2⟩:_/\k_≠z))) (λ_ hk=>hk.2) (.bool ((iK l1 q).f0))) (λ_ hk=>hk.2) (.slice L ((iK l1 q).f1).length O)) (λ_ hk=>⟨hk.1.1.1,hk.1.1.2⟩)⟩,⟨iH HB.out X.out⟩⟩
  have aE:=decide_eq_false bV
  (try(have aK:=aE;simp only[I,J] at aK))
  clear bV
  have H':=zk H
  clear H
  go_wp2
  (try simp only[<-I,<-J])
  go_roundg k2
  case measure=>have:=bB.out;have:=bz.out;omega
  case rel=>exact⟨(P),(wrap64 (u+1)),zF,H',⟨lW bB bz⟩,⟨by(try simp only[I]);(try simp only[J]);(with_reducible repeat(first|apply Kd.jK|apply Kd.jJ|apply Kd.jA));exact y.out⟩,⟨by(try simp only[I]);(try simp only[J]);(with_reducible repeat(first|apply Kd.jK|apply Kd.jJ|apply Kd.jA));exact x.out⟩,⟨zB HB.out⟩⟩
 have ar:=decide_eq_false c10
 (try(have aO:=ar;simp only[I] at aO))
 clear c10
 obtain rfl:=Option.some.inj H
 go_wp2
 go_ret
 exact⟨_,zE,by(with_reducible repeat(first|apply Kd.jK|apply Kd.jJ|apply Kd.jA));exact Kd.ji x.out (λ_ hk=>hk.1),zB HB.out⟩
theorem zn.calls(k:Nat)(n:Nat->Prop)(A0:Option Addr)(c0:Nat)(l0:List Int)(o:Nat->Prop)(A1:Option Addr)(c1:Nat)(l1:List Int)(r1:List Int)(r2:List Int)(r3:Int)(w:World)(ab:Kd.V (Kd.int .u32) 97 w w.heap.size (λk_=>n k_) (.slice A0 l0.length c0) l0)(af:Kd.V (Kd.int .u32) 97 w w.heap.size (λk_=>o k_) (.slice A1 l1.length c1) l1)(h:zn.f k l0 l1=some (r1,r2,r3)):
 Calls Try.prog 105 #[.slice A0 l0.length c0, .slice A1 l1.length c1] w λe w'=>∃Y U:Value,e= .returned (.tuple #[Y,U, .int .i64 r3])/\Kd.V (Kd.int .u32) 97 w' w.heap.size (λk_=>((n k_\/o k_)\/w.heap.size<=k_)/\some k_≠(U:Value).ownBlock) Y r1/\Kd.R (Kd.int .u32) 97 w' w.heap.size (λk_=>(w.heap.size<=k_)) U r2/\Below w.heap.size w w':=by
 have j:=zk (show Kd.V (Kd.int .u32) 97 w w.heap.size (λk_=>((n k_\/o k_)\/w.heap.size<=k_)) (.slice A0 l0.length c0) l0 from Kd.jf ab (λk_ hk=> .inl (.inl hk)))
 have l:=zk (show Kd.V (Kd.int .u32) 97 w w.heap.size (λk_=>((n k_\/o k_)\/w.heap.size<=k_)) (.slice A1 l1.length c1) l1 from Kd.jf af (λk_ hk=> .inl (.inr hk)))
 have HB:=zk (Below.refl w.heap.size w)
 have H:=h
 clear h
 unfold zn.f at H
 replace H:=zb H
 obtain⟨g,A3,H⟩:=H
 replace H:=zb H
 obtain⟨c,A4,H⟩:=H
 replace H:=zh H
 obtain⟨c5,H⟩:=H
 have a8:=beq_eq_false_iff_ne.mpr c5
 have aa:=bne_iff_ne.mpr c5
 have ac:¬(c=[]):=λh_=>c5 (by rw[h_];rfl)
 replace H:=zb H
 obtain⟨q,A6,H⟩:=H
 replace H:=jB H
 rcases H with⟨W,H⟩|⟨W,H⟩
 ·replace H:=zb H
  obtain⟨x,A8,H⟩:=H
  simp only[Option.some.injEq,Prod.mk.injEq] at H
  obtain⟨rfl,rfl,rfl⟩:=H
  go_enter Try.func105,Try.ntmps105
  go_wp2_with (first|((with_reducible refine gC 118 ?_);refine zG (some 12) Try.func118 #[.slice A0 l0.length c0] ?_;(with_reducible refine(jX.calls k (λk_=>((n k_\/o k_)\/w.heap.size<=k_)) _ _ l0 g _ ?ig A3.out).mono ?_);(case ig=>exact j.out);rintro e w9 ⟨K,rfl,d,hb⟩;refine⟨_,rfl,?_⟩;replace j:=jy j hb;replace l:=jy l hb;have a:=zk (Kd.qp (Kd.jf (ok':=λk_=>((n k_\/o k_)\/w.heap.size<=k_)) d (λk_ iO=>Or.elim iO (λhs_=>hs_) (λjF=>(.inr (Nat.le_trans (iQ (zB HB.out)) jF))))) (iQ (zB HB.out)));replace HB:=yS HB hb;(try clear hb d))|((with_reducible refine gC 118 ?_);refine zG (some 14) Try.func118 #[.slice A1 l1.length c1] ?_;(with_reducible refine(jX.calls k (λk_=>((n k_\/o k_)\/w.heap.size<=k_)) _ _ l1 c _ ?ig A4.out).mono ?_);(case ig=>exact l.out);rintro e aj ⟨L,rfl,d,hb⟩;refine⟨_,rfl,?_⟩;replace j:=jy j hb;replace l:=jy l hb;replace a:=jy a hb;have b:=zk (Kd.qp (Kd.jf (ok':=λk_=>((n k_\/o k_)\/w.heap.size<=k_)) d (λk_ iO=>Or.elim iO (λhs_=>hs_) (λjF=>(.inr (Nat.le_trans (iQ (zB HB.out)) jF))))) (iQ (zB HB.out)));replace HB:=yS HB hb;(try clear hb d);obtain⟨I,X,rfl⟩:=Kd.ku b.out;obtain⟨E,B,rfl⟩:=Kd.ku a.out)|((with_reducible refine gC 79 ?_);refine zG (some 22) Try.func79 #[.slice E g.length B, .slice I c.length X] ?_;(with_reducible refine(pG.calls k _ _ g _ _ c q _ ?ig ?ik ?iF ?iE A6.out).mono ?_);(case ig=>exact zC (Kd.jd a.out).2.2);(case ik=>exact(Kd.jd a.out).2.1);(case iF=>exact zC (Kd.jd b.out).2.2);(case iE=>exact(Kd.jd b.out).2.1);rintro e ak ⟨rfl,hb⟩;refine⟨_,rfl,?_⟩;replace j:=jy j hb;replace l:=jy l hb;replace a:=jy a hb;replace b:=jy b hb;replace HB:=yS HB hb;(try clear hb))|((with_reducible refine gC 103 ?_);refine zG (some 25) Try.func103 #[.slice E g.length B] ?_;(with_reducible refine(pU.calls k _ _ g x _ ?ig ?ik A8.out).mono ?_);(case ig=>exact zC (Kd.jd a.out).2.2);(case ik=>exact(Kd.jd a.out).2.1);rintro e ag ⟨a6,rfl,d,hb⟩;refine⟨_,rfl,?_⟩;replace j:=mO j d hb;replace l:=mO l d hb;replace a:=mO a d hb;replace b:=mO b d hb;replace d:=Kd.oD (M:=λk_=>(w.heap.size<=k_)) d (iQ (zB HB.out)) (λk_ h_=>h_);have A:=jm d HB;replace HB:=yS HB hb;(try clear hb d)))
  go_ret3
  exact⟨_,_,zE,by exact Kd.qX _ _ _ _ _,by(with_reducible repeat(first|apply Kd.iT|apply Kd.iU|apply Kd.iJ));exact Kd.iZ A.out (λ_ hk=>hk.1),zB HB.out⟩
 replace H:=zg H
 obtain⟨O,H⟩:=H
 have a1:=beq_iff_eq.mpr O
 have a4:=bne_eq_false_iff_eq.mpr O
 clear O
 replace H:=zg H
 obtain⟨a3,H⟩:=H
 have a0:=decide_eq_true a3
 have Z:decide (0<c.length)=true:=decide_eq_true (by omega)
 clear a3
 replace H:=zb H
 obtain⟨⟨T,u⟩,a9,H⟩:=H
 dsimp only at H
 replace H:=zb H
 obtain⟨v,ae,H⟩:=H
 simp only[Option.some.injEq,Prod.mk.injEq] at H
 obtain⟨rfl,rfl,rfl⟩:=H
 go_enter Try.func105,Try.ntmps105
 go_wp2_with (first|((with_reducible refine gC 118 ?_);refine zG (some 12) Try.func118 #[.slice A0 l0.length c0] ?_;(with_reducible refine(jX.calls k (λk_=>((n k_\/o k_)\/w.heap.size<=k_)) _ _ l0 g _ ?ig A3.out).mono ?_);(case ig=>exact j.out);rintro e am ⟨K,rfl,d,hb⟩;refine⟨_,rfl,?_⟩;replace j:=jy j hb;replace l:=jy l hb;have a:=zk (Kd.qp (Kd.jf (ok':=λk_=>((n k_\/o k_)\/w.heap.size<=k_)) d (λk_ iO=>Or.elim iO (λhs_=>hs_) (λjF=>(.inr (Nat.le_trans (iQ (zB HB.out)) jF))))) (iQ (zB HB.out)));replace HB:=yS HB hb;(try clear hb d))|((with_reducible refine gC 118 ?_);refine zG (some 14) Try.func118 #[.slice A1 l1.length c1] ?_;(with_reducible refine(jX.calls k (λk_=>((n k_\/o k_)\/w.heap.size<=k_)) _ _ l1 c _ ?ig A4.out).mono ?_);(case ig=>exact l.out);rintro e an ⟨L,rfl,d,hb⟩;refine⟨_,rfl,?_⟩;replace j:=jy j hb;replace l:=jy l hb;replace a:=jy a hb;have b:=zk (Kd.qp (Kd.jf (ok':=λk_=>((n k_\/o k_)\/w.heap.size<=k_)) d (λk_ iO=>Or.elim iO (λhs_=>hs_) (λjF=>(.inr (Nat.le_trans (iQ (zB HB.out)) jF))))) (iQ (zB HB.out)));replace HB:=yS HB hb;(try clear hb d);obtain⟨P,G,rfl⟩:=Kd.ku b.out;obtain⟨z,D,rfl⟩:=Kd.ku a.out)|((with_reducible refine gC 79 ?_);refine zG (some 22) Try.func79 #[.slice z g.length D, .slice P c.length G] ?_;(with_reducible refine(pG.calls k _ _ g _ _ c q _ ?ig ?ik ?iF ?iE A6.out).mono ?_);(case ig=>exact zC (Kd.jd a.out).2.2);(case ik=>exact(Kd.jd a.out).2.1);(case iF=>exact zC (Kd.jd b.out).2.2);(case iE=>exact(Kd.jd b.out).2.1);rintro e ah ⟨rfl,hb⟩;refine⟨_,rfl,?_⟩;replace j:=jy j hb;replace l:=jy l hb;replace a:=jy a hb;replace b:=jy b hb;replace HB:=yS HB hb;(try clear hb);have s:0<=(0:Int):=(by omega);have t:0<(c.length:Int):=zd;obtain⟨a2,J,m⟩:=Kd.jG (Kd.jd b.out).2.2 0 s t;cases J;have a5:(0<c.length)=True:=eq_true (by omega);(try rw[show((0:Int)).toNat=0 from rfl] at m);(try rw[Addr.add_zero'] at m);replace s:=eq_true s;replace t:=eq_true t)|((with_reducible refine gC 115 ?_);refine zG (some 35) Try.func115 #[.slice z g.length D, .int .u32 (rd c 0)] ?_;(with_reducible refine(sV.calls k _ _ g (rd c 0) T u _ ?ig ?ik a9.out).mono ?_);(case ig=>exact zC (Kd.jd a.out).2.2);(case ik=>exact(Kd.jd a.out).2.1);rintro e al ⟨a7,rfl,d,hb⟩;refine⟨_,rfl,?_⟩;replace j:=jy j hb;replace l:=jy l hb;replace a:=jy a hb;replace b:=jy b hb;have p:=zk (Kd.qp (Kd.jf (ok':=λk_=>((n k_\/o k_)\/w.heap.size<=k_)) d (λk_ iO=>(.inr (Nat.le_trans (iQ (zB HB.out)) iO)))) (iQ (zB HB.out)));replace HB:=yS HB hb;(try clear hb d))|((with_reducible refine gC 80 ?_);refine zG (some 41) Try.func80 #[.int .u64 (IntKind.u64.wrap (u))] ?_;(with_reducible refine(uZ.calls k (IntKind.u64.wrap (u)) v _ ae.out).mono ?_);rintro e ai ⟨ad,rfl,d,hb⟩;refine⟨_,rfl,?_⟩;replace j:=mO j d hb;replace l:=mO l d hb;replace a:=mO a d hb;replace b:=mO b d hb;replace p:=mO p d hb;replace d:=Kd.oD (M:=λk_=>(w.heap.size<=k_)) d (iQ (zB HB.out)) (λk_ h_=>h_);have y:=jm d HB;replace HB:=yS HB hb;(try clear hb d)))
 go_ret3
 exact⟨_,_,zE,zV p.out,by(with_reducible repeat(first|apply Kd.iT|apply Kd.iU|apply Kd.iJ));exact Kd.iZ y.out (λ_ hk=>hk.1),zB HB.out⟩
end Go.Proofs.Ytifkbghnmhineaa.qc
