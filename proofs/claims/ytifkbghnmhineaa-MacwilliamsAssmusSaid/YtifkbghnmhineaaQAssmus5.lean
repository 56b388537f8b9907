/- The statement MacwilliamsAssmus, proved for every input, and what it rests on. No condition. -/
import Derived.Test.YtifkbghnmhineaaQAssmus4

section
set_option linter.unusedVariables false
set_option linter.unusedSimpArgs false
namespace Mw
open Go Go.RowKit Go.Proofs.YtifkbghnmhineaaW.lJ Go.Proofs.YtifkbghnmhineaaW.rO Go.Proofs.YtifkbghnmhineaaW.uO Go.Proofs.Ytifkbghnmhineaa.qc
theorem Rz.uI{α β:Type}{P:α->Prop}{Q:β->Prop}{g:Nat->Option α}{f:Nat->α->Option β}(hg:Rz P g)(hf:∀a,P a->Rz Q (λk=>f k a)):Rz Q (λk=>(g k).bind (f k)):=by
 obtain⟨a,h1,h2⟩:=hg
 exact Rz.bind h1 (hf a h2)
theorem Rz.of{α:Type}{P:α->Prop}{g:Nat->Option α}{a:α}(h:Ev g a)(hp:P a):Rz P g:=⟨a,h,hp⟩
theorem Rz.mono{α:Type}{P Q:α->Prop}{g:Nat->Option α}(h:Rz P g)(hq:∀a,P a->Q a):Rz Q g:=by
 obtain⟨a,h1,h2⟩:=h
 exact⟨a,h1,hq a h2⟩
structure Fd (p m:Nat):Prop where
 two:2<=p
 one:1<=m
 eight:m<=8
 small:p^m<=256
theorem Fd.Ah{p m:Nat}(h:Fd p m):p<=256:=by
 have:p^1<=p^m:=Nat.pow_le_pow_right (by have:=h.two;omega) h.one
 rw[Nat.pow_one] at this
 have:=h.small
 omega
theorem Uz{p m e:Nat}(h:Fd p m)(he:e<=m):p^e<=256:=Nat.le_trans (Nat.pow_le_pow_right (by have:=h.two;omega) he) h.small
theorem Nc{p m:Nat}(hp:2<=p)(hm:m<=8){l:List Int}:∀(d i:Nat),i+d=m->p^i<=256->
 Ev (λk=>kQ.l0 k ((p^i:Nat):Int) (i:Int) (p:Int) (m:Int) l) (if p^m<=256 then((p^m:Nat):Int) else 0):=by
 intro d
 induction d with
 |zero=>
  intro i hi h
  have:i=m:=by omega
  subst this
  refine Ev.succ ?_
  simp only[kQ.l0,if_neg (Int.lt_irrefl (i:Int)),if_pos h]
  exact Ev.some _
 |succ d ih=>
  intro i hi h
  have e1:Int.tdiv (256:Int) (p:Int)=((256 / p:Nat):Int):=by rw[Int.tdiv_eq_ediv_of_nonneg (by omega)];rfl
  have e2:wrap64 ((256 / p:Nat):Int)=((256 / p:Nat):Int):=wn rfl (by clear e1;have:=Nat.div_le_self 256 p;omega)
  have hd:=Nat.div_lt_iff_lt_mul (x:=256) (y:=p^i) (show 0<p by clear e1 e2;omega)
  refine Ev.succ ?_
  simp only[kQ.l0,if_pos (show(i:Int)<(m:Int) by clear e1 e2;omega),if_neg (show ¬(p:Int)=0 by clear e1 e2;omega),e1,e2]
  clear e1 e2
  rw[show p^i*p=p^(i+1) from(Nat.pow_succ ..).symm] at hd
  by_cases g:256 / p<p^i
  ·simp only[if_pos (show((p^i:Nat):Int)>((256 / p:Nat):Int) by omega)]
   have h1:=hd.mp g
   have h2:p^(i+1)<=p^m:=Nat.pow_le_pow_right (by omega) (by omega)
   rw[if_neg (by omega)]
   exact Ev.some _
  ·simp only[if_neg (show ¬((p^i:Nat):Int)>((256 / p:Nat):Int) by omega)]
   have h1:p^(i+1)<=256:=Nat.le_of_not_lt (λf=>g (hd.mpr f))
   have e3:wrap64 (((p^i:Nat):Int)*(p:Int))=((p^(i+1):Nat):Int):=wn (by rw[Nat.pow_succ,Int.natCast_mul]) (by omega)
   simp only[e3,wn (show(i:Int)+1=((i+1:Nat):Int) by clear e3;omega) (by clear e3;omega)]
   exact ih (i+1) (by clear e3;omega) h1
theorem Ep{p m:Nat}(h:Fd p m)(l:List Int):Ev (λk=>kQ.f k (p:Int) (m:Int) l) ((p^m:Nat):Int):=by
 obtain⟨h1,h2,h3,h4⟩:=h
 simp only[kQ.f,if_neg (show ¬(p:Int)<2 by omega),if_neg (show ¬(m:Int)<1 by omega),decide_eq_false (show ¬(m:Int)>8 by omega)]
 refine Ev.succ ?_
 simp only[kQ.j0,Bool.false_eq_true,if_false]
 have:=Nc h1 h3 (l:=l) m 0 (by omega) (by rw[Nat.pow_zero];decide)
 rw[if_pos h4] at this
 exact this
theorem UQ(P M:Int)(l:List Int):Rz (λc=>c=0\/∃p m:Nat,P=(p:Int)/\M=(m:Int)/\Fd p m/\c=((p^m:Nat):Int)) (λk=>kQ.f k P M l):=by
 have zero:Rz (λc=>c=0\/∃p m:Nat,P=(p:Int)/\M=(m:Int)/\Fd p m/\c=((p^m:Nat):Int)) (λk=>kQ.j0 k true P M l):=by
  refine Rz.succ ?_
  simp only[kQ.j0,if_true]
  exact Rz.some (.inl rfl)
 simp only[kQ.f]
 by_cases h1:P<2
 ·simp only[if_pos h1];exact zero
 simp only[if_neg h1]
 by_cases h2:M<1
 ·simp only[if_pos h2];exact zero
 simp only[if_neg h2]
 by_cases h3:M>8
 ·simp only[decide_eq_true h3];exact zero
 simp only[decide_eq_false h3]
 refine Rz.succ ?_
 simp only[kQ.j0,Bool.false_eq_true,if_false]
 obtain⟨p,rfl⟩:∃p:Nat,P=(p:Int):=⟨P.toNat,by omega⟩
 obtain⟨m,rfl⟩:∃m:Nat,M=(m:Int):=⟨M.toNat,by omega⟩
 refine Rz.of (Nc (by omega) (by omega) (l:=l) m 0 (by omega) (by rw[Nat.pow_zero];decide)) ?_
 by_cases g:p^m<=256
 ·rw[if_pos g];exact .inr ⟨p,m,rfl,rfl,⟨by omega,by omega,by omega,g⟩,rfl⟩
 ·rw[if_neg g];exact .inl rfl
theorem Ux{p:Nat}(hp:2<=p)(h:p<=256):Rz (λb=>b=true->E8 p) (λk=>sJ.f k (p:Int)):=by
 have loop:∀(d i:Nat),i+d=p->2<=i->(∀e,2<=e->e<i->p % e≠0)->Rz (λb=>b=true->E8 p) (λk=>sJ.l0 k (p:Int) (i:Int)):=by
  intro d
  induction d with
  |zero=>
   intro i hi h2 hh
   have:i=p:=by omega
   subst this
   refine Rz.succ ?_
   simp only[sJ.l0,if_neg (Int.lt_irrefl (i:Int))]
   exact Rz.some (λ_=>⟨hp,hh⟩)
  |succ d ih=>
   intro i hi h2 hh
   have e1:Int.tmod (p:Int) (i:Int)=((p % i:Nat):Int):=by rw[Int.tmod_eq_emod_of_nonneg (by omega)];rfl
   refine Rz.succ ?_
   simp only[sJ.l0,if_pos (show(i:Int)<(p:Int) by clear e1;omega),if_neg (show ¬(i:Int)=0 by clear e1;omega),e1,wn (show(i:Int)+1=((i+1:Nat):Int) by clear e1;omega) (by clear e1;omega)]
   clear e1
   by_cases g:p % i=0
   ·simp only[if_pos (show((p % i:Nat):Int)=0 by omega)]
    exact Rz.some (λe=>by cases e)
   ·simp only[if_neg (show ¬((p % i:Nat):Int)=0 by omega)]
    refine ih (i+1) (by omega) (by omega) (λe h1 h3=>?_)
    by_cases g2:e=i
    ·subst g2;exact g
    ·exact hh e h1 (by omega)
 simp only[sJ.f]
 exact loop (p-2) 2 (by omega) (by omega) (λe h1 h3=>by omega)
theorem O0(p x i:Nat):kz p (x:Int) i=((x / p^i % p:Nat):Int):=by unfold kz;rw[Int.toNat_natCast]
theorem OX{p n x:Nat}(hp:2<=p)(hp2:p<=256)(hn:n<=8)(hx:x<4294967296):Rz (λl=>l.length=n/\∀i,i<n->rd l (i:Int)=kz p (x:Int) i) (λk=>rV.f k (x:Int) (p:Int) (n:Int)):=by
 have loop:∀(d i:Nat) (o:List Int),i+d=n->o.length=n->(∀j,j<i->rd o (j:Int)=kz p (x:Int) j)->
  Rz (λl=>l.length=n/\∀i,i<n->rd l (i:Int)=kz p (x:Int) i) (λk=>rV.l0 k ((x / p^i:Nat):Int) (p:Int) (n:Int) o (i:Int)):=by
  intro d
  induction d with
  |zero=>
   intro i o hi ho hh
   have:i=n:=by omega
   subst this
   refine Rz.succ ?_
   simp only[rV.l0,if_neg (Int.lt_irrefl (i:Int))]
   exact Rz.some ⟨ho,hh⟩
  |succ d ih=>
   intro i o hi ho hh
   have e1:Int.tdiv ((x / p^i:Nat):Int) (p:Int)=((x / p^(i+1):Nat):Int):=by
    rw[Int.tdiv_eq_ediv_of_nonneg (Int.natCast_nonneg _),Nat.pow_succ,<-Nat.div_div_eq_div_mul];rfl
   have e2:Int.tmod ((x / p^i:Nat):Int) (p:Int)=kz p (x:Int) i:=by
    rw[Int.tmod_eq_emod_of_nonneg (Int.natCast_nonneg _),O0];rfl
   have hle:x / p^(i+1)<=x:=Nat.div_le_self _ _
   have e3:wrap64 ((x / p^(i+1):Nat):Int)=((x / p^(i+1):Nat):Int):=wn rfl (by clear e1 e2;omega)
   refine Rz.succ ?_
   simp only[rV.l0,if_pos (show(i:Int)<(n:Int) by clear e1 e2 e3;omega),if_neg (show ¬(p:Int)=0 by clear e1 e2 e3;omega),if_pos (show(0:Int)<=(i:Int) from Int.natCast_nonneg _),if_pos (show(i:Int)<(o.length:Int) by clear e1 e2 e3;omega),e1,e2,e3,Int.toNat_natCast,wn (show(i:Int)+1=((i+1:Nat):Int) by clear e1 e2 e3;omega) (by clear e1 e2 e3;omega)]
   clear e1 e2 e3
   refine ih (i+1) _ (by omega) (by rw[List.length_set];exact ho) (λj hj=>?_)
   by_cases g:j=i
   ·subst g;rw[wR _ (by omega)]
   ·rw[pR _ (by omega)];exact hh j (by omega)
 simp only[rV.f,if_pos (show(0:Int)<=(n:Int) from Int.natCast_nonneg _),Int.toNat_natCast,if_pos (show n<=35184372088832 by omega)]
 have:=loop n 0 (List.replicate n 0) (by omega) List.length_replicate (λj hj=>by omega)
 rw[Nat.pow_zero,Nat.div_one] at this
 exact this
def wB(p n:Nat)(l:List Int):Prop:=∀i,i<n->0<=rd l (i:Int)/\rd l (i:Int)<(p:Int)
def Lx(l:List Int)(n:Nat)(z:Int):Int:=sm n (λi=>rd l (i:Int)*z^i)
theorem IM(l:List Int)(n:Nat):Dg n (Lx l n):=⟨_,λ_=>rfl⟩
theorem CJ(l:List Int)(n:Nat)(z:Int):Lx l (n+1) z=Lx l n z+rd l (n:Int)*z^n:=rfl
theorem F5{l:List Int}{n i:Nat}(v:Int)(hi:i<n)(hl:i<l.length)(z:Int):Lx (l.set i v) n z=Lx l n z+(v-rd l (i:Int))*z^i:=by
 have h:=wO (a:=i) (n:=n) (f:=λj=>rd (l.set i v) (j:Int)*z^j-rd l (j:Int)*z^j) hi (λj _ hne=>by rw[pR v (λe=>hne e.symm)];omega)
 rw[D8] at h
 simp only[wR v hl] at h
 unfold Lx
 rw[Int.sub_mul]
 omega
theorem NY{p m:Nat}{x:Int}{l:List Int}(h:∀i,i<m->rd l (i:Int)=kz p x i)(z:Int):Lx l m z=Px p m x z:=kF (λi hi=>by rw[h i hi])
theorem Rh{p n:Nat}{M:Int}{md l:List Int}(hp:2<=p)(hl:l.length=n)(h:wB p n l)(hpn:p^n<=256)(hn:n<=64):Ev (λk=>rW.f k (p:Int) M md l) ((nv p (λi=>(rd l (i:Int)).toNat) n:Nat):Int):=by
 have loop:∀(i X:Nat),i<=n->X<p^(n-i)->Ev (λk=>rW.l0 k l (X:Int) ((i:Int)-1) (p:Int) M md) ((X*p^i+nv p (λi=>(rd l (i:Int)).toNat) i:Nat):Int):=by
  intro i
  induction i with
  |zero=>
   intro X _ hX
   refine Ev.succ ?_
   simp only[rW.l0,if_neg (show ¬((0:Nat):Int)-1>=0 by omega),nv,Nat.pow_zero,Nat.mul_one,Nat.add_zero]
   exact Ev.some _
  |succ i ih=>
   intro X hi hX
   have hr:=h i (by omega)
   obtain⟨c,hc⟩:∃c:Nat,rd l (i:Int)=(c:Int):=⟨(rd l (i:Int)).toNat,by omega⟩
   have hb:X*p+c<p^(n-i):=by
    have h1:(X+1)*p<=p^(n-(i+1))*p:=Nat.mul_le_mul_right _ hX
    have h2:p^(n-(i+1))*p=p^(n-i):=by rw[<-Nat.pow_succ];congr 1;omega
    rw[h2,Nat.add_mul] at h1
    omega
   have hb2:p^(n-i)<=p^n:=Nat.pow_le_pow_right (by omega) (by omega)
   have e1:wrap64 ((X:Int)*(p:Int))=((X*p:Nat):Int):=wn (by rw[Int.natCast_mul]) (by omega)
   have e2:wrap64 (((X*p:Nat):Int)+(c:Int))=((X*p+c:Nat):Int):=wn (by clear e1;omega) (by clear e1;omega)
   refine Ev.succ ?_
   simp only[rW.l0,show((i+1:Nat):Int)-1=(i:Int) from by clear e1 e2;omega,if_pos (show(i:Int)>=0 from Int.natCast_nonneg _),if_pos (show(0:Int)<=(i:Int) from Int.natCast_nonneg _),if_pos (show(i:Int)<(l.length:Int) by clear e1 e2;omega),hc,e1,e2,lD (x:=(i:Int)-1) (by clear e1 e2;omega) (by clear e1 e2;omega)]
   clear e1 e2
   refine Ev.cast (ih (X*p+c) (by omega) hb) ?_
   rw[nv,hc,Int.toNat_natCast,Nat.add_mul,Nat.pow_succ,Nat.mul_comm (p^i) p,Nat.mul_assoc]
   congr 1
   omega
 simp only[rW.f,hl,lD (x:=(n:Int)-1) (by omega) (by omega)]
 refine Ev.cast (loop n 0 (Nat.le_refl _) (by rw[Nat.sub_self,Nat.pow_zero];exact Nat.one_pos)) ?_
 rw[Nat.zero_mul,Nat.zero_add]
theorem KP{p n:Nat}{M:Int}{md l:List Int}(hp:2<=p)(hl:l.length=n)(h:wB p n l)(hpn:p^n<=256)(hn:n<=64):Rz (λx=>El (p^n) x/\∀i,i<n->kz p x i=rd l (i:Int)) (λk=>rW.f k (p:Int) M md l):=by
 have hc:∀i,i<n->(rd l (i:Int)).toNat<p:=λi hi=>by have:=h i hi;omega
 refine Rz.of (Rh hp hl h hpn hn) ⟨⟨Int.natCast_nonneg _,by have:=II n hc;omega⟩,λi hi=>?_⟩
 rw[O0,Nu hp n hc i hi]
 have:=h i hi
 omega
def xw(q:Nat)(x:Int):Int:=if 0<=x/\x<(q:Int) then x else 0
theorem VJ{q:Nat}(hq:2<=q)(x:Int):El q (xw q x):=by
 unfold xw
 by_cases h:0<=x/\x<(q:Int)
 ·rw[if_pos h];exact h
 ·rw[if_neg h];exact⟨by omega,by omega⟩
theorem Ot{q:Nat}{x:Int}(h:El q x):xw q x=x:=if_pos h
theorem Oy{p m:Nat}(h:Fd p m)(md:List Int)(x:Int):Ev (λk=>yE.f k (p:Int) (m:Int) md x) (xw (p^m) x):=by
 simp only[yE.f,Aa.f]
 by_cases h0:x>=0
 ·simp only[if_pos h0]
  refine Ev.bind (Ev.bind (Ep h md) (Ev.some _)) ?_
  by_cases h1:x<((p^m:Nat):Int)
  ·rw[show xw (p^m) x=x from if_pos ⟨h0,h1⟩]
   simp only[decide_eq_true h1,if_true]
   exact Ev.some _
  ·rw[show xw (p^m) x=0 from if_neg (λe=>h1 e.2)]
   simp only[decide_eq_false h1,Bool.false_eq_true,if_false]
   exact Ev.some _
 ·simp only[if_neg h0]
  rw[show xw (p^m) x=0 from if_neg (λe=>h0 e.1)]
  refine Ev.bind (Ev.some _) ?_
  simp only[Bool.false_eq_true,if_false]
  exact Ev.some _
theorem G8{p m:Nat}(h:Fd p m)(md:List Int){x:Int}(hx:El (p^m) x):Rz (λl=>l.length=m/\∀i,i<m->rd l (i:Int)=kz p x i) (λk=>qK.f k (p:Int) (m:Int) md x):=by
 have hp:=h.Ah
 obtain⟨h1,h2,h3,h4⟩:=h
 have ev:=Oy ⟨h1,h2,h3,h4⟩ md x
 rw[Ot hx] at ev
 obtain⟨n,rfl⟩:∃n:Nat,x=(n:Int):=⟨x.toNat,by have:=hx.1;omega⟩
 have hx2:=hx.2
 simp only[qK.f]
 refine Rz.bind ev ?_
 refine Rz.uI (OX h1 hp h3 (by omega)) (λl hl=>?_)
 exact Rz.some hl
theorem X_{p m:Nat}(h:Fd p m)(md:List Int){x y:Int}(hx:El (p^m) x)(hy:El (p^m) y):
 Rz (λz=>El (p^m) z/\∀i,i<m->kz p z i=(kz p x i+kz p y i) % (p:Int)) (λk=>og.f k (p:Int) (m:Int) md x y):=by
 have hp:=h.Ah
 have h1:=h.two
 have h3:=h.eight
 simp only[og.f]
 refine Rz.uI (G8 h md hx) (λa ha=>?_)
 refine Rz.uI (G8 h md hy) (λb hb=>?_)
 have loop:∀(d i:Nat) (o:List Int),i+d=m->o.length=m->(∀j,j<i->rd o (j:Int)=(kz p x j+kz p y j) % (p:Int))->(∀j,i<=j->j<m->rd o (j:Int)=kz p x j)->
  Rz (λz=>El (p^m) z/\∀i,i<m->kz p z i=(kz p x i+kz p y i) % (p:Int)) (λk=>og.l0 k o b (i:Int) (p:Int) (m:Int) md):=by
  intro d
  induction d with
  |zero=>
   intro i o hi ho hl hh
   have:i=m:=by omega
   subst this
   refine Rz.succ ?_
   simp only[og.l0,ho,if_neg (Int.lt_irrefl (i:Int))]
   refine Rz.uI (KP h1 ho (λj hj=>?_) h.small (by omega)) (λz hz=>Rz.some ⟨hz.1,λj hj=>by rw[hz.2 j hj,hl j hj]⟩)
   rw[hl j hj]
   exact⟨Int.emod_nonneg _ (by omega),Int.emod_lt_of_pos _ (by omega)⟩
  |succ d ih=>
   intro i o hi ho hl hh
   have d1:=AZ h1 x i
   have d2:=AZ h1 y i
   have e0:=hh i (Nat.le_refl _) (by omega)
   have e1:=hb.2 i (by omega)
   have e2:wrap64 (kz p x i+kz p y i)=kz p x i+kz p y i:=lD (by omega) (by omega)
   have e3:Int.tmod (kz p x i+kz p y i) (p:Int)=(kz p x i+kz p y i) % (p:Int):=Int.tmod_eq_emod_of_nonneg (by clear e2;omega)
   refine Rz.succ ?_
   simp only[og.l0,if_pos (show(i:Int)<(o.length:Int) by clear e2 e3;omega),if_pos (show(0:Int)<=(i:Int) from Int.natCast_nonneg _),if_pos (show(i:Int)<(b.length:Int) by have:=hb.1;clear e2 e3;omega),if_neg (show ¬(p:Int)=0 by clear e2 e3;omega),e0,e1,e2,e3,Int.toNat_natCast,wn (show(i:Int)+1=((i+1:Nat):Int) by clear e2 e3;omega) (by clear e2 e3;omega)]
   clear e2 e3
   refine ih (i+1) _ (by omega) (by rw[List.length_set];exact ho) (λj hj=>?_) (λj h1 h2=>?_)
   ·by_cases g:j=i
    ·subst g;rw[wR _ (by omega)]
    ·rw[pR _ (by omega)];exact hl j (by omega)
   ·rw[pR _ (by omega)];exact hh j (by omega) h2
 exact loop m 0 a (by omega) ha.1 (λj hj=>by omega) (λj _ hj=>ha.2 j hj)
def Fm(m:Nat)(md:List Int)(z:Int):Int:=z^m+Lx md m z
theorem Wy(m:Nat)(md:List Int):Mon m (Fm m md):=⟨_,IM md m,λ_=>rfl⟩
theorem Gm{x p:Int}:x % p=x+p*(-(x / p)):=by
 have:=Int.emod_add_mul_ediv x p
 grind
structure Cv (p n:Nat) (T:Int->Int) (c:List Int):Prop where
 len:c.length=n
 xK:wB p n c
 val:∃A,lK A/\∀z,Lx c n z=T z+(p:Int)*A z
theorem Xd{p n:Nat}{T T':Int->Int}{c:List Int}(h:Cv p n T c)(hp:2<=p){i:Nat}(hi:i<n){v:Int}(hT:∀z,T' z=T z+v*z^i):Cv p n T' (c.set i ((rd c (i:Int)+v) % (p:Int))):=by
 obtain⟨h1,h2,A,hA,e⟩:=h
 refine⟨by rw[List.length_set];exact h1,λj hj=>?_,?_⟩
 ·by_cases g:i=j
  ·subst g
   rw[wR _ (by omega)]
   exact⟨Int.emod_nonneg _ (by omega),Int.emod_lt_of_pos _ (by omega)⟩
  ·rw[pR _ g];exact h2 j hj
 ·refine⟨_,sU hA (xn (-((rd c (i:Int)+v) / (p:Int))) (uY i)),λz=>?_⟩
  rw[F5 _ hi (by omega),e z,hT z,Gm]
  grind
def JP(p m:Nat)(md:List Int):Prop:=m=1\/(md.length=m/\wB p m md)
theorem Vd{a b p:Int}(h1:0<=a/\a<p)(h2:0<=b/\b<p)(hp:p<=256):0<=a*b/\a*b<=65536:=by
 refine⟨Int.mul_nonneg h1.1 h2.1,?_⟩
 have:a*b<=256*256:=Int.mul_le_mul (by omega) (by omega) h2.1 (by omega)
 omega
theorem MB{c t v:Int}{p:Nat}(hp:2<=p)(hp2:p<=256)(hc:0<=c/\c<(p:Int))(ht:0<=t/\t<(p:Int))(hv:0<=v/\v<(p:Int)):
 Int.tmod (wrap64 (c+wrap64 (wrap64 ((p:Int)-t)*v))) (p:Int)=(c+((p:Int)-t)*v) % (p:Int):=by
 have h1:0<=((p:Int)-t)*v/\((p:Int)-t)*v<=65536:=by
  refine⟨Int.mul_nonneg (by omega) hv.1,?_⟩
  have:((p:Int)-t)*v<=256*256:=Int.mul_le_mul (by omega) (by omega) hv.1 (by omega)
  omega
 rw[lD (x:=(p:Int)-t) (by omega) (by omega),lD (x:=((p:Int)-t)*v) (by omega) (by omega),lD (x:=c+((p:Int)-t)*v) (by omega) (by omega)]
 exact Int.tmod_eq_emod_of_nonneg (by omega)
def Pr(p m:Nat)(md:List Int)(X:Int->Int)(z:Int):Prop:=El (p^m) z/\Cg (p:Int) (Fm m md) (Px p m z) X
theorem Ua{p m:Nat}(h:Fd p m){md:List Int}(hmd:JP p m md){X:Int->Int}:∀(d:Nat),d<=m-1->∀(c:List Int),c.length=2*m-1->wB p (2*m-1) c->Cg (p:Int) (Fm m md) (Lx c (m+d)) X->
 Rz (Pr p m md X) (λk=>jU.l2 k c (((m+d:Nat):Int)-1) (p:Int) (m:Int) md):=by
 have hp:=h.Ah
 have h1:=h.two
 have h2:=h.one
 have h3:=h.eight
 intro d
 induction d with
 |zero=>
  intro _ c hl hr hc
  refine Rz.succ ?_
  simp only[jU.l2,Nat.add_zero,if_neg (show ¬(m:Int)-1>=(m:Int) by omega),if_pos (show(0:Int)<=(m:Int) from Int.natCast_nonneg _),if_pos (show(m:Int)<=(c.length:Int) by omega),Int.toNat_natCast]
  have ht:(c.take m).length=m:=by rw[List.length_take];omega
  have hrd:∀i,i<m->rd (c.take m) (i:Int)=rd c (i:Int):=by
   intro i hi
   rw[nU (by omega),nU (by omega),List.getElem_take]
  refine Rz.uI (KP h1 ht (λi hi=>by rw[hrd i hi];exact hr i (by omega)) h.small (by omega)) (λz hz=>Rz.some ⟨hz.1,?_⟩)
  refine mX (oL (λz'=>?_)) hc
  refine kF λi hi=>?_
  rw[hz.2 i hi,hrd i hi]
 |succ d ih=>
  intro hd c hl hr hc
  obtain⟨hml,hmr⟩:md.length=m/\wB p m md:=by
   rcases hmd with e|e
   ·omega
   ·exact e
  refine Rz.succ ?_
  simp only[jU.l2,show((m+(d+1):Nat):Int)-1=((m+d:Nat):Int) from by omega,if_pos (show((m+d:Nat):Int)>=(m:Int) by omega)]
  obtain⟨t,ht⟩:∃t,t=rd c ((m+d:Nat):Int):=⟨_,rfl⟩
  have htr:=hr (m+d) (by omega)
  rw[<-ht] at htr
  have inner:∀(e j:Nat) (c:List Int),j+e=m->c.length=2*m-1->wB p (2*m-1) c->rd c ((m+d:Nat):Int)=t->Cg (p:Int) (Fm m md) (Lx c (m+d+1)) (λz=>X z+(-t)*(z^d*Lx md j z))->
   Rz (Pr p m md X) (λk=>jU.l3 k c ((m+d:Nat):Int) (j:Int) (p:Int) (m:Int) md):=by
   intro e
   induction e with
   |zero=>
    intro j c hj hl hr htc hc
    have:j=m:=by omega
    subst this
    refine Rz.succ ?_
    simp only[jU.l3,if_neg (Int.lt_irrefl (j:Int)),lD (x:=((j+d:Nat):Int)-1) (by omega) (by omega)]
    refine ih (by omega) c hl hr ?_
    have e1:∀z,Lx c (j+d) z=Lx c (j+d+1) z+(-t)*z^(j+d):=by
     intro z
     rw[CJ,htc]
     grind
    refine mX (oL e1) (mX (EJ hc (oL (λ_=>rfl))) ?_)
    refine Jw (xn (-t) (uY d)) (λz=>?_)
    show X z+(-t)*(z^d*Lx md j z)+(-t)*z^(j+d)=X z+Fm j md z*(-t*z^d)
    unfold Fm
    rw[Int.pow_add]
    grind
   |succ e I5=>
    intro j c hj hl hr htc hc
    have hjm:j<m:=by omega
    have ei:wrap64 (wrap64 (((m+d:Nat):Int)-(m:Int))+(j:Int))=((d+j:Nat):Int):=by
     rw[lD (x:=((m+d:Nat):Int)-(m:Int)) (by omega) (by omega)]
     exact wn (by omega) (by omega)
    have st:=MB h1 hp (hr (d+j) (by clear ei;omega)) htr (hmr j hjm)
    refine Rz.succ ?_
    simp only[jU.l3,if_pos (show(j:Int)<(m:Int) by clear ei st;omega),ei,if_pos (show(0:Int)<=((d+j:Nat):Int) from Int.natCast_nonneg _),if_pos (show((d+j:Nat):Int)<(c.length:Int) by clear ei st;omega),if_pos (show(0:Int)<=((m+d:Nat):Int) from Int.natCast_nonneg _),if_pos (show((m+d:Nat):Int)<(c.length:Int) by clear ei st;omega),if_pos (show(0:Int)<=(j:Int) from Int.natCast_nonneg _),if_pos (show(j:Int)<(md.length:Int) by clear ei st;omega),if_neg (show ¬(p:Int)=0 by clear ei st;omega),htc,st,Int.toNat_natCast,wn (show(j:Int)+1=((j+1:Nat):Int) by clear ei st;omega) (by clear ei st;omega)]
    clear ei st
    refine I5 (j+1) _ (by omega) (by rw[List.length_set];exact hl) (λi hi=>?_) (by rw[pR _ (by omega)];exact htc) ?_
    ·by_cases g:d+j=i
     ·subst g
      rw[wR _ (by omega)]
      exact⟨Int.emod_nonneg _ (by omega),Int.emod_lt_of_pos _ (by omega)⟩
     ·rw[pR _ g];exact hr i hi
    ·obtain⟨A,B,hA,hB,e⟩:=hc
     refine⟨_,B,sU hA (xn (rd md (j:Int)+ -((rd c ((d+j:Nat):Int)+((p:Int)-t)*rd md (j:Int)) / (p:Int))) (uY (d+j))),hB,λz=>?_⟩
     rw[F5 _ (by omega) (by omega),e z,Gm]
     dsimp only
     rw[CJ,Int.pow_add]
     grind
  refine inner m 0 c (by omega) hl hr ht.symm ?_
  refine mX hc (oL (λz=>?_))
  show X z=X z+(-t)*(z^d*Lx md 0 z)
  unfold Lx
  simp [sm]
theorem Vf{p m:Nat}(h:Fd p m){md:List Int}(hmd:JP p m md){x y:Int}(hx:El (p^m) x)(hy:El (p^m) y):
 Rz (Pr p m md (λz=>Px p m x z*Px p m y z)) (λk=>jU.f k (p:Int) (m:Int) md x y):=by
 have hp:=h.Ah
 have h1:=h.two
 have h2:=h.one
 have h3:=h.eight
 have en:wrap64 (wrap64 (2*(m:Int))-1)=((2*m-1:Nat):Int):=by
  rw[lD (x:=2*(m:Int)) (by omega) (by omega)]
  exact wn (by omega) (by omega)
 simp only[jU.f,en,if_pos (show(0:Int)<=((2*m-1:Nat):Int) from Int.natCast_nonneg _),Int.toNat_natCast,if_pos (show 2*m-1<=35184372088832 by clear en;omega)]
 clear en
 refine Rz.uI (G8 h md hx) (λa ha=>?_)
 refine Rz.uI (G8 h md hy) (λb hb=>?_)
 have outer:∀(d i:Nat) (c:List Int),i+d=m->Cv p (2*m-1) (λz=>Lx a i z*Px p m y z) c->
  Rz (Pr p m md (λz=>Px p m x z*Px p m y z)) (λk=>jU.l0 k a b c (i:Int) (p:Int) (m:Int) md):=by
  intro d
  induction d with
  |zero=>
   intro i c hi hc
   have:i=m:=by omega
   subst this
   have en:wrap64 (wrap64 (2*(i:Int))-2)=((i+(i-1):Nat):Int)-1:=by
    rw[lD (x:=2*(i:Int)) (by omega) (by omega),lD (by omega) (by omega)]
    omega
   refine Rz.succ ?_
   simp only[jU.l0,if_neg (Int.lt_irrefl (i:Int)),en]
   clear en
   refine Ua h hmd (i-1) (Nat.le_refl _) c hc.len hc.xK ?_
   obtain⟨A,hA,e⟩:=hc.val
   refine CX hA (λz=>?_)
   rw[show i+(i-1)=2*i-1 by omega,e z,NY ha.2]
  |succ d ih=>
   intro i c hi hc
   have him:i<m:=by omega
   refine Rz.succ ?_
   simp only[jU.l0,if_pos (show(i:Int)<(m:Int) by omega)]
   have inner:∀(e j:Nat) (c:List Int),j+e=m->Cv p (2*m-1) (λz=>Lx a i z*Px p m y z+rd a (i:Int)*z^i*Lx b j z) c->
    Rz (Pr p m md (λz=>Px p m x z*Px p m y z)) (λk=>jU.l1 k a b c (i:Int) (j:Int) (p:Int) (m:Int) md):=by
    intro e
    induction e with
    |zero=>
     intro j c hj hc
     have:j=m:=by omega
     subst this
     refine Rz.succ ?_
     simp only[jU.l1,if_neg (Int.lt_irrefl (j:Int)),wn (show(i:Int)+1=((i+1:Nat):Int) by omega) (by omega)]
     refine ih (i+1) c (by omega) ⟨hc.len,hc.xK,?_⟩
     obtain⟨A,hA,e⟩:=hc.val
     refine⟨A,hA,λz=>?_⟩
     rw[e z,NY hb.2,CJ]
     grind
    |succ e I5=>
     intro j c hj hc
     have hjm:j<m:=by omega
     have hl:=hc.len
     have hal:=ha.1
     have hbl:=hb.1
     have ra:0<=rd a (i:Int)/\rd a (i:Int)<(p:Int):=by rw[ha.2 i him];exact AZ h1 x i
     have rb:0<=rd b (j:Int)/\rd b (j:Int)<(p:Int):=by rw[hb.2 j hjm];exact AZ h1 y j
     have rc:=hc.xK (i+j) (by omega)
     have ms:=Vd ra rb (by omega)
     have ei:wrap64 ((i:Int)+(j:Int))=((i+j:Nat):Int):=wn (by omega) (by omega)
     have e1:wrap64 (rd a (i:Int)*rd b (j:Int))=rd a (i:Int)*rd b (j:Int):=lD (by clear ei;omega) (by clear ei;omega)
     have e2:wrap64 (rd c ((i+j:Nat):Int)+rd a (i:Int)*rd b (j:Int))=rd c ((i+j:Nat):Int)+rd a (i:Int)*rd b (j:Int):=lD (by clear ei e1;omega) (by clear ei e1;omega)
     have e3:Int.tmod (rd c ((i+j:Nat):Int)+rd a (i:Int)*rd b (j:Int)) (p:Int)=(rd c ((i+j:Nat):Int)+rd a (i:Int)*rd b (j:Int)) % (p:Int):=Int.tmod_eq_emod_of_nonneg (by clear ei e1 e2;omega)
     refine Rz.succ ?_
     simp only[jU.l1,if_pos (show(j:Int)<(m:Int) by clear ei e1 e2 e3;omega),ei,if_pos (show(0:Int)<=((i+j:Nat):Int) from Int.natCast_nonneg _),if_pos (show((i+j:Nat):Int)<(c.length:Int) by clear ei e1 e2 e3;omega),if_pos (show(0:Int)<=(i:Int) from Int.natCast_nonneg _),if_pos (show(i:Int)<(a.length:Int) by clear ei e1 e2 e3;omega),if_pos (show(0:Int)<=(j:Int) from Int.natCast_nonneg _),if_pos (show(j:Int)<(b.length:Int) by clear ei e1 e2 e3;omega),if_neg (show ¬(p:Int)=0 by clear ei e1 e2 e3;omega),e1,e2,e3,Int.toNat_natCast,wn (show(j:Int)+1=((j+1:Nat):Int) by clear ei e1 e2 e3;omega) (by clear ei e1 e2 e3;omega)]
     clear ei e1 e2 e3
     refine I5 (j+1) _ (by omega) (Xd hc h1 (i:=i+j) (by omega) (v:=rd a (i:Int)*rd b (j:Int)) (λz=>?_))
     rw[CJ,Int.pow_add]
     grind
   refine inner m 0 c (by omega) ⟨hc.len,hc.xK,?_⟩
   obtain⟨A,hA,e⟩:=hc.val
   refine⟨A,hA,λz=>?_⟩
   rw[e z]
   unfold Lx
   simp [sm]
 refine outer m 0 _ (by omega) ⟨List.length_replicate,λi _=>by rw[vX];omega,_,Cf,λz=>?_⟩
 unfold Lx
 rw[yz (λi _=>by rw[vX];simp)]
 simp [sm]
def Dv(p m:Nat)(md:List Int)(e:Nat)(c:Nat->Int):Prop:=∃h A,lK h/\lK A/\∀z,Fm m md z=(z^e+sm e (λi=>c i*z^i))*h z+(p:Int)*A z
theorem WV{p m e:Nat}(h:Fd p m){md lo:List Int}(hml:md.length=m)(hmr:wB p m md)(hlo:lo.length=e)(hlr:wB p e lo)(he:e<=m):
 Rz (λb=>b=false->¬Dv p m md e (λi=>rd lo (i:Int))) (λk=>kN.f k lo md (p:Int)):=by
 have hp:=h.Ah
 have h1:=h.two
 have h2:=h.one
 have h3:=h.eight
 let L:Int->Int:=λz=>z^e+Lx lo e z
 have hL:Mon e L:=⟨_,IM lo e,λ_=>rfl⟩
 have scan:∀(d i:Nat) (r:List Int),i+d=m+1->r.length=m+1->Rz (λb=>b=false->∃j,j<m+1/\rd r (j:Int)≠0) (λk=>kN.l2 k r (i:Int)):=by
  intro d
  induction d with
  |zero=>
   intro i r hi hr
   refine Rz.succ ?_
   simp only[kN.l2,if_neg (show ¬(i:Int)<(r.length:Int) by omega)]
   exact Rz.some (λe=>by cases e)
  |succ d ih=>
   intro i r hi hr
   refine Rz.succ ?_
   simp only[kN.l2,if_pos (show(i:Int)<(r.length:Int) by omega),if_pos (show(0:Int)<=(i:Int) from Int.natCast_nonneg _),wn (show(i:Int)+1=((i+1:Nat):Int) by omega) (by omega)]
   by_cases g:rd r (i:Int)=0
   ·simp only[if_pos g];exact ih (i+1) r (by omega) hr
   ·simp only[if_neg g];exact Rz.some (λ_=>⟨i,by omega,g⟩)
 have outer:∀(d:Nat) (r:List Int),e+d<=m+1->r.length=m+1->wB p (m+1) r->(∀j,e+d<=j->j<m+1->rd r (j:Int)=0)->Cg (p:Int) L (Lx r (m+1)) (Fm m md)->
  Rz (λb=>b=false->¬Dv p m md e (λi=>rd lo (i:Int))) (λk=>kN.l0 k lo (p:Int) (e:Int) r (((e+d:Nat):Int)-1)):=by
  intro d
  induction d with
  |zero=>
   intro r hle hl hr hz hc
   refine Rz.succ ?_
   simp only[kN.l0,Nat.add_zero,if_neg (show ¬(e:Int)-1>=(e:Int) by omega)]
   refine Rz.mono (scan (m+1) 0 r (by omega) hl) (λb hb hf ⟨hh,A,AQ,hA,eq⟩=>?_)
   obtain⟨j,hj,hne⟩:=hb hf
   have hje:j<e:=Nat.lt_of_not_le (λf=>hne (hz j (by omega) hj))
   have hD:Cg (p:Int) L (Lx r e) (λ_=>0):=by
    have s1:Cg (p:Int) L (Lx r e) (Lx r (m+1)):=oL (λz=>(Lr (m:=e) (n:=m+1) (by omega) (λi hi hi2=>by rw[hz i (by omega) hi2];simp)).symm)
    refine mX s1 (mX hc ⟨A,hh,hA,AQ,λz=>?_⟩)
    rw[eq z]
    show _=0+(p:Int)*A z+(z^e+Lx lo e z)*hh z
    unfold Lx
    grind
   obtain⟨a,ha⟩:=uniq hL (IM r e) hD
   have key:=Eo (n:=e) (c:=λi=>rd r (i:Int)) (d:=λi=>(p:Int)*a i) (λz=>by
    have e1:=ha z
    rw[<-oP] at e1
    unfold Lx at e1
    rw[e1]
    exact kF (λi _=>by rw[Int.mul_assoc])) j hje
   have key:rd r (j:Int)=(p:Int)*a j:=key
   have Y7:=hr j hj
   rcases Int.lt_trichotomy (a j) 0 with g|g|g
   ·have:=Int.mul_le_mul_of_nonneg_left (show a j<= -1 by omega) (show(0:Int)<=(p:Int) by omega)
    omega
   ·rw[g,Int.mul_zero] at key;exact hne key
   ·have:=Int.mul_le_mul_of_nonneg_left (show 1<=a j by omega) (show(0:Int)<=(p:Int) by omega)
    omega
  |succ d ih=>
   intro r hle hl hr hz hc
   obtain⟨t,ht⟩:∃t,t=rd r ((e+d:Nat):Int):=⟨_,rfl⟩
   have htr:=hr (e+d) (by omega)
   rw[<-ht] at htr
   refine Rz.succ ?_
   simp only[kN.l0,show((e+(d+1):Nat):Int)-1=((e+d:Nat):Int) from by omega,if_pos (show((e+d:Nat):Int)>=(e:Int) by omega),if_pos (show(0:Int)<=((e+d:Nat):Int) from Int.natCast_nonneg _),if_pos (show((e+d:Nat):Int)<(r.length:Int) by omega),<-ht]
   have inner:∀(n j:Nat) (r:List Int),j+n=e->r.length=m+1->wB p (m+1) r->rd r ((e+d:Nat):Int)=t->(∀j,e+d+1<=j->j<m+1->rd r (j:Int)=0)->Cg (p:Int) L (Lx r (m+1)) (λz=>Fm m md z+(-t)*(z^d*Lx lo j z))->
    Rz (λb=>b=false->¬Dv p m md e (λi=>rd lo (i:Int))) (λk=>kN.l1 k lo (p:Int) (e:Int) r ((e+d:Nat):Int) t (j:Int)):=by
    intro n
    induction n with
    |zero=>
     intro j r hj hl hr htc hz hc
     have:j=e:=by omega
     subst this
     refine Rz.succ ?_
     simp only[kN.l1,if_neg (Int.lt_irrefl (j:Int)),if_pos (show(0:Int)<=((j+d:Nat):Int) from Int.natCast_nonneg _),if_pos (show((j+d:Nat):Int)<(r.length:Int) by omega),Int.toNat_natCast,lD (x:=((j+d:Nat):Int)-1) (by omega) (by omega)]
     refine ih _ (by omega) (by rw[List.length_set];exact hl) (λi hi=>?_) (λi h1 h2=>?_) ?_
     ·by_cases g:j+d=i
      ·subst g;rw[wR _ (by omega)];omega
      ·rw[pR _ g];exact hr i hi
     ·by_cases g:j+d=i
      ·subst g;rw[wR _ (by omega)]
      ·rw[pR _ g];exact hz i (by omega) h2
     ·have e1:∀z,Lx (r.set (j+d) 0) (m+1) z=Lx r (m+1) z+(-t)*z^(j+d):=by
       intro z
       rw[F5 _ (by omega) (by omega),htc]
       grind
      refine mX (oL e1) (mX (EJ hc (oL (λ_=>rfl))) ?_)
      refine Jw (xn (-t) (uY d)) (λz=>?_)
      show Fm m md z+(-t)*(z^d*Lx lo j z)+(-t)*z^(j+d)=Fm m md z+(z^j+Lx lo j z)*(-t*z^d)
      rw[Int.pow_add]
      grind
    |succ n I4=>
     intro j r hj hl hr htc hz hc
     have hje:j<e:=by omega
     have ei:wrap64 (wrap64 (((e+d:Nat):Int)-(e:Int))+(j:Int))=((d+j:Nat):Int):=by
      rw[lD (x:=((e+d:Nat):Int)-(e:Int)) (by omega) (by omega)]
      exact wn (by omega) (by omega)
     have st:=MB h1 hp (hr (d+j) (by clear ei;omega)) htr (hlr j hje)
     refine Rz.succ ?_
     simp only[kN.l1,if_pos (show(j:Int)<(e:Int) by clear ei st;omega),ei,if_pos (show(0:Int)<=((d+j:Nat):Int) from Int.natCast_nonneg _),if_pos (show((d+j:Nat):Int)<(r.length:Int) by clear ei st;omega),if_pos (show(0:Int)<=(j:Int) from Int.natCast_nonneg _),if_pos (show(j:Int)<(lo.length:Int) by clear ei st;omega),if_neg (show ¬(p:Int)=0 by clear ei st;omega),st,Int.toNat_natCast,wn (show(j:Int)+1=((j+1:Nat):Int) by clear ei st;omega) (by clear ei st;omega)]
     clear ei st
     refine I4 (j+1) _ (by omega) (by rw[List.length_set];exact hl) (λi hi=>?_) (by rw[pR _ (by omega)];exact htc) (λi h1 h2=>by rw[pR _ (by omega)];exact hz i h1 h2) ?_
     ·by_cases g:d+j=i
      ·subst g
       rw[wR _ (by omega)]
       exact⟨Int.emod_nonneg _ (by omega),Int.emod_lt_of_pos _ (by omega)⟩
      ·rw[pR _ g];exact hr i hi
     ·obtain⟨A,B,hA,hB,eq⟩:=hc
      refine⟨_,B,sU hA (xn (rd lo (j:Int)+ -((rd r ((d+j:Nat):Int)+((p:Int)-t)*rd lo (j:Int)) / (p:Int))) (uY (d+j))),hB,λz=>?_⟩
      rw[F5 _ (by omega) (by omega),eq z,Gm]
      dsimp only
      rw[CJ,Int.pow_add]
      grind
   refine inner e 0 r (by omega) hl hr ht.symm (λj h1 h2=>hz j (by omega) h2) ?_
   refine mX hc (oL (λz=>?_))
   show Fm m md z=Fm m md z+(-t)*(z^d*Lx lo 0 z)
   unfold Lx
   simp [sm]
 simp only[kN.f,Option.bind_some,List.nil_append,List.length_nil,hml,hlo,List.length_append,List.length_singleton,Nat.zero_add,if_pos (show m<17592186044416 by omega),lD (x:=((m+1:Nat):Int)-1) (by omega) (by omega)]
 have hrl:(md++[1]).length=m+1:=by simp [hml]
 have MI:∀i,i<m->rd (md++[1]) (i:Int)=rd md (i:Int):=by
  intro i hi
  rw[nU (by omega),nU (by omega),List.getElem_append_left (by omega)]
 have MH:rd (md++[1]) (m:Int)=1:=by
  rw[nU (by omega)]
  simp [hml]
 have:=outer (m+1-e) (md++[1]) (by omega) hrl (λi hi=>?_) (λj h1 h2=>by omega) (oL (λz=>?_))
 ·rw[show e+(m+1-e)=m+1 by omega] at this
  exact this
 ·by_cases g:i<m
  ·rw[MI i g];exact hmr i g
  ·have:i=m:=by omega
   subst this
   rw[MH];omega
 ·rw[CJ,MH]
  unfold Fm
  have:Lx (md++[1]) m z=Lx md m z:=kF (λi hi=>by rw[MI i hi])
  rw[this]
  omega
theorem OO{p m e:Nat}{md:List Int}{c d:Nat->Int}(h:∀i,i<e->c i=d i)(k:Dv p m md e c):Dv p m md e d:=by
 obtain⟨hh,A,h1,h2,e⟩:=k
 refine⟨hh,A,h1,h2,λz=>?_⟩
 rw[e z,kF (λi hi=>by rw[h i hi])]
def G7(p m:Nat)(md:List Int):Prop:=∀(e:Nat) (c:Nat->Int),1<=e->2*e<=m->(∀i,i<e->0<=c i/\c i<(p:Int))->¬Dv p m md e c
theorem VG{p m:Nat}(h:Fd p m){md:List Int}(hml:md.length=m)(hmr:wB p m md):
 Rz (λb=>b=true->G7 p m md) (λk=>nV.f k md (p:Int)):=by
 have hp:=h.Ah
 have h1:=h.two
 have h2:=h.one
 have h3:=h.eight
 have outer:∀(n d:Nat),d+n=m->(∀(e:Nat) (c:Nat->Int),1<=e->e<=d->(∀i,i<e->0<=c i/\c i<(p:Int))->¬Dv p m md e c)->
  Rz (λb=>b=true->G7 p m md) (λk=>nV.l0 k md (p:Int) ((p^d:Nat):Int) ((d+1:Nat):Int)):=by
  intro n
  induction n with
  |zero=>
   intro d hd hh
   refine Rz.succ ?_
   simp only[nV.l0,lD (x:=2*((d+1:Nat):Int)) (by omega) (by omega),if_neg (show ¬2*((d+1:Nat):Int)<=(md.length:Int) by omega)]
   exact Rz.some (λ_ e c h1 h2 h3=>hh e c h1 (by omega) h3)
  |succ n ih=>
   intro d hd hh
   by_cases hle:2*(d+1)<=m
   ·have hsm:=Uz h (show d+1<=m by omega)
    have e1:wrap64 (((p^d:Nat):Int)*(p:Int))=((p^(d+1):Nat):Int):=wn (by rw[Nat.pow_succ,Int.natCast_mul]) (by omega)
    refine Rz.succ ?_
    simp only[nV.l0,lD (x:=2*((d+1:Nat):Int)) (by clear e1;omega) (by clear e1;omega),if_pos (show 2*((d+1:Nat):Int)<=(md.length:Int) by clear e1;omega),e1]
    clear e1
    have inner:∀(n v:Nat),v+n=p^(d+1)->(∀u:Nat,u<v->¬Dv p m md (d+1) (kz p (u:Int)))->
     Rz (λb=>b=true->G7 p m md) (λk=>nV.l1 k md (p:Int) ((p^(d+1):Nat):Int) ((d+1:Nat):Int) (v:Int)):=by
     intro n
     induction n with
     |zero=>
      intro v hv hh2
      refine Rz.succ ?_
      simp only[nV.l1,if_neg (show ¬(v:Int)<((p^(d+1):Nat):Int) by omega),wn (show((d+1:Nat):Int)+1=((d+1+1:Nat):Int) by omega) (by omega)]
      refine ih (d+1) (by omega) (λe c he1 he2 hc hdv=>?_)
      by_cases g:e=d+1
      ·subst g
       obtain⟨x,hx,hxd⟩:=OJ h1 c hc
       obtain⟨u,rfl⟩:∃u:Nat,x=(u:Int):=⟨x.toNat,by have:=hx.1;omega⟩
       exact hh2 u (by have:=hx.2;omega) (OO (λi hi=>(hxd i hi).symm) hdv)
      ·exact hh e c he1 (by omega) hc hdv
     |succ n I4=>
      intro v hv hh2
      refine Rz.succ ?_
      simp only[nV.l1,if_pos (show(v:Int)<((p^(d+1):Nat):Int) by omega),wn (show(v:Int)+1=((v+1:Nat):Int) by omega) (by omega)]
      refine Rz.uI (OX h1 hp (n:=d+1) (by omega) (x:=v) (by omega)) (λlo hlo=>?_)
      refine Rz.uI (WV h hml hmr hlo.1 (λi hi=>by rw[hlo.2 i hi];exact AZ h1 _ _) (by omega)) (λb hb=>?_)
      by_cases g:b=true
      ·simp only[if_pos g]
       exact Rz.some (λe=>by cases e)
      ·simp only[if_neg g]
       refine I4 (v+1) (by omega) (λu hu=>?_)
       by_cases g2:u=v
       ·subst g2
        exact λhdv=>hb (by simpa using g) (OO (λi hi=>(hlo.2 i hi).symm) hdv)
       ·exact hh2 u (by omega)
    exact inner (p^(d+1)) 0 (by omega) (λu hu=>by omega)
   ·refine Rz.succ ?_
    simp only[nV.l0,lD (x:=2*((d+1:Nat):Int)) (by omega) (by omega),if_neg (show ¬2*((d+1:Nat):Int)<=(md.length:Int) by omega)]
    exact Rz.some (λ_ e c h1 h2 h3=>hh e c h1 (by omega) h3)
 simp only[nV.f]
 have:=outer m 0 (by omega) (λe c h1 h2=>by omega)
 rw[Nat.pow_zero] at this
 exact this
structure Fa (p m:Nat) (md:List Int):Prop where
 fd:Fd p m
 Em:E8 p
 NT:JP p m md
 AO:G7 p m md
theorem Xq(P M:Int)(md:List Int)(hl:md.length<=9223372036854775807):Rz (λc=>c=0->∃p m:Nat,P=(p:Int)/\M=(m:Int)/\Fa p m md) (λk=>o9.f k P M md):=by
 have bad:Rz (λc=>c=0->∃p m:Nat,P=(p:Int)/\M=(m:Int)/\Fa p m md) (λk=>o9.j0 k true P M md):=by
  refine Rz.succ ?_
  simp only[o9.j0,if_true]
  exact Rz.some (λe=>by cases e)
 have one:Rz (λc:Int=>c=0->∃p m:Nat,P=(p:Int)/\M=(m:Int)/\Fa p m md) (λ_=>some 1):=Rz.some (λe=>by cases e)
 simp only[o9.f]
 refine Rz.uI (UQ P M md) (λc hc=>?_)
 by_cases h0:c=0
 ·simp only[if_pos h0];exact bad
 simp only[if_neg h0]
 rcases hc with e|⟨p,m,rfl,rfl,h,rfl⟩
 ·exact absurd e h0
 have hp:=h.Ah
 have h1:=h.two
 have h2:=h.one
 have h3:=h.eight
 refine Rz.uI (Ux h1 hp) (λb hb=>?_)
 by_cases hbt:b=true
 ·subst hbt
  have Em:=hb rfl
  simp only[Bool.not_true]
  refine Rz.succ ?_
  simp only[o9.j0,Bool.false_eq_true,if_false]
  by_cases hm1:(m:Int)=1
  ·simp only[if_pos hm1]
   by_cases hl0:(md.length:Int)=0
   ·simp only[if_pos hl0]
    refine Rz.some (λ_=>⟨p,m,rfl,rfl,h,Em, .inl (by omega),λe c he1 he2=>by omega⟩)
   ·simp only[if_neg hl0];exact one
  ·simp only[if_neg hm1]
   by_cases hlm:(md.length:Int)=(m:Int)
   ·simp only[if_pos hlm]
    have loop:∀(d i:Nat),i+d=m->wB p i md->Rz (λc=>c=0->∃p' m':Nat,(p:Int)=(p':Int)/\(m:Int)=(m':Int)/\Fa p' m' md) (λk=>o9.l0 k (i:Int) (p:Int) (m:Int) md):=by
     intro d
     induction d with
     |zero=>
      intro i hi hr
      have:i=m:=by omega
      subst this
      refine Rz.succ ?_
      simp only[o9.l0,if_neg (Int.lt_irrefl (i:Int))]
      refine Rz.uI (VG h (by omega) hr) (λb hb=>?_)
      by_cases g:b=true
      ·simp only[if_pos g]
       exact Rz.some (λ_=>⟨p,i,rfl,rfl,h,Em, .inr ⟨by omega,hr⟩,hb g⟩)
      ·simp only[if_neg g]
       exact Rz.some (λe=>by cases e)
     |succ d ih=>
      intro i hi hr
      refine Rz.succ ?_
      simp only[o9.l0,if_pos (show(i:Int)<(m:Int) by omega),if_pos (show(0:Int)<=(i:Int) from Int.natCast_nonneg _),if_pos (show(i:Int)<(md.length:Int) by omega),wn (show(i:Int)+1=((i+1:Nat):Int) by omega) (by omega)]
      by_cases g1:rd md (i:Int)<0
      ·simp only[if_pos g1];exact Rz.some (λe=>by cases e)
      simp only[if_neg g1]
      by_cases g2:rd md (i:Int)>=(p:Int)
      ·simp only[if_pos g2];exact Rz.some (λe=>by cases e)
      simp only[if_neg g2]
      refine ih (i+1) (by omega) (λj hj=>?_)
      by_cases g:j=i
      ·subst g;omega
      ·exact hr j (by omega)
    exact loop m 0 (by omega) (λi hi=>by omega)
   ·simp only[if_neg hlm];exact one
 ·have:b=false:=by simpa using hbt
  subst this
  simp only[Bool.not_false]
  exact bad
theorem WC{p m:Nat}{md:List Int}(h:Fa p m md):∃add mul:Int->Int->Int,jZ (p^m) add mul/\
 (∀x y,El (p^m) x->El (p^m) y->Ev (λk=>og.f k (p:Int) (m:Int) md x y) (add x y))/\
 (∀x y,El (p^m) x->El (p^m) y->Ev (λk=>jU.f k (p:Int) (m:Int) md x y) (mul x y)):=by
 obtain⟨fd,Em,NT,AO⟩:=h
 have ha:∀x y,∃z,El (p^m) x->El (p^m) y->Ev (λk=>og.f k (p:Int) (m:Int) md x y) z/\El (p^m) z/\Cg (p:Int) (Fm m md) (Px p m z) (λt=>Px p m x t+Px p m y t):=by
  intro x y
  by_cases hx:El (p^m) x
  ·by_cases hy:El (p^m) y
   ·obtain⟨z,hz,he,hd⟩:=X_ fd md hx hy
    refine⟨z,λ_ _=>⟨hz,he,?_⟩⟩
    refine CX (A:=λt=>sm m (λi=>(-((kz p x i+kz p y i) / (p:Int)))*t^i)) ⟨m,zx _⟩ (λt=>?_)
    unfold Px
    rw[<-wP,<-oP,<-wP]
    refine kF λi hi=>?_
    rw[hd i hi,Gm]
    grind
   ·exact⟨0,λ_ e=>absurd e hy⟩
  ·exact⟨0,λe=>absurd e hx⟩
 have hm:∀x y,∃z,El (p^m) x->El (p^m) y->Ev (λk=>jU.f k (p:Int) (m:Int) md x y) z/\El (p^m) z/\Cg (p:Int) (Fm m md) (Px p m z) (λt=>Px p m x t*Px p m y t):=by
  intro x y
  by_cases hx:El (p^m) x
  ·by_cases hy:El (p^m) y
   ·obtain⟨z,hz,he,hd⟩:=Vf fd NT hx hy
    exact⟨z,λ_ _=>⟨hz,he,hd⟩⟩
   ·exact⟨0,λ_ e=>absurd e hy⟩
  ·exact⟨0,λe=>absurd e hx⟩
 refine⟨λx y=>Classical.choose (ha x y),λx y=>Classical.choose (hm x y),?_,λx y hx hy=>(Classical.choose_spec (ha x y) hx hy).1,λx y hx hy=>(Classical.choose_spec (hm x y) hx hy).1⟩
 exact gf Em fd.one (Wy m md) (λe c h1 h2 h3 hh A AQ hA eq=>AO e c h1 h2 h3 ⟨hh,A,AQ,hA,eq⟩) (λx y hx hy=>(Classical.choose_spec (ha x y) hx hy).2) (λx y hx hy=>(Classical.choose_spec (hm x y) hx hy).2)
end Mw
end
section
set_option linter.unusedVariables false
set_option linter.unusedSimpArgs false
namespace Mw
def wt:List Int->Nat
 | []=>0
 |a::w=>(if a=0 then 0 else 1)+wt w
def zc:List Bool->List Int->Nat
 |true::T,_::w=>zc T w
 |false::T,a::w=>(if a=0 then 1 else 0)+zc T w
 |_,_=>0
def nc:List Bool->List Int->Nat
 |true::T,_::w=>nc T w
 |false::T,a::w=>(if a=0 then 0 else 1)+nc T w
 |_,_=>0
theorem DK:∀w:List Int,wt w<=w.length
 | []=>Nat.le_refl 0
 |a::w=>by have:=DK w;simp only[wt,List.length_cons];split<;>omega
theorem DJ:∀{w:List Int},wt w=0->w=List.replicate w.length 0
 | [],_=>rfl
 |a::w,h=>by
  simp only[wt] at h
  by_cases e:a=0
  ·subst e;rw[if_pos rfl,Nat.zero_add] at h
   have:=DJ h
   rw[List.length_cons,List.replicate_succ,<-this]
  ·rw[if_neg e] at h;omega
theorem Hg(n:Nat):wt (List.replicate n 0)=0:=by
 induction n with
 |zero=>rfl
 |succ n ih=>rw[List.replicate_succ];simp only[wt,if_pos,ih]
theorem BH:∀(T:List Bool) (w:List Int),T.length=w.length->zc T w+nc T w+cnt T=w.length
 | [],[],_=>rfl
 | [],_::_,h=>by simp at h
 |_::_,[],h=>by simp at h
 |true::T,a::w,h=>by have:=BH T w (by simpa using h);simp only[zc,nc,cnt,List.length_cons];omega
 |false::T,a::w,h=>by have:=BH T w (by simpa using h);simp only[zc,nc,cnt,List.length_cons];split<;>omega
theorem CB:∀(T:List Bool) (w:List Int),T.length=w.length->jV T w->nc T w=wt w
 | [],[],_,_=>rfl
 | [],_::_,h,_=>by simp at h
 |_::_,[],h,_=>by simp at h
 |true::T,a::w,h,hv=>by
  have:=CB T w (by simpa using h) hv.2
  have ha:=hv.1 rfl
  simp only[nc,wt,ha,if_pos];omega
 |false::T,a::w,h,hv=>by
  have:=CB T w (by simpa using h) hv.2
  simp only[nc,wt];omega
theorem Eu:∀(T:List Bool) (w:List Int),T.length=w.length->wt w<=nc T w+cnt T
 | [],[],_=>Nat.le_refl 0
 | [],_::_,h=>by simp at h
 |_::_,[],h=>by simp at h
 |true::T,a::w,h=>by have:=Eu T w (by simpa using h);simp only[nc,wt,cnt];split<;>omega
 |false::T,a::w,h=>by have:=Eu T w (by simpa using h);simp only[nc,wt,cnt];omega
def Full:List Bool->List Int->Prop
 |s::S,a::w=>(s=true->a≠0)/\Full S w
 |_,_=>True
theorem IK:∀(T:List Bool) (w:List Int),T.length=w.length->(wt w=nc T w+cnt T↔Full T w)
 | [],[],_=>⟨λ_=>trivial,λ_=>rfl⟩
 | [],_::_,h=>by simp at h
 |_::_,[],h=>by simp at h
 |true::T,a::w,h=>by
  have hl:T.length=w.length:=by simpa using h
  have:=IK T w hl
  have h2:=Eu T w hl
  simp only[nc,wt,cnt,Full]
  by_cases e:a=0
  ·rw[if_pos e]
   exact⟨λg=>by omega,λg=>absurd e (g.1 trivial)⟩
  ·rw[if_neg e]
   exact⟨λg=>⟨λ_=>e,this.mp (by omega)⟩,λg=>by have:=this.mpr g.2;omega⟩
 |false::T,a::w,h=>by
  have:=IK T w (by simpa using h)
  simp only[nc,wt,cnt,Full]
  exact⟨λg=>⟨λe=>by simp at e,this.mp (by omega)⟩,λg=>by have:=this.mpr g.2;omega⟩
def sup:List Bool->Nat->(List Bool->Int)->Int
 | [],0,g=>g []
 | [],_+1,_=>0
 |true::T,v,g=>sup T v (λU=>g (true::U))
 |false::T,0,g=>sup T 0 (λU=>g (false::U))
 |false::T,v+1,g=>sup T (v+1) (λU=>g (false::U))+sup T v (λU=>g (true::U))
theorem uV:∀(T:List Bool) (v:Nat) (f g:List Bool->Int),(∀U,U.length=T.length->cnt U=cnt T+v->f U=g U)->sup T v f=sup T v g
 | [],0,_,_,h=>h [] rfl rfl
 | [],_+1,_,_,_=>rfl
 |true::T,v,_,_,h=>uV T v _ _ (λU h1 h2=>h _ (by simp [h1]) (by simp only[cnt];omega))
 |false::T,0,_,_,h=>uV T 0 _ _ (λU h1 h2=>h _ (by simp [h1]) (by simp only[cnt];omega))
 |false::T,v+1,_,_,h=>by
  simp only[sup]
  rw[uV T (v+1) _ _ (λU h1 h2=>h (false::U) (by simp [h1]) (by simp only[cnt];omega)),
   uV T v _ _ (λU h1 h2=>h (true::U) (by simp [h1]) (by simp only[cnt];omega))]
theorem wM:∀(T:List Bool) (v:Nat) (c:Int) (f:List Bool->Int),sup T v (λU=>c*f U)=c*sup T v f
 | [],0,_,_=>rfl
 | [],_+1,c,_=>(Int.mul_zero c).symm
 |true::T,v,c,f=>wM T v c _
 |false::T,0,c,f=>wM T 0 c _
 |false::T,v+1,c,f=>by
  simp only[sup]
  rw[wM T (v+1) c,wM T v c,Int.mul_add]
theorem BV{q n:Nat}:∀(T:List Bool) (v:Nat) (f:List Bool->List Int->Int),sup T v (λU=>ws q n (f U))=ws q n (λw=>sup T v (λU=>f U w))
 | [],0,_=>rfl
 | [],_+1,_=>(BK (λ_ _=>rfl)).symm
 |true::T,v,f=>BV T v _
 |false::T,0,f=>BV T 0 _
 |false::T,v+1,f=>by
  simp only[sup]
  rw[BV T (v+1),BV T v,Fh]
theorem D5:∀(T:List Bool) (w:List Int) (v:Nat),T.length=w.length->sup T v (λU=>ind (jV U w))=ind (jV T w)*(bin (zc T w) v:Int)
 | [],[],0,_=>by show ind True=ind True*1;rw[kK trivial];rfl
 | [],[],v+1,_=>by show(0:Int)=ind True*0;simp
 | [],_::_,_,h=>by simp at h
 |_::_,[],_,h=>by simp at h
 |true::T,a::w,v,h=>by
  have ih:=D5 T w v (by simpa using h)
  show sup T v (λU=>ind ((true=true->a=0)/\jV U w))=ind ((true=true->a=0)/\jV T w)*(bin (zc T w) v:Int)
  rw[uV T v _ _ (λU _ _=>tV _ (jV U w)),wM,ih,tV,Int.mul_assoc]
 |false::T,a::w,0,h=>by
  have ih:=D5 T w 0 (by simpa using h)
  show sup T 0 (λU=>ind ((false=true->a=0)/\jV U w))=ind ((false=true->a=0)/\jV T w)*(bin (zc (false::T) (a::w)) 0:Int)
  have e:∀U,ind ((false=true->a=0)/\jV U w)=ind (jV U w):=λU=>uG ⟨λg=>g.2,λg=>⟨λe=>by simp at e,g⟩⟩
  rw[uV T 0 _ _ (λU _ _=>e U),ih,e,qW,qW]
 |false::T,a::w,v+1,h=>by
  have ih1:=D5 T w (v+1) (by simpa using h)
  have ih2:=D5 T w v (by simpa using h)
  show sup T (v+1) (λU=>ind ((false=true->a=0)/\jV U w))+sup T v (λU=>ind ((true=true->a=0)/\jV U w))=ind ((false=true->a=0)/\jV T w)*(bin (zc (false::T) (a::w)) (v+1):Int)
  have e:∀U,ind ((false=true->a=0)/\jV U w)=ind (jV U w):=λU=>uG ⟨λg=>g.2,λg=>⟨λe=>by simp at e,g⟩⟩
  rw[uV T (v+1) _ _ (λU _ _=>e U),uV T v _ _ (λU _ _=>tV _ (jV U w)),wM,ih1,ih2,e]
  simp only[zc]
  by_cases ha:a=0
  ·rw[if_pos ha,kK (λ_=>ha),Nat.add_comm 1,vP,Int.natCast_add];grind
  ·rw[if_neg ha,kE (p:=True->a=0) (λg=>ha (g trivial)),Nat.zero_add];grind
theorem NH(T:List Bool)(a:Int)(w:List Int):nc (false::T) (a::w)=(if a=0 then 0 else 1)+nc T w:=rfl
theorem JY(T:List Bool)(a:Int)(w:List Int):zc (false::T) (a::w)=(if a=0 then 1 else 0)+zc T w:=rfl
theorem D6:∀(T:List Bool) (w:List Int) (v:Nat),T.length=w.length->
 sup T v (λU=>ind (jV (U.map not) w))=if nc T w<=v then(bin (zc T w) (v-nc T w):Int) else 0
 | [],[],0,_=>by show ind True=_;rw[kK trivial];rfl
 | [],[],v+1,_=>by show(0:Int)=_;rfl
 | [],_::_,_,h=>by simp at h
 |_::_,[],_,h=>by simp at h
 |true::T,a::w,v,h=>by
  have ih:=D6 T w v (by simpa using h)
  show sup T v (λU=>ind ((false=true->a=0)/\jV (U.map not) w))=if nc T w<=v then(bin (zc T w) (v-nc T w):Int) else 0
  have e:∀U:List Bool,ind ((false=true->a=0)/\jV (U.map not) w)=ind (jV (U.map not) w):=λU=>uG ⟨λg=>g.2,λg=>⟨λe=>by simp at e,g⟩⟩
  rw[uV T v _ _ (λU _ _=>e U),ih]
 |false::T,a::w,0,h=>by
  have ih:=D6 T w 0 (by simpa using h)
  show sup T 0 (λU=>ind ((true=true->a=0)/\jV (U.map not) w))=_
  rw[uV T 0 _ _ (λU _ _=>tV _ (jV (U.map not) w)),wM,ih]
  rw[NH,JY]
  by_cases ha:a=0
  ·rw[if_pos ha,kK (λ_=>ha),if_pos ha]
   simp only[Nat.zero_add,qW,Nat.zero_sub]
   simp
  ·rw[if_neg ha,kE (λg=>ha (g rfl)),if_neg (by omega:¬1+nc T w<=0)];simp
 |false::T,a::w,v+1,h=>by
  have ih1:=D6 T w (v+1) (by simpa using h)
  have ih2:=D6 T w v (by simpa using h)
  show sup T (v+1) (λU=>ind ((true=true->a=0)/\jV (U.map not) w))+sup T v (λU=>ind ((false=true->a=0)/\jV (U.map not) w))=_
  have e:∀U:List Bool,ind ((false=true->a=0)/\jV (U.map not) w)=ind (jV (U.map not) w):=λU=>uG ⟨λg=>g.2,λg=>⟨λe=>by simp at e,g⟩⟩
  rw[uV T v _ _ (λU _ _=>e U),uV T (v+1) _ _ (λU _ _=>tV _ (jV (U.map not) w)),wM,ih1,ih2]
  rw[NH,JY]
  by_cases ha:a=0
  ·rw[if_pos ha,kK (λ_=>ha),if_pos ha,Nat.zero_add]
   by_cases h1:nc T w<=v
   ·rw[if_pos h1,if_pos (by omega),if_pos (by omega),Nat.add_comm 1,show v+1-nc T w=(v-nc T w)+1 by omega,vP,Int.natCast_add];omega
   ·rw[if_neg h1]
    by_cases h2:nc T w<=v+1
    ·rw[if_pos h2,if_pos h2,show v+1-nc T w=0 by omega,qW,qW];rfl
    ·rw[if_neg h2,if_neg h2];rfl
  ·rw[if_neg ha,kE (λg=>ha (g rfl)),if_neg ha,Nat.zero_add]
   by_cases h1:nc T w<=v
   ·rw[if_pos h1,if_pos (by omega:1+nc T w<=v+1),show v+1-(1+nc T w)=v-nc T w by omega];omega
   ·rw[if_neg h1,if_neg (by omega:¬1+nc T w<=v+1)];omega
def o8(F:Nat->Int):Nat->Nat
 |0=>0
 |n+1=>o8 F n+if F n=0 then 0 else 1
theorem H7(F G:Nat->Int):∀n,(∀j,j<n->F j=0->G j=0)->o8 G n<=o8 F n
 |0,_=>Nat.le_refl 0
 |n+1,h=>by
  have ih:=H7 F G n (λj hj=>h j (by omega))
  simp only[o8]
  by_cases e:F n=0
  ·rw[if_pos e,if_pos (h n (by omega) e)];exact ih
  ·rw[if_neg e];split<;>omega
theorem H6(F G:Nat->Int)(a:Nat):∀n,(∀j,j<n->F j=0->G j=0)->a<n->F a≠0->G a=0->o8 G n<o8 F n
 |0,_,h,_,_=>by omega
 |n+1,h,ha,h1,h2=>by
  simp only[o8]
  by_cases e:a=n
  ·subst e
   have:=H7 F G a (λj hj=>h j (by omega))
   rw[if_neg h1,if_pos h2];omega
  ·have ih:=H6 F G a n (λj hj=>h j (by omega)) (by omega) h1 h2
   by_cases e:F n=0
   ·rw[if_pos e,if_pos (h n (by omega) e)];omega
   ·rw[if_neg e];split<;>omega
theorem Lc(F:Nat->Int):∀n,o8 F n=0->∀j,j<n->F j=0
 |0,_,j,hj=>by omega
 |n+1,h,j,hj=>by
  simp only[o8] at h
  by_cases e:F n=0
  ·by_cases ej:j=n
   ·subst ej;exact e
   ·exact Lc F n (by omega) j (by omega)
  ·rw[if_neg e] at h;omega
theorem Ld(F:Nat->Int):∀n,o8 F n<=n
 |0=>Nat.le_refl 0
 |n+1=>by have:=Ld F n;simp only[o8];split<;>omega
theorem unique(n:Nat):∀(m:Nat) (F:Nat->Int),o8 F (n+1)<=m->(∀v,v<m->sm (n+1) (λj=>F j*(bin (n-j) v:Int))=0)->∀j,j<n+1->F j=0:=by
 intro m
 induction m with
 |zero=>intro F h _;exact Lc F (n+1) (by omega)
 |succ m ih=>
  intro F hs hm
  refine Classical.byContradiction λhno=>?_
  obtain⟨a,ha,hne⟩:∃a,a<n+1/\F a≠0:=by
   refine Classical.byContradiction λh=>hno λj hj=>Classical.byContradiction λe=>h ⟨j,hj,e⟩
  have hG:=ih (λj=>((a:Int)-j)*F j) (by
   have:=H6 F (λj=>((a:Int)-j)*F j) a (n+1) (λj _ e=>by show((a:Int)-j)*F j=0;rw[e];simp) ha hne (by show((a:Int)-a)*F a=0;simp)
   omega) (by
   intro v hv
   have h1:=hm (v+1) (by omega)
   have h2:=hm v (by omega)
   have e:∀j,j<n+1->((a:Int)-j)*F j*(bin (n-j) v:Int)=((v:Int)+1)*(F j*(bin (n-j) (v+1):Int))+((v:Int)-n+a)*(F j*(bin (n-j) v:Int)):=by
    intro j hj
    have hb:=GH (n-j) v
    by_cases g:v<=n-j
    ·have hb':=congrArg (λx:Nat=>(x:Int)) hb
     simp only[Int.natCast_mul] at hb'
     rw[show((n-j-v:Nat):Int)=(n:Int)-j-v by omega,show((v+1:Nat):Int)=(v:Int)+1 by omega] at hb'
     generalize (bin (n-j) (v+1):Int)=x at*
     generalize (bin (n-j) v:Int)=y at*
     grind
    ·rw[tY (n:=n-j) (k:=v) (by omega),tY (n:=n-j) (k:=v+1) (by omega)];simp
   rw[kF e,wP,oP,oP,h1,h2];simp)
  have hz:∀j,j<n+1->j≠a->F j=0:=by
   intro j hj hja
   have:=hG j hj
   have this:((a:Int)-j)*F j=0:=this
   rcases Int.mul_eq_zero.mp this with e|e
   ·omega
   ·exact e
  have h0:=hm 0 (by omega)
  rw[wO (a:=a) ha (λi hi hia=>by rw[hz i hi hia];simp),qW] at h0
  simp at h0
  exact hne h0
section codes
variable{q:Nat}{add mul:Int->Int->Int}
theorem Vg(F:jZ q add mul)(n:Nat)(C:List Int->Prop)(hC:sF q add mul n C)(T:List Bool)(hT:T.length=n)(v:Nat)(hv:cnt T+v<=n):
 ws q n (λc=>ind (C c)*if nc T c<=v then(bin (zc T c) (v-nc T c):Int) else 0)*(q:Int)^(n-(cnt T+v))=
 ws q n (λc=>ind (C c))*ws q n (λd=>ind (Dl q add mul n C d)*(ind (jV T d)*(bin (zc T d) v:Int))):=by
 have e1:ws q n (λc=>ind (C c)*if nc T c<=v then(bin (zc T c) (v-nc T c):Int) else 0)=sup T v (λU=>ws q n (λc=>ind (C c/\jV (U.map not) c))):=by
  rw[BV]
  refine oI λw hw=>?_
  rw[uV T v _ _ (λU _ _=>tV (C w) (jV (U.map not) w)),wM,D6 T w v (by rw[hT,hw.1])]
 have e2:ws q n (λd=>ind (Dl q add mul n C d)*(ind (jV T d)*(bin (zc T d) v:Int)))=sup T v (λU=>ws q n (λd=>ind (Dl q add mul n C d/\jV U d))):=by
  rw[BV]
  refine oI λw hw=>?_
  rw[uV T v _ _ (λU _ _=>tV (Dl q add mul n C w) (jV U w)),wM,D5 T w v (by rw[hT,hw.1])]
 rw[e1,e2,Int.mul_comm _ ((q:Int)^_),<-wM,<-wM]
 refine uV T v _ _ λU h1 h2=>?_
 have k:=key F n C hC (U.map not) (by rw[List.length_map,h1,hT])
 rw[NC] at k
 have hc:=Jt U
 rw[<-k,Int.mul_comm,show n-(cnt T+v)=cnt (U.map not) by omega]
noncomputable def wd(q n:Nat)(C:List Int->Prop)(T:List Bool)(j:Nat):Int:=ws q n (λc=>ind (C c)*(ind (jV T c)*ind (wt c=j)))
theorem Py(n:Nat)(C:List Int->Prop)(T:List Bool)(f:Nat->Int):
 ws q n (λc=>ind (C c)*(ind (jV T c)*f (wt c)))=sm (n+1) (λj=>wd q n C T j*f j):=by
 have:∀j,j<n+1->wd q n C T j*f j=ws q n (λc=>ind (C c)*(ind (jV T c)*ind (wt c=j))*f j):=λj _=>(QN n (f j) _).symm
 rw[kF this,<-Kq]
 refine oI λw hw=>?_
 have hl:=DK w
 rw[hw.1] at hl
 rw[wO (a:=wt w) (by omega) (λi _ hne=>by rw[kE (λe:wt w=i=>hne e.symm)];simp),kK rfl]
 grind
theorem OQ(F:jZ q add mul)(n:Nat)(C:List Int->Prop)(hC:sF q add mul n C)(T:List Bool)(hT:T.length=n)(v:Nat)(hv:cnt T+v<=n):
 ws q n (λc=>ind (C c)*if nc T c<=v then(bin (zc T c) (v-nc T c):Int) else 0)*(q:Int)^(n-(cnt T+v))=
 ws q n (λc=>ind (C c))*sm (n+1) (λj=>wd q n (Dl q add mul n C) T j*(bin (n-cnt T-j) v:Int)):=by
 rw[Vg F n C hC T hT v hv]
 congr 1
 rw[<-Py n (Dl q add mul n C) T (λj=>(bin (n-cnt T-j) v:Int))]
 refine oI λw hw=>?_
 by_cases h:jV T w
 ·have h1:=BH T w (by rw[hT,hw.1])
  have h2:=CB T w (by rw[hT,hw.1]) h
  rw[hw.1] at h1
  rw[show n-cnt T-wt w=zc T w by omega]
 ·rw[kE h];simp
def none'(n:Nat):List Bool:=List.replicate n false
theorem IJ(n:Nat):(none' n).length=n:=List.length_replicate
theorem FZ:∀n,cnt (none' n)=0
 |0=>rfl
 |n+1=>FZ n
theorem Cj:∀(n:Nat) (w:List Int),jV (none' n) w
 |0,_=>trivial
 |_+1,[]=>trivial
 |n+1,_::w=>⟨λe=>by simp at e,Cj n w⟩
theorem UG(F:jZ q add mul)(n:Nat)(C:List Int->Prop)(hC:sF q add mul n C)(v:Nat)(hv:v<=n):
 (q:Int)^v*sm (n+1) (λi=>wd q n C (none' n) i*(bin (n-i) v:Int))=
 ws q n (λc=>ind (C c))*sm (n+1) (λj=>wd q n (Dl q add mul n C) (none' n) j*(bin (n-j) (n-v):Int)):=by
 have h:=OQ F n C hC (none' n) (IJ n) (n-v) (by rw[FZ];omega)
 rw[FZ,Nat.zero_add,Nat.sub_zero,show n-(n-v)=v by omega] at h
 rw[<-h,Int.mul_comm,<-Py n C (none' n) (λj=>(bin (n-j) v:Int))]
 congr 1
 refine oI λw hw=>?_
 rw[kK (Cj n w),Int.one_mul]
 congr 1
 have h1:=BH (none' n) w (by rw[IJ,hw.1])
 have h2:=CB (none' n) w (by rw[IJ,hw.1]) (Cj n w)
 rw[FZ,hw.1] at h1
 rw[h2,show zc (none' n) w=n-wt w by omega]
 by_cases e:wt w<=n-v
 ·rw[if_pos e,<-GG (n:=n-wt w) (k:=v) (by omega),show n-wt w-v=n-v-wt w by omega]
 ·rw[if_neg e,tY (by omega)];rfl
theorem Vo(F:jZ q add mul)(n:Nat)(C:List Int->Prop)(hC:sF q add mul n C)(j:Nat)(hj:j<=n):
 ws q n (λc=>ind (C c))*wd q n (Dl q add mul n C) (none' n) j=sm (n+1) (λi=>wd q n C (none' n) i*kr ((q:Int)-1) (n-i) i j):=by
 have hz:∀z:Int,sm (n+1) (λj=>(ws q n (λc=>ind (C c))*wd q n (Dl q add mul n C) (none' n) (n-j))*z^j)=
  sm (n+1) (λj=>sm (n+1) (λi=>wd q n C (none' n) i*kr ((q:Int)-1) (n-i) i (n-j))*z^j):=by
  intro z
  have r1:=H_ n (λj=>(ws q n (λc=>ind (C c))*wd q n (Dl q add mul n C) (none' n) (n-j))*z^j)
  have r2:=H_ n (λj=>sm (n+1) (λi=>wd q n C (none' n) i*kr ((q:Int)-1) (n-i) i (n-j))*z^j)
  rw[r1,r2]
  have f1:sm (n+1) (λi=>(ws q n (λc=>ind (C c))*wd q n (Dl q add mul n C) (none' n) (n-(n-i)))*z^(n-i))=
   sm (n+1) (λu=>(z-1)^u*(ws q n (λc=>ind (C c))*sm (n+1) (λj=>wd q n (Dl q add mul n C) (none' n) j*(bin (n-j) u:Int)))):=by
   have s1:∀i,i<n+1->(ws q n (λc=>ind (C c))*wd q n (Dl q add mul n C) (none' n) (n-(n-i)))*z^(n-i)=
    sm (n+1) (λu=>ws q n (λc=>ind (C c))*(wd q n (Dl q add mul n C) (none' n) i*((bin (n-i) u:Int)*(z-1)^u))):=by
    intro i hi
    rw[show n-(n-i)=i by omega,oP,oP]
    have:=PX (n-i) 1 (z-1)
    rw[show(1:Int)+(z-1)=z by omega] at this
    rw[this,Int.mul_assoc]
    congr 2
    rw[D9 (m:=n-i+1) (n:=n+1) (by omega) (λk hk=>by rw[tY (by omega)];simp)]
    refine kF λu _=>?_
    rw[Int.one_pow,Int.mul_one]
   rw[kF s1,zU]
   refine kF λu _=>?_
   rw[<-oP,<-oP]
   refine kF λi _=>?_
   grind
  rw[f1]
  have f2:∀u,u<n+1->(z-1)^u*(ws q n (λc=>ind (C c))*sm (n+1) (λj=>wd q n (Dl q add mul n C) (none' n) j*(bin (n-j) u:Int)))=
   sm (n+1) (λi=>wd q n C (none' n) i*((z-1)^u*(q:Int)^(n-u)*(bin (n-i) (n-u):Int))):=by
   intro u hu
   have:=UG F n C hC (n-u) (by omega)
   rw[show n-(n-u)=u by omega] at this
   rw[<-this,<-oP,<-oP]
   refine kF λi _=>?_
   grind
  rw[kF f2,zU]
  have f3:∀i,i<n+1->sm (n+1) (λj=>wd q n C (none' n) i*((z-1)^j*(q:Int)^(n-j)*(bin (n-i) (n-j):Int)))=
   sm (n+1) (λj=>wd q n C (none' n) i*(kr ((q:Int)-1) (n-i) i j*z^(n-j))):=by
   intro i hi
   rw[oP,oP]
   congr 1
   have g1:=Vz ((q:Int)-1) (n-i) i z 1
   rw[show n-i+i=n by omega] at g1
   have g2:=PX (n-i) (z-1) (q:Int)
   have g3:sm (n+1) (λj=>kr ((q:Int)-1) (n-i) i j*z^(n-j))=(z-1)^i*(z-1+q)^(n-i):=by
    rw[Int.mul_comm,show z-1+(q:Int)=z+((q:Int)-1)*1 by omega,<-g1]
    refine kF λj _=>?_
    rw[Int.one_pow,Int.mul_one]
   rw[g3,g2,<-oP]
   rw[H_]
   rw[Lr (m:=n-i+1) (n:=n+1) (by omega) (λk hk hk2=>by
    rw[show n-(n-k)=k by omega,tY (by omega)];simp)]
   refine kF λk hk=>?_
   rw[show n-(n-k)=k by omega,show n-k=i+(n-i-k) by omega,Int.pow_add]
   grind
  rw[kF f3,zU]
  refine kF λj hj=>?_
  rw[show n-(n-j)=j by omega,<-FM]
  refine kF λi _=>?_
  rw[Int.mul_assoc]
 have:=Eo hz (n-j) (by omega)
 rw[show n-(n-j)=j by omega] at this
 exact this
end codes
end Mw
end
section
set_option linter.unusedVariables false
set_option linter.unusedSimpArgs false
namespace Mw
open Go Go.RowKit Go.Proofs.YtifkbghnmhineaaW.lJ Go.Proofs.YtifkbghnmhineaaW.rO Go.Proofs.YtifkbghnmhineaaW.uO Go.Proofs.Ytifkbghnmhineaa.qc
theorem vJ{l:List (List Int)}{i:Nat}(h:i<l.length):jD l (i:Int)=l[i]:=by
 unfold jD
 simp [List.getD_eq_getElem?_getD,h]
theorem OD{l:List Int}{n:Nat}{f:Nat->Int}(h:l.length=n)(hf:∀i,i<n->rd l (i:Int)=f i):l=(List.range n).map f:=by
 refine List.ext_getElem (by simp [h]) (λi h1 h2=>?_)
 rw[<-nU h1,hf i (by omega)]
 simp
theorem EF{a b:List Int}(h:a.length=b.length)(hf:∀i,i<a.length->rd a (i:Int)=rd b (i:Int)):a=b:=by
 refine List.ext_getElem h (λi h1 h2=>?_)
 rw[<-nU h1,hf i h1,nU h2]
theorem Ug{n:Nat}{f:Nat->Int}{i:Nat}(h:i<n):rd ((List.range n).map f) (i:Int)=f i:=by
 rw[nU (by simpa using h)]
 simp
def uk(q n:Nat)(l:List Int):List Int:=(List.range n).map (λi:Nat=>xw q (rd l (i:Int)))
theorem Ij{q n:Nat}(hq:2<=q)(l:List Int):Wd q n (uk q n l):=by
 refine⟨by simp [uk],λx hx=>?_⟩
 obtain⟨i,_,rfl⟩:=List.mem_map.mp hx
 exact VJ hq _
theorem Oq{q:Nat}:xw q 0=0:=by unfold xw;split<;>rfl
theorem L8{p m n:Nat}(h:Fd p m)(md l:List Int)(hn:n<=12):Ev (λk=>oC.f k (p:Int) (m:Int) md (n:Int) l) (uk (p^m) n l):=by
 have loop:∀(d i:Nat) (o:List Int),i+d=n->o.length=n->(∀j,j<i->rd o (j:Int)=xw (p^m) (rd l (j:Int)))->(∀j,i<=j->j<n->rd o (j:Int)=0)->
  Ev (λk=>oC.l0 k (n:Int) l o (i:Int) (p:Int) (m:Int) md) (uk (p^m) n l):=by
  intro d
  induction d with
  |zero=>
   intro i o hi ho hl hz
   have:i=n:=by omega
   subst this
   refine Ev.succ ?_
   simp only[oC.l0,if_neg (Int.lt_irrefl (i:Int))]
   exact Ev.cast (Ev.some _) (OD ho hl)
  |succ d ih=>
   intro i o hi ho hl hz
   refine Ev.succ ?_
   simp only[oC.l0,if_pos (show(i:Int)<(n:Int) by omega)]
   by_cases g:i<l.length
   ·simp only[if_pos (show(i:Int)<(l.length:Int) by omega),if_pos (show(0:Int)<=(i:Int) from Int.natCast_nonneg _)]
    refine Ev.bind (Oy h md _) ?_
    simp only[if_pos (show(i:Int)<(o.length:Int) by omega),Int.toNat_natCast,wn (show(i:Int)+1=((i+1:Nat):Int) by omega) (by omega)]
    refine ih (i+1) _ (by omega) (by rw[List.length_set];exact ho) (λj hj=>?_) (λj h1 h2=>?_)
    ·by_cases g2:i=j
     ·subst g2;rw[wR _ (by omega)]
     ·rw[pR _ g2];exact hl j (by omega)
    ·rw[pR _ (by omega)];exact hz j (by omega) h2
   ·simp only[if_neg (show ¬(i:Int)<(l.length:Int) by omega)]
    refine Ev.cast (Ev.some _) (OD ho (λj hj=>?_))
    by_cases g2:j<i
    ·exact hl j g2
    ·rw[hz j (by omega) hj,xM (by omega),Oq]
 simp only[oC.f,if_pos (show(0:Int)<=(n:Int) from Int.natCast_nonneg _),Int.toNat_natCast,if_pos (show n<=35184372088832 by omega)]
 exact loop n 0 _ (by omega) List.length_replicate (λj hj=>by omega) (λj _ _=>vX n j)
def qV(a b:List Int):Nat->Nat
 |0=>0
 |i+1=>qV a b i+if rd a (i:Int)=rd b (i:Int) then 0 else 1
theorem Xc(a b:List Int):∀i,qV a b i<=i:=by
 intro i
 induction i with
 |zero=>exact Nat.le_refl 0
 |succ i ih=>rw[qV];split<;>omega
theorem O6(a b:List Int):∀i,qV a b i=0↔∀j,j<i->rd a (j:Int)=rd b (j:Int):=by
 intro i
 induction i with
 |zero=>exact⟨λ_ j hj=>by omega,λ_=>rfl⟩
 |succ i ih=>
  rw[qV]
  refine⟨λh j hj=>?_,λh=>?_⟩
  ·by_cases e:rd a (i:Int)=rd b (i:Int)
   ·rw[if_pos e,Nat.add_zero] at h
    by_cases g:j=i
    ·subst g;exact e
    ·exact ih.mp h j (by omega)
   ·rw[if_neg e] at h;omega
  ·rw[if_pos (h i (by omega)),ih.mpr (λj hj=>h j (by omega))]
theorem Xb(w:List Int)(n:Nat):∀i,i<=w.length->qV w (List.replicate n 0) i=wt (w.take i):=by
 have QM:∀(u:List Int) (a:Int),wt (u++[a])=wt u+if a=0 then 0 else 1:=by
  intro u a
  induction u with
  |nil=>simp [wt]
  |cons b u ih=>simp only[List.cons_append,wt,ih];omega
 intro i
 induction i with
 |zero=>intro _;simp [qV,wt]
 |succ i ih=>
  intro hi
  rw[qV,ih (by omega),FC (by omega),QM,vX]
theorem OW{a b:List Int}(hl:a.length=b.length)(hn:a.length<=12):Ev (λk=>ru.f k a b) ((qV a b a.length:Nat):Int):=by
 have loop:∀(d i:Nat),i+d=a.length->Ev (λk=>ru.l0 k a b ((qV a b i:Nat):Int) (i:Int)) ((qV a b a.length:Nat):Int):=by
  intro d
  induction d with
  |zero=>
   intro i hi
   have:i=a.length:=by omega
   subst this
   refine Ev.succ ?_
   simp only[ru.l0,if_neg (Int.lt_irrefl (a.length:Int))]
   exact Ev.some _
  |succ d ih=>
   intro i hi
   have h1:=Xc a b i
   have nx:=ih (i+1) (by omega)
   rw[qV] at nx
   refine Ev.succ ?_
   simp only[ru.l0,if_pos (show(i:Int)<(a.length:Int) by omega),if_pos (show(0:Int)<=(i:Int) from Int.natCast_nonneg _),if_pos (show(i:Int)<(b.length:Int) by omega),wn (show(i:Int)+1=((i+1:Nat):Int) by omega) (by omega),wn (show((qV a b i:Nat):Int)+1=((qV a b i+1:Nat):Int) by omega) (by omega)]
   by_cases g:rd a (i:Int)=rd b (i:Int)
   ·simp only[if_pos g,Nat.add_zero] at nx ⊢;exact nx
   ·simp only[if_neg g] at nx ⊢;exact nx
 simp only[ru.f]
 exact loop a.length 0 (by omega)
theorem O7{a b:List Int}(hl:a.length=b.length):qV a b a.length=0↔a=b:=
 ⟨λh=>EF hl ((O6 a b a.length).mp h),λh=>by subst h;exact(O6 a a a.length).mpr (λ_ _=>rfl)⟩
theorem V9{q n:Nat}{l:List (List Int)}{r:List Int}(hl:∀w,w∈l->Wd q n w)(hr:Wd q n r)(hn:n<=12)(hlen:l.length<=4096):Ev (λk=>sN.f k l r) (decide (r∈l)):=by
 have loop:∀(d i:Nat),i+d=l.length->(∀j,(h:j<l.length)->j<i->l[j]≠r)->Ev (λk=>sN.l0 k l r (i:Int)) (decide (r∈l)):=by
  intro d
  induction d with
  |zero=>
   intro i hi hh
   refine Ev.succ ?_
   simp only[sN.l0,if_neg (show ¬(i:Int)<(l.length:Int) by omega)]
   refine Ev.cast (Ev.some _) (decide_eq_false (λhm=>?_)).symm
   obtain⟨j,hj,e⟩:=List.getElem_of_mem hm
   exact hh j hj (by omega) e
  |succ d ih=>
   intro i hi hh
   have hil:i<l.length:=by omega
   have hw:=hl l[i] (List.getElem_mem hil)
   have hlr:l[i].length=r.length:=by rw[hw.1,hr.1]
   refine Ev.succ ?_
   simp only[sN.l0,if_pos (show(i:Int)<(l.length:Int) by omega),if_pos (show(0:Int)<=(i:Int) from Int.natCast_nonneg _),vJ hil,wn (show(i:Int)+1=((i+1:Nat):Int) by omega) (by omega)]
   refine Ev.bind (OW hlr (by have:=hw.1;omega)) ?_
   by_cases g:l[i]=r
   ·simp only[if_pos (show((qV l[i] r l[i].length:Nat):Int)=0 by rw[(O7 hlr).mpr g];rfl)]
    exact Ev.cast (Ev.some _) (decide_eq_true (by rw[<-g];exact List.getElem_mem hil)).symm
   ·have:qV l[i] r l[i].length≠0:=λe=>g ((O7 hlr).mp e)
    simp only[if_neg (show ¬((qV l[i] r l[i].length:Nat):Int)=0 by omega)]
    refine ih (i+1) (by omega) (λj h1 h2=>?_)
    by_cases e:j=i
    ·subst e;exact g
    ·exact hh j h1 (by omega)
 simp only[sN.f]
 exact loop l.length 0 (by omega) (λj _ h=>by omega)
section
variable{q n:Nat}{add mul:Int->Int->Int}
structure Sp (q:Nat) (add mul:Int->Int->Int) (n:Nat) (R:Nat->List Int) (i:Nat) (l:List (List Int)):Prop where
 nodup:l.Nodup
 wd:∀w,w∈l->Wd q n w
 uF:sF q add mul n (· ∈l)
 rows:∀j,j<i->R j∈l
 least:∀D,sF q add mul n D->(∀j,j<i->D (R j))->∀w,w∈l->D w
 few:l.length<=4096
def nY(add mul:Int->Int->Int)(r:List Int)(a:Int)(u:List Int):List Int:=jH add u (jo mul a r)
def more(q:Nat)(add mul:Int->Int->Int)(r:List Int)(l:List (List Int))(a:Nat):List (List Int):=(List.range a).flatMap (λb:Nat=>l.map (nY add mul r (b:Int)))
theorem NM{r w:List Int}{l:List (List Int)}{a:Nat}:w∈more q add mul r l a↔∃(b:Nat) (u:List Int),b<a/\u∈l/\w=nY add mul r (b:Int) u:=by
 unfold more
 rw[List.mem_flatMap]
 constructor
 ·rintro⟨b,hb,hw⟩
  obtain⟨u,hu,e⟩:=List.mem_map.mp hw
  exact⟨b,u,List.mem_range.mp hb,hu,e.symm⟩
 ·rintro⟨b,u,hb,hu,rfl⟩
  exact⟨b,List.mem_range.mpr hb,List.mem_map.mpr ⟨u,hu,rfl⟩⟩
theorem NK(r:List Int)(l:List (List Int))(a:Nat):more q add mul r l (a+1)=more q add mul r l a++l.map (nY add mul r (a:Int)):=by
 unfold more
 rw[List.range_succ,List.flatMap_append]
 simp
theorem NP(r:List Int)(l:List (List Int)):∀a,(more q add mul r l a).length=a*l.length:=by
 intro a
 induction a with
 |zero=>simp [more]
 |succ a ih=>rw[NK,List.length_append,ih,List.length_map,Nat.add_mul,Nat.one_mul]
theorem Pj(F:jZ q add mul){r u:List Int}{a:Int}(ha:El q a)(hr:Wd q n r)(hu:Wd q n u):Wd q n (nY add mul r a u):=xI F hu (ni F ha hr)
theorem Q7(F:jZ q add mul){a b c d:List Int}(ha:Wd q n a)(hb:Wd q n b)(hc:Wd q n c)(hd:Wd q n d):jH add (jH add a b) (jH add c d)=jH add (jH add a c) (jH add b d):=by
 rw[wL F ha hb (xI F hc hd),<-wL F hb hc hd,zM F hb hc,wL F hc hb hd,<-wL F ha hc (xI F hb hd)]
theorem EG{a:Nat}(h:a<q):El q (a:Int):=⟨Int.natCast_nonneg _,by omega⟩
theorem Sz(F:jZ q add mul){R:Nat->List Int}{i:Nat}{l:List (List Int)}(h:Sp q add mul n R i l){r:List Int}(hr:Wd q n r)(hR:R i=r)(hnot:r∉l)(hlen:q*l.length<=4096):Sp q add mul n R (i+1) (more q add mul r l q):=by
 have hq:=F.two
 have e0:=F.lQ
 have e1:=F.xx
 have elim:∀{w:List Int},w∈more q add mul r l q->∃(b:Int) (u:List Int),El q b/\u∈l/\w=nY add mul r b u:=by
  intro w hw
  obtain⟨b,u,hb,hu,e⟩:=NM.mp hw
  exact⟨(b:Int),u,EG hb,hu,e⟩
 have Ew:∀{b:Int} {u:List Int},El q b->u∈l->nY add mul r b u∈more q add mul r l q:=by
  intro b u hb hu
  obtain⟨c,rfl⟩:∃c:Nat,b=(c:Int):=⟨b.toNat,by have:=hb.1;omega⟩
  exact NM.mpr ⟨c,u,by have:=hb.2;omega,hu,rfl⟩
 have uF:sF q add mul n (· ∈more q add mul r l q):=by
  refine⟨?_,?_,?_⟩
  ·have:nY add mul r 0 (List.replicate n 0)∈more q add mul r l q:=Ew e0 h.uF.zero
   unfold nY at this
   rw[DL F hr,wK F (uU e0)] at this
   exact this
  ·intro u v _ _ hu hv
   obtain⟨a,u',ha,hu',rfl⟩:=elim hu
   obtain⟨b,v',hb,hv',rfl⟩:=elim hv
   have wu:=h.wd u' hu'
   have wv:=h.wd v' hv'
   have e:jH add (nY add mul r a u') (nY add mul r b v')=nY add mul r (add a b) (jH add u' v'):=by
    unfold nY
    rw[Q7 F wu (ni F ha hr) wv (ni F hb hr),DN F ha hb hr]
   rw[e]
   exact Ew (F.uJ a b ha hb) (h.uF.add u' v' wu wv hu' hv')
  ·intro c u hc _ hu
   obtain⟨a,u',ha,hu',rfl⟩:=elim hu
   have wu:=h.wd u' hu'
   have e:jo mul c (nY add mul r a u')=nY add mul r (mul c a) (jo mul c u'):=by
    unfold nY
    rw[Ko F hc wu (ni F ha hr),Hl F hc ha hr]
   rw[e]
   exact Ew (F.vK c a hc ha) (h.uF.uj c u' hc wu hu')
 have old:∀{u:List Int},u∈l->u∈more q add mul r l q:=by
  intro u hu
  have:=Ew e0 hu
  unfold nY at this
  rw[DL F hr,wK F (h.wd u hu)] at this
  exact this
 have inj:∀{a b:Int} {u v:List Int},El q a->El q b->u∈l->v∈l->nY add mul r a u=nY add mul r b v->a=b/\u=v:=by
  intro a b u v ha hb hu hv e
  have wu:=h.wd u hu
  have wv:=h.wd v hv
  obtain⟨mi,zt,_,hneg⟩:=Fj F
  obtain⟨c,hc,hc0⟩:=F.neg b hb
  have cancel:∀{x y t:List Int},Wd q n x->Wd q n y->Wd q n t->jH add x t=jH add y t->x=y:=by
   intro x y t wx wy wt' e
   have e2:jH add (jH add x t) (jo mul mi t)=jH add (jH add y t) (jo mul mi t):=by rw[e]
   rw[wL F wx wt' (ni F zt wt'),wL F wy wt' (ni F zt wt'),hneg wt',wK F wx,wK F wy] at e2
   exact e2
  have hab:a=b:=by
   refine Classical.byContradiction λhne=>?_
   have hd:El q (add a c):=F.uJ a c ha hc
   have hd0:add a c≠0:=by
    intro e0'
    apply hne
    have e3:add c a=add c b:=by rw[F.add_comm c a hc ha,F.add_comm c b hc hb,e0',hc0]
    exact F.cancel c a b hc ha hb e3
   have e4:jH add u (jo mul (add a c) r)=v:=by
    have e5:jH add (nY add mul r a u) (jo mul c r)=jH add (nY add mul r b v) (jo mul c r):=by rw[e]
    unfold nY at e5
    rw[wL F wu (ni F ha hr) (ni F hc hr),wL F wv (ni F hb hr) (ni F hc hr),<-DN F ha hc hr,<-DN F hb hc hr,hc0,DL F hr,wK F wv] at e5
    exact e5
   have Fp:=ni F hd hr
   have e6:jo mul (add a c) r=jH add v (jo mul mi u):=by
    rw[<-e4,zM F wu Fp,wL F Fp wu (ni F zt wu),hneg wu,wK F Fp]
   have hin:jo mul (add a c) r∈l:=by
    rw[e6]
    exact h.uF.add _ _ wv (ni F zt wu) hv (h.uF.uj mi u zt wu hu)
   obtain⟨y,hy,hy1⟩:=F.inv (add a c) hd hd0
   have:=h.uF.uj y _ hy Fp hin
   rw[Hl F hy hd hr,F.mul_comm y _ hy hd,hy1,Fg F hr] at this
   exact hnot this
  subst hab
  exact⟨rfl,cancel wu wv (ni F ha hr) e⟩
 refine⟨?_,?_,uF,?_,?_,?_⟩
 ·unfold more List.Nodup
  rw[List.pairwise_flatMap]
  refine⟨λb hb=>?_,?_⟩
  ·rw[List.pairwise_map]
   have hb':=EG (q:=q) (List.mem_range.mp hb)
   refine List.Pairwise.imp_of_mem (λ{u v} hu hv hne e=>hne (inj hb' hb' hu hv e).2) h.nodup
  ·have hnd:(List.range q).Nodup:=List.nodup_range
   refine List.Pairwise.imp_of_mem (λ{a b} ha hb hne=>?_) hnd
   intro x hx y hy e
   obtain⟨u,hu,rfl⟩:=List.mem_map.mp hx
   obtain⟨v,hv,rfl⟩:=List.mem_map.mp hy
   have:=(inj (EG (List.mem_range.mp ha)) (EG (List.mem_range.mp hb)) hu hv e).1
   omega
 ·intro w hw
  obtain⟨a,u,ha,hu,rfl⟩:=elim hw
  exact Pj F ha hr (h.wd u hu)
 ·intro j hj
  by_cases g:j=i
  ·subst g
   rw[hR]
   have:=Ew e1 h.uF.zero
   unfold nY at this
   rw[Fg F hr,zM F (uU e0) hr,wK F hr] at this
   exact this
  ·exact old (h.rows j (by omega))
 ·intro D hD hrows w hw
  obtain⟨a,u,ha,hu,rfl⟩:=elim hw
  have wu:=h.wd u hu
  have d1:=h.least D hD (λj hj=>hrows j (by omega)) u hu
  have d2:=hrows i (by omega)
  rw[hR] at d2
  exact hD.add _ _ wu (ni F ha hr) d1 (hD.uj a r ha hr d2)
 ·rw[NP];exact hlen
theorem Su(F:jZ q add mul)(R:Nat->List Int):Sp q add mul n R 0 [List.replicate n 0]:=by
 refine⟨by simp,?_,⟨by simp,?_,?_⟩,λj h=>by omega,?_,by simp⟩
 ·intro w hw
  rw[List.mem_singleton.mp hw]
  exact uU F.lQ
 ·intro u v _ _ hu hv
  rw[List.mem_singleton.mp hu,List.mem_singleton.mp hv,wK F (uU F.lQ)]
  exact List.mem_singleton.mpr rfl
 ·intro a u ha _ hu
  rw[List.mem_singleton.mp hu,Hm F ha]
  exact List.mem_singleton.mpr rfl
 ·intro D hD _ w hw
  rw[List.mem_singleton.mp hw]
  exact hD.zero
theorem Sv{R:Nat->List Int}{i:Nat}{l:List (List Int)}(h:Sp q add mul n R i l)(hin:R i∈l):Sp q add mul n R (i+1) l:=by
 refine⟨h.nodup,h.wd,h.uF,λj hj=>?_,λD hD hr w hw=>h.least D hD (λj hj=>hr j (by omega)) w hw,h.few⟩
 by_cases g:j=i
 ·subst g;exact hin
 ·exact h.rows j (by omega)
end
theorem Iq{add:Int->Int->Int}{u v:List Int}{i:Nat}(h1:i<u.length)(h2:i<v.length):rd (jH add u v) (i:Int)=add (rd u (i:Int)) (rd v (i:Int)):=by
 rw[nU h1,nU h2,nU (by unfold jH;simp;omega)]
 simp [jH]
theorem z_{mul:Int->Int->Int}{a:Int}{u:List Int}{i:Nat}(h1:i<u.length):rd (jo mul a u) (i:Int)=mul a (rd u (i:Int)):=by
 rw[nU h1,nU (by unfold jo;simp;omega)]
 simp [jo]
theorem vV{q n:Nat}{w:List Int}(h:Wd q n w){i:Nat}(hi:i<n):El q (rd w (i:Int)):=by
 rw[nU (by rw[h.1];exact hi)]
 exact h.2 _ (List.getElem_mem _)
structure FE (p m:Nat) (md:List Int) (add mul:Int->Int->Int):Prop where
 fd:Fd p m
 AV:jZ (p^m) add mul
 ea:∀x y,El (p^m) x->El (p^m) y->Ev (λk=>og.f k (p:Int) (m:Int) md x y) (add x y)
 em:∀x y,El (p^m) x->El (p^m) y->Ev (λk=>jU.f k (p:Int) (m:Int) md x y) (mul x y)
section
variable{p m n:Nat}{md:List Int}{add mul:Int->Int->Int}
theorem Xl{r u:List Int}{a:Int}{i:Nat}(h1:u.length=n)(h2:r.length=n)(hi:i<n):rd (nY add mul r a u) (i:Int)=add (rd u (i:Int)) (mul a (rd r (i:Int))):=by
 unfold nY
 rw[Iq (by omega) (by unfold jo;simp;omega),z_ (by omega)]
theorem Lh(E:FE p m md add mul)(hn:n<=12){rows:List (List Int)}(hrl:rows.length<=12):
 Rz (λl=>l=[]\/Sp (p^m) add mul n (λj=>uk (p^m) n (jD rows (j:Int))) rows.length l) (λk=>jP.f k (p:Int) (m:Int) md (n:Int) rows 4096):=by
 have hq2:=E.AV.two
 have hq:=E.fd.small
 have F:=E.AV
 obtain⟨q,Y8⟩:∃q,q=p^m:=⟨_,rfl⟩
 let Q:List (List Int)->Prop:=λl=>l=[]\/Sp (p^m) add mul n (λj=>uk (p^m) n (jD rows (j:Int))) rows.length l
 have outer:∀(d i:Nat) (l:List (List Int)),i+d=rows.length->Sp (p^m) add mul n (λj=>uk (p^m) n (jD rows (j:Int))) i l->
  Rz Q (λk=>jP.l0 k (n:Int) rows 4096 l (i:Int) (p:Int) (m:Int) md):=by
  intro d
  induction d with
  |zero=>
   intro i l hi hl
   have:i=rows.length:=by omega
   subst this
   refine Rz.succ ?_
   simp only[jP.l0,if_neg (Int.lt_irrefl (rows.length:Int))]
   exact Rz.some (.inr hl)
  |succ d ih=>
   intro i l hi hl
   have hil:i<rows.length:=by omega
   have hr:Wd (p^m) n (uk (p^m) n (jD rows (i:Int))):=Ij hq2 _
   obtain⟨r,hrd⟩:∃r,r=uk (p^m) n (jD rows (i:Int)):=⟨_,rfl⟩
   refine Rz.succ ?_
   simp only[jP.l0,if_pos (show(i:Int)<(rows.length:Int) by omega),if_pos (show(0:Int)<=(i:Int) from Int.natCast_nonneg _)]
   refine Rz.bind (L8 E.fd md _ hn) ?_
   rw[<-hrd] at hr ⊢
   refine Rz.bind (V9 hl.wd hr hn hl.few) ?_
   have wi:wrap64 ((i:Int)+1)=((i+1:Nat):Int):=wn (by omega) (by omega)
   by_cases hin:r∈l
   ·simp only[decide_eq_true hin,if_true,wi]
    exact ih (i+1) l (by clear wi;omega) (Sv hl (by rw[hrd] at hin;exact hin))
   ·simp only[decide_eq_false hin,Bool.false_eq_true,if_false]
    refine Rz.bind (Ep E.fd md) ?_
    have e1:Int.tdiv (4096:Int) ((p^m:Nat):Int)=((4096 / p^m:Nat):Int):=by rw[Int.tdiv_eq_ediv_of_nonneg (by omega)];rfl
    have e2:wrap64 ((4096 / p^m:Nat):Int)=((4096 / p^m:Nat):Int):=wn rfl (by clear e1 wi;have:=Nat.div_le_self 4096 (p^m);omega)
    simp only[if_neg (show ¬((p^m:Nat):Int)=0 by clear e1 e2 wi;omega),e1,e2]
    clear e1 e2
    by_cases hbig:(l.length:Int)>((4096 / p^m:Nat):Int)
    ·simp only[if_pos hbig]
     exact Rz.some (.inl rfl)
    simp only[if_neg hbig]
    have hlen:p^m*l.length<=4096:=by
     have h1:l.length<=4096 / p^m:=by clear wi;omega
     have h2:=Nat.mul_le_mul_left (p^m) h1
     exact Nat.le_trans h2 (Nat.mul_div_le 4096 (p^m))
    have go:∀(d a:Nat),a+d=p^m->Rz Q (λk=>jP.l1 k (n:Int) rows 4096 l (i:Int) r (more (p^m) add mul r l a) (a:Int) (p:Int) (m:Int) md):=by
     intro d
     induction d with
     |zero=>
      intro a ha
      have:a=p^m:=by clear wi;omega
      subst this
      refine Rz.succ ?_
      simp only[jP.l1]
      refine Rz.bind (Ep E.fd md) ?_
      simp only[if_neg (Int.lt_irrefl ((p^m:Nat):Int)),wi]
      exact ih (i+1) _ (by clear wi;omega) (Sz F hl hr hrd.symm hin hlen)
     |succ d iha=>
      intro a ha
      have haq:a<p^m:=by clear wi;omega
      have hae:El (p^m) (a:Int):=EG haq
      have wa:wrap64 ((a:Int)+1)=((a+1:Nat):Int):=wn (by clear wi;omega) (by clear wi;omega)
      refine Rz.succ ?_
      simp only[jP.l1]
      refine Rz.bind (Ep E.fd md) ?_
      simp only[if_pos (show(a:Int)<((p^m:Nat):Int) by clear wi wa;omega)]
      have Xh:∀(d j:Nat),j+d=l.length->Rz Q (λk=>jP.l2 k (n:Int) rows 4096 l (i:Int) r (more (p^m) add mul r l a++(l.take j).map (nY add mul r (a:Int))) (a:Int) (j:Int) (p:Int) (m:Int) md):=by
       intro d
       induction d with
       |zero=>
        intro j hj
        have:j=l.length:=by clear wi wa;omega
        subst this
        refine Rz.succ ?_
        simp only[jP.l2,if_neg (Int.lt_irrefl (l.length:Int)),wa,List.take_length]
        rw[<-NK]
        exact iha (a+1) (by clear wi wa;omega)
       |succ d AP=>
        intro j hj
        have hjl:j<l.length:=by clear wi wa;omega
        have hu:=hl.wd l[j] (List.getElem_mem hjl)
        have wj:wrap64 ((j:Int)+1)=((j+1:Nat):Int):=wn (by clear wi wa;omega) (by clear wi wa;have:=hl.few;omega)
        refine Rz.succ ?_
        simp only[jP.l2,if_pos (show(j:Int)<(l.length:Int) by clear wi wa wj;omega),if_pos (show(0:Int)<=(n:Int) from Int.natCast_nonneg _),Int.toNat_natCast,if_pos (show n<=35184372088832 by clear wi wa wj;omega)]
        have cell:∀(d c:Nat) (w:List Int),c+d=n->w.length=n->(∀t,t<c->rd w (t:Int)=rd (nY add mul r (a:Int) l[j]) (t:Int))->
         Rz Q (λk=>jP.l3 k (n:Int) rows 4096 l (i:Int) r (more (p^m) add mul r l a++(l.take j).map (nY add mul r (a:Int))) (a:Int) (j:Int) w (c:Int) (p:Int) (m:Int) md):=by
         intro d
         induction d with
         |zero=>
          intro c w hc hw hh
          have:c=n:=by clear wi wa wj;omega
          subst this
          have ew:w=nY add mul r (a:Int) l[j]:=EF (by rw[hw,(Pj F hae hr hu).1]) (λt ht=>hh t (by clear wi wa wj;omega))
          have hml:(more (p^m) add mul r l a++(l.take j).map (nY add mul r (a:Int))).length<5864062014805:=by
           rw[List.length_append,NP,List.length_map,List.length_take]
           have h1:a*l.length<=p^m*l.length:=Nat.mul_le_mul_right _ (by clear wi wa wj;omega)
           have hf:=hl.few
           clear wi wa wj
           omega
          refine Rz.succ ?_
          simp only[jP.l3,if_neg (Int.lt_irrefl (c:Int)),if_pos hml,wj]
          have e:more (p^m) add mul r l a++(l.take j).map (nY add mul r (a:Int))++[w]=more (p^m) add mul r l a++(l.take (j+1)).map (nY add mul r (a:Int)):=by
           rw[List.take_succ_eq_append_getElem hjl,List.map_append,ew,List.append_assoc]
           rfl
          rw[e]
          exact AP (j+1) (by clear wi wa wj;omega)
         |succ d VS=>
          intro c w hc hw hh
          have hcn:c<n:=by clear wi wa wj;omega
          have hr1:=hr.1
          have hu1:=hu.1
          have er:=vV hr hcn
          have eu:=vV hu hcn
          have WJ:=F.vK _ _ hae er
          have wc:wrap64 ((c:Int)+1)=((c+1:Nat):Int):=wn (by clear wi wa wj;omega) (by clear wi wa wj;omega)
          refine Rz.succ ?_
          simp only[jP.l3,if_pos (show(c:Int)<(n:Int) by clear wi wa wj wc;omega),if_pos (show(0:Int)<=(j:Int) from Int.natCast_nonneg _),if_pos (show(j:Int)<(l.length:Int) by clear wi wa wj wc;omega),if_pos (show(0:Int)<=(c:Int) from Int.natCast_nonneg _),vJ hjl,if_pos (show(c:Int)<(l[j].length:Int) by clear wi wa wj wc;omega),if_pos (show(c:Int)<(r.length:Int) by clear wi wa wj wc;omega)]
          refine Rz.bind (E.em _ _ hae er) ?_
          refine Rz.bind (E.ea _ _ eu WJ) ?_
          simp only[if_pos (show(c:Int)<(w.length:Int) by clear wi wa wj wc;omega),Int.toNat_natCast,wc]
          refine VS (c+1) _ (by clear wi wa wj wc;omega) (by rw[List.length_set];exact hw) (λt ht=>?_)
          clear wi wa wj wc
          by_cases g:c=t
          ·subst g
           rw[wR _ (by omega),Xl hu1 hr1 hcn]
          ·rw[pR _ g];exact hh t (by omega)
        exact cell n 0 _ (by clear wi wa wj;omega) List.length_replicate (λt ht=>by clear wi wa wj;omega)
      have:=Xh l.length 0 (by clear wi wa;omega)
      simp only[List.take_zero,List.map_nil,List.append_nil] at this
      exact this
    have:=go (p^m) 0 (by clear wi;omega)
    have e0:more (p^m) add mul r l 0=[]:=by simp [more]
    rw[e0] at this
    exact this
 simp only[jP.f,if_pos (show(0:Int)<=(n:Int) from Int.natCast_nonneg _),Int.toNat_natCast,if_pos (show n<=35184372088832 by omega)]
 exact outer rows.length 0 _ (by omega) (Su F _)
def unit(n i:Nat):List Int:=(List.replicate n 0).set i 1
theorem KU{i j:Nat}(hi:i<n):rd (unit n i) (j:Int)=if i=j then 1 else 0:=by
 unfold unit
 by_cases g:i=j
 ·subst g;rw[wR _ (by simpa using hi),if_pos rfl]
 ·rw[pR _ g,vX,if_neg g]
theorem KT{q i:Nat}(hq:2<=q)(hi:i<n):uk q n (unit n i)=unit n i:=by
 refine EF (by simp [uk,unit]) (λj hj=>?_)
 have hjn:j<n:=by simpa [uk] using hj
 unfold uk
 rw[Ug hjn,KU hi]
 by_cases g:i=j
 ·rw[if_pos g,Ot ⟨by omega,by omega⟩]
 ·rw[if_neg g,Oq]
theorem X7{q:Nat}(F:jZ q add mul){C:List Int->Prop}(hC:sF q add mul n C)(hu:∀i,i<n->C (unit n i)){w:List Int}(hw:Wd q n w):C w:=by
 have uw:∀i,i<n->Wd q n (unit n i):=λi hi=>by rw[<-KT F.two hi];exact Ij F.two _
 have part:∀k,k<=n->∃v,Wd q n v/\C v/\∀j,j<n->rd v (j:Int)=if j<k then rd w (j:Int) else 0:=by
  intro k
  induction k with
  |zero=>intro _;exact⟨_,uU F.lQ,hC.zero,λj hj=>by rw[vX,if_neg (by omega)]⟩
  |succ k ih=>
   intro hk
   obtain⟨v,hv,Jk,hd⟩:=ih (by omega)
   have ew:=vV hw (show k<n by omega)
   have hs:=ni F ew (uw k (by omega))
   refine⟨jH add v (jo mul (rd w (k:Int)) (unit n k)),xI F hv hs,hC.add _ _ hv hs Jk (hC.uj _ _ ew (uw k (by omega)) (hu k (by omega))),λj hj=>?_⟩
   rw[Iq (by rw[hv.1];exact hj) (by rw[hs.1];exact hj),z_ (by rw[(uw k (by omega)).1];exact hj),hd j hj,KU (by omega)]
   by_cases g:k=j
   ·subst g
    rw[if_neg (Nat.lt_irrefl _),if_pos rfl,if_pos (by omega),F.mul_one _ ew,F.zero_add _ ew]
   ·rw[if_neg g,F.mul_zero _ ew]
    by_cases g2:j<k
    ·rw[if_pos g2,if_pos (by omega)]
     exact F.add_zero _ (vV hw hj)
    ·rw[if_neg g2,if_neg (by omega)]
     exact F.add_zero _ F.lQ
 obtain⟨v,hv,Jk,hd⟩:=part n (Nat.le_refl n)
 have:v=w:=EF (by rw[hv.1,hw.1]) (λj hj=>by rw[hv.1] at hj;rw[hd j hj,if_pos hj])
 exact this ▸ Jk
theorem X8(E:FE p m md add mul)(hn:n<=12):Rz (λl=>l=[]\/(l.Nodup/\l.length<=4096/\∀w,w∈l↔Wd (p^m) n w)) (λk=>uu.f k (p:Int) (m:Int) md (n:Int) 4096):=by
 have F:=E.AV
 have loop:∀(d i:Nat),i+d=n->Rz (λl=>l=[]\/(l.Nodup/\l.length<=4096/\∀w,w∈l↔Wd (p^m) n w)) (λk=>uu.l0 k (n:Int) 4096 ((List.range i).map (unit n)) (i:Int) (p:Int) (m:Int) md):=by
  intro d
  induction d with
  |zero=>
   intro i hi
   have:i=n:=by omega
   subst this
   refine Rz.succ ?_
   simp only[uu.l0,if_neg (Int.lt_irrefl (i:Int))]
   refine Rz.uI (Lh E hn (rows:=(List.range i).map (unit i)) (by simp;omega)) (λl hl=>Rz.some ?_)
   rcases hl with e|hl
   ·exact .inl e
   refine .inr ⟨hl.nodup,hl.few,λw=>⟨hl.wd w,λhw=>?_⟩⟩
   refine X7 F hl.uF (λj hj=>?_) hw
   have:=hl.rows j (by simpa using hj)
   have e:jD ((List.range i).map (unit i)) (j:Int)=unit i j:=by
    rw[vJ (by simpa using hj)];simp
   rw[e,KT F.two hj] at this
   exact this
  |succ d ih=>
   intro i hi
   have nx:=ih (i+1) (by omega)
   rw[List.range_succ,List.map_append] at nx
   refine Rz.succ ?_
   simp only[uu.l0,if_pos (show(i:Int)<(n:Int) by omega),if_pos (show(0:Int)<=(n:Int) from Int.natCast_nonneg _),Int.toNat_natCast,if_pos (show n<=35184372088832 by omega),Option.bind_some,if_pos (show(0:Int)<=(i:Int) from Int.natCast_nonneg _),List.length_replicate,if_pos (show(i:Int)<(n:Int) by omega),List.length_map,List.length_range,if_pos (show i<5864062014805 by omega),wn (show(i:Int)+1=((i+1:Nat):Int) by omega) (by omega)]
   exact nx
 simp only[uu.f]
 exact loop n 0 (by omega)
theorem WT(E:FE p m md add mul)(hn:n<=12){u v:List Int}(hu:Wd (p^m) n u)(hv:Wd (p^m) n v):Ev (λk=>nM.f k (p:Int) (m:Int) md u v) (dot add mul u v):=by
 have F:=E.AV
 have hu1:=hu.1
 have hv1:=hv.1
 have KA:∀{w:List Int} (i:Nat),Wd (p^m) n w->Wd (p^m) (n-i) (w.drop i):=λi h=>⟨by rw[List.length_drop,h.1],λx hx=>h.2 x (List.mem_of_mem_drop hx)⟩
 have loop:∀(d i:Nat) (acc:Int),i+d=n->El (p^m) acc->Ev (λk=>nM.l0 k u v acc (i:Int) (p:Int) (m:Int) md) (add acc (dot add mul (u.drop i) (v.drop i))):=by
  intro d
  induction d with
  |zero=>
   intro i acc hi ha
   refine Ev.succ ?_
   simp only[nM.l0,if_neg (show ¬(i:Int)<(u.length:Int) by omega)]
   refine Ev.succ ?_
   simp only[nM.j1,Bool.false_eq_true,if_false]
   refine Ev.cast (Ev.some _) ?_
   rw[List.drop_eq_nil_of_le (by omega),List.drop_eq_nil_of_le (by omega)]
   exact(F.add_zero acc ha).symm
  |succ d ih=>
   intro i acc hi ha
   have hin:i<n:=by omega
   have e1:=vV hu hin
   have e2:=vV hv hin
   have e3:=F.vK _ _ e1 e2
   refine Ev.succ ?_
   simp only[nM.l0,if_pos (show(i:Int)<(u.length:Int) by omega),decide_eq_true (show(i:Int)<(v.length:Int) by omega)]
   refine Ev.succ ?_
   simp only[nM.j1,if_true,if_pos (show(0:Int)<=(i:Int) from Int.natCast_nonneg _),if_pos (show(i:Int)<(u.length:Int) by omega),if_pos (show(i:Int)<(v.length:Int) by omega)]
   refine Ev.bind (E.em _ _ e1 e2) ?_
   refine Ev.bind (E.ea _ _ ha e3) ?_
   simp only[wn (show(i:Int)+1=((i+1:Nat):Int) by omega) (by omega)]
   refine Ev.cast (ih (i+1) _ (by omega) (F.uJ _ _ ha e3)) ?_
   rw[List.drop_eq_getElem_cons (i:=i) (l:=u) (by omega),List.drop_eq_getElem_cons (i:=i) (l:=v) (by omega),dot,<-nU (by omega),<-nU (by omega)]
   exact F.add_assoc _ _ _ ha e3 (vZ F (KA (i+1) hu) (KA (i+1) hv))
 simp only[nM.f]
 refine Ev.cast (loop n 0 0 (by omega) F.lQ) ?_
 rw[List.drop_zero,List.drop_zero]
 exact F.zero_add _ (vZ F hu hv)
def xN(add mul:Int->Int->Int)(rows:List (List Int))(w:List Int):Bool:=rows.all (λr=>dot add mul w r==0)
theorem UO(E:FE p m md add mul)(hn:n<=12){words rows:List (List Int)}(hw:∀w,w∈words->Wd (p^m) n w)(hr:∀w,w∈rows->Wd (p^m) n w)(hwl:words.length<=4096)(hrl:rows.length<=12):
 Ev (λk=>mg.f k (p:Int) (m:Int) md words rows) (words.filter (xN add mul rows)):=by
 have outer:∀(d i:Nat),i+d=words.length->Ev (λk=>mg.l0 k words rows ((words.take i).filter (xN add mul rows)) (i:Int) (p:Int) (m:Int) md) (words.filter (xN add mul rows)):=by
  intro d
  induction d with
  |zero=>
   intro i hi
   have:i=words.length:=by omega
   subst this
   refine Ev.succ ?_
   simp only[mg.l0,if_neg (Int.lt_irrefl (words.length:Int)),List.take_length]
   exact Ev.some _
  |succ d ih=>
   intro i hi
   have hil:i<words.length:=by omega
   have hwi:=hw words[i] (List.getElem_mem hil)
   have wi:wrap64 ((i:Int)+1)=((i+1:Nat):Int):=wn (by omega) (by omega)
   refine Ev.succ ?_
   simp only[mg.l0,if_pos (show(i:Int)<(words.length:Int) by clear wi;omega)]
   have inner:∀(d j:Nat) (b:Bool),j+d=rows.length->(b&&(rows.drop j).all (λr=>dot add mul words[i] r==0))=xN add mul rows words[i]->
    Ev (λk=>mg.l1 k words rows ((words.take i).filter (xN add mul rows)) (i:Int) b (j:Int) (p:Int) (m:Int) md) (words.filter (xN add mul rows)):=by
    intro d
    induction d with
    |zero=>
     intro j b hj hb
     rw[List.drop_eq_nil_of_le (by clear wi;omega)] at hb
     simp only[List.all_nil,Bool.and_true] at hb
     have nx:=ih (i+1) (by clear wi;omega)
     rw[List.take_succ_eq_append_getElem hil,List.filter_append] at nx
     have hfl:((words.take i).filter (xN add mul rows)).length<5864062014805:=by
      have h1:=List.length_filter_le (xN add mul rows) (words.take i)
      rw[List.length_take] at h1
      clear wi
      omega
     refine Ev.succ ?_
     simp only[mg.l1,if_neg (show ¬(j:Int)<(rows.length:Int) by clear wi;omega)]
     by_cases g:b=true
     ·simp only[if_pos g,if_pos (show(0:Int)<=(i:Int) from Int.natCast_nonneg _),if_pos (show(i:Int)<(words.length:Int) by clear wi;omega),if_pos hfl,vJ hil,wi]
      rw[List.filter_cons_of_pos (by rw[<-hb];exact g),List.filter_nil] at nx
      exact nx
     ·simp only[if_neg g,wi]
      rw[List.filter_cons_of_neg (by rw[<-hb];exact g),List.filter_nil,List.append_nil] at nx
      exact nx
    |succ d AP=>
     intro j b hj hb
     have hjl:j<rows.length:=by clear wi;omega
     have wj:wrap64 ((j:Int)+1)=((j+1:Nat):Int):=wn (by clear wi;omega) (by clear wi;omega)
     rw[List.drop_eq_getElem_cons hjl,List.all_cons] at hb
     refine Ev.succ ?_
     simp only[mg.l1,if_pos (show(j:Int)<(rows.length:Int) by clear wi wj;omega),wj]
     clear wj
     by_cases g:b=true
     ·subst g
      simp only[if_true,if_pos (show(0:Int)<=(i:Int) from Int.natCast_nonneg _),if_pos (show(i:Int)<(words.length:Int) by clear wi;omega),if_pos (show(0:Int)<=(j:Int) from Int.natCast_nonneg _),vJ hil,vJ hjl]
      refine Ev.bind (WT E hn hwi (hr _ (List.getElem_mem hjl))) ?_
      exact AP (j+1) _ (by clear wi;omega) (by rw[<-hb];simp)
     ·have hbf:b=false:=by simpa using g
      subst hbf
      simp only[Bool.false_eq_true,if_false]
      exact AP (j+1) false (by clear wi;omega) (by rw[<-hb];simp)
   exact inner rows.length 0 true (by clear wi;omega) (by simp [xN])
 simp only[mg.f]
 exact outer words.length 0 (by omega)
end
structure qw (P M:Int) (md:List Int) (n:Nat) (code nX:List (List Int)) (p m:Nat) (add mul:Int->Int->Int):Prop where
 p_:P=(p:Int)
 m_:M=(m:Int)
 E:FE p m md add mul
 one:1<=n
 few:n<=12
 cnd:code.Nodup
 cwd:∀w,w∈code->Wd (p^m) n w
 uF:sF (p^m) add mul n (· ∈code)
 CZ:code.length<=4096
 OU:nX.Nodup
 W9:nX.length<=4096
 OM:∀w,w∈nX↔Wd (p^m) n w/\Dl (p^m) add mul n (· ∈code) w
theorem Xk{P M a:Int}{md:List Int}{rows:List (List Int)}(hmd:md.length<=9223372036854775807)(ha0:0<=a)(ha1:a<=255)(hrl:rows.length<=9223372036854775807):
 Rz (λr=>r.2.2.2.2=false\/(r.2.2.2.2=true/\∃n:Nat,r.1=(n:Int)/\∃p m add mul,qw P M md n r.2.1 r.2.2.1 p m add mul)) (λk=>kZ.f k P M md a rows):=by
 let Q:Int×(List (List Int))×(List (List Int))×(List (List Int))×Bool->Prop:=λr=>r.2.2.2.2=false\/(r.2.2.2.2=true/\∃n:Nat,r.1=(n:Int)/\∃p m add mul,qw P M md n r.2.1 r.2.2.1 p m add mul)
 have bad:∀(x:Int),Rz Q (λk=>kZ.j0 k rows x true P M md):=by
  intro x
  refine Rz.succ ?_
  simp only[kZ.j0,if_true]
  exact Rz.some (.inl rfl)
 obtain⟨u,rfl⟩:∃u:Nat,a=(u:Int):=⟨a.toNat,by omega⟩
 have en:wrap64 (Int.tmod (wrap64 (u:Int)) 12+1)=((u % 12+1:Nat):Int):=by
  rw[lD (x:=(u:Int)) (by omega) (by omega),Int.tmod_eq_emod_of_nonneg (by omega)]
  exact wn (by omega) (by omega)
 obtain⟨n,hn⟩:∃n,n=u % 12+1:=⟨_,rfl⟩
 simp only[kZ.f,en,<-hn]
 clear en
 refine Rz.uI (Xq P M md hmd) (λc hc=>?_)
 by_cases h0:c=0
 ·simp only[if_pos h0]
  obtain⟨p,m,rfl,rfl,G⟩:=hc h0
  by_cases h12:(rows.length:Int)>12
  ·simp only[decide_eq_true h12];exact bad _
  simp only[decide_eq_false h12]
  obtain⟨add,mul,F,ea,em⟩:=WC G
  have E:FE p m md add mul:=⟨G.fd,F,ea,em⟩
  refine Rz.succ ?_
  simp only[kZ.j0,Bool.false_eq_true,if_false]
  refine Rz.uI (Lh E (n:=n) (by omega) (rows:=rows) (by omega)) (λcode hcode=>?_)
  refine Rz.uI (X8 E (n:=n) (by omega)) (λall hall=>?_)
  have none:Rz Q (λk=>kZ.j1 k rows (n:Int) code all true (p:Int) (m:Int) md):=by
   refine Rz.succ ?_
   simp only[kZ.j1,if_true]
   exact Rz.some (.inl rfl)
  by_cases hc0:(code.length:Int)=0
  ·simp only[if_pos hc0];exact none
  simp only[if_neg hc0]
  by_cases ha0:((all.length:Int)==0)=true
  ·simp only[ha0];exact none
  have Wh:((all.length:Int)==0)=false:=by simpa using ha0
  simp only[Wh]
  rcases hcode with e|S
  ·rw[e] at hc0;exact absurd rfl hc0
  rcases hall with e|⟨X6,P8,P7⟩
  ·rw[e] at ha0;exact absurd rfl ha0
  refine Rz.succ ?_
  simp only[kZ.j1,Bool.false_eq_true,if_false]
  let clean:Nat->List (List Int):=λi=>(rows.take i).map (uk (p^m) n)
  have cwd:∀i w,w∈clean i->Wd (p^m) n w:=by
   intro i w hw
   obtain⟨r,_,rfl⟩:=List.mem_map.mp hw
   exact Ij F.two r
  have loop:∀(d i:Nat),i+d=rows.length->Rz Q (λk=>kZ.l0 k rows (n:Int) code all (clean i) (i:Int) (p:Int) (m:Int) md):=by
   intro d
   induction d with
   |zero=>
    intro i hi
    have:i=rows.length:=by omega
    subst this
    refine Rz.succ ?_
    simp only[kZ.l0,if_neg (Int.lt_irrefl (rows.length:Int))]
    refine Rz.bind (UO E (n:=n) (by omega) (λw hw=>(P7 w).mp hw) (cwd rows.length) P8 (by show((rows.take rows.length).map _).length<=12;rw[List.length_map,List.length_take];omega)) ?_
    refine Rz.some (.inr ⟨rfl,n,rfl,p,m,add,mul,rfl,rfl,E,by omega,by omega,S.nodup,S.wd,S.uF,S.few,X6.filter _,Nat.le_trans (List.length_filter_le _ _) P8,λw=>?_⟩)
    show w∈all.filter (xN add mul (clean rows.length))↔_
    rw[List.mem_filter,P7 w]
    refine⟨λ⟨hw,ho⟩=>⟨hw,λc hc Ji=>?_⟩,λ⟨hw,hd⟩=>⟨hw,?_⟩⟩
    ·have hD:sF (p^m) add mul n (λc=>dot add mul c w=0):=by
      refine⟨Jo F hw,λx y hx hy h1 h2=>?_,λs x hs hx h1=>?_⟩
      ·rw[Jp F hx hy hw,h1,h2];exact F.add_zero 0 F.lQ
      ·rw[Jn F hs hx hw,h1];exact F.mul_zero s hs
     refine S.least _ hD (λj hj=>?_) c Ji
     have hj':uk (p^m) n (jD rows (j:Int))∈clean rows.length:=by
      refine List.mem_map.mpr ⟨rows[j],?_,by rw[vJ hj]⟩
      rw[List.take_length]
      exact List.getElem_mem hj
     have:=List.all_eq_true.mp ho _ hj'
     rw[Gn F (cwd _ _ hj') hw]
     simpa using this
    ·refine List.all_eq_true.mpr (λr hr=>?_)
     obtain⟨r0,hr0,rfl⟩:=List.mem_map.mp hr
     rw[List.take_length] at hr0
     obtain⟨j,hj,rfl⟩:=List.getElem_of_mem hr0
     have hin:=S.rows j hj
     rw[vJ hj] at hin
     have:=hd _ (S.wd _ hin) hin
     rw[Gn F (S.wd _ hin) hw] at this
     simpa using this
   |succ d ih=>
    intro i hi
    have hil:i<rows.length:=by omega
    have nx:=ih (i+1) (by omega)
    have ec:clean (i+1)=clean i++[uk (p^m) n rows[i]]:=by
     show(rows.take (i+1)).map _=(rows.take i).map _++_
     rw[List.take_succ_eq_append_getElem hil,List.map_append]
     rfl
    rw[ec] at nx
    have hcl:(clean i).length<5864062014805:=by
     show((rows.take i).map _).length<_
     rw[List.length_map,List.length_take]
     omega
    refine Rz.succ ?_
    simp only[kZ.l0,if_pos (show(i:Int)<(rows.length:Int) by omega),if_pos (show(0:Int)<=(i:Int) from Int.natCast_nonneg _)]
    refine Rz.bind (L8 E.fd md _ (by omega)) ?_
    simp only[vJ hil,if_pos hcl,wn (show(i:Int)+1=((i+1:Nat):Int) by omega) (by omega)]
    exact nx
  exact loop rows.length 0 (by omega)
 ·simp only[if_neg h0];exact bad _
structure Wl (l:List (List Int)):Prop where
 lm:∀x∈l,Lm x
 short:∀x∈l,x.length<=20
 few:l.length<=65
theorem Wl.at{l:List (List Int)}(h:Wl l){i:Nat}(hi:i<l.length):Lm (kD l (i:Int))/\(kD l (i:Int)).length<=20:=by
 rw[Cb hi];exact⟨h.lm _ (List.getElem_mem hi),h.short _ (List.getElem_mem hi)⟩
theorem Tz{n:Nat}(h:1<=n)(h2:n<=65):Ae.f (n:Int)=some 0:=by
 unfold Ae.f
 rw[if_neg (by omega),if_neg (by omega)]
def mV:List (List Int)->Nat->Nat
 | [],_=>0
 |w::l,j=>mV l j+if wt w=j then 1 else 0
def WL(n:Nat)(words:List (List Int)):List (List Int):=(List.range (n+1)).map (λj=>dg (mV words j))
theorem Fq(l:List (List Int))(j:Nat):mV l j<=l.length:=by
 induction l with
 |nil=>exact Nat.le_refl 0
 |cons w l ih=>rw[mV,List.length_cons];split<;>omega
theorem Q5(l:List (List Int))(w:List Int)(j:Nat):mV (l++[w]) j=mV l j+if wt w=j then 1 else 0:=by
 induction l with
 |nil=>simp [mV]
 |cons v l ih=>rw[List.cons_append,mV,ih,mV];omega
theorem J_{q n:Nat}{w:List Int}(h:Wd q n w):qV w (List.replicate n 0) w.length=wt w:=by
 rw[Xb w n w.length (Nat.le_refl _),List.take_length]
theorem Q3{q n:Nat}{words:List (List Int)}(hw:∀w,w∈words->Wd q n w)(hn:n<=12)(hl:words.length<=4096):Ev (λk=>oQ.f k (n:Int) words) (WL n words):=by
 have tail:∀(c:List Int),(∀j,j<n+1->rd c (j:Int)=(mV words j:Int))->c.length=n+1->∀(d i:Nat),i+d=n+1->Ev (λk=>oQ.l1 k (n:Int) c ((List.range i).map (λj=>dg (mV words j))) (i:Int)) (WL n words):=by
  intro c hc hcl d
  induction d with
  |zero=>
   intro i hi
   have:i=n+1:=by omega
   subst this
   refine Ev.succ ?_
   simp only[oQ.l1,if_neg (show ¬((n+1:Nat):Int)<=(n:Int) by omega)]
   exact Ev.some _
  |succ d ih=>
   intro i hi
   have nx:=ih (i+1) (by omega)
   rw[List.range_succ,List.map_append] at nx
   have h1:=Fq words i
   refine Ev.succ ?_
   simp only[oQ.l1,if_pos (show(i:Int)<=(n:Int) by omega),if_pos (show(0:Int)<=(i:Int) from Int.natCast_nonneg _),if_pos (show(i:Int)<(c.length:Int) by omega),hc i (by omega),lh (x:=((mV words i:Nat):Int)) (by omega) (by omega)]
   refine Ev.bind (Ee (by omega)) ?_
   simp only[List.length_map,List.length_range,if_pos (show i<5864062014805 by omega),wn (show(i:Int)+1=((i+1:Nat):Int) by omega) (by omega)]
   exact nx
 have loop:∀(d i:Nat) (c:List Int),i+d=words.length->c.length=n+1->(∀j,j<n+1->rd c (j:Int)=(mV (words.take i) j:Int))->Ev (λk=>oQ.l0 k (n:Int) words c (List.replicate n 0) (i:Int)) (WL n words):=by
  intro d
  induction d with
  |zero=>
   intro i c hi hcl hc
   have:i=words.length:=by omega
   subst this
   rw[List.take_length] at hc
   refine Ev.succ ?_
   simp only[oQ.l0,if_neg (Int.lt_irrefl (words.length:Int))]
   exact tail c hc hcl (n+1) 0 (by omega)
  |succ d ih=>
   intro i c hi hcl hc
   have hil:i<words.length:=by omega
   have hwi:=hw words[i] (List.getElem_mem hil)
   have h1:=DK words[i]
   rw[hwi.1] at h1
   have h2:=Fq (words.take i) (wt words[i])
   rw[List.length_take] at h2
   have ed:=OW (a:=words[i]) (b:=List.replicate n 0) (by rw[hwi.1,List.length_replicate]) (by rw[hwi.1];exact hn)
   rw[J_ hwi] at ed
   have hcw:=hc (wt words[i]) (by omega)
   have wi:wrap64 ((i:Int)+1)=((i+1:Nat):Int):=wn (by omega) (by omega)
   have wc:wrap64 (((mV (words.take i) (wt words[i]):Nat):Int)+1)=((mV (words.take i) (wt words[i])+1:Nat):Int):=wn (by clear wi;omega) (by clear wi;omega)
   refine Ev.succ ?_
   simp only[oQ.l0,if_pos (show(i:Int)<(words.length:Int) by clear wi wc;omega),if_pos (show(0:Int)<=(i:Int) from Int.natCast_nonneg _),vJ hil]
   refine Ev.bind ed ?_
   simp only[if_pos (show(0:Int)<=((wt words[i]:Nat):Int) from Int.natCast_nonneg _),if_pos (show((wt words[i]:Nat):Int)<(c.length:Int) by clear wi wc;omega),hcw,wi,wc,Int.toNat_natCast]
   clear wi wc
   refine ih (i+1) _ (by omega) (by rw[List.length_set];exact hcl) (λj hj=>?_)
   rw[List.take_succ_eq_append_getElem hil,Q5]
   by_cases g:wt words[i]=j
   ·subst g
    rw[wR _ (by omega),if_pos rfl]
   ·rw[pR _ g,if_neg g,hc j hj,Nat.add_zero]
 have e1:wrap64 ((n:Int)+1)=((n+1:Nat):Int):=wn (by omega) (by omega)
 simp only[oQ.f,e1,if_pos (show(0:Int)<=((n+1:Nat):Int) from Int.natCast_nonneg _),if_pos (show(0:Int)<=(n:Int) from Int.natCast_nonneg _),Int.toNat_natCast,if_pos (show n+1<=35184372088832 by clear e1;omega),if_pos (show n<=35184372088832 by clear e1;omega)]
 clear e1
 refine loop words.length 0 _ (by omega) List.length_replicate (λj hj=>?_)
 rw[vX,List.take_zero]
 rfl
noncomputable def lU(f:List Int->Int):List (List Int)->Int
 | []=>0
 |w::l=>f w+lU f l
theorem DT{q n:Nat}(f:List Int->Int):∀{l:List (List Int)},l.Nodup->(∀w,w∈l->Wd q n w)->ws q n (λw=>ind (w∈l)*f w)=lU f l
 | [],_,_=>BK (λw _=>by rw[kE (λh=>by simp at h)];simp)
 |a::l,hn,hw=>by
  have hn':=List.nodup_cons.mp hn
  have ih:=DT f hn'.2 (λw h=>hw w (List.mem_cons_of_mem _ h))
  have e:∀w,Wd q n w->ind (w∈a::l)*f w=ind (w=a)*f w+ind (w∈l)*f w:=by
   intro w _
   by_cases g:w=a
   ·subst g
    rw[kK (List.mem_cons_self ..),kK rfl,kE hn'.1];simp
   ·rw[kE g,uG (show w∈a::l↔w∈l from⟨λh=>(List.mem_cons.mp h).elim (λe=>absurd e g) id,λh=>List.mem_cons_of_mem _ h⟩)];simp
  rw[oI e,Fh,ih,lU]
  have hs:=zL (q:=q) (n:=n) (v:=a) (f:=λw=>ind (w=a)*f w) (hw a (List.mem_cons_self ..)) (λw _ hne=>by rw[kE hne];simp)
  rw[hs,kK rfl,Int.one_mul]
theorem Ob(j:Nat):∀l:List (List Int),lU (λw=>ind (wt w=j)) l=(mV l j:Int)
 | []=>rfl
 |w::l=>by
  rw[lU,Ob j l,mV]
  by_cases g:wt w=j
  ·rw[kK g,if_pos g];omega
  ·rw[kE g,if_neg g];omega
theorem N_:∀l:List (List Int),lU (λ_=>1) l=(l.length:Int)
 | []=>rfl
 |w::l=>by rw[lU,N_ l,List.length_cons];omega
theorem KG{q n:Nat}{l:List (List Int)}(hn:l.Nodup)(hw:∀w,w∈l->Wd q n w)(j:Nat):wd q n (· ∈l) (none' n) j=(mV l j:Int):=by
 rw[<-Ob,<-DT _ hn hw]
 refine oI λw _=>?_
 rw[kK (Cj n w),Int.one_mul]
theorem KF{q n:Nat}{l:List (List Int)}{D:List Int->Prop}(hn:l.Nodup)(hw:∀w,w∈l↔Wd q n w/\D w)(j:Nat):wd q n D (none' n) j=(mV l j:Int):=by
 rw[<-KG hn (λw h=>((hw w).mp h).1)]
 refine oI λw hwd=>?_
 rw[uG (show D w↔w∈l from⟨λh=>(hw w).mpr ⟨hwd,h⟩,λh=>((hw w).mp h).2⟩)]
theorem QO{q n:Nat}{l:List (List Int)}(hn:l.Nodup)(hw:∀w,w∈l->Wd q n w):ws q n (λw=>ind (w∈l))=(l.length:Int):=by
 rw[<-N_,<-DT _ hn hw]
 exact oI λw _=>by rw[Int.mul_one]
theorem Lp{c:Nat}(h:c<4294967296):(dg c).length<=1:=nO (by rw[show(1:Nat)=0+1 from rfl,mY,tX];omega)
theorem wJ(n:Nat)(l:List (List Int)):(WL n l).length=n+1:=by simp [WL]
theorem Hq{n j:Nat}{l:List (List Int)}(h:j<n+1):kD (WL n l) (j:Int)=dg (mV l j):=by
 rw[Cb (by rw[wJ];exact h)]
 simp [WL]
theorem QV{n:Nat}{l:List (List Int)}(hn:n<=12)(hl:l.length<=4096):Wl (WL n l):=by
 have each:∀x,x∈WL n l->∃c,c<=4096/\x=dg c:=by
  intro x hx
  obtain⟨j,_,rfl⟩:=List.mem_map.mp hx
  exact⟨_,Nat.le_trans (Fq l j) hl,rfl⟩
 refine⟨λx hx=>?_,λx hx=>?_,by rw[wJ];omega⟩
 ·obtain⟨c,_,rfl⟩:=each x hx
  exact kS c
 ·obtain⟨c,hc,rfl⟩:=each x hx
  have:=Lp (c:=c) (by omega)
  omega
end Mw
end
section
set_option linter.unusedVariables false
set_option linter.unusedSimpArgs false
namespace Mw
section
variable{q:Nat}{add mul:Int->Int->Int}
noncomputable def bd(q:Nat)(add mul:Int->Int->Int)(n:Nat)(C:List Int->Prop)(j:Nat):Int:=wd q n (Dl q add mul n C) (none' n) j
theorem KD(n:Nat)(C:List Int->Prop)(T:List Bool)(j:Nat):0<=wd q n C T j:=
 Kt λw _=>Int.mul_nonneg (Ey _) (Int.mul_nonneg (Ey _) (Ey _))
theorem IZ{p r:Prop}(h:p->r):ind p<=ind r:=by
 by_cases hp:p
 ·rw[kK hp,kK (h hp)];exact Int.le_refl _
 ·rw[kE hp];exact Ey _
theorem KE{n:Nat}{C D:List Int->Prop}{T U:List Bool}(h:∀w,Wd q n w->C w->D w)(hT:∀w,Wd q n w->jV T w->jV U w)(j:Nat):wd q n C T j<=wd q n D U j:=by
 refine Ho λw hw=>?_
 rw[<-tV,<-tV,<-tV,<-tV]
 exact IZ λ⟨h1,h2,h3⟩=>⟨h w hw h1,hT w hw h2,h3⟩
theorem KC(F:jZ q add mul){n:Nat}{C:List Int->Prop}(h0:C (List.replicate n 0)){T:List Bool}(hT:jV T (List.replicate n 0)):wd q n C T 0=1:=by
 unfold wd
 rw[zL (v:=List.replicate n 0) (uU F.lQ) (λw hw hne=>?_)]
 ·rw[kK h0,kK hT,kK (Hg n)];rfl
 ·rw[kE (λe:wt w=0=>hne (by have:=DJ e;rw[hw.1] at this;exact this))];simp
theorem OV(F:jZ q add mul)(n:Nat)(C:List Int->Prop):Dl q add mul n C (List.replicate n 0):=by
 intro c hc _
 rw[Gn F hc (uU F.lQ),Jo F hc]
end
section
variable{q:Nat}{add mul:Int->Int->Int}
theorem Fv:∀(T:List Bool) (n:Nat),jV T (List.replicate n 0)
 | [],_=>trivial
 |_::_,0=>trivial
 |_::T,n+1=>⟨λ_=>rfl,Fv T n⟩
noncomputable def mo(q:Nat)(n:Nat)(C:List Int->Prop)(T:List Bool)(v:Nat):Int:=ws q n (λc=>ind (C c)*if nc T c<=v then(bin (zc T c) (v-nc T c):Int) else 0)
noncomputable def fu(q:Nat)(n:Nat)(C:List Int->Prop)(d:Nat)(T:List Bool):Int:=ws q n (λc=>ind (C c)*(ind (wt c=d)*ind (Full T c)))
structure BC (q n:Nat) (C:List Int->Prop) (d:Nat):Prop where
 pos:0<d
 le:d<=n
 low:∀w,Wd q n w->C w->wt w≠0->d<=wt w
theorem Me{T:List Bool}{n:Nat}(hT:T.length=n):nc T (List.replicate n 0)=0/\zc T (List.replicate n 0)+cnt T=n:=by
 have h1:=CB T (List.replicate n 0) (by rw[hT,List.length_replicate]) (Fv T n)
 have h2:=BH T (List.replicate n 0) (by rw[hT,List.length_replicate])
 rw[Hg] at h1
 rw[List.length_replicate] at h2
 exact⟨h1,by omega⟩
theorem NS(F:jZ q add mul){n d t:Nat}{C:List Int->Prop}(hC:sF q add mul n C)(L:BC q n C d){T:List Bool}(hT:T.length=n)(hc:cnt T=t){v:Nat}(hv:v+t<d):mo q n C T v=(bin (n-t) v:Int):=by
 unfold mo
 obtain⟨z1,z2⟩:=Me hT
 rw[zL (v:=List.replicate n 0) (uU F.lQ) (λw hw hne=>?_)]
 ·rw[kK hC.zero,z1,if_pos (Nat.zero_le _),Nat.sub_zero,show zc T (List.replicate n 0)=n-t by omega,Int.one_mul]
 ·by_cases h:C w
  ·have h1:=L.low w hw h (λe=>hne (by have:=DJ e;rw[hw.1] at this;exact this))
   have h2:=Eu T w (by rw[hT,hw.1])
   rw[if_neg (by omega),Int.mul_zero]
  ·rw[kE h,Int.zero_mul]
theorem NR(F:jZ q add mul){n d t:Nat}{C:List Int->Prop}(hC:sF q add mul n C)(L:BC q n C d){T:List Bool}(hT:T.length=n)(hc:cnt T=t)(ht:t<d):mo q n C T (d-t)=(bin (n-t) (d-t):Int)+fu q n C d T:=by
 obtain⟨z1,z2⟩:=Me hT
 have hp:=L.pos
 have e1:ws q n (λc=>ind (c=List.replicate n 0)*(bin (n-t) (d-t):Int))=(bin (n-t) (d-t):Int):=by
  rw[zL (v:=List.replicate n 0) (uU F.lQ) (λw _ hne=>by rw[kE hne,Int.zero_mul]),kK rfl,Int.one_mul]
 unfold mo fu
 rw[<-e1,<-Fh]
 refine oI λw hw=>?_
 by_cases hz:w=List.replicate n 0
 ·subst hz
  rw[kK hC.zero,kK rfl,Hg,kE (show ¬(0:Nat)=d by omega),z1,if_pos (Nat.zero_le _),show zc T (List.replicate n 0)=n-t by omega]
  simp
 ·rw[kE hz,Int.zero_mul,Int.zero_add]
  by_cases h:C w
  ·have h1:=L.low w hw h (λe=>hz (by have:=DJ e;rw[hw.1] at this;exact this))
   have h2:=Eu T w (by rw[hT,hw.1])
   have h3:=IK T w (by rw[hT,hw.1])
   by_cases g:nc T w<=d-t
   ·rw[if_pos g,kK (show wt w=d by omega),kK (h3.mp (by omega)),show d-t-nc T w=0 by omega,qW]
    simp
   ·rw[if_neg g,<-tV (wt w=d),kE (λe:wt w=d/\Full T w=>g (by have:=h3.mpr e.2;omega))]
  ·rw[kE h,Int.zero_mul,Int.zero_mul]
theorem Q4{n t:Nat}{D:List Int->Prop}{T:List Bool}(hT:T.length=n)(hc:cnt T=t){j:Nat}(hj:n-t<j):wd q n D T j=0:=by
 refine BK λw hw=>?_
 by_cases h:jV T w
 ·have h1:=BH T w (by rw[hT,hw.1])
  have h2:=CB T w (by rw[hT,hw.1]) h
  rw[hw.1] at h1
  rw[kE (show ¬wt w=j by omega)];simp
 ·rw[kE h];simp
noncomputable def nz(q:Nat)(add mul:Int->Int->Int)(n:Nat)(C:List Int->Prop)(j:Nat):Int:=if j=0 then 0 else bd q add mul n C j
theorem Vj(F:jZ q add mul){n d t:Nat}{C:List Int->Prop}(hC:sF q add mul n C)(L:BC q n C d)(ht:t<d)(hs:o8 (nz q add mul n C) (n-t+1)<=d-t)
 {T U:List Bool} (hT:T.length=n) (hU:U.length=n) (cT:cnt T=t) (cU:cnt U=t):fu q n C d T=fu q n C d U:=by
 have hle:=L.le
 have Xf:0<ws q n (λc=>ind (C c)):=by
  have:ws q n (λc=>ind (c=List.replicate n 0))<=ws q n (λc=>ind (C c)):=Ho λw _=>IZ λe=>by rw[e];exact hC.zero
  rw[zL (v:=List.replicate n 0) (uU F.lQ) (λw _ hne=>kE hne),kK rfl] at this
  omega
 have Ur:∀k:Nat,0<(q:Int)^k:=λk=>Int.pow_pos (by have:=F.two;omega)
 let G:Nat->Int:=λj=>wd q n (Dl q add mul n C) T j-wd q n (Dl q add mul n C) U j
 have gz:∀j,j<n-t+1->nz q add mul n C j=0->G j=0:=by
  intro j _ h
  show wd q n (Dl q add mul n C) T j-wd q n (Dl q add mul n C) U j=0
  by_cases h0:j=0
  ·subst h0
   rw[KC F (OV F n C) (Fv T n),KC F (OV F n C) (Fv U n)];rfl
  ·unfold nz at h
   rw[if_neg h0] at h
   have t1:wd q n (Dl q add mul n C) T j<=bd q add mul n C j:=KE (λ_ _ h=>h) (λw _ _=>Cj n w) j
   have t2:wd q n (Dl q add mul n C) U j<=bd q add mul n C j:=KE (λ_ _ h=>h) (λw _ _=>Cj n w) j
   have t3:=KD (q:=q) n (Dl q add mul n C) T j
   have t4:=KD (q:=q) n (Dl q add mul n C) U j
   omega
 have cut:∀(S:List Bool),S.length=n->cnt S=t->∀v,sm (n+1) (λj=>wd q n (Dl q add mul n C) S j*(bin (n-t-j) v:Int))=sm (n-t+1) (λj=>wd q n (Dl q add mul n C) S j*(bin (n-t-j) v:Int)):=by
  intro S h1 h2 v
  exact D9 (by omega) (λi hi=>by rw[Q4 h1 h2 (by omega),Int.zero_mul])
 have dm:∀(S:List Bool),S.length=n->cnt S=t->∀v,v+t<=d->mo q n C S v*(q:Int)^(n-(t+v))=ws q n (λc=>ind (C c))*sm (n-t+1) (λj=>wd q n (Dl q add mul n C) S j*(bin (n-t-j) v:Int)):=by
  intro S h1 h2 v hv
  have:=OQ F n C hC S h1 v (by omega)
  rw[h2,cut S h1 h2] at this
  exact this
 have same:=unique (n-t) (d-t) G (Nat.le_trans (H7 _ G (n-t+1) gz) hs) (λv hv=>?_)
 ·have m1:=dm T hT cT (d-t) (by omega)
  have m2:=dm U hU cU (d-t) (by omega)
  have e:sm (n-t+1) (λj=>wd q n (Dl q add mul n C) T j*(bin (n-t-j) (d-t):Int))=sm (n-t+1) (λj=>wd q n (Dl q add mul n C) U j*(bin (n-t-j) (d-t):Int)):=by
   refine kF λj hj=>?_
   have g:wd q n (Dl q add mul n C) T j-wd q n (Dl q add mul n C) U j=0:=same j hj
   rw[show wd q n (Dl q add mul n C) T j=wd q n (Dl q add mul n C) U j by omega]
  rw[e,<-m2,NR F hC L hT cT ht,NR F hC L hU cU ht] at m1
  have:=Int.eq_of_mul_eq_mul_right (Int.ne_of_gt (Ur _)) m1
  omega
 ·have m1:=dm T hT cT v (by omega)
  have m2:=dm U hU cU v (by omega)
  rw[NS F hC L hT cT (by omega)] at m1
  rw[NS F hC L hU cU (by omega),m1] at m2
  have:=Int.eq_of_mul_eq_mul_left (Int.ne_of_gt Xf) m2
  have e:sm (n-t+1) (λj=>G j*(bin (n-t-j) v:Int))=sm (n-t+1) (λj=>wd q n (Dl q add mul n C) T j*(bin (n-t-j) v:Int))-sm (n-t+1) (λj=>wd q n (Dl q add mul n C) U j*(bin (n-t-j) v:Int)):=by
   rw[<-D8]
   exact kF λj _=>Int.sub_mul _ _ _
  rw[e];omega
end
end Mw
end
section
set_option linter.unusedVariables false
set_option linter.unusedSimpArgs false
namespace Mw
open Go Go.RowKit Go.Proofs.YtifkbghnmhineaaW.lJ Go.Proofs.YtifkbghnmhineaaW.rO Go.Proofs.YtifkbghnmhineaaW.uO Go.Proofs.Ytifkbghnmhineaa.qc
def sp(w:List Int):Nat->List Int
 |0=>[]
 |i+1=>sp w i++if rd w (i:Int)=0 then [] else [(i:Int)]
theorem BX{w:List Int}{x:Int}:∀{m:Nat},x∈sp w m↔∃j:Nat,j<m/\x=(j:Int)/\rd w (j:Int)≠0
 |0=>⟨λh=>by simp [sp] at h,λ⟨j,h,_⟩=>by omega⟩
 |m+1=>by
  rw[sp,List.mem_append,BX (m:=m)]
  constructor
  ·rintro(⟨j,h,e,hne⟩|h)
   ·exact⟨j,by omega,e,hne⟩
   ·by_cases g:rd w (m:Int)=0
    ·rw[if_pos g] at h;simp at h
    ·rw[if_neg g] at h
     exact⟨m,by omega,List.mem_singleton.mp h,g⟩
  ·rintro⟨j,h,e,hne⟩
   by_cases g:j=m
   ·subst g
    exact .inr (by rw[if_neg hne,e];exact List.mem_singleton.mpr rfl)
   ·exact .inl ⟨j,by omega,e,hne⟩
theorem H9(w:List Int):∀m,(sp w m).length=o8 (λj:Nat=>rd w (j:Int)) m
 |0=>rfl
 |m+1=>by
  rw[sp,List.length_append,H9 w m,o8]
  by_cases g:rd w (m:Int)=0
  ·rw[if_pos g,if_pos g];rfl
  ·rw[if_neg g,if_neg g];rfl
theorem La(w:List Int)(n:Nat):∀i,o8 (λj:Nat=>rd w (j:Int)) i=qV w (List.replicate n 0) i
 |0=>rfl
 |i+1=>by
  rw[o8,qV,La w n i,vX]
theorem FH{q n:Nat}{w:List Int}(h:Wd q n w):o8 (λj:Nat=>rd w (j:Int)) n=wt w:=by
 rw[La w n n,<-J_ h,h.1]
theorem yx{q n:Nat}{w:List Int}(h:Wd q n w):(sp w n).length=wt w:=by rw[H9,FH h]
structure Inc (n:Nat) (l:List Int):Prop where
 up:l.Pairwise (· < ·)
 xK:∀x∈l,0<=x/\x<(n:Int)
theorem FI(w:List Int):∀m,Inc m (sp w m)
 |0=>⟨List.Pairwise.nil,λx hx=>by simp [sp] at hx⟩
 |m+1=>by
  have ih:=FI w m
  refine⟨?_,λx hx=>?_⟩
  ·rw[sp,List.pairwise_append]
   refine⟨ih.up,?_,λx hx y hy=>?_⟩
   ·split
    ·exact List.Pairwise.nil
    ·exact List.pairwise_singleton _ _
   ·by_cases g:rd w (m:Int)=0
    ·rw[if_pos g] at hy;simp at hy
    ·rw[if_neg g] at hy
     have:=ih.xK x hx
     rw[List.mem_singleton.mp hy]
     exact this.2
  ·obtain⟨j,h,e,_⟩:=BX.mp hx
   omega
theorem VQ{n:Nat}{l:List Int}(h:Inc n l):l.Nodup:=h.up.imp (λhab e=>by omega)
theorem Ll{w u:List Int}:∀m:Nat,(∀j,j<m->(rd w (j:Int)=0↔rd u (j:Int)=0))->sp w m=sp u m
 |0,_=>rfl
 |m+1,h=>by
  rw[sp,sp,Ll m (λj hj=>h j (by omega))]
  by_cases g:rd w (m:Int)=0
  ·rw[if_pos g,if_pos ((h m (by omega)).mp g)]
  ·rw[if_neg g,if_neg (λe=>g ((h m (by omega)).mpr e))]
theorem Lj{w u:List Int}{m:Nat}(h:sp w m=sp u m){j:Nat}(hj:j<m)(hw:rd u (j:Int)=0):rd w (j:Int)=0:=by
 by_cases g:rd w (j:Int)=0
 ·exact g
 ·have:(j:Int)∈sp u m:=by rw[<-h];exact BX.mpr ⟨j,hj,rfl,g⟩
  obtain⟨i,_,e,hne⟩:=BX.mp this
  have:i=j:=by omega
  subst this
  exact absurd hw hne
section
variable{q n:Nat}{add mul:Int->Int->Int}
theorem U0{w:List Int}{n:Nat}(hw:Wd q n w)(h:wt w≠0):∃i,i<n/\rd w (i:Int)≠0:=by
 by_cases g:∃i,i<n/\rd w (i:Int)≠0
 ·exact g
 ·exfalso
  apply h
  rw[<-FH hw]
  have:∀m,m<=n->o8 (λj:Nat=>rd w (j:Int)) m=0:=by
   intro m
   induction m with
   |zero=>intro _;rfl
   |succ m ih=>
    intro hm
    rw[o8,ih (by omega)]
    by_cases e:rd w (m:Int)=0
    ·rw[if_pos e]
    ·exact absurd ⟨m,by omega,e⟩ g
  exact this n (Nat.le_refl n)
theorem SY(F:jZ q add mul){d:Nat}{C:List Int->Prop}(hC:sF q add mul n C)(L:BC q n C d){c0:List Int}(h0:Wd q n c0)(hc0:C c0)(hd:wt c0=d):
 ws q n (λc=>ind (C c/\sp c n=sp c0 n))=se q (λa=>ind (a≠0)):=by
 have hp:=L.pos
 obtain⟨i,hi,hne⟩:=U0 h0 (by omega)
 obtain⟨y,hy,hxy⟩:=F.inv _ (vV h0 hi) hne
 obtain⟨m,hm,hm1,hneg⟩:=Fj F
 have hx:=vV h0 hi
 have each:∀c,Wd q n c->ind (C c/\sp c n=sp c0 n)=se q (λa=>ind (a≠0/\c=jo mul a c0)):=by
  intro c hc
  by_cases h:C c/\sp c n=sp c0 n
  ·have hci:rd c (i:Int)≠0:=λe=>hne (Lj h.2.symm hi e)
   have hcx:=vV hc hi
   have ha:El q (mul (rd c (i:Int)) y):=F.vK _ _ hcx hy
   have back:mul (mul (rd c (i:Int)) y) (rd c0 (i:Int))=rd c (i:Int):=by
    rw[F.mul_assoc _ _ _ hcx hy hx,F.mul_comm y _ hy hx,hxy,F.mul_one _ hcx]
   obtain⟨a,had⟩:∃a,a=mul (rd c (i:Int)) y:=⟨_,rfl⟩
   rw[<-had] at ha back
   have ha0:a≠0:=λe=>hci (by rw[<-back,e,F.zero_mul _ hx])
   have hac:=ni F ha h0
   have heq:c=jo mul a c0:=by
    have he:=xI F hc (ni F hm hac)
    have Wn:C (jH add c (jo mul m (jo mul a c0))):=hC.add _ _ hc (ni F hm hac) h.1 (hC.uj m _ hm hac (hC.uj a c0 ha h0 hc0))
    have hrd:∀j,j<n->rd (jH add c (jo mul m (jo mul a c0))) (j:Int)=add (rd c (j:Int)) (mul m (mul a (rd c0 (j:Int)))):=by
     intro j hj
     rw[Iq (by rw[hc.1];exact hj) (by rw[(ni F hm hac).1];exact hj),z_ (by rw[hac.1];exact hj),z_ (by rw[h0.1];exact hj)]
    have Nv:∀z,El q z->add z (mul m z)=0:=by
     intro z hz
     have:add (mul 1 z) (mul m z)=0:=by rw[<-F.FT z 1 m hz F.xx hm,hm1,F.zero_mul z hz]
     rw[F.one_mul z hz] at this
     exact this
    have lt:wt (jH add c (jo mul m (jo mul a c0)))<wt c:=by
     rw[<-FH he,<-FH hc]
     refine H6 _ _ i n (λj hj e=>?_) hi hci ?_
     ·show rd (jH add c (jo mul m (jo mul a c0))) (j:Int)=0
      have e:rd c (j:Int)=0:=e
      rw[hrd j hj,e,Lj h.2.symm hj e,F.mul_zero a ha,F.mul_zero m hm,F.add_zero 0 F.lQ]
     ·show rd (jH add c (jo mul m (jo mul a c0))) (i:Int)=0
      rw[hrd i hi,back]
      exact Nv _ hcx
    have hwc:wt c=d:=by rw[<-yx hc,h.2,yx h0,hd]
    have hz:wt (jH add c (jo mul m (jo mul a c0)))=0:=by
     by_cases g:wt (jH add c (jo mul m (jo mul a c0)))=0
     ·exact g
     ·have:=L.low _ he Wn g;omega
    have hrep:=DJ hz
    rw[he.1] at hrep
    refine EF (by rw[hc.1,hac.1]) (λj hj=>?_)
    rw[hc.1] at hj
    have ez:add (rd c (j:Int)) (mul m (mul a (rd c0 (j:Int))))=0:=by rw[<-hrd j hj,hrep,vX]
    have hu:=vV hac hj
    rw[z_ (by rw[h0.1];exact hj)] at hu ⊢
    have hmu:=F.vK m _ hm hu
    refine F.cancel (mul m (mul a (rd c0 (j:Int)))) _ _ hmu (vV hc hj) hu ?_
    rw[F.add_comm _ _ hmu (vV hc hj),F.add_comm _ _ hmu hu,ez,Nv _ hu]
   rw[kK h,y7 ha (λb hb hne2=>kE (λe=>?_)),kK ⟨ha0,heq⟩]
   apply hne2
   have e1:rd c (i:Int)=mul b (rd c0 (i:Int)):=by rw[e.2,z_ (by rw[h0.1];exact hi)]
   rw[had,e1,F.mul_assoc b _ y hb hx hy,hxy,F.mul_one b hb]
  ·rw[kE h]
   refine(FN λa ha=>kE (λe=>h ?_)).symm
   refine⟨by rw[e.2];exact hC.uj a c0 ha h0 hc0,Ll n (λj hj=>?_)⟩
   rw[e.2,z_ (by rw[h0.1];exact hj)]
   refine⟨λz=>(F.Nr a _ ha (vV h0 hj) z).resolve_left e.1,λz=>by rw[z,F.mul_zero a ha]⟩
 rw[oI each,DR]
 refine uX λa ha=>?_
 by_cases g:a=0
 ·rw[kE (λe:a≠0=>e g)]
  exact BK λw _=>kE (λe=>e.1 g)
 ·rw[kK g,zL (v:=jo mul a c0) (ni F ha h0) (λw _ hw=>kE (λe=>hw e.2)),kK ⟨g,rfl⟩]
theorem Rj(hq:2<=q):0<se q (λa=>ind (a≠0)):=by
 have h1:se q (λa=>ind (a=1))<=se q (λa=>ind (a≠0)):=Ls λi _=>IZ (λe=>by omega)
 rw[y7 (a:=1) (f:=λa=>ind (a=1)) ⟨by omega,by omega⟩ (λi _ hne=>kE hne),kK rfl] at h1
 omega
theorem F8{f g:List Int->Int}:∀{l:List (List Int)},(∀w,w∈l->f w=g w)->lU f l=lU g l
 | [],_=>rfl
 |a::l,h=>by rw[lU,lU,h a (List.mem_cons_self ..),F8 (λw hw=>h w (List.mem_cons_of_mem _ hw))]
theorem IQ{f:List Int->Int}{l:List (List Int)}(h:∀w,w∈l->f w=0):lU f l=0:=by
 rw[F8 h]
 induction l with
 |nil=>rfl
 |cons a l ih=>rw[lU,ih (λw hw=>h w (List.mem_cons_of_mem _ hw))];rfl
theorem Oc(f g:List Int->Int):∀l,lU (λw=>f w+g w) l=lU f l+lU g l
 | []=>rfl
 |a::l=>by rw[lU,lU,lU,Oc f g l];omega
theorem IU(c:Int)(f:List Int->Int):∀l,lU (λw=>c*f w) l=c*lU f l
 | []=>(Int.mul_zero c).symm
 |a::l=>by rw[lU,lU,IU c f l,Int.mul_add]
theorem N7(f:List Int->List Int->Int)(m:List (List Int)):∀l,lU (λw=>lU (λu=>f w u) m) l=lU (λu=>lU (λw=>f w u) l) m
 | []=>(IQ λw _=>rfl).symm
 |a::l=>by
  rw[lU,N7 f m l,<-Oc]
  rfl
theorem N8{f:List Int->Int}{a:List Int}:∀{l:List (List Int)},l.Nodup->a∈l->(∀w,w∈l->w≠a->f w=0)->lU f l=f a
 | [],_,h,_=>by simp at h
 |b::l,hn,h,hz=>by
  have hn':=List.nodup_cons.mp hn
  rw[lU]
  by_cases g:a=b
  ·subst g
   rw[IQ (λw hw=>hz w (List.mem_cons_of_mem _ hw) (λe=>hn'.1 (e ▸ hw))),Int.add_zero]
  ·rw[hz b (List.mem_cons_self ..) (λe=>g e.symm),Int.zero_add]
   exact N8 hn'.2 ((List.mem_cons.mp h).resolve_left g) (λw hw=>hz w (List.mem_cons_of_mem _ hw))
theorem Oa{f:List Int->Int}(h:∀w,0<=f w):∀l,0<=lU f l
 | []=>Int.le_refl 0
 |a::l=>by rw[lU];have:=h a;have:=Oa h l;omega
theorem N9{f:List Int->Int}(h:∀w,0<=f w){a:List Int}(ha:0<f a):∀{l},a∈l->0<lU f l
 | [],hm=>by simp at hm
 |b::l,hm=>by
  rw[lU]
  have h1:=h b
  have h2:=Oa h l
  rcases List.mem_cons.mp hm with e|hm
  ·subst e;omega
  ·have:=N9 h ha hm;omega
theorem XC(F:jZ q add mul){d:Nat}{code out:List (List Int)}(hn:code.Nodup)(hw:∀w,w∈code->Wd q n w)(hC:sF q add mul n (· ∈code))(L:BC q n (· ∈code) d)
 (ho:out.Nodup) (hout:∀s,s∈out↔∃w,w∈code/\wt w=d/\s=sp w n) (P:List Int->Prop):
 ws q n (λc=>ind (c∈code)*(ind (wt c=d)*ind (P (sp c n))))=se q (λa=>ind (a≠0))*lU (λb=>ind (P b)) out:=by
 rw[DT _ hn hw]
 have e1:∀c,c∈code->ind (wt c=d)*ind (P (sp c n))=lU (λb=>ind (P b)*ind (sp c n=b)) out:=by
  intro c hc
  by_cases g:wt c=d
  ·rw[N8 (a:=sp c n) ho ((hout _).mpr ⟨c,hc,g,rfl⟩) (λb _ hb=>by rw[kE (show ¬sp c n=b from λe=>hb e.symm),Int.mul_zero]),kK g,kK (show sp c n=sp c n from rfl),Int.one_mul,Int.mul_one]
  ·rw[kE g,Int.zero_mul,IQ (λb hb=>?_)]
   obtain⟨w,hwc,hwd,e⟩:=(hout b).mp hb
   rw[kE (λe2:sp c n=b=>g (by rw[<-yx (hw c hc),e2,e,yx (hw w hwc),hwd])),Int.mul_zero]
 rw[F8 e1,N7 (λc b=>ind (P b)*ind (sp c n=b)),<-IU]
 refine F8 λb hb=>?_
 obtain⟨w,hwc,hwd,e⟩:=(hout b).mp hb
 rw[IU,<-DT _ hn hw,Int.mul_comm]
 congr 1
 rw[<-SY F hC L (hw w hwc) hwc hwd]
 refine oI λc _=>?_
 rw[<-tV,e]
theorem OC:∀(n:Nat) (T:List Bool) (w:List Int),T.length=n->w.length=n->(Full T w↔∀j,j<n->T[j]?=some true->rd w (j:Int)≠0)
 |0,[],_,_,_=>⟨λ_ j hj=>by omega,λ_=>trivial⟩
 |0,_::_,_,h,_=>by simp at h
 |n+1,[],_,h,_=>by simp at h
 |n+1,_::_,[],_,h=>by simp at h
 |n+1,s::T,a::w,h1,h2=>by
  have ih:=OC n T w (by simpa using h1) (by simpa using h2)
  have r0:rd (a::w) ((0:Nat):Int)=a:=by rw[nU (by simp)];rfl
  have rs:∀j,j<n->rd (a::w) ((j+1:Nat):Int)=rd w (j:Int):=by
   intro j hj
   have:j<w.length:=by simp at h2;omega
   rw[nU (by simp;omega),nU this];simp
  simp only[Full]
  rw[ih]
  constructor
  ·rintro⟨g1,g2⟩ j hj hT
   cases j with
   |zero=>rw[r0];exact g1 (by simpa using hT)
   |succ j=>rw[rs j (by omega)];exact g2 j (by omega) (by simpa using hT)
  ·intro g
   refine⟨λe=>?_,λj hj hT=>?_⟩
   ·have:=g 0 (by omega) (by simp [e])
    rw[r0] at this;exact this
   ·have:=g (j+1) (by omega) (by simpa using hT)
    rw[rs j hj] at this;exact this
def bits(n:Nat)(s:List Int):List Bool:=(List.range n).map (λj:Nat=>decide ((j:Int)∈s))
theorem JD(n:Nat)(s:List Int):(bits n s).length=n:=by simp [bits]
theorem Ju:∀(S:List Bool) (b:Bool),cnt (S++[b])=cnt S+if b=true then 1 else 0
 | [],true=>rfl
 | [],false=>rfl
 |true::S,b=>by simp only[List.cons_append,cnt,Ju S b];omega
 |false::S,b=>by simp only[List.cons_append,cnt,Ju S b]
theorem XK(n:Nat)(s:List Int):bits (n+1) s=bits n s++[decide ((n:Int)∈s)]:=by
 unfold bits
 rw[List.range_succ,List.map_append];rfl
theorem PS:∀(n:Nat) (s:List Int),s.Nodup->cnt (bits n s)=(s.filter (λx=>decide (0<=x/\x<(n:Int)))).length
 |0,s,_=>by
  rw[List.filter_eq_nil_iff.mpr (λx _=>by simp)];rfl
 |n+1,s,hs=>by
  rw[XK,Ju,PS n s hs]
  have:∀l:List Int,l.Nodup->(l.filter (λx=>decide (0<=x/\x<((n+1:Nat):Int)))).length=(l.filter (λx=>decide (0<=x/\x<(n:Int)))).length+if(n:Int)∈l then 1 else 0:=by
   intro l
   induction l with
   |nil=>intro _;rfl
   |cons a l ih=>
    intro hl
    have hl':=List.nodup_cons.mp hl
    have ih:=ih hl'.2
    by_cases g:a=(n:Int)
    ·subst g
     rw[if_neg hl'.1] at ih
     rw[List.filter_cons_of_pos (by simp;omega),List.filter_cons_of_neg (by simp),List.length_cons,ih,if_pos (List.mem_cons_self ..)]
    ·have e:((n:Int)∈a::l)=((n:Int)∈l):=propext ⟨λh=>(List.mem_cons.mp h).resolve_left (λe=>g e.symm),List.mem_cons_of_mem _⟩
     simp only[e]
     by_cases g2:0<=a/\a<(n:Int)
     ·rw[List.filter_cons_of_pos (by simp;omega),List.filter_cons_of_pos (by simpa using g2),List.length_cons,List.length_cons,ih];omega
     ·rw[List.filter_cons_of_neg (by simp;omega),List.filter_cons_of_neg (by simpa using g2),ih]
  rw[this s hs]
  by_cases g:(n:Int)∈s
  ·rw[if_pos g,if_pos (decide_eq_true g)]
  ·rw[if_neg g,if_neg (by simp [g])]
theorem Ov{n:Nat}{s:List Int}(h:Inc n s):cnt (bits n s)=s.length:=by
 rw[PS n s (VQ h),List.filter_eq_self.mpr (λx hx=>by simpa using h.xK x hx)]
theorem Wx{q n:Nat}{s w:List Int}(hs:Inc n s)(hw:Wd q n w):Full (bits n s) w↔∀x,x∈s->x∈sp w n:=by
 rw[OC n _ w (JD n s) hw.1]
 have bt:∀j,j<n->((bits n s)[j]?=some true↔(j:Int)∈s):=by
  intro j hj
  unfold bits
  rw[List.getElem?_map,List.getElem?_range hj]
  simp
 constructor
 ·intro h x hx
  have:=hs.xK x hx
  obtain⟨j,rfl⟩:∃j:Nat,x=(j:Int):=⟨x.toNat,by omega⟩
  have hj:j<n:=by omega
  exact BX.mpr ⟨j,hj,rfl,h j hj ((bt j hj).mpr hx)⟩
 ·intro h j hj hT
  obtain⟨i,_,e,hne⟩:=BX.mp (h _ ((bt j hj).mp hT))
  have:i=j:=by omega
  subst this
  exact hne
theorem Xa(F:jZ q add mul){d t:Nat}{code out:List (List Int)}(hn:code.Nodup)(hw:∀w,w∈code->Wd q n w)(hC:sF q add mul n (· ∈code))(L:BC q n (· ∈code) d)
 (ho:out.Nodup) (hout:∀s,s∈out↔∃w,w∈code/\wt w=d/\s=sp w n) (ht:t<d) (hs:o8 (nz q add mul n (· ∈code)) (n-t+1)<=d-t)
 {s u:List Int} (is:Inc n s) (iu:Inc n u) (ls:s.length=t) (lu:u.length=t):
 lU (λb=>ind (∀x,x∈s->x∈b)) out=lU (λb=>ind (∀x,x∈u->x∈b)) out:=by
 have m:=Vj F hC L ht hs (JD n s) (JD n u) (by rw[Ov is,ls]) (by rw[Ov iu,lu])
 have conv:∀s:List Int,Inc n s->fu q n (· ∈code) d (bits n s)=se q (λa=>ind (a≠0))*lU (λb=>ind (∀x,x∈s->x∈b)) out:=by
  intro s is
  rw[<-XC F hn hw hC L ho hout (λb=>∀x,x∈s->x∈b)]
  exact oI λc hc=>by rw[uG (Wx is hc)]
 rw[conv s is,conv u iu] at m
 exact Int.eq_of_mul_eq_mul_left (Int.ne_of_gt (Rj F.two)) m
end
theorem yC{b:Bool}{n:Nat}{z:Int}(h:sg b n=z):n=z.natAbs:=by rw[<-h,yD]
theorem Nz{b1 b2:Bool}{n1 n2:Nat}(h1:(dg n1).length<134217728)(h2:(dg n2).length<134217728):
 ∃b n,Ev (λk=>rE.f k b1 (dg n1) b2 (dg n2)) (b,dg n)/\sg b n=sg b1 n1+sg b2 n2:=by
 by_cases hs:(b1==b2)=true
 ·refine⟨b1,n1+n2,?_,?_⟩
  ·simp only[rE.f,hs,if_true]
   refine Ev.bind (Ya (by omega) (by omega)) ?_
   exact Ev.some _
  ·have e:b1=b2:=by simpa using hs
   subst e
   unfold sg
   cases b1<;>simp<;>omega
 ·have hne:b1≠b2:=by intro e;exact hs (by simp [e])
  by_cases hlt:n1<n2
  ·refine⟨b2,n2-n1,?_,?_⟩
   ·have hc:mJ (n1:Int) (n2:Int)<0:=by unfold mJ;rw[if_pos (by omega)];omega
    simp only[rE.f,hs,Bool.false_eq_true,if_false]
    refine Ev.bind (Et (by omega) (by omega)) ?_
    simp only[if_pos hc]
    refine Ev.bind (Ny (by omega) (by omega)) ?_
    exact Ev.some _
   ·unfold sg
    cases b1<;>cases b2<;>simp at hne ⊢ <;>omega
  ·refine⟨b1,n1-n2,?_,?_⟩
   ·have hc:¬mJ (n1:Int) (n2:Int)<0:=by unfold mJ;rw[if_neg (by omega)];split<;>omega
    simp only[rE.f,hs,Bool.false_eq_true,if_false]
    refine Ev.bind (Et (by omega) (by omega)) ?_
    simp only[if_neg hc]
    refine Ev.bind (Ny (by omega) (by omega)) ?_
    exact Ev.some _
   ·unfold sg
    cases b1<;>cases b2<;>simp at hne ⊢ <;>omega
theorem SL(b:Bool)(n:Nat):sg (!b) n= - sg b n:=by unfold sg;cases b<;>simp
theorem ND{b1 b2:Bool}{n1 n2:Nat}(h1:(dg n1).length<134217728)(h2:(dg n2).length<134217728):
 ∃b n,Ev (λk=>yH.f k b1 (dg n1) b2 (dg n2)) (b,dg n)/\sg b n=sg b1 n1-sg b2 n2:=by
 obtain⟨b,n,h,e⟩:=Nz (b1:=b1) (b2:= !b2) h1 h2
 refine⟨b,n,?_,?_⟩
 ·simp only[yH.f]
  refine Ev.bind h ?_
  exact Ev.some _
 ·rw[e,SL];omega
theorem Nw{b1 b2:Bool}{n1 n2:Nat}(h1:(dg n1).length<134217728)(h2:(dg n2).length<134217728):
 ∃b n,Ev (λk=>sZ.f k b1 (dg n1) b2 (dg n2)) (b,dg n)/\sg b n=sg b1 n1*sg b2 n2:=by
 refine⟨b1 != b2,n1*n2,?_,?_⟩
 ·simp only[sZ.f]
  refine Ev.bind (NJ h1 h2) ?_
  exact Ev.some _
 ·unfold sg
  cases b1<;>cases b2<;>simp [Int.neg_mul,Int.mul_neg]
theorem Ia{M:Nat}{f:Nat->Int}:∀n:Nat,(∀i,i<n->(f i).natAbs<=M)->(sm n f).natAbs<=n*M:=by
 intro n
 induction n with
 |zero=>intro _;simp [sm]
 |succ n ih=>
  intro h
  have h1:=ih (λi hi=>h i (by omega))
  have h2:=h n (by omega)
  rw[sm,Nat.succ_mul]
  have:=Int.natAbs_add_le (sm n f) (f n)
  omega
theorem CS{g a b k:Nat}(hg:g<4294967296)(ha:a<=64)(hb:b<=64)(hk:k<=64):(dg (kr (g:Int) a b k).natAbs).length<=324:=by
 rw[Oh]
 have hgl:(dg g).length<=1:=nO (by rw[show(1:Nat)=0+1 from rfl,mY,tX];omega)
 have VU:∀j,j<k+1->((-1:Int)^j*((g:Int)^(k-j)*((bin b j:Int)*(bin a (k-j):Int)))).natAbs<=bp 323:=by
  intro j hj
  have h1:(dg (g^(k-j))).length<=65:=by have:=En g (k-j) 1 hgl;omega
  have h2:=xC (n:=b) (by omega) j
  have h3:=xC (n:=a) (by omega) (k-j)
  have e:((-1:Int)^j*((g:Int)^(k-j)*((bin b j:Int)*(bin a (k-j):Int)))).natAbs=g^(k-j)*(bin b j*bin a (k-j)):=by
   rw[Int.natAbs_mul,Int.natAbs_pow,Int.natAbs_mul,Int.natAbs_pow,Int.natAbs_mul]
   simp
  rw[e]
  have h4:=rF (bin b j) (bin a (k-j))
  have h5:=rF (g^(k-j)) (bin b j*bin a (k-j))
  exact Nat.le_of_lt (Nat.lt_of_lt_of_le (tC _) (wY (by omega)))
 have h:=Ia (k+1) VU
 unfold AB
 refine nO ?_
 refine Nat.lt_of_le_of_lt h ?_
 rw[show 324=323+1 from rfl,mY 323]
 have hp:=Bh 323
 have:(k+1)*bp 323<=65*bp 323:=Nat.mul_le_mul_right _ (by omega)
 generalize bp 323=p at*
 omega
def Num(e:jb)(z:Int):Prop:=∃b n,e=⟨b,dg n⟩/\sg b n=z
structure Du (g n x m:Nat) (row:List jb):Prop where
 len:row.length=m
 at':∀k,k<m->Num (iK row (k:Int)) (kr (g:Int) (n-x) x k)
theorem MM{l m:List jb}{k:Nat}(h:k<l.length):iK (l++m) (k:Int)=iK l (k:Int):=by
 unfold iK
 simp [List.getD_eq_getElem?_getD,List.getElem?_append_left h]
theorem MN{l:List jb}{e:jb}{k:Nat}(h:k=l.length):iK (l++[e]) (k:Int)=e:=by
 subst h
 unfold iK
 simp [List.getD_eq_getElem?_getD]
theorem Uh{l m:List (List jb)}{k:Nat}(h:k<l.length):jT (l++m) (k:Int)=jT l (k:Int):=by
 unfold jT
 simp [List.getD_eq_getElem?_getD,List.getElem?_append_left h]
theorem Ui{l:List (List jb)}{e:List jb}{k:Nat}(h:k=l.length):jT (l++[e]) (k:Int)=e:=by
 subst h
 unfold jT
 simp [List.getD_eq_getElem?_getD]
theorem ML{l:List jb}{e:jb}{i:Nat}(h:i<l.length):iK (l.set i e) (i:Int)=e:=by
 unfold iK
 simp [List.getD_eq_getElem?_getD,h]
theorem Ir{l:List jb}{e:jb}{i j:Nat}(h:i≠j):iK (l.set i e) (j:Int)=iK l (j:Int):=by
 unfold iK
 simp [List.getD_eq_getElem?_getD,h]
theorem TG{g n x:Nat}(hg:g<256)(hn:n<=64)(hx:x<n){rows:List (List jb)}{old:List jb}{T:List (List jb)->Prop}(hrl:rows.length<=65)(hold:Du g n x (n+1) old)
 (next:∀row,Du g n (x+1) (n+1) row->∃t,Ev (λk=>lI.l1 k (n:Int) (rows++[row]) (n:Int) ((x+1:Nat):Int) false (dg g)) t/\T t):
 ∀(d k:Nat) (row:List jb),k+1+d=n+1->Du g n (x+1) (k+1) row->
  ∃t,Ev (λkk=>lI.l2 kk (n:Int) rows old row ((k+1:Nat):Int) (n:Int) (x:Int) false (dg g)) t/\T t:=by
 intro d
 induction d with
 |zero=>
  intro k row hk hrow
  have hk:k=n:=by omega
  subst hk
  obtain⟨t,ht,hT⟩:=next row hrow
  refine⟨t,Ev.succ ?_,hT⟩
  simp only[lI.l2,if_neg (show ¬((k+1:Nat):Int)<=(k:Int) by omega),if_pos (show rows.length<5864062014805 by omega),wn (show(x:Int)+1=((x+1:Nat):Int) by omega) (by omega)]
  exact ht
 |succ d ih=>
  intro k row hk hrow
  have hol:=hold.len
  have hrl2:=hrow.len
  obtain⟨b1,n1,e1,s1⟩:=hold.at' (k+1) (by omega)
  obtain⟨b2,n2,e2,s2⟩:=hold.at' k (by omega)
  obtain⟨b3,n3,e3,s3⟩:=hrow.at' k (by omega)
  have l1:(dg n1).length<=324:=by rw[yC s1];exact CS (by omega) (by omega) (by omega) (by omega)
  have l2:(dg n2).length<=324:=by rw[yC s2];exact CS (by omega) (by omega) (by omega) (by omega)
  have l3:(dg n3).length<=324:=by rw[yC s3];exact CS (by omega) (by omega) (by omega) (by omega)
  have lg:(dg g).length<=1:=nO (by rw[show(1:Nat)=0+1 from rfl,mY,tX];omega)
  obtain⟨b4,n4,v4,s4⟩:=ND (b1:=b1) (b2:=b2) (n1:=n1) (n2:=n2) (by omega) (by omega)
  have l4:(dg n4).length<=326:=by
   refine nO ?_
   rw[yC s4]
   have t:=Int.natAbs_sub_le (sg b1 n1) (sg b2 n2)
   rw[yD,yD] at t
   have q1:=Nat.lt_of_lt_of_le (tC n1) (wY l1)
   have q2:=Nat.lt_of_lt_of_le (tC n2) (wY l2)
   rw[show 326=324+1+1 from rfl,mY,mY]
   generalize bp 324=p at*
   omega
  obtain⟨b5,n5,v5,s5⟩:=Nw (b1:=false) (b2:=b3) (n1:=g) (n2:=n3) (by omega) (by omega)
  have l5:(dg n5).length<=326:=by
   have t:n5=g*n3:=by rw[yC s5,Int.natAbs_mul,yD,yD]
   have:=rF g n3
   rw[t]
   omega
  obtain⟨b6,n6,v6,s6⟩:=ND (b1:=b4) (b2:=b5) (n1:=n4) (n2:=n5) (by omega) (by omega)
  have hval:sg b6 n6=kr (g:Int) (n-(x+1)) (x+1) (k+1):=by
   rw[s6,s4,s5,s1,s2,s3]
   have hr:=Vy (g:Int) (n-(x+1)) x k
   rw[show n-(x+1)+1=n-x by omega] at hr
   rw[hr]
   rfl
  have hnew:Du g n (x+1) (k+1+1) (row++[⟨b6,dg n6⟩]):=by
   refine⟨by rw[List.length_append,hrl2];rfl,λj hj=>?_⟩
   by_cases hjk:j<k+1
   ·rw[MM (by omega)];exact hrow.at' j hjk
   ·have hj2:j=k+1:=by omega
    subst hj2
    rw[MN hrl2.symm]
    exact⟨b6,n6,rfl,hval⟩
  obtain⟨t,ht,hT⟩:=ih (k+1) _ (by omega) hnew
  refine⟨t,Ev.succ ?_,hT⟩
  simp only[lI.l2,wn (show((k+1:Nat):Int)-1=(k:Int) by omega) (by omega),wn (show((k+1:Nat):Int)+1=((k+1+1:Nat):Int) by omega) (by omega),if_pos (show((k+1:Nat):Int)<=(n:Int) by omega),if_pos (show(0:Int)<=((k+1:Nat):Int) by omega),if_pos (show((k+1:Nat):Int)<(old.length:Int) by omega),if_pos (show(0:Int)<=(k:Int) by omega),if_pos (show(k:Int)<(old.length:Int) by omega),if_pos (show(k:Int)<(row.length:Int) by omega),if_pos (show row.length<4398046511104 by omega),e1,e2,e3]
  refine Ev.bind v4 ?_
  refine Ev.bind v5 ?_
  refine Ev.bind v6 ?_
  exact ht
structure Tab (g n m:Nat) (t:List (List jb)):Prop where
 len:t.length=m
 at':∀x,x<m->Du g n x (n+1) (jT t (x:Int))
theorem TF{g n:Nat}(hg:g<256)(hn:n<=64):∀(d x:Nat) (rows:List (List jb)),x+d=n->Tab g n (x+1) rows->
 ∃t,Ev (λk=>lI.l1 k (n:Int) rows (n:Int) (x:Int) false (dg g)) t/\Tab g n (n+1) t:=by
 intro d
 induction d with
 |zero=>
  intro x rows hx ht
  have hx:x=n:=by omega
  subst hx
  refine⟨rows,Ev.succ ?_,ht⟩
  simp only[lI.l1,if_neg (show ¬(x:Int)<(x:Int) by omega)]
  exact Ev.some _
 |succ d ih=>
  intro x rows hx ht
  have hl:=ht.len
  have hold:=ht.at' x (by omega)
  obtain⟨b0,n0,e0,s0⟩:=hold.at' 0 (by omega)
  have hol:=hold.len
  have hfirst:Du g n (x+1) (0+1) [⟨b0,dg n0⟩]:=by
   refine⟨rfl,λk hk=>?_⟩
   have hk:k=0:=by omega
   subst hk
   refine⟨b0,n0,rfl,?_⟩
   rw[s0,xu,xu]
  obtain⟨t,hev,hT⟩:=TG hg hn (show x<n by omega) (rows:=rows) (T:=Tab g n (n+1)) (by omega) hold (λrow hrow=>ih (x+1) (rows++[row]) (by omega) ⟨by rw[List.length_append,hl];rfl,λy hy=>by
   by_cases hyx:y<x+1
   ·rw[Uh (by omega)];exact ht.at' y hyx
   ·have:y=x+1:=by omega
    subst this
    rw[Ui hl.symm];exact hrow⟩) n 0 _ (by omega) hfirst
  refine⟨t,Ev.succ ?_,hT⟩
  have e0':iK (jT rows (x:Int)) 0=⟨b0,dg n0⟩:=e0
  simp only[lI.l1,if_pos (show(x:Int)<(n:Int) by omega),wn (show(rows.length:Int)-1=(x:Int) by omega) (by omega),if_pos (show(0:Int)<=(x:Int) by omega),if_pos (show(x:Int)<(rows.length:Int) by omega),if_pos (show(0:Int)<((jT rows (x:Int)).length:Int) by omega),e0']
  exact hev
theorem WA{q n:Nat}(hq:2<=q)(hq2:q<=256)(hn:n<=64):∀(d i:Nat) (row:List jb),i+d=n+1->row.length=n+1->(∀k,k<i->Num (iK row (k:Int)) (kr ((q-1:Nat):Int) n 0 k))->
 ∃t,Ev (λk=>lI.l0 k (q:Int) (n:Int) row ((n+1:Nat):Int) (i:Int)) t/\Tab (q-1) n (n+1) t:=by
 intro d
 have hw:wrap64 ((q:Int)-1)=((q-1:Nat):Int):=wn (by omega) (by omega)
 have hu:IntKind.u64.wrap ((q-1:Nat):Int)=((q-1:Nat):Int):=lh (by clear hw;omega) (by clear hw;omega)
 have hw:=dw.mk hw
 have hu:=dw.mk hu
 induction d with
 |zero=>
  intro i row hi hrl hrow
  have hi:i=n+1:=by omega
  subst hi
  obtain⟨t,ht,hT⟩:=TF (g:=q-1) (n:=n) (by omega) hn n 0 [row] (by omega) ⟨rfl,λx hx=>by
   have:x=0:=by omega
   subst this
   exact⟨hrl,λk hk=>hrow k hk⟩⟩
  refine⟨t,Ev.succ ?_,hT⟩
  simp only[lI.l0,if_neg (show ¬((n+1:Nat):Int)<((n+1:Nat):Int) by omega),CE.f,hw.out,hu.out]
  refine Ev.bind (Ev.bind (FY (by omega)) (Ev.some _)) ?_
  exact ht
 |succ d ih=>
  intro i row hi hrl hrow
  have hlb:=xC (n:=n) (by omega) i
  have hgl:(dg (q-1)).length<=1:=nO (by rw[show(1:Nat)=0+1 from rfl,mY,tX];omega)
  have hlp:=En (q-1) i 1 hgl
  obtain⟨t,ht,hT⟩:=ih (i+1) (row.set i ⟨false,dg (bin n i*(q-1)^i)⟩) (by omega) (by rw[List.length_set];exact hrl) (λk hk=>by
   by_cases e:k=i
   ·subst e
    rw[ML (by omega)]
    refine⟨false,_,rfl,?_⟩
    rw[Oi]
    unfold sg
    simp [Int.natCast_mul,Int.natCast_pow]
   ·rw[Ir (by omega)];exact hrow k (by omega))
  refine⟨t,Ev.succ ?_,hT⟩
  simp only[lI.l0,if_pos (show(i:Int)<((n+1:Nat):Int) by omega),hw.out,hu.out,if_pos (show(0:Int)<=(i:Int) by omega),if_pos (show(i:Int)<(row.length:Int) by omega),wn (show(i:Int)+1=((i+1:Nat):Int) by omega) (by omega),Int.toNat_natCast]
  refine Ev.bind (PW (by omega) (by omega)) ?_
  refine Ev.bind (FY (by omega)) ?_
  refine Ev.bind (UA (by omega) (by omega)) ?_
  refine Ev.bind (NJ (by omega) (by omega)) ?_
  exact ht
theorem Ry{q n:Nat}(hq:2<=q)(hq2:q<=256)(hn:n<=64):∃t,Ev (λk=>lI.f k (q:Int) (n:Int)) t/\Tab (q-1) n (n+1) t:=by
 obtain⟨t,ht,hT⟩:=WA hq hq2 hn (n+1) 0 (List.replicate (n+1) oN) (by omega) (by simp) (λk hk=>by omega)
 refine⟨t,?_,hT⟩
 simp only[lI.f,wn (show(n:Int)+1=((n+1:Nat):Int) by omega) (by omega),Int.toNat_natCast,if_pos (show(0:Int)<=((n+1:Nat):Int) by omega),if_pos (show n+1<=8796093022208 by omega),Option.bind_some,List.length_replicate]
 exact ht
def vM(g:Nat)(a b k:Nat)(j:Nat):Int:=(-1)^j*((g:Int)^(k-j)*((bin b j:Int)*(bin a (k-j):Int)))
theorem Og(g a b k j:Nat):vM g a b k j=if j % 2=1 then -((g^(k-j)*(bin b j*bin a (k-j)):Nat):Int) else((g^(k-j)*(bin b j*bin a (k-j)):Nat):Int):=by
 have hs:∀j:Nat,((-1:Int))^j=if j % 2=1 then -1 else 1:=by
  intro j
  induction j with
  |zero=>rfl
  |succ j ih=>
   rw[Int.pow_succ,ih]
   by_cases h:j % 2=1
   ·rw[if_pos h,if_neg (by omega)];rfl
   ·rw[if_neg h,if_pos (by omega)];rfl
 unfold vM
 rw[hs,Int.natCast_mul,Int.natCast_mul,Int.natCast_pow]
 by_cases h:j % 2=1
 ·rw[if_pos h,if_pos h,Int.neg_mul,Int.one_mul]
 ·rw[if_neg h,if_neg h,Int.one_mul]
theorem Ol{g a b k j:Nat}(hg:g<4294967296)(ha:a<=64)(hb:b<=64)(hk:k<=64):(dg (g^(k-j)*(bin b j*bin a (k-j)))).length<=323:=by
 have hgl:(dg g).length<=1:=nO (by rw[show(1:Nat)=0+1 from rfl,mY,tX];omega)
 have h1:(dg (g^(k-j))).length<=65:=by have:=En g (k-j) 1 hgl;omega
 have h2:=xC (n:=b) (by omega) j
 have h3:=xC (n:=a) (by omega) (k-j)
 have h4:=rF (bin b j) (bin a (k-j))
 have h5:=rF (g^(k-j)) (bin b j*bin a (k-j))
 omega
theorem Vw{g a b k m:Nat}(hg:g<4294967296)(ha:a<=64)(hb:b<=64)(hk:k<=64)(hm:m<=65):yh (sm m (vM g a b k)):=by
 have h:(sm m (vM g a b k)).natAbs<=m*bp 323:=by
  refine Ia m (λj _=>?_)
  have hl:=Ol (j:=j) hg ha hb hk
  have hlt:=Nat.lt_of_lt_of_le (tC _) (wY hl)
  rw[Og]
  generalize g^(k-j)*(bin b j*bin a (k-j))=u at*
  split
  ·rw[Int.natAbs_neg];simp;omega
  ·simp;omega
 have:(dg (sm m (vM g a b k)).natAbs).length<=324:=by
  refine nO ?_
  rw[show 324=323+1 from rfl,mY 323]
  have hp:=Bh 323
  have:m*bp 323<=65*bp 323:=Nat.mul_le_mul_right _ hm
  generalize bp 323=p at*
  omega
 unfold yh
 omega
theorem TR{q n kk x:Nat}(hq:2<=q)(hq2:q<=256)(hn:n<=64)(hk:kk<=n)(hx:x<=n):∀(d j:Nat),j+d=kk+1->
 Ev (λk=>tK.l0 k (q:Int) (n:Int) (kk:Int) (x:Int) (j:Int) (rz (sm j (vM (q-1) (n-x) x kk))).1 (rz (sm j (vM (q-1) (n-x) x kk))).2.1 (rz (sm j (vM (q-1) (n-x) x kk))).2.2) (rz (sm (kk+1) (vM (q-1) (n-x) x kk))):=by
 intro d
 have hw:wrap64 ((q:Int)-1)=((q-1:Nat):Int):=wn (by omega) (by omega)
 have hu:IntKind.u64.wrap ((q-1:Nat):Int)=((q-1:Nat):Int):=lh (by clear hw;omega) (by clear hw;omega)
 have hw:=dw.mk hw
 have hu:=dw.mk hu
 induction d with
 |zero=>
  intro j hj
  have hj:j=kk+1:=by omega
  subst hj
  refine Ev.succ ?_
  simp only[tK.l0,if_neg (show ¬((kk+1:Nat):Int)<=(kk:Int) by omega)]
  exact Ev.some _
 |succ d ih=>
  intro j hj
  have hjk:j<=kk:=by omega
  have hgl:(dg (q-1)).length<=1:=nO (by rw[show(1:Nat)=0+1 from rfl,mY,tX];omega)
  have hlp:=En (q-1) (kk-j) 1 hgl
  have hb1:=xC (n:=x) (by omega) j
  have hb2:=xC (n:=n-x) (by omega) (kk-j)
  have hmb:=rF (bin x j) (bin (n-x) (kk-j))
  have hmag:=Ol (g:=q-1) (a:=n-x) (b:=x) (k:=kk) (j:=j) (by omega) (by omega) (by omega) (by omega)
  have hfew:=Vw (g:=q-1) (a:=n-x) (b:=x) (k:=kk) (m:=j) (by omega) (by omega) (by omega) (by omega) (by omega)
  have hkt:=Og (q-1) (n-x) x kk j
  have hnx:=ih (j+1) (by omega)
  refine Ev.succ ?_
  simp only[tK.l0,if_pos (show(j:Int)<=(kk:Int) by omega),hw.out,hu.out,wn (show(kk:Int)-(j:Int)=((kk-j:Nat):Int) by omega) (by omega),wn (show(n:Int)-(x:Int)=((n-x:Nat):Int) by omega) (by omega),wn (show(j:Int)+1=((j+1:Nat):Int) by omega) (by omega),DW 2 (show(0:Int)<=(j:Int) by omega)]
  refine Ev.bind (Ee (by omega)) ?_
  refine Ev.bind (TE (by omega) (by omega)) ?_
  refine Ev.bind (Pm (by omega) (by omega)) ?_
  refine Ev.bind (Pm (by omega) (by omega)) ?_
  refine Ev.bind (vW (by omega) (by omega)) ?_
  refine Ev.bind (vW (by omega) (by omega)) ?_
  refine Ev.bind (TK (by omega)) ?_
  generalize (q-1)^(kk-j)*(bin x j*bin (n-x) (kk-j))=u at*
  have hfu:yh ((u:Nat):Int):=by unfold yh;rw[Int.natAbs_natCast];omega
  by_cases h:j % 2=1
  ·simp only[if_pos (show(j:Int) % 2=1 by omega)]
   rw[if_pos h] at hkt
   refine Ev.bind (TJ hfu) ?_
   have hfn:yh (-((u:Nat):Int)):=by unfold yh;rw[Int.natAbs_neg,Int.natAbs_natCast];omega
   refine Ev.bind (MQ hfew hfn) ?_
   rw[show sm j (vM (q-1) (n-x) x kk)+ -((u:Nat):Int)=sm (j+1) (vM (q-1) (n-x) x kk) by rw[sm,hkt]]
   exact hnx
  ·simp only[if_neg (show ¬(j:Int) % 2=1 by omega)]
   rw[if_neg h] at hkt
   refine Ev.bind (MQ hfew hfu) ?_
   rw[show sm j (vM (q-1) (n-x) x kk)+((u:Nat):Int)=sm (j+1) (vM (q-1) (n-x) x kk) by rw[sm,hkt]]
   exact hnx
theorem TQ{q n j x:Nat}(hq:2<=q)(hq2:q<=256)(hn:n<=64)(hj:j<=n)(hx:x<=n):
 Ev (λk=>tK.f k (q:Int) (n:Int) (j:Int) (x:Int)) (rz (kr ((q-1:Nat):Int) (n-x) x j)):=by
 simp only[tK.f]
 refine Ev.bind (Mc (z:=0) (by omega) (by omega)) ?_
 have h:=TR hq hq2 hn hj hx (j+1) 0 (by omega)
 rw[show sm (j+1) (vM (q-1) (n-x) x j)=kr ((q-1:Nat):Int) (n-x) x j by rw[Oh];rfl] at h
 exact h
theorem Ve{x y:Int}{m n:Nat}(hx:(dg x.natAbs).length<=m)(hy:(dg y.natAbs).length<=n):(dg (x*y).natAbs).length<=m+n:=by
 rw[Int.natAbs_mul]
 have:=rF x.natAbs y.natAbs
 omega
theorem Vb{m n:Nat}(h:(dg n).length<=m):(dg ((n:Nat):Int).natAbs).length<=m:=by rw[Int.natAbs_natCast];exact h
theorem SC{M m:Nat}{f:Nat->Int}(hm:m<=4096)(h:∀i,i<m->(dg (f i).natAbs).length<=M):(dg (sm m f).natAbs).length<=M+1:=by
 have h1:(sm m f).natAbs<=m*bp M:=Ia m (λi hi=>Nat.le_of_lt (Nat.lt_of_lt_of_le (tC _) (wY (h i hi))))
 refine nO ?_
 rw[mY M]
 have hp:=Bh M
 have:m*bp M<=4096*bp M:=Nat.mul_le_mul_right _ hm
 generalize bp M=p at*
 omega
theorem Ev.unbind{α β:Type}{g:Nat->Option α}{f:Nat->α->Option β}{a:α}{r:β}(hg:Ev g a)(h:Ev (λk=>(g k).bind (f k)) r):Ev (λk=>f k a) r:=by
 obtain⟨K1,h1⟩:=hg
 obtain⟨K2,h2⟩:=h
 refine⟨max K1 K2,λk hk=>?_⟩
 have a1:=h1 k (by omega)
 have a2:=h2 k (by omega)
 simp only[a1,Option.bind_some] at a2
 exact a2
theorem Ih{l:List Int}(hl:Lm l)(hlen:l.length<268435456):Ev (λk=>qB.f k l) (decide ((lv l).toNat=0)):=by
 have hd:(dg (lv l).toNat).length<=l.length:=nO (wS hl (Nat.le_refl _))
 have h:=y8 (a:=(lv l).toNat) (by omega)
 simp only[qB.f] at h ⊢
 have h:=Ev.unbind (xJ (a:=(lv l).toNat) (by omega)) h
 exact Ev.bind (xm hl (by omega)) h
theorem Ul{l:List Int}(hl:Lm l)(hlen:l.length<33554432):Ev (λk=>qC.f k l) ((bl (lv l).toNat:Nat):Int):=by
 have hd:(dg (lv l).toNat).length<=l.length:=nO (wS hl (Nat.le_refl _))
 have h:=Ei (n:=(lv l).toNat) (by omega)
 simp only[qC.f] at h ⊢
 have h:=Ev.unbind (xJ (a:=(lv l).toNat) (by omega)) h
 exact Ev.bind (xm hl (by omega)) h
theorem MK{l:List Int}{b:Nat}(hl:Lm l)(hlen:l.length<1048576)(hb:b≠0)(hlb:(dg b).length<1048576):Ev (λk=>qj.f k l (dg b)) (dg ((lv l).toNat / b),dg ((lv l).toNat % b)):=by
 have hd:(dg (lv l).toNat).length<=l.length:=nO (wS hl (Nat.le_refl _))
 have h:=Eh (a:=(lv l).toNat) hb (by omega) hlb
 simp only[qj.f] at h ⊢
 refine Ev.bind (xm hl (by omega)) ?_
 have h:=Ev.unbind (xJ (a:=(lv l).toNat) (by omega)) h
 have h:=Ev.unbind (Ei (n:=(lv l).toNat) (by omega)) h
 refine Ev.bind (Ul hl (by omega)) ?_
 exact h
theorem TU{l:List Int}{b:Nat}(hl:Lm l)(hlen:l.length<1048576)(hb:b≠0)(hlb:(dg b).length<1048576):Ev (λk=>sS.f k l (dg b)) (dg (Nat.gcd (lv l).toNat b)):=by
 have hlt:=Nat.mod_lt (lv l).toNat (show b>0 by omega)
 have hml:=qm (Nat.le_of_lt hlt)
 simp only[sS.f]
 refine Ev.succ ?_
 simp only[sS.l0]
 refine Ev.bind (y8 (by omega)) ?_
 simp only[decide_eq_false hb,Bool.false_eq_true,if_false]
 refine Ev.bind (MK hl hlen hb hlb) ?_
 rw[Nat.gcd_comm,Nat.gcd_rec,Nat.gcd_comm]
 exact Md _ _ hlb (by omega)
def rq(n:Int)(d:Nat):Bool×List Int×List Int:=(decide (n<0),dg (n.natAbs / Nat.gcd n.natAbs d),dg (d / Nat.gcd n.natAbs d))
theorem Ec{n:Int}{d c:Nat}(hc:c≠0):rq (n*(c:Int)) (d*c)=rq n d:=by
 have h1:(n*(c:Int)).natAbs=n.natAbs*c:=by rw[Int.natAbs_mul,Int.natAbs_natCast]
 have h2:decide (n*(c:Int)<0)=decide (n<0):=by
  have hc':(0:Int)<(c:Int):=by omega
  by_cases g:n<0
  ·rw[decide_eq_true g,decide_eq_true (Int.mul_neg_of_neg_of_pos g hc')]
  ·rw[decide_eq_false g,decide_eq_false]
   have:=Int.mul_nonneg (show 0<=n by omega) (show(0:Int)<=(c:Int) by omega)
   omega
 unfold rq
 rw[h1,h2,Nat.gcd_mul_right,Nat.mul_div_mul_right _ _ (by omega),Nat.mul_div_mul_right _ _ (by omega)]
theorem L6(z:Int):rq z 1=rz z:=by
 unfold rq rz
 rw[Nat.gcd_one_right,Nat.div_one,Nat.div_one]
theorem LZ{d:Nat}(hd:d≠0):rq 0 d=(false,[],[1]):=by
 unfold rq
 simp only[Int.natAbs_zero,Nat.gcd_zero_left,Nat.zero_div,Nat.div_self (show 0<d by omega),pI,vO]
 rfl
theorem TA{neg:Bool}{n d:Nat}(h:n≠0):rq (sg neg n) d=(neg,dg (n / Nat.gcd n d),dg (d / Nat.gcd n d)):=by
 unfold rq
 rw[yD,LG h]
theorem L9{neg:Bool}{l:List Int}{d:Nat}(hl:Lm l)(hlen:l.length<1048576)(hd:d≠0)(hld:(dg d).length<1048576):Ev (λk=>mP.f k neg l (dg d)) (rq (sg neg (lv l).toNat) d):=by
 simp only[mP.f]
 refine Ev.bind (Ih hl (by omega)) ?_
 by_cases h0:(lv l).toNat=0
 ·simp only[decide_eq_true h0,if_true]
  refine Ev.succ ?_
  simp only[mP.j0,if_true]
  rw[h0,LC,LZ hd]
  exact Ev.some _
 ·simp only[decide_eq_false h0,Bool.false_eq_true,if_false]
  refine Ev.bind (y8 (by omega)) ?_
  refine Ev.succ ?_
  simp only[decide_eq_false hd,mP.j0,Bool.false_eq_true,if_false]
  have hg:Nat.gcd (lv l).toNat d≠0:=λe=>hd (Nat.gcd_eq_zero_iff.mp e).2
  have hgl:=qm (Nat.gcd_le_right (lv l).toNat (show 0<d by omega))
  refine Ev.bind (TU hl hlen hd hld) ?_
  refine Ev.bind (MK hl hlen hg (by omega)) ?_
  refine Ev.bind (Eh hg (by omega) (by omega)) ?_
  rw[TA h0]
  exact Ev.some _
theorem Ef{neg:Bool}{n d:Nat}(hn:(dg n).length<1048576)(hd:d≠0)(hld:(dg d).length<1048576):Ev (λk=>mP.f k neg (dg n) (dg d)) (rq (sg neg n) d):=by
 have:=L9 (neg:=neg) (kS n) hn hd hld
 rw[lG,Int.toNat_natCast] at this
 exact this
def Fb(n:Int)(d:Nat):Prop:=d≠0/\(dg n.natAbs).length<131072/\(dg d).length<131072
theorem Ed{n:Int}{d:Nat}(hd:d≠0):∃(m e g:Nat),g≠0/\e≠0/\rq n d=(decide (n<0),dg m,dg e)/\n=sg (decide (n<0)) m*(g:Int)/\d=e*g/\m<=n.natAbs/\e<=d:=by
 have hg:Nat.gcd n.natAbs d≠0:=λe=>hd (Nat.gcd_eq_zero_iff.mp e).2
 have h1:=Nat.div_mul_cancel (Nat.gcd_dvd_left n.natAbs d)
 have h2:=Nat.div_mul_cancel (Nat.gcd_dvd_right n.natAbs d)
 refine⟨_,_,_,hg,?_,rfl,?_,h2.symm,Nat.div_le_self _ _,Nat.div_le_self _ _⟩
 ·intro e;rw[e,Nat.zero_mul] at h2;exact hd h2.symm
 ·generalize Nat.gcd n.natAbs d=g at*
  generalize n.natAbs / g=m at*
  unfold sg
  have h3:((m*g:Nat):Int)=((n.natAbs:Nat):Int):=by rw[h1]
  rw[Int.natCast_mul] at h3
  by_cases g1:n<0
  ·simp only[decide_eq_true g1,if_true,Int.neg_mul]
   omega
  ·simp only[decide_eq_false g1,Bool.false_eq_true,if_false]
   omega
theorem Ea{n:Int}{d:Nat}(h:Fb n d):Ev (λk=>qA.f k (rq n d).1 (rq n d).2.1 (rq n d).2.2) (rq n d):=by
 obtain⟨h0,h1,h2⟩:=h
 obtain⟨m,e,g,hg,he,hr,hn,hde,hm,ED⟩:=Ed (n:=n) h0
 have l1:=qm hm
 have l2:=qm ED
 simp only[qA.f,hr]
 refine Ev.bind (Ef (by omega) he (by omega)) ?_
 refine Ev.cast (Ev.some _) ?_
 have:rq (sg (decide (n<0)) m) e=rq n d:=by
  conv=>rhs;rw[hn,hde]
  rw[Ec hg]
 rw[this,hr]
theorem TP{a c:Int}{b d:Nat}(h1:Fb a b)(h2:Fb c d):Ev (λk=>um.f k (rq a b).1 (rq a b).2.1 (rq a b).2.2 (rq c d).1 (rq c d).2.1 (rq c d).2.2) (rq (a*c) (b*d)):=by
 simp only[um.f]
 refine Ev.bind (Ea h1) ?_
 refine Ev.bind (Ea h2) ?_
 obtain⟨h10,h11,h12⟩:=h1
 obtain⟨h20,h21,h22⟩:=h2
 obtain⟨m1,e1,g1,hg1,he1,hr1,hn1,hd1,hm1,Jg⟩:=Ed (n:=a) h10
 obtain⟨m2,e2,g2,hg2,he2,hr2,hn2,hd2,hm2,Jf⟩:=Ed (n:=c) h20
 have l1:=qm hm1
 have l2:=qm Jg
 have l3:=qm hm2
 have l4:=qm Jf
 have p1:=rF m1 m2
 have p2:=rF e1 e2
 simp only[hr1,hr2]
 refine Ev.bind (vW (by omega) (by omega)) ?_
 refine Ev.bind (vW (by omega) (by omega)) ?_
 refine Ev.bind (Ef (by omega) (Nat.mul_ne_zero he1 he2) (by omega)) ?_
 refine Ev.cast (Ev.some _) ?_
 show rq (sg (decide (a<0) != decide (c<0)) (m1*m2)) (e1*e2)=rq (a*c) (b*d)
 have e:sg (decide (a<0) != decide (c<0)) (m1*m2)=sg (decide (a<0)) m1*sg (decide (c<0)) m2:=by
  unfold sg
  cases decide (a<0)<;>cases decide (c<0)<;>simp [Int.neg_mul,Int.mul_neg]
 rw[e]
 have:a*c=(sg (decide (a<0)) m1*sg (decide (c<0)) m2)*((g1*g2:Nat):Int):=by
  conv=>lhs;rw[hn1,hn2]
  rw[Int.natCast_mul]
  grind
 rw[this,show b*d=(e1*e2)*(g1*g2) by rw[hd1,hd2];grind,Ec (Nat.mul_ne_zero hg1 hg2)]
theorem Uo{a c:Int}{b d:Nat}(h1:Fb a b)(h2:Fb c d):Ev (λk=>lY.f k (rq a b).1 (rq a b).2.1 (rq a b).2.2 (rq c d).1 (rq c d).2.1 (rq c d).2.2) (rq (a*(d:Int)+c*(b:Int)) (b*d)):=by
 simp only[lY.f]
 refine Ev.bind (Ea h1) ?_
 refine Ev.bind (Ea h2) ?_
 obtain⟨h10,h11,h12⟩:=h1
 obtain⟨h20,h21,h22⟩:=h2
 obtain⟨m1,e1,g1,hg1,he1,hr1,hn1,hd1,hm1,Jg⟩:=Ed (n:=a) h10
 obtain⟨m2,e2,g2,hg2,he2,hr2,hn2,hd2,hm2,Jf⟩:=Ed (n:=c) h20
 have l1:=qm hm1
 have l2:=qm Jg
 have l3:=qm hm2
 have l4:=qm Jf
 have p1:=rF m1 e2
 have p2:=rF m2 e1
 have p3:=rF e1 e2
 have hval:a*(d:Int)+c*(b:Int)=(sg (decide (a<0)) (m1*e2)+sg (decide (c<0)) (m2*e1))*((g1*g2:Nat):Int):=by
  have q1:sg (decide (a<0)) (m1*e2)=sg (decide (a<0)) m1*(e2:Int):=by unfold sg;cases decide (a<0)<;>simp [Int.neg_mul]
  have q2:sg (decide (c<0)) (m2*e1)=sg (decide (c<0)) m2*(e1:Int):=by unfold sg;cases decide (c<0)<;>simp [Int.neg_mul]
  rw[q1,q2]
  have r1:(d:Int)=(e2:Int)*(g2:Int):=by rw[hd2,Int.natCast_mul]
  have r2:(b:Int)=(e1:Int)*(g1:Int):=by rw[hd1,Int.natCast_mul]
  rw[r1,r2]
  conv=>lhs;rw[hn1,hn2]
  rw[Int.natCast_mul]
  grind
 have fin:∀(t:Bool) (v:Nat),sg t v=sg (decide (a<0)) (m1*e2)+sg (decide (c<0)) (m2*e1)->rq (sg t v) (e1*e2)=rq (a*(d:Int)+c*(b:Int)) (b*d):=by
  intro t v hv
  rw[hv,hval,show b*d=(e1*e2)*(g1*g2) by rw[hd1,hd2];grind,Ec (Nat.mul_ne_zero hg1 hg2)]
 simp only[hr1,hr2]
 refine Ev.bind (vW (by omega) (by omega)) ?_
 refine Ev.bind (vW (by omega) (by omega)) ?_
 refine Ev.bind (vW (by omega) (by omega)) ?_
 obtain⟨x,hx⟩:∃x,x=m1*e2:=⟨_,rfl⟩
 obtain⟨y,hy⟩:∃y,y=m2*e1:=⟨_,rfl⟩
 rw[<-hx,<-hy] at fin
 rw[<-hx] at p1
 rw[<-hy] at p2
 rw[<-hx,<-hy]
 have ED:e1*e2≠0:=Nat.mul_ne_zero he1 he2
 by_cases hs:(decide (a<0)==decide (c<0))=true
 ·simp only[hs,if_true]
  refine Ev.bind (FV (by omega) (by omega)) ?_
  have hl:(dg (x+y)).length<1048576:=by
   have hb1:=tC x
   have hb2:=tC y
   have hb3:=wY (show(dg x).length<=262144 by omega)
   have hb4:=wY (show(dg y).length<=262144 by omega)
   have:(dg (x+y)).length<=262144+1:=nO (by rw[mY];generalize bp 262144=p at*;omega)
   omega
  refine Ev.bind (Ef hl ED (by omega)) ?_
  refine Ev.cast (Ev.some _) (fin _ _ ?_)
  have e:decide (a<0)=decide (c<0):=by simpa using hs
  rw[<-e]
  unfold sg
  cases decide (a<0)<;>simp<;>omega
 ·have hne:decide (a<0)≠decide (c<0):=by intro e;exact hs (by simp [e])
  simp only[hs,Bool.false_eq_true,if_false]
  refine Ev.bind (Iu (by omega) (by omega)) ?_
  by_cases hle:y<=x
  ·have hc:mJ ((x:Nat):Int) ((y:Nat):Int)>=0:=by
    unfold mJ
    rw[if_neg (by omega)]
    split<;>omega
   simp only[if_pos hc]
   refine Ev.bind (Eb (by omega) hle) ?_
   have hl:=qm (show x-y<=x by omega)
   refine Ev.bind (Ef (by omega) ED (by omega)) ?_
   refine Ev.cast (Ev.some _) (fin _ _ ?_)
   unfold sg
   revert hne
   cases decide (a<0)<;>cases decide (c<0)<;>simp<;>omega
  ·have hc:¬mJ ((x:Nat):Int) ((y:Nat):Int)>=0:=by
    unfold mJ
    rw[if_pos (by omega)]
    omega
   simp only[if_neg hc]
   refine Ev.bind (Eb (by omega) (by omega)) ?_
   have hl:=qm (show y-x<=y by omega)
   refine Ev.bind (Ef (by omega) ED (by omega)) ?_
   refine Ev.cast (Ev.some _) (fin _ _ ?_)
   unfold sg
   revert hne
   cases decide (a<0)<;>cases decide (c<0)<;>simp<;>omega
theorem TB{s t:Int}{d:Nat}(hd:d≠0):rq (s*(d:Int)+t*(d:Int)) (d*d)=rq (s+t) d:=by
 rw[<-Int.add_mul,Ec hd]
def An(l:List (List Int))(i:Nat):Nat:=(lv (kD l (i:Int))).toNat
def tT(g:Nat)(l:List (List Int))(j i:Nat):Int:=(An l i:Int)*kr (g:Int) (l.length-1-i) i j
def tS(g:Nat)(l:List (List Int))(j:Nat):Int:=sm l.length (tT g l j)
theorem JX{l:List (List Int)}(h:Wl l){i:Nat}(hi:i<l.length):(dg (An l i)).length<=20:=nO (wS (h.at hi).1 (h.at hi).2)
theorem K_{g:Nat}{l:List (List Int)}(h:Wl l)(hg:g<4294967296){j i:Nat}(hi:i<l.length)(hj:j<l.length):(dg (tT g l j i).natAbs).length<=344:=by
 have f:=h.few
 have:=Ve (Vb (JX h hi)) (CS (g:=g) (a:=l.length-1-i) (b:=i) (k:=j) hg (by omega) (by omega) (by omega))
 unfold tT;omega
theorem FD{g:Nat}{l:List (List Int)}(h:Wl l)(hg:g<4294967296){j m:Nat}(hm:m<=l.length)(hj:j<l.length):(dg (sm m (tT g l j)).natAbs).length<=345:=
 SC (by have:=h.few;omega) (λi hi=>K_ h hg (by omega) hj)
theorem U2:Num oN 0:=⟨false,0,by rw[pI];rfl,by simp [sg]⟩
def Qa(l:List (List Int))(w:List jb):Prop:=w.length=l.length/\∀i,i<l.length->iK w (i:Int)=⟨false,dg (An l i)⟩
structure Out (g:Nat) (l:List (List Int)) (j m:Nat) (o:List jb):Prop where
 len:o.length=l.length
 below:∀j',j'<j->Num (iK o (j':Int)) (tS g l j')
 here:j<l.length->Num (iK o (j:Int)) (sm m (tT g l j))
 above:∀j',j<j'->j'<l.length->Num (iK o (j':Int)) 0
theorem RS{g:Nat}{l:List (List Int)}{w:List jb}{t:List (List jb)}(hl:Wl l)(hg:g<256)(hw:Qa l w)(ht:Tab g (l.length-1) l.length t):∀(d j:Nat),j+d=l.length->∀(o:List jb),Out g l j 0 o->
 Rz (λo=>o.length=l.length/\∀j,j<l.length->Num (iK o (j:Int)) (tS g l j)) (λk=>mW.l0 k w t o (l.length:Int) (j:Int)):=by
 intro d
 have few:=hl.few
 have hwl:=hw.1
 induction d with
 |zero=>
  intro j hj o ho
  have hj:j=l.length:=by omega
  subst hj
  refine Rz.succ ?_
  simp only[mW.l0,if_neg (show ¬(l.length:Int)<(l.length:Int) from Int.lt_irrefl _)]
  exact Rz.some ⟨ho.len,ho.below⟩
 |succ d ih=>
  intro j hj o ho
  have hjl:j<l.length:=by omega
  refine Rz.succ ?_
  simp only[mW.l0,if_pos (show(j:Int)<(l.length:Int) by omega)]
  rw[hwl]
  have inner:∀(d2 i:Nat),i+d2=l.length->∀(o:List jb),Out g l j i o->Rz (λo=>o.length=l.length/\∀j,j<l.length->Num (iK o (j:Int)) (tS g l j)) (λk=>mW.l1 k w t o (j:Int) (l.length:Int) (j:Int) w (l.length:Int) (i:Int)):=by
   intro d2
   induction d2 with
   |zero=>
    intro i hi o ho
    have hi:i=l.length:=by omega
    subst hi
    refine Rz.succ ?_
    simp only[mW.l1,if_neg (show ¬(l.length:Int)<(l.length:Int) from Int.lt_irrefl _),wn (show(j:Int)+1=((j+1:Nat):Int) by omega) (by omega)]
    refine ih (j+1) (by omega) o ⟨ho.len,λj' hj'=>?_,λhlt=>?_,λj' h1 h2=>ho.above j' (by omega) h2⟩
    ·by_cases e:j'=j
     ·subst e;exact ho.here hjl
     ·exact ho.below j' (by omega)
    ·exact ho.above (j+1) (by omega) hlt
   |succ d2 ih2=>
    intro i hi o ho
    have hil:i<l.length:=by omega
    have ew:=hw.2 i hil
    have hol:=ho.len
    have hrow:=ht.at' i hil
    have hrl:=hrow.len
    have htl:=ht.len
    have ea:=JX hl hil
    refine Rz.succ ?_
    simp only[mW.l1,if_pos (show(i:Int)<(l.length:Int) by omega),if_pos (show(0:Int)<=(i:Int) from Int.natCast_nonneg _),if_pos (show(i:Int)<(w.length:Int) by omega),ew,wn (show(i:Int)+1=((i+1:Nat):Int) by omega) (by omega)]
    by_cases h0:An l i=0
    ·have hz:¬((dg (An l i)).length:Int)>0:=by rw[h0,pI];simp
     simp only[if_neg hz]
     refine ih2 (i+1) (by omega) o ⟨ho.len,ho.below,λh=>?_,ho.above⟩
     have:=ho.here h
     have e:sm (i+1) (tT g l j)=sm i (tT g l j):=by
      rw[sm]
      have:tT g l j i=0:=by unfold tT;rw[h0];simp
      omega
     rw[e];exact this
    ·have hnz:((dg (An l i)).length:Int)>0:=by
      have:(dg (An l i)).length≠0:=by rw[Ne,zy];exact h0
      omega
     obtain⟨b2,n2,e2,s2⟩:=hrow.at' j (by omega)
     obtain⟨b1,n1,e1,s1⟩:=ho.here hjl
     have l2:(dg n2).length<=324:=by rw[yC s2];exact CS (by omega) (by omega) (by omega) (by omega)
     have l1:(dg n1).length<=345:=by rw[yC s1];exact FD hl (by omega) (by omega) hjl
     obtain⟨b3,n3,v3,s3⟩:=Nw (b1:=false) (b2:=b2) (n1:=An l i) (n2:=n2) (by omega) (by omega)
     have l3:(dg n3).length<=344:=by
      have t:n3=An l i*n2:=by rw[yC s3,Int.natAbs_mul,yD,yD]
      have:=rF (An l i) n2
      rw[t];omega
     obtain⟨b4,n4,v4,s4⟩:=Nz (b1:=b1) (b2:=b3) (n1:=n1) (n2:=n3) (by omega) (by omega)
     simp only[if_pos hnz,if_pos (show(0:Int)<=(j:Int) from Int.natCast_nonneg _),if_pos (show(j:Int)<(o.length:Int) by omega),if_pos (show(i:Int)<(t.length:Int) by omega),if_pos (show(j:Int)<((jT t (i:Int)).length:Int) by omega),e1,e2,Int.toNat_natCast]
     refine Rz.bind v3 ?_
     refine Rz.bind v4 ?_
     refine ih2 (i+1) (by omega) _ ⟨by rw[List.length_set];exact hol,λj' hj'=>?_,λ_=>?_,λj' h1 h2=>?_⟩
     ·rw[Ir (by omega)];exact ho.below j' hj'
     ·rw[ML (by omega)]
      refine⟨b4,n4,rfl,?_⟩
      rw[s4,s3,s1,s2,sm]
      rfl
     ·rw[Ir (by omega)];exact ho.above j' h1 h2
  exact inner l.length 0 (by omega) o ho
theorem RU{q:Nat}{l:List (List Int)}{w:List jb}(hl:Wl l)(h1:1<=l.length)(hq:2<=q)(hq2:q<=256)(hw:Qa l w):
 Rz (λo=>o.length=l.length/\∀j,j<l.length->Num (iK o (j:Int)) (tS (q-1) l j)) (λk=>mW.f k (q:Int) w):=by
 have few:=hl.few
 obtain⟨t,ht,hT⟩:=Ry (q:=q) (n:=l.length-1) hq hq2 (by omega)
 rw[show l.length-1+1=l.length by omega] at hT
 simp only[mW.f,hw.1,wn (show(l.length:Int)-1=((l.length-1:Nat):Int) by omega) (by omega)]
 refine Rz.bind ht ?_
 simp only[if_pos (show(0:Int)<=(l.length:Int) from Int.natCast_nonneg _),Int.toNat_natCast,if_pos (show l.length<=8796093022208 by omega),Option.bind_some,List.length_replicate]
 have hz:∀j:Nat,Num (iK (List.replicate l.length oN) (j:Int)) 0:=by
  intro j
  have:iK (List.replicate l.length oN) (j:Int)=oN:=by
   unfold iK
   simp only[Int.toNat_natCast,List.getD_eq_getElem?_getD]
   by_cases h:j<l.length
   ·simp [h]
   ·rw[List.getElem?_eq_none (by simp;omega)];rfl
  rw[this];exact U2
 exact RS hl (by omega) hw hT l.length 0 (by omega) _ ⟨List.length_replicate,λj' h=>by omega,λ_=>hz 0,λj' _ _=>hz j'⟩
def Good(T:Nat)(z:Int):Prop:=0<=z/\z % (T:Int)=0
def yN(g:Nat)(l:List (List Int))(T:Nat):List (List Int)×Int:=((List.range l.length).map (λj=>dg ((tS g l j).toNat / T)),0)
theorem NU{α:Type}(f:Nat->α)(n:Nat):(List.range (n+1)).map f=(List.range n).map f++[f n]:=by rw[List.range_succ,List.map_append];rfl
theorem WR{g T:Nat}{l:List (List Int)}{o:List jb}(hl:Wl l)(hg:g<256)(hT:T≠0)(hT32:T<4294967296)(hgd:∀j,j<l.length->Good T (tS g l j))(hol:o.length=l.length)(ho:∀j,j<l.length->Num (iK o (j:Int)) (tS g l j)):∀(d j:Nat),j+d=l.length->
 Ev (λk=>oh.l1 k (dg T) ((List.range j).map (λj=>dg ((tS g l j).toNat / T))) o (l.length:Int) (j:Int)) (yN g l T):=by
 intro d
 have few:=hl.few
 induction d with
 |zero=>
  intro j hj
  have hj:j=l.length:=by omega
  subst hj
  refine Ev.succ ?_
  simp only[oh.l1,if_neg (show ¬(l.length:Int)<(l.length:Int) from Int.lt_irrefl _)]
  exact Ev.some _
 |succ d ih=>
  intro j hj
  have hjl:j<l.length:=by omega
  obtain⟨b,n,e,s⟩:=ho j hjl
  have hn:n=(tS g l j).natAbs:=yC s
  have hnl:(dg n).length<=345:=by rw[hn];exact FD hl (by omega) (Nat.le_refl _) hjl
  have hrl:((List.range j).map (λj=>dg ((tS g l j).toNat / T))).length=j:=by simp
  have hgj:=hgd j hjl
  have hm:n % T=0:=by
   have h1:=hgj.1
   have h2:=hgj.2
   have:tS g l j=(n:Int):=by omega
   rw[this,<-Int.natCast_emod] at h2
   omega
  refine Ev.succ ?_
  simp only[oh.l1,if_pos (show(j:Int)<(l.length:Int) by omega),if_pos (show(0:Int)<=(j:Int) from Int.natCast_nonneg _),if_pos (show(j:Int)<(o.length:Int) by omega),e,wn (show(j:Int)+1=((j+1:Nat):Int) by omega) (by omega),hrl,if_pos (show j<5864062014805 by omega)]
  refine Ev.bind (U9 hT hT32 (by omega)) ?_
  simp only[hm,pI,List.length_nil,if_neg (show ¬((0:Nat):Int)>0 by omega)]
  have go:Ev (λk=>oh.l1 k (dg T) ((List.range j).map (λj=>dg ((tS g l j).toNat / T))++[dg (n / T)]) o (l.length:Int) ((j+1:Nat):Int)) (yN g l T):=by
   have:=ih (j+1) (by omega)
   rw[NU] at this
   rw[show n=(tS g l j).toNat by have:=hgj.1;omega]
   exact this
  by_cases hb:b=true
  ·have h0:n=0:=by
    have h1:=hgj.1
    rw[hb] at s
    unfold sg at s
    simp at s
    omega
   have hz:¬((dg n).length:Int)>0:=by rw[h0,pI];simp
   simp only[hb,if_true,if_neg hz]
   exact go
  ·simp only[if_neg hb]
   exact go
theorem QZ{q T:Nat}{l:List (List Int)}(hl:Wl l)(h1:1<=l.length)(hq:2<=q)(hq2:q<=256)(hT:T≠0)(hT32:T<4294967296)(hgd:∀j,j<l.length->Good T (tS (q-1) l j)):∀(d i:Nat) (w:List jb),i+d=l.length->w.length=i->(∀j,j<i->iK w (j:Int)=⟨false,dg (An l j)⟩)->
 Ev (λk=>oh.l0 k (q:Int) (dg T) w l (l.length:Int) (i:Int)) (yN (q-1) l T):=by
 intro d
 have few:=hl.few
 induction d with
 |zero=>
  intro i w hi hwl hw
  have hi:i=l.length:=by omega
  subst hi
  obtain⟨o,hev,hol,ho⟩:=RU (q:=q) hl h1 hq hq2 ⟨hwl,hw⟩
  refine Ev.succ ?_
  simp only[oh.l0,if_neg (show ¬(l.length:Int)<(l.length:Int) from Int.lt_irrefl _)]
  refine Ev.bind hev ?_
  rw[hol]
  exact WR hl (by omega) hT hT32 hgd hol ho l.length 0 (by omega)
 |succ d ih=>
  intro i w hi hwl hw
  have hil:i<l.length:=by omega
  have hx:=hl.at hil
  refine Ev.succ ?_
  simp only[oh.l0,if_pos (show(i:Int)<(l.length:Int) by omega),if_pos (show(0:Int)<=(i:Int) from Int.natCast_nonneg _),wn (show(i:Int)+1=((i+1:Nat):Int) by omega) (by omega),if_pos (show w.length<4398046511104 by omega)]
  refine Ev.bind (BR hx.1 (by omega)) ?_
  refine ih (i+1) _ (by omega) (by rw[List.length_append,hwl];rfl) (λj hj=>?_)
  by_cases e:j=i
  ·subst e;rw[MN hwl.symm];rfl
  ·rw[MM (by omega)];exact hw j (by omega)
theorem QX{l:List (List Int)}(h:Wl l):JR l:=λx hx=>⟨h.lm x hx,by have:=h.short x hx;omega⟩
theorem NZ{l:List (List Int)}(h:Wl l):∀i:Nat,i<=l.length->0<=nD (l.take i)/\nD (l.take i)<=(i*bp 20:Nat):=by
 intro i
 induction i with
 |zero=>intro _;rw[List.take_zero];simp [nD]
 |succ i ih=>
  intro hi
  have h1:=ih (by omega)
  have hx:=h.at (i:=i) (by omega)
  rw[Cb (by omega)] at hx
  have h2:=yI hx.1
  have h3:=wS hx.1 hx.2
  rw[F7 (by omega),Nat.succ_mul]
  omega
theorem KX{l:List (List Int)}(h:Wl l){i:Nat}(hi:i<=l.length):(dg (nD (l.take i)).toNat).length<=21:=by
 have h1:=NZ h i hi
 have f:=h.few
 refine nO ?_
 rw[show 21=20+1 from rfl,mY]
 have h2:i*bp 20<=65*bp 20:=Nat.mul_le_mul_right _ (by omega)
 have:=Bh 20
 generalize bp 20=p at*
 omega
theorem U8{q:Nat}{l:List (List Int)}(hl:Wl l)(h1:1<=l.length)(hq:2<=q)(hq2:q<=256)(h0:(nD l).toNat≠0)(h32:(nD l).toNat<4294967296)(hgd:∀j,j<l.length->Good (nD l).toNat (tS (q-1) l j)):
 Ev (λk=>oh.f k (q:Int) l) (yN (q-1) l (nD l).toNat):=by
 have few:=hl.few
 have hsh:Ai.f (q:Int) (l.length:Int)=some 0:=by
  simp only[Ai.f,CG.f,if_neg (show ¬(q:Int)<2 by omega),if_neg (show ¬(q:Int)>256 by omega),if_neg (show ¬(l.length:Int)<1 by omega),if_neg (show ¬(l.length:Int)>65 by omega),Option.bind_some]
 simp only[oh.f,hsh,Option.bind_some,if_true]
 refine Ev.bind (P9 (QX hl) (by omega)) ?_
 have hz:¬((dg (nD l).toNat).length:Int)=0:=by
  have:(dg (nD l).toNat).length≠0:=by rw[Ne,zy];exact h0
  omega
 simp only[if_neg hz]
 exact QZ hl h1 hq hq2 h0 h32 hgd l.length 0 [] (by omega) rfl (λj hj=>by omega)
def qS(a:Bool×List Int×List Int):lC:=⟨a.1,a.2.1,a.2.2⟩
theorem MO{l m:List lC}{k:Nat}(h:k<l.length):mf (l++m) (k:Int)=mf l (k:Int):=by
 unfold mf
 simp [List.getD_eq_getElem?_getD,List.getElem?_append_left h]
theorem MP{l:List lC}{e:lC}{k:Nat}(h:k=l.length):mf (l++[e]) (k:Int)=e:=by
 subst h
 unfold mf
 simp [List.getD_eq_getElem?_getD]
def Dw(T:Nat)(z:Nat->Int)(m:Nat)(w:List lC):Prop:=w.length=m/\∀i,i<m->mf w (i:Int)=qS (rq (z i) T)
theorem Rk{l:List (List Int)}(hl:Wl l):∀(d i:Nat),i+d=l.length->Ev (λk=>uo.l0 k l (dg (nD (l.take i)).toNat) (i:Int)) (dg (nD l).toNat):=by
 intro d
 have few:=hl.few
 induction d with
 |zero=>
  intro i hi
  have hi:i=l.length:=by omega
  subst hi
  refine Ev.succ ?_
  simp only[uo.l0,if_neg (show ¬(l.length:Int)<(l.length:Int) from Int.lt_irrefl _)]
  rw[List.take_of_length_le (Nat.le_refl _)]
  exact Ev.some _
 |succ d ih=>
  intro i hi
  have hil:i<l.length:=by omega
  have hx:=hl.at hil
  have ht:=KX hl (i:=i) (by omega)
  have h1:=(NZ hl i (by omega)).1
  have nx:=ih (i+1) (by omega)
  rw[F7 hil] at nx
  refine Ev.succ ?_
  simp only[uo.l0,if_pos (show(i:Int)<(l.length:Int) by omega),if_pos (show(0:Int)<=(i:Int) from Int.natCast_nonneg _),wn (show(i:Int)+1=((i+1:Nat):Int) by omega) (by omega)]
  refine Ev.bind (MR (kS _) hx.1 (by omega) (by omega)) ?_
  rw[F6 h1,Cb hil]
  exact nx
theorem Tj{q T:Nat}{l:List (List Int)}{w:List lC}(hl:Wl l)(h1:1<=l.length)(hq:2<=q)(hq2:q<=256)(hT:T≠0)(hTl:(dg T).length<=22)(hw:Dw T (λi=>(An l i:Int)) l.length w):∀(d j:Nat),j+d=l.length->∀(o:List lC),Dw T (tS (q-1) l) j o->
 Rz (Dw T (tS (q-1) l) l.length) (λk=>nN.l0 k (q:Int) w o (j:Int)):=by
 intro d
 have few:=hl.few
 have hwl:=hw.1
 induction d with
 |zero=>
  intro j hj o ho
  have hj:j=l.length:=by omega
  subst hj
  refine Rz.succ ?_
  simp only[nN.l0,hwl,if_neg (show ¬(l.length:Int)<(l.length:Int) from Int.lt_irrefl _)]
  exact Rz.some ho
 |succ d ih=>
  intro j hj o ho
  have hjl:j<l.length:=by omega
  have hol:=ho.1
  refine Rz.succ ?_
  simp only[nN.l0,hwl,if_pos (show(j:Int)<(l.length:Int) by omega)]
  refine Rz.bind (Mc (z:=0) (by omega) (by omega)) ?_
  have inner:∀(d2 i:Nat),i+d2=l.length->Rz (Dw T (tS (q-1) l) l.length) (λk=>nN.l1 k (q:Int) w o (j:Int) (i:Int) (rq (sm i (tT (q-1) l j)) T).1 (rq (sm i (tT (q-1) l j)) T).2.1 (rq (sm i (tT (q-1) l j)) T).2.2):=by
   intro d2
   induction d2 with
   |zero=>
    intro i hi
    have hi:i=l.length:=by omega
    subst hi
    refine Rz.succ ?_
    simp only[nN.l1,hwl,if_neg (show ¬(l.length:Int)<(l.length:Int) from Int.lt_irrefl _),if_pos (show o.length<2513169434916 by omega),wn (show(j:Int)+1=((j+1:Nat):Int) by omega) (by omega)]
    refine ih (j+1) (by omega) _ ⟨by rw[List.length_append,hol];rfl,λi hi=>?_⟩
    by_cases e:i=j
    ·subst e;rw[MP hol.symm];rfl
    ·rw[MO (by omega)];exact ho.2 i (by omega)
   |succ d2 ih2=>
    intro i hi
    have hil:i<l.length:=by omega
    have ew:=hw.2 i hil
    have ea:=JX hl hil
    have lk:=CS (g:=q-1) (a:=l.length-1-i) (b:=i) (k:=j) (by omega) (by omega) (by omega) (by omega)
    have lt:=K_ hl (g:=q-1) (by omega) hil hjl
    have ls:=FD hl (g:=q-1) (by omega) (m:=i) (by omega) hjl
    have Zd:=Es
    have kk:=TQ (q:=q) (n:=l.length-1) (j:=j) (x:=i) hq hq2 (by omega) (by omega) (by omega)
    rw[<-L6] at kk
    have nx:=ih2 (i+1) (by omega)
    refine Rz.succ ?_
    simp only[nN.l1,hwl,if_pos (show(i:Int)<(l.length:Int) by omega),if_pos (show(0:Int)<=(i:Int) from Int.natCast_nonneg _),wn (show(i:Int)+1=((i+1:Nat):Int) by omega) (by omega),wn (show(l.length:Int)-1=((l.length-1:Nat):Int) by omega) (by omega),ew]
    refine Rz.bind kk ?_
    refine Rz.bind (TP (a:=(An l i:Int)) (b:=T) (c:=kr ((q-1:Nat):Int) (l.length-1-i) i j) (d:=1) ⟨hT,by rw[Int.natAbs_natCast];omega,by omega⟩ ⟨by omega,by omega,by omega⟩) ?_
    rw[Nat.mul_one]
    refine Rz.bind (Uo (a:=sm i (tT (q-1) l j)) (b:=T) (c:=tT (q-1) l j i) (d:=T) ⟨hT,by omega,by omega⟩ ⟨hT,by omega,by omega⟩) ?_
    rw[TB hT]
    exact nx
  have hz:rz 0=rq (sm 0 (tT (q-1) l j)) T:=by rw[sm,LZ hT,LV]
  rw[hz]
  exact inner l.length 0 (by omega)
theorem Td{T:Nat}{z:Int}(hT:T≠0)(h:Good T z)(hz:(dg z.natAbs).length<131072)(hTl:(dg T).length<131072):Ev (λk=>Ac.f k (rq z T).1 (rq z T).2.1 (rq z T).2.2) (dg (z.toNat / T),true):=by
 obtain⟨h0,hm⟩:=h
 simp only[Ac.f]
 refine Ev.bind (Ea ⟨hT,hz,hTl⟩) ?_
 obtain⟨c,hc⟩:∃c:Nat,z=((c*T:Nat):Int):=by
  refine⟨z.toNat / T,?_⟩
  have:z=((z.toNat:Nat):Int):=by omega
  rw[this,<-Int.natCast_emod] at hm
  have hm2:z.toNat % T=0:=by omega
  rw[Nat.div_mul_cancel (Nat.dvd_of_mod_eq_zero hm2)]
  exact this
 have e:rq z T=(false,dg c,dg 1):=by
  rw[hc,Int.natCast_mul,show T=1*T by omega]
  conv=>lhs;rw[show((1*T:Nat):Int)=((T:Nat):Int) by rw[Nat.one_mul]]
  rw[Ec hT,L6]
  unfold rz
  rw[Int.natAbs_natCast,decide_eq_false (by omega)]
 have h1:=Es
 simp only[e,Bool.false_eq_true,if_false,show([1]:List Int)=dg 1 from vO.symm]
 refine Ev.bind (S_ _ _ (by omega)) ?_
 simp only[decide_true,if_true]
 refine Ev.cast (Ev.some _) ?_
 rw[hc,Int.toNat_natCast,Nat.mul_div_cancel _ (by omega)]
theorem Ud{g T:Nat}{l:List (List Int)}{o:List lC}(hl:Wl l)(hg:g<256)(hT:T≠0)(hTl:(dg T).length<=22)(hgd:∀j,j<l.length->Good T (tS g l j))(ho:Dw T (tS g l) l.length o):∀(d j:Nat),j+d=l.length->
 Ev (λk=>pq.l1 k o ((List.range j).map (λj=>dg ((tS g l j).toNat / T))) (j:Int)) (yN g l T):=by
 intro d
 have few:=hl.few
 have hol:=ho.1
 induction d with
 |zero=>
  intro j hj
  have hj:j=l.length:=by omega
  subst hj
  refine Ev.succ ?_
  simp only[pq.l1,hol,if_neg (show ¬(l.length:Int)<(l.length:Int) from Int.lt_irrefl _)]
  exact Ev.some _
 |succ d ih=>
  intro j hj
  have hjl:j<l.length:=by omega
  have e:=ho.2 j hjl
  have hnl:=FD hl (g:=g) (by omega) (Nat.le_refl _) hjl
  have hnl:(dg (tS g l j).natAbs).length<=345:=hnl
  have hrl:((List.range j).map (λj=>dg ((tS g l j).toNat / T))).length=j:=by simp
  refine Ev.succ ?_
  simp only[pq.l1,hol,if_pos (show(j:Int)<(l.length:Int) by omega),if_pos (show(0:Int)<=(j:Int) from Int.natCast_nonneg _),e,wn (show(j:Int)+1=((j+1:Nat):Int) by omega) (by omega),hrl,if_pos (show j<5864062014805 by omega),qS]
  refine Ev.bind (Td hT (hgd j hjl) (by omega) (by omega)) ?_
  simp only[if_true]
  have:=ih (j+1) (by omega)
  rw[NU] at this
  exact this
theorem TV{q T:Nat}{l:List (List Int)}(hl:Wl l)(h1:1<=l.length)(hq:2<=q)(hq2:q<=256)(hT:T≠0)(hTl:(dg T).length<=22)(hgd:∀j,j<l.length->Good T (tS (q-1) l j)):∀(d i:Nat) (w:List lC),i+d=l.length->Dw T (λi=>(An l i:Int)) i w->
 Ev (λk=>pq.l0 k (q:Int) l (dg T) w (i:Int)) (yN (q-1) l T):=by
 intro d
 have few:=hl.few
 induction d with
 |zero=>
  intro i w hi hw
  have hi:i=l.length:=by omega
  subst hi
  obtain⟨o,hev,ho⟩:=Tj hl h1 hq hq2 hT hTl hw l.length 0 (by omega) [] ⟨rfl,λi hi=>by omega⟩
  refine Ev.succ ?_
  simp only[pq.l0,if_neg (show ¬(l.length:Int)<(l.length:Int) from Int.lt_irrefl _),nN.f]
  refine Ev.bind hev ?_
  exact Ud hl (by omega) hT hTl hgd ho l.length 0 (by omega)
 |succ d ih=>
  intro i w hi hw
  have hil:i<l.length:=by omega
  have hx:=hl.at hil
  have hwl:=hw.1
  refine Ev.succ ?_
  simp only[pq.l0,if_pos (show(i:Int)<(l.length:Int) by omega),if_pos (show(0:Int)<=(i:Int) from Int.natCast_nonneg _),wn (show(i:Int)+1=((i+1:Nat):Int) by omega) (by omega),if_pos (show w.length<2513169434916 by omega)]
  refine Ev.bind (L9 (neg:=false) hx.1 (by omega) hT (by omega)) ?_
  refine ih (i+1) _ (by omega) ⟨by rw[List.length_append,hwl];rfl,λj hj=>?_⟩
  by_cases e:j=i
  ·subst e
   rw[MP hwl.symm]
   have:sg false (lv (kD l (j:Int))).toNat=(An l j:Int):=by unfold sg An;simp
   rw[this];rfl
  ·rw[MO (by omega)];exact hw.2 j (by omega)
theorem Ue{q:Nat}{l:List (List Int)}(hl:Wl l)(h1:1<=l.length)(hq:2<=q)(hq2:q<=256)(h0:(nD l).toNat≠0)(hgd:∀j,j<l.length->Good (nD l).toNat (tS (q-1) l j)):
 Ev (λk=>pq.f k (q:Int) l) (yN (q-1) l (nD l).toNat):=by
 have few:=hl.few
 have hor:Af.f (q:Int)=some 0:=by
  simp only[Af.f,if_neg (show ¬(q:Int)<2 by omega),if_neg (show ¬(q:Int)>256 by omega)]
 have ht:=KX hl (Nat.le_refl l.length)
 rw[List.take_of_length_le (Nat.le_refl _)] at ht
 have htot:=Rk hl l.length 0 (by omega)
 rw[List.take_zero,show nD []=0 from rfl,show dg (0:Int).toNat=[] from pI] at htot
 simp only[pq.f,hor,Tz h1 few,Option.bind_some,if_true,uo.f]
 refine Ev.bind htot ?_
 refine Ev.bind (y8 (by omega)) ?_
 simp only[decide_eq_false h0,Bool.false_eq_true,if_false]
 exact TV hl h1 hq hq2 h0 (by omega) hgd l.length 0 [] (by omega) ⟨rfl,λj hj=>by omega⟩
def Cn(D:List (List Int)):Prop:=∀i,i<D.length->kD D (i:Int)=dg (An D i)/\(dg (An D i)).length<=400
def pX(D:List (List Int)):Nat->Nat
 |0=>0
 |i+1=>pX D i+(if An D (i+1)=0 then 0 else 1)
theorem O9(D:List (List Int)):∀m,pX D m<=m:=by
 intro m
 induction m with
 |zero=>exact Nat.le_refl _
 |succ m ih=>rw[pX];split<;>omega
theorem U5{D:List (List Int)}(hD:Cn D)(hlen:D.length<=100){m:Nat}(hm:m<D.length):Ev (λk=>tq.f k D (m:Int)) ((pX D m:Nat):Int):=by
 have loop:∀(d i:Nat),i+d=m->Ev (λk=>tq.l0 k D (m:Int) ((pX D i:Nat):Int) ((i+1:Nat):Int)) ((pX D m:Nat):Int):=by
  intro d
  induction d with
  |zero=>
   intro i hi
   have hi:i=m:=by omega
   subst hi
   refine Ev.succ ?_
   simp only[tq.l0,if_neg (show ¬((i+1:Nat):Int)<=(i:Int) by omega)]
   exact Ev.some _
  |succ d ih=>
   intro i hi
   have hc:=hD (i+1) (by omega)
   have hcl:=O9 D i
   have nx:=ih (i+1) (by omega)
   refine Ev.succ ?_
   simp only[tq.l0,if_pos (show((i+1:Nat):Int)<=(m:Int) by omega),if_pos (show(0:Int)<=((i+1:Nat):Int) from Int.natCast_nonneg _),if_pos (show((i+1:Nat):Int)<(D.length:Int) by omega),wn (show((i+1:Nat):Int)+1=((i+1+1:Nat):Int) by omega) (by omega),hc.1]
   refine Ev.bind (JE (by omega)) ?_
   by_cases h0:An D (i+1)=0
   ·have hb:¬((bl (An D (i+1)):Nat):Int)>0:=by rw[xB.mpr h0];omega
    simp only[if_neg hb]
    rw[pX,if_pos h0,Nat.add_zero] at nx
    exact nx
   ·have hb:((bl (An D (i+1)):Nat):Int)>0:=by
     have:bl (An D (i+1))≠0:=λe=>h0 (xB.mp e)
     omega
    simp only[if_pos hb,wn (show((pX D i:Nat):Int)+1=((pX D i+1:Nat):Int) by omega) (by omega)]
    rw[pX,if_neg h0] at nx
    exact nx
 simp only[tq.f]
 exact loop m 0 (by omega)
theorem TI{D:List (List Int)}(hD:Cn D)(hlen:D.length<=100){m:Nat}(hm:m<D.length):Ev (λk=>sK.f k D (m:Int)) ((pX D m:Nat):Int):=by
 have loop:∀(d i:Nat),i+d=m->Ev (λk=>sK.l0 k D (m:Int) ((pX D i:Nat):Int) ((i+1:Nat):Int)) ((pX D m:Nat):Int):=by
  intro d
  induction d with
  |zero=>
   intro i hi
   have hi:i=m:=by omega
   subst hi
   refine Ev.succ ?_
   simp only[sK.l0,if_neg (show ¬((i+1:Nat):Int)<=(i:Int) by omega)]
   exact Ev.some _
  |succ d ih=>
   intro i hi
   have hc:=hD (i+1) (by omega)
   have hcl:=O9 D i
   have nx:=ih (i+1) (by omega)
   refine Ev.succ ?_
   simp only[sK.l0,if_pos (show((i+1:Nat):Int)<=(m:Int) by omega),if_pos (show(0:Int)<=((i+1:Nat):Int) from Int.natCast_nonneg _),if_pos (show((i+1:Nat):Int)<(D.length:Int) by omega),wn (show((i+1:Nat):Int)+1=((i+1+1:Nat):Int) by omega) (by omega),hc.1]
   refine Ev.bind (y8 (by omega)) ?_
   by_cases h0:An D (i+1)=0
   ·simp only[decide_eq_true h0,if_true]
    rw[pX,if_pos h0,Nat.add_zero] at nx
    exact nx
   ·simp only[decide_eq_false h0,Bool.false_eq_true,if_false,wn (show((pX D i:Nat):Int)+1=((pX D i+1:Nat):Int) by omega) (by omega)]
    rw[pX,if_neg h0] at nx
    exact nx
 simp only[sK.f]
 exact loop m 0 (by omega)
theorem NI{l:List Int}(hl:Lm l)(hlen:l.length<33554432):Ev (λk=>u_.f k l) ((bl (lv l).toNat:Nat):Int):=by
 have hd:(dg (lv l).toNat).length<=l.length:=nO (wS hl (Nat.le_refl _))
 have h:=JE (n:=(lv l).toNat) (by omega)
 simp only[u_.f] at h ⊢
 have h:=Ev.unbind (Ib (a:=(lv l).toNat) (by omega)) h
 exact Ev.bind (vI hl (by omega)) h
theorem Vs(l:List (List Int)):∀m:Nat,(∀j,1<=j->j<=m->An l j=0)\/∃d,1<=d/\d<=m/\An l d≠0/\∀j,1<=j->j<d->An l j=0:=by
 intro m
 induction m with
 |zero=>exact .inl (λj h1 h2=>by omega)
 |succ m ih=>
  rcases ih with h|⟨d,h1,h2,h3,h4⟩
  ·by_cases g:An l (m+1)=0
   ·refine .inl (λj h1 h2=>?_)
    by_cases e:j=m+1
    ·subst e;exact g
    ·exact h j h1 (by omega)
   ·exact .inr ⟨m+1,by omega,Nat.le_refl _,g,λj h1 h2=>h j h1 (by omega)⟩
  ·exact .inr ⟨d,h1,by omega,h3,h4⟩
def Pt(D:List (List Int))(n d t:Nat):Prop:=((pX D (n-t):Nat):Int)<=(d:Int)-(t:Int)
open Classical in
noncomputable def gr(D:List (List Int))(n d:Nat):Nat->Nat
 |0=>0
 |t+1=>if Pt D n d (t+1) then t+1 else gr D n d t
theorem Ws(D:List (List Int))(n d:Nat):∀m,gr D n d m<=m:=by
 intro m
 induction m with
 |zero=>exact Nat.le_refl _
 |succ m ih=>rw[gr];split<;>omega
theorem U4{D:List (List Int)}{n d:Nat}(hD:Cn D)(hlen:D.length=n+1)(hn:n<=64)(hd:d<=n):∀t:Nat,t<d->Ev (λk=>l7.l1 k D (n:Int) (d:Int) (t:Int)) (((gr D n d t:Nat):Int),0):=by
 intro t
 induction t with
 |zero=>
  intro _
  refine Ev.succ ?_
  simp only[l7.l1,if_neg (show ¬((0:Nat):Int)>=1 by omega)]
  exact Ev.some _
 |succ t ih=>
  intro ht
  have hi:wrap64 ((n:Int)-((t+1:Nat):Int))=((n-(t+1):Nat):Int):=wn (by omega) (by omega)
  have hi2:wrap64 ((d:Int)-((t+1:Nat):Int))=(d:Int)-((t+1:Nat):Int):=lD (by clear hi;omega) (by clear hi;omega)
  have hi3:wrap64 (((t+1:Nat):Int)-1)=(t:Int):=wn (by clear hi hi2;omega) (by clear hi hi2;omega)
  have c1:((t+1:Nat):Int)>=1:=by clear hi hi2 hi3;omega
  refine Ev.succ ?_
  simp only[l7.l1,if_pos c1,hi,hi2,hi3]
  clear hi hi2 hi3
  refine Ev.bind (U5 hD (by omega) (by omega)) ?_
  by_cases h:Pt D n d (t+1)
  ·have h':((pX D (n-(t+1)):Nat):Int)<=(d:Int)-((t+1:Nat):Int):=h
   simp only[if_pos h']
   rw[gr,if_pos h]
   exact Ev.some _
  ·have h':¬((pX D (n-(t+1)):Nat):Int)<=(d:Int)-((t+1:Nat):Int):=h
   simp only[if_neg h']
   rw[gr,if_neg h]
   exact ih (by omega)
theorem Tq{D:List (List Int)}{n d:Nat}(hD:Cn D)(hlen:D.length=n+1)(hn:n<=64)(hd:d<=n):∀(f t:Nat),t+1+f=d->Ev (λk=>uq.l0 k (d:Int) D ((gr D n d t:Nat):Int) ((t+1:Nat):Int)) ((gr D n d (d-1):Nat):Int):=by
 intro f
 induction f with
 |zero=>
  intro t ht
  refine Ev.succ ?_
  simp only[uq.l0,if_neg (show ¬((t+1:Nat):Int)<(d:Int) by omega)]
  rw[show d-1=t by omega]
  exact Ev.some _
 |succ f ih=>
  intro t ht
  have nx:=ih (t+1) (by omega)
  have hi0:wrap64 ((D.length:Int)-1)=(n:Int):=wn (by omega) (by omega)
  have hi:wrap64 ((n:Int)-((t+1:Nat):Int))=((n-(t+1):Nat):Int):=wn (by clear hi0;omega) (by clear hi0;omega)
  have hi2:wrap64 ((d:Int)-((t+1:Nat):Int))=(d:Int)-((t+1:Nat):Int):=lD (by clear hi hi0;omega) (by clear hi hi0;omega)
  have hi3:wrap64 (((t+1:Nat):Int)+1)=((t+1+1:Nat):Int):=wn (by clear hi hi0 hi2;omega) (by clear hi hi0 hi2;omega)
  have c1:((t+1:Nat):Int)<(d:Int):=by clear hi hi0 hi2 hi3;omega
  refine Ev.succ ?_
  simp only[uq.l0,if_pos c1,hi0,hi,hi2,hi3]
  clear hi hi0 hi2 hi3
  refine Ev.bind (TI hD (by omega) (by omega)) ?_
  by_cases h:Pt D n d (t+1)
  ·have h':((pX D (n-(t+1)):Nat):Int)<=(d:Int)-((t+1:Nat):Int):=h
   simp only[if_pos h']
   rw[gr,if_pos h] at nx
   exact nx
  ·have h':¬((pX D (n-(t+1)):Nat):Int)<=(d:Int)-((t+1:Nat):Int):=h
   simp only[if_neg h']
   rw[gr,if_neg h] at nx
   exact nx
theorem NF{l D:List (List Int)}{n e:Nat}{r:Int×Int}(hw:Wl l)(hl:l.length=n+1)(hz:∀j,1<=j->j<e->An l j=0)(he:e<=n+1)(hst:e<=n->An l e≠0)(h:Ev (λk=>l7.j1 k D (n:Int) (e:Int)) r):
 ∀(f i:Nat),i+f=e->1<=i->Ev (λk=>l7.l0 k l D (n:Int) (i:Int)) r:=by
 intro f
 have few:=hw.few
 induction f with
 |zero=>
  intro i hi h1
  have hi:i=e:=by omega
  subst hi
  refine Ev.succ ?_
  by_cases g:i<=n
  ·have hx:=hw.at (i:=i) (by omega)
   simp only[l7.l0,if_pos (show(i:Int)<=(n:Int) by omega),if_pos (show(0:Int)<=(i:Int) from Int.natCast_nonneg _),if_pos (show(i:Int)<(l.length:Int) by omega)]
   refine Ev.bind (NI hx.1 (by omega)) ?_
   have hb:¬((bl (lv (kD l (i:Int))).toNat:Nat):Int)=0:=by
    have:bl (lv (kD l (i:Int))).toNat≠0:=λe=>hst g (xB.mp e)
    omega
   simp only[if_neg hb]
   exact h
  ·simp only[l7.l0,if_neg (show ¬(i:Int)<=(n:Int) by omega)]
   exact h
 |succ f ih=>
  intro i hi h1
  have hx:=hw.at (i:=i) (by omega)
  have z:=hz i h1 (by omega)
  refine Ev.succ ?_
  simp only[l7.l0,if_pos (show(i:Int)<=(n:Int) by omega),if_pos (show(0:Int)<=(i:Int) from Int.natCast_nonneg _),if_pos (show(i:Int)<(l.length:Int) by omega),wn (show(i:Int)+1=((i+1:Nat):Int) by omega) (by omega)]
  refine Ev.bind (NI hx.1 (by omega)) ?_
  have hb:((bl (lv (kD l (i:Int))).toNat:Nat):Int)=0:=by
   have:bl (lv (kD l (i:Int))).toNat=0:=xB.mpr z
   omega
  simp only[if_pos hb]
  exact ih (i+1) (by omega) (by omega)
theorem L_{l:List (List Int)}{n e:Nat}(hw:Wl l)(hl:l.length=n+1)(hz:∀j,1<=j->j<e->An l j=0)(he:e<=n+1)(hst:e<=n->An l e≠0):
 ∀(f i:Nat),i+f=e->1<=i->Ev (λk=>sO.l0 k l (i:Int)) (if e<=n then(e:Int) else 0):=by
 intro f
 have few:=hw.few
 induction f with
 |zero=>
  intro i hi h1
  have hi:i=e:=by omega
  subst hi
  refine Ev.succ ?_
  by_cases g:i<=n
  ·have hx:=hw.at (i:=i) (by omega)
   simp only[sO.l0,if_pos (show(i:Int)<(l.length:Int) by omega),if_pos (show(0:Int)<=(i:Int) from Int.natCast_nonneg _)]
   refine Ev.bind (Ih hx.1 (by omega)) ?_
   have hb:decide ((lv (kD l (i:Int))).toNat=0)=false:=decide_eq_false (hst g)
   simp only[hb,Bool.false_eq_true,if_false,if_pos g]
   exact Ev.some _
  ·simp only[sO.l0,if_neg (show ¬(i:Int)<(l.length:Int) by omega),if_neg g]
   exact Ev.some _
 |succ f ih=>
  intro i hi h1
  have hx:=hw.at (i:=i) (by omega)
  have z:=hz i h1 (by omega)
  refine Ev.succ ?_
  simp only[sO.l0,if_pos (show(i:Int)<(l.length:Int) by omega),if_pos (show(0:Int)<=(i:Int) from Int.natCast_nonneg _),wn (show(i:Int)+1=((i+1:Nat):Int) by omega) (by omega)]
  refine Ev.bind (Ih hx.1 (by omega)) ?_
  have hb:decide ((lv (kD l (i:Int))).toNat=0)=true:=decide_eq_true z
  simp only[hb,if_true]
  exact ih (i+1) (by omega) (by omega)
theorem EU{n j:Nat}{l:List (List Int)}(h:j<n+1):An (WL n l) j=mV l j:=by
 unfold An
 rw[Hq h,lG,Int.toNat_natCast]
theorem QW{n:Nat}{l:List (List Int)}:∀i,i<=n+1->nD ((WL n l).take i)=sm i (λj=>(mV l j:Int)):=by
 intro i
 induction i with
 |zero=>intro _;rfl
 |succ i ih=>
  intro hi
  have hl:i<(WL n l).length:=by rw[wJ];omega
  rw[F7 hl,ih (by omega),sm]
  congr 1
  rw[<-Cb hl,Hq (by omega),lG]
theorem KI{q n:Nat}:∀{l:List (List Int)},(∀w,w∈l->Wd q n w)->sm (n+1) (λj=>(mV l j:Int))=(l.length:Int)
 | [],_=>yz λ_ _=>rfl
 |w::l,h=>by
  have hw:=h w (List.mem_cons_self ..)
  have hl:=DK w
  rw[hw.1] at hl
  have e:∀j,j<n+1->((mV (w::l) j:Nat):Int)=(mV l j:Int)+ind (wt w=j):=by
   intro j _
   rw[mV]
   by_cases g:wt w=j
   ·rw[if_pos g,kK g];omega
   ·rw[if_neg g,kE g];omega
  rw[kF e,wP,KI (λw hw=>h w (List.mem_cons_of_mem _ hw)),wO (a:=wt w) (f:=λj=>ind (wt w=j)) (by omega) (λi _ hne=>kE (λe=>hne e.symm)),kK rfl,List.length_cons]
  omega
theorem DU{q n:Nat}{l:List (List Int)}(h:∀w,w∈l->Wd q n w):(nD (WL n l)).toNat=l.length:=by
 have:=QW (n:=n) (l:=l) (n+1) (Nat.le_refl _)
 rw[List.take_of_length_le (by rw[wJ];omega),KI h] at this
 omega
section
variable{P M:Int}{md:List Int}{n:Nat}{code nX:List (List Int)}{p m:Nat}{add mul:Int->Int->Int}
theorem qw.qs(S:qw P M md n code nX p m add mul):2<=p^m/\p^m<=256:=⟨S.E.AV.two,S.E.fd.small⟩
theorem qw.pos(S:qw P M md n code nX p m add mul):1<=code.length:=by
 have:=S.uF.zero
 cases h:code with
 |nil=>rw[h] at this;simp at this
 |cons a l=>simp
theorem qw.NW(S:qw P M md n code nX p m add mul){j:Nat}(hj:j<=n):tS (p^m-1) (WL n code) j=(code.length:Int)*(mV nX j:Int):=by
 have h:=Vo S.E.AV n (· ∈code) S.uF j hj
 have h2:=S.qs
 rw[QO S.cnd S.cwd,KF S.OU S.OM] at h
 rw[h]
 unfold tS tT
 rw[wJ]
 refine kF λi hi=>?_
 rw[EU hi,KG S.cnd S.cwd,show n+1-1-i=n-i by omega,show((p^m-1:Nat):Int)=((p^m:Nat):Int)-1 by omega]
theorem qw.good(S:qw P M md n code nX p m add mul):∀j,j<(WL n code).length->Good (nD (WL n code)).toNat (tS (p^m-1) (WL n code) j):=by
 intro j hj
 rw[wJ] at hj
 rw[DU S.cwd,S.NW (by omega)]
 exact⟨Int.mul_nonneg (Int.natCast_nonneg _) (Int.natCast_nonneg _),Int.mul_emod_right _ _⟩
theorem qw.OT(S:qw P M md n code nX p m add mul):yN (p^m-1) (WL n code) (nD (WL n code)).toNat=(WL n nX,0):=by
 have h1:=S.pos
 have hp:0<code.length:=by omega
 unfold yN
 rw[DU S.cwd,wJ]
 refine Prod.ext ?_ rfl
 show(List.range (n+1)).map (λj=>dg ((tS (p^m-1) (WL n code) j).toNat / code.length))=(List.range (n+1)).map (λj=>dg (mV nX j))
 refine List.map_congr_left λj hj=>?_
 have hj:=List.mem_range.mp hj
 rw[S.NW (j:=j) (by omega),<-Int.natCast_mul,Int.toNat_natCast,Nat.mul_div_cancel_left _ hp]
theorem qw.wl(S:qw P M md n code nX p m add mul):Wl (WL n code):=QV S.few S.CZ
theorem qw.nd(S:qw P M md n code nX p m add mul):Ev (λk=>oh.f k ((p^m:Nat):Int) (WL n code)) (WL n nX,0):=by
 have:=U8 (q:=p^m) S.wl (by rw[wJ];omega) S.qs.1 S.qs.2 (by rw[DU S.cwd];have:=S.pos;omega) (by rw[DU S.cwd];have:=S.CZ;omega) S.good
 rw[S.OT] at this
 exact this
theorem qw.T_(S:qw P M md n code nX p m add mul):Ev (λk=>pq.f k ((p^m:Nat):Int) (WL n code)) (WL n nX,0):=by
 have:=Ue (q:=p^m) S.wl (by rw[wJ];omega) S.qs.1 S.qs.2 (by rw[DU S.cwd];have:=S.pos;omega) S.good
 rw[S.OT] at this
 exact this
theorem qw.ord(S:qw P M md n code nX p m add mul):Ev (λk=>kQ.f k P M md) ((p^m:Nat):Int):=by
 rw[S.p_,S.m_]
 exact Ep S.E.fd md
theorem qw.cw(S:qw P M md n code nX p m add mul):Ev (λk=>oQ.f k (n:Int) code) (WL n code):=Q3 S.cwd S.few S.CZ
end
theorem QY{n:Nat}{l:List (List Int)}(hl:l.length<=4096):Cn (WL n l):=by
 intro i hi
 rw[wJ] at hi
 rw[EU hi,Hq hi]
 have:=Lp (c:=mV l i) (by have:=Fq l i;omega)
 exact⟨rfl,by omega⟩
theorem Xj{P M a:Int}{md:List Int}{rows:List (List Int)}(hmd:md.length<=9223372036854775807)(ha0:0<=a)(ha1:a<=255)(hrl:rows.length<=9223372036854775807):
 ∃(len:Int) (code nX all:List (List Int)) (ok:Bool),Ev (λk=>kZ.f k P M md a rows) (len,code,nX,all,ok)/\(ok=false\/(ok=true/\∃n:Nat,len=(n:Int)/\∃p m add mul,qw P M md n code nX p m add mul)):=by
 obtain⟨⟨len,code,nX,all,ok⟩,h1,h2⟩:=Xk (P:=P) (M:=M) hmd ha0 ha1 hrl
 exact⟨len,code,nX,all,ok,h1,h2⟩
theorem KW(n:Int)(h0:0<=n)(h1:n<2^64):IntKind.u64.wrap n=n:=lh h0 (by omega)
theorem Nh{a b:Nat}(ha:a<2^64)(hb:b<2^64):Go.bits .or .u64 (a:Int) (b:Int)=((a|||b:Nat):Int):=(bits_nat .u64 64 (by decide) KW a b ha hb).2
theorem X4{a b:Nat}(ha:a<2^64)(hb:b<2^64):Go.bits .and .u64 (a:Int) (b:Int)=((a&&&b:Nat):Int):=(bits_nat .u64 64 (by decide) KW a b ha hb).1
theorem Lu{p:Nat}(hp:p<64):shl .u64 1 (p:Int)=((2^p:Nat):Int):=by
 unfold shl
 rw[Int.toNat_natCast,show min p IntKind.u64.bits=p from Nat.min_eq_left (by show p<=64;omega),Int.one_mul]
 have h:(2:Nat)^p<2^64:=Nat.pow_lt_pow_right (by omega) hp
 have e:((2^p:Nat):Int)=(2:Int)^p:=by rw[Int.natCast_pow];rfl
 rw[<-e]
 exact lh (Int.natCast_nonneg _) (by omega)
def bm:Nat->List Int->Nat
 |m,[]=>m
 |m,p::l=>bm (m|||2^p.toNat) l
theorem XG(m:Nat)(u v:List Int):bm m (u++v)=bm (bm m u) v:=by
 induction u generalizing m with
 |nil=>rfl
 |cons p u ih=>rw[List.cons_append,bm,bm,ih]
def yc(l:List Int):Prop:=∀x∈l,0<=x/\x<64
theorem Nj{m p:Nat}(hm:m<2^64)(hp:p<64):m|||2^p<2^64:=Nat.or_lt_two_pow hm (Nat.pow_lt_pow_right (by omega) hp)
theorem Gw:∀{l:List Int} {m:Nat},yc l->m<2^64->bm m l<2^64
 | [],_,_,hm=>hm
 |p::l,m,h,hm=>by
  have hp:=h p (List.mem_cons_self ..)
  show bm (m|||2^p.toNat) l<2^64
  exact Gw (λx hx=>h x (List.mem_cons_of_mem _ hx)) (Nj hm (by omega))
theorem EO:∀{l:List Int} {m j:Nat},yc l->((bm m l).testBit j=true↔m.testBit j=true\/(j:Int)∈l)
 | [],m,j,_=>by rw[bm];simp
 |p::l,m,j,h=>by
  have hp:=h p (List.mem_cons_self ..)
  rw[bm,EO (λx hx=>h x (List.mem_cons_of_mem _ hx)),Nat.testBit_or,Nat.testBit_two_pow,List.mem_cons]
  simp only[Bool.or_eq_true,decide_eq_true_eq]
  constructor
  ·rintro((h1|h1)|h1)
   ·exact .inl h1
   ·exact .inr (.inl (by omega))
   ·exact .inr (.inr h1)
  ·rintro(h1|h1|h1)
   ·exact .inl (.inl h1)
   ·exact .inl (.inr (by omega))
   ·exact .inr h1
def inb(s b:List Int):Bool:=s.all (λx=>decide (x∈b))
theorem Ez{s b:List Int}:inb s b=true↔∀x,x∈s->x∈b:=by
 unfold inb
 rw[List.all_eq_true]
 exact⟨λh x hx=>of_decide_eq_true (h x hx),λh x hx=>decide_eq_true (h x hx)⟩
theorem X5{s b:List Int}(hs:yc s)(hb:yc b):bm 0 b&&&bm 0 s=bm 0 s↔inb s b=true:=by
 rw[Ez]
 constructor
 ·intro h x hx
  have h0:=hs x hx
  have h1:(bm 0 s).testBit x.toNat=true:=(EO hs).mpr (.inr (by rw[Int.toNat_of_nonneg h0.1];exact hx))
  rw[<-h,Nat.testBit_and,Bool.and_eq_true] at h1
  have h2:=((EO hb).mp h1.1).resolve_left (by simp)
  rw[Int.toNat_of_nonneg h0.1] at h2
  exact h2
 ·intro h
  refine Nat.eq_of_testBit_eq λj=>?_
  rw[Nat.testBit_and]
  by_cases g:(bm 0 s).testBit j=true
  ·have h1:=((EO hs).mp g).resolve_left (by simp)
   rw[g,(EO hb).mpr (.inr (h _ h1))];rfl
  ·rw[Bool.eq_false_iff.mpr g,Bool.and_false]
def Kc(s:List Int):List (List Int)->Nat
 | []=>0
 |b::l=>Kc s l+if inb s b=true then 1 else 0
theorem QB(s:List Int)(b:List Int):∀l,Kc s (l++[b])=Kc s l+if inb s b=true then 1 else 0
 | []=>by simp [Kc]
 |a::l=>by rw[List.cons_append,Kc,QB s b l,Kc];omega
theorem QA(s:List Int):∀l,Kc s l<=l.length
 | []=>Nat.le_refl 0
 |a::l=>by have:=QA s l;rw[Kc,List.length_cons];split<;>omega
def tN(bl:List (List Int)):List Int:=bl.map (λb=>((bm 0 b:Nat):Int))
theorem Rf{bl:List (List Int)}(hb:∀b∈bl,yc b)(hlen:bl.length<=4096){s:List Int}(hs:yc s)(c:Int):
 Ev (λk=>uC.f k ((bm 0 s:Nat):Int) (tN bl) c) (decide (c<0)||(((Kc s bl:Nat):Int)==c),((Kc s bl:Nat):Int)):=by
 have ml:(tN bl).length=bl.length:=by simp [tN]
 have loop:∀(d i:Nat),i+d=bl.length->Ev (λk=>uC.l0 k ((bm 0 s:Nat):Int) (tN bl) ((Kc s (bl.take i):Nat):Int) (i:Int)) ((Kc s bl:Nat):Int):=by
  intro d
  induction d with
  |zero=>
   intro i hi
   refine Ev.succ ?_
   simp only[uC.l0,ml,if_neg (show ¬(i:Int)<(bl.length:Int) by omega)]
   exact Ev.cast (Ev.some _) (by rw[List.take_of_length_le (by omega)])
  |succ d ih=>
   intro i hi
   have hil:i<bl.length:=by omega
   have hB:=hb _ (List.getElem_mem hil)
   have nx:=ih (i+1) (by omega)
   rw[List.take_succ_eq_append_getElem hil,QB] at nx
   have hr:rd (tN bl) (i:Int)=((bm 0 bl[i]:Nat):Int):=by rw[nU (by rw[ml];exact hil)];simp [tN]
   have hk:=QA s (bl.take i)
   rw[List.length_take] at hk
   have h0:(0:Nat)<2^64:=by decide
   have e:(Go.bits .and .u64 (rd (tN bl) (i:Int)) ((bm 0 s:Nat):Int)=((bm 0 s:Nat):Int))↔inb s bl[i]=true:=by
    rw[hr,X4 (Gw hB h0) (Gw hs h0),<-X5 hs hB]
    omega
   refine Ev.succ ?_
   simp only[uC.l0,ml,if_pos (show(i:Int)<(bl.length:Int) by omega),if_pos (show(0:Int)<=(i:Int) from Int.natCast_nonneg _),wn (show(i:Int)+1=((i+1:Nat):Int) by omega) (by omega),wn (show((Kc s (bl.take i):Nat):Int)+1=((Kc s (bl.take i)+1:Nat):Int) by omega) (by omega)]
   by_cases g:inb s bl[i]=true
   ·simp only[if_pos (e.mpr g)]
    rw[if_pos g] at nx
    exact nx
   ·simp only[if_neg (λh=>g (e.mp h))]
    rw[if_neg g,Nat.add_zero] at nx
    exact nx
 have l0:=loop bl.length 0 (by omega)
 simp only[uC.f]
 refine Ev.bind l0 ?_
 by_cases g:c<0
 ·simp only[if_pos g]
  exact Ev.cast (Ev.some _) (by simp [g])
 ·simp only[if_neg g]
  exact Ev.cast (Ev.some _) (by simp [g])
def sets(n:Nat):Nat->Nat->List (List Int)
 |0,_=>[[]]
 |t+1,lo=>(List.range' lo (n-t-lo)).flatMap (λi:Nat=>(sets n t (i+1)).map (λs=>(i:Int)::s))
theorem LH{n:Nat}:∀{t lo:Nat} {s:List Int},s∈sets n t lo->s.length=t/\s.Pairwise (· < ·)/\∀x∈s,(lo:Int)<=x/\x<(n:Int)
 |0,lo,s,h=>by
  rw[sets,List.mem_singleton] at h
  subst h
  exact⟨rfl,List.Pairwise.nil,λx hx=>by simp at hx⟩
 |t+1,lo,s,h=>by
  rw[sets,List.mem_flatMap] at h
  obtain⟨i,hi,h⟩:=h
  obtain⟨u,hu,rfl⟩:=List.mem_map.mp h
  obtain⟨h1,h2,h3⟩:=LH hu
  have hi:=List.mem_range'_1.mp hi
  refine⟨by rw[List.length_cons,h1],List.pairwise_cons.mpr ⟨λx hx=>by have:=h3 x hx;omega,h2⟩,λx hx=>?_⟩
  rcases List.mem_cons.mp hx with e|hx
  ·omega
  ·have:=h3 x hx;omega
theorem LJ{n:Nat}:∀{t lo:Nat} {s:List Int},s.length=t->s.Pairwise (· < ·)->(∀x∈s,(lo:Int)<=x/\x<(n:Int))->s∈sets n t lo
 |0,lo,[],_,_,_=>by simp [sets]
 |0,lo,_::_,h,_,_=>by simp at h
 |t+1,lo,[],h,_,_=>by simp at h
 |t+1,lo,a::s,h1,h2,h3=>by
  have ha:=h3 a (List.mem_cons_self ..)
  have hp:=List.pairwise_cons.mp h2
  obtain⟨i,rfl⟩:∃i:Nat,a=(i:Int):=⟨a.toNat,by omega⟩
  have hl:s.length=t:=by simpa using h1
  have hr:∀x∈s,((i+1:Nat):Int)<=x/\x<(n:Int):=λx hx=>by have:=hp.1 x hx;have:=h3 x (List.mem_cons_of_mem _ hx);omega
  have hm:=LJ (n:=n) hl hp.2 hr
  have bound:t+(i+1)<=n:=by
   have:∀(l:List Int) (b:Nat),l.Pairwise (· < ·)->(∀x∈l,(b:Int)<=x/\x<(n:Int))->b<=n->l.length+b<=n:=by
    intro l
    induction l with
    |nil=>intro b _ _ hb;simpa using hb
    |cons a l ih=>
     intro b hp hr hb
     have hp:=List.pairwise_cons.mp hp
     have ha:=hr a (List.mem_cons_self ..)
     have:=ih (b+1) hp.2 (λx hx=>by have:=hp.1 x hx;have:=hr x (List.mem_cons_of_mem _ hx);omega) (by omega)
     rw[List.length_cons];omega
   have:=this s (i+1) hp.2 hr (by omega)
   omega
  rw[sets,List.mem_flatMap]
  exact⟨i,List.mem_range'_1.mpr ⟨by omega,by omega⟩,List.mem_map.mpr ⟨s,hm,rfl⟩⟩
def run:List Nat->Int->Bool->Bool×Int×Bool
 | [],c,s=>(true,c,s)
 |k::ks,c,s=>if(decide (c<0)||((k:Int)==c))=true then run ks (k:Int) true else(false,(k:Int),false)
theorem LW:∀(a b:List Nat) (c:Int) (s:Bool),run (a++b) c s=if(run a c s).1=true then run b (run a c s).2.1 (run a c s).2.2 else run a c s
 | [],b,c,s=>by simp [run]
 |k::a,b,c,s=>by
  rw[List.cons_append,run,run]
  by_cases g:(decide (c<0)||((k:Int)==c))=true
  ·rw[if_pos g,if_pos g,LW a b]
  ·rw[if_neg g,if_neg g,if_neg (by simp)]
theorem Tf:∀(a:List Nat) (c:Int) (s:Bool),(run a c s).1=false->run a c s=(false,(run a c s).2)
 |a,c,s,h=>by rw[<-h]
theorem RV{n:Nat}(hn:n<=64){bl:List (List Int)}(hb:∀b∈bl,yc b)(hlen:bl.length<=4096):∀(t:Nat),t<=n->∀(lo:Nat),lo<=65->∀(u:List Int),yc u->∀(c:Int) (s:Bool),
 Ev (λk=>rD.f k (n:Int) (t:Int) (lo:Int) ((bm 0 u:Nat):Int) (tN bl) c s) (run ((sets n t lo).map (λv=>Kc (u++v) bl)) c s):=by
 intro t
 induction t with
 |zero=>
  intro _ lo _ u hu c s
  refine Ev.succ ?_
  simp only[rD.f,show((0:Nat):Int)=0 from rfl,if_true]
  refine Ev.bind (Rf hb hlen hu c) ?_
  refine Ev.cast (Ev.some _) ?_
  simp only[sets,List.map_cons,List.map_nil,List.append_nil,run]
  cases hx:(decide (c<0)||(((Kc u bl:Nat):Int)==c))<;>rfl
 |succ t ih=>
  intro ht lo hlo u hu c s
  have w1:wrap64 (((t+1:Nat):Int)-1)=(t:Int):=wn (by omega) (by omega)
  have w2:wrap64 ((n:Int)-((t+1:Nat):Int))=((n-(t+1):Nat):Int):=wn (by omega) (by omega)
  have loop:∀(d p:Nat),n-t-p=d->p<=65->∀(c:Int) (s:Bool),
   Ev (λk=>rD.l0 k (n:Int) ((t+1:Nat):Int) ((bm 0 u:Nat):Int) (tN bl) (p:Int) c s) (run (((List.range' p d).flatMap (λi:Nat=>(sets n t (i+1)).map (λs=>(i:Int)::s))).map (λv=>Kc (u++v) bl)) c s):=by
   intro d
   induction d with
   |zero=>
    intro p hp hp2 c s
    refine Ev.succ ?_
    simp only[rD.l0,w2,if_neg (show ¬(p:Int)<=((n-(t+1):Nat):Int) by clear w1 w2;omega)]
    exact Ev.some _
   |succ d VR=>
    intro p hp hp2 c s
    have w3:wrap64 ((p:Int)+1)=((p+1:Nat):Int):=wn (by clear w1 w2;omega) (by clear w1 w2;omega)
    have hp63:p<64:=by clear w1 w2 w3;omega
    have h0:(0:Nat)<2^64:=by decide
    have hm:bm 0 (u++[(p:Int)])=bm 0 u|||2^p:=by rw[XG,bm,bm,Int.toNat_natCast]
    have hu2:yc (u++[(p:Int)]):=λx hx=>by
     rcases List.mem_append.mp hx with h|h
     ·exact hu x h
     ·have:=List.mem_singleton.mp h;clear w1 w2 w3;omega
    have hor:Go.bits .or .u64 ((bm 0 u:Nat):Int) (shl .u64 1 (p:Int))=((bm 0 (u++[(p:Int)]):Nat):Int):=by
     rw[Lu hp63,Nh (Gw hu h0) (Nat.pow_lt_pow_right (by omega) hp63),hm]
    have inner:=ih (by clear w1 w2 w3;omega) (p+1) (by clear w1 w2 w3;omega) (u++[(p:Int)]) hu2 c s
    have hlist:((List.range' p (d+1)).flatMap (λi:Nat=>(sets n t (i+1)).map (λs=>(i:Int)::s))).map (λv=>Kc (u++v) bl)=
     ((sets n t (p+1)).map (λv=>Kc (u++[(p:Int)]++v) bl))++(((List.range' (p+1) d).flatMap (λi:Nat=>(sets n t (i+1)).map (λs=>(i:Int)::s))).map (λv=>Kc (u++v) bl)):=by
     rw[List.range'_succ,List.flatMap_cons,List.map_append,List.map_map]
     congr 1
     refine List.map_congr_left λv _=>?_
     show Kc (u++((p:Int)::v)) bl=_
     rw[List.append_assoc];rfl
    rw[hlist,LW]
    refine Ev.succ ?_
    simp only[rD.l0,w1,w2,w3,if_pos (show(p:Int)<=((n-(t+1):Nat):Int) by clear w1 w2 w3;omega),if_pos (show(0:Int)<=(p:Int) from Int.natCast_nonneg _),hor]
    refine Ev.bind inner ?_
    by_cases g:(run ((sets n t (p+1)).map (λv=>Kc (u++[(p:Int)]++v) bl)) c s).1=true
    ·simp only[if_pos g]
     exact VR (p+1) (by clear w1 w2 w3;omega) (by clear w1 w2 w3;omega) _ _
    ·simp only[if_neg g]
     exact Ev.cast (Ev.some _) (Tf _ _ _ (Bool.eq_false_iff.mpr g)).symm
  refine Ev.succ ?_
  simp only[rD.f,if_neg (show ¬((t+1:Nat):Int)=0 by omega)]
  rw[sets]
  exact loop (n-t-lo) lo rfl hlo c s
def chk(n:Int):Int->List Int->Bool
 |_,[]=>true
 |last,p::l=>decide (last<p/\p<n)&&chk n p l
theorem Pn{n:Int}:∀{l:List Int} {last:Int},chk n last l=true->l.Pairwise (· < ·)/\∀x∈l,last<x/\x<n
 | [],_,_=>⟨List.Pairwise.nil,λx hx=>by simp at hx⟩
 |p::l,last,h=>by
  rw[chk,Bool.and_eq_true] at h
  have h1:=of_decide_eq_true h.1
  obtain⟨h2,h3⟩:=Pn h.2
  refine⟨List.pairwise_cons.mpr ⟨λx hx=>(h3 x hx).1,h2⟩,λx hx=>?_⟩
  rcases List.mem_cons.mp hx with e|hx
  ·rw[e];exact h1
  ·have:=h3 x hx;omega
theorem Ox{n:Int}:∀{l:List Int} {last:Int},l.Pairwise (· < ·)->(∀x∈l,last<x/\x<n)->chk n last l=true
 | [],_,_,_=>rfl
 |p::l,last,h1,h2=>by
  have hp:=List.pairwise_cons.mp h1
  rw[chk,Bool.and_eq_true]
  exact⟨decide_eq_true (h2 p (List.mem_cons_self ..)),Ox hp.2 (λx hx=>⟨hp.1 x hx,(h2 x (List.mem_cons_of_mem _ hx)).2⟩)⟩
theorem Jm{l:List Int}{i:Nat}(h:i<l.length):l.drop i=rd l (i:Int)::l.drop (i+1):=by rw[List.drop_eq_getElem_cons h,nU h]
theorem UD{n:Nat}(hn:n<=64){t:Int}{bl:List (List Int)}{acc:List Int}{x:Int}{b:List Int}(hbl:b.length<=4096)(hacc:acc.length<17592186044416){r:Int×Int}:
 ∀(d i:Nat),i+d=b.length->∀(last:Int), -1<=last->∀m:Nat,m<2^64->(chk (n:Int) last (b.drop i)=true->Ev (λk=>kR.l0 k (n:Int) t (acc++[((bm m (b.drop i):Nat):Int)]) bl (bl.length:Int) (wrap64 (x+1))) r)->
  (chk (n:Int) last (b.drop i)=false->r=(0,5))->Ev (λk=>kR.l1 k (n:Int) t acc (m:Int) last bl (bl.length:Int) x b (b.length:Int) (i:Int)) r:=by
 intro d
 induction d with
 |zero=>
  intro i hi last hlast m hm h1 h2
  rw[List.drop_eq_nil_of_le (by omega)] at h1
  refine Ev.succ ?_
  simp only[kR.l1,if_neg (show ¬(i:Int)<(b.length:Int) by omega),if_pos hacc]
  exact h1 rfl
 |succ d ih=>
  intro i hi last hlast m hm h1 h2
  have hil:i<b.length:=by omega
  rw[Jm hil] at h1 h2
  obtain⟨p,hp⟩:∃p,p=rd b (i:Int):=⟨_,rfl⟩
  rw[<-hp] at h1 h2
  simp only[chk,bm] at h1 h2
  have wi:wrap64 ((i:Int)+1)=((i+1:Nat):Int):=wn (by omega) (by omega)
  refine Ev.succ ?_
  simp only[kR.l1,if_pos (show(i:Int)<(b.length:Int) by clear wi;omega),if_pos (show(0:Int)<=(i:Int) from Int.natCast_nonneg _),<-hp,wi]
  by_cases g1:p<=last
  ·simp only[if_pos g1]
   exact Ev.cast (Ev.some _) (h2 (by rw[decide_eq_false (by clear wi;omega),Bool.false_and])).symm
  ·simp only[if_neg g1]
   by_cases g2:p>=(n:Int)
   ·simp only[if_pos g2]
    exact Ev.cast (Ev.some _) (h2 (by rw[decide_eq_false (by clear wi;omega),Bool.false_and])).symm
   ·simp only[if_neg g2,if_pos (show 0<=p by clear wi;omega)]
    obtain⟨q,hq⟩:∃q:Nat,p=(q:Int):=⟨p.toNat,by clear wi;omega⟩
    have Ja:q<64:=by clear wi;omega
    have hor:Go.bits .or .u64 (m:Int) (shl .u64 1 p)=((m|||2^p.toNat:Nat):Int):=by
     rw[hq,Int.toNat_natCast,Lu Ja,Nh hm (Nat.pow_lt_pow_right (by omega) Ja)]
    simp only[hor]
    rw[decide_eq_true (show last<p/\p<(n:Int) by clear wi;omega),Bool.true_and] at h1 h2
    exact ih (i+1) (by clear wi;omega) p (by clear wi;omega) _ (by rw[hq,Int.toNat_natCast];exact Nj hm Ja) h1 h2
theorem XH{n:Nat}(hn:n<=64){t:Int}{bl:List (List Int)}(hlen:bl.length<=4096)(hb:∀b∈bl,b.length<=4096){r:Int×Int}
 (hr:bl.all (chk (n:Int) (-1))=true->Ev (λk=>if t<0 then kR.j3 k (n:Int) t (tN bl) true else kR.j3 k (n:Int) t (tN bl) (decide (t>(n:Int)))) r)
 (hbad:bl.all (chk (n:Int) (-1))=false->r=(0,5)):∀(d i:Nat),i+d=bl.length->(bl.take i).all (chk (n:Int) (-1))=true->
  Ev (λk=>kR.l0 k (n:Int) t (tN (bl.take i)) bl (bl.length:Int) (i:Int)) r:=by
 intro d
 induction d with
 |zero=>
  intro i hi ha
  have:i=bl.length:=by omega
  subst this
  rw[List.take_of_length_le (Nat.le_refl _)] at ha ⊢
  refine Ev.succ ?_
  simp only[kR.l0,if_neg (Int.lt_irrefl (bl.length:Int))]
  exact hr ha
 |succ d ih=>
  intro i hi ha
  have hil:i<bl.length:=by omega
  have nx:=ih (i+1) (by omega)
  rw[List.take_succ_eq_append_getElem hil,List.all_append] at nx
  have hm:tN (bl.take i++[bl[i]])=tN (bl.take i)++[((bm 0 bl[i]:Nat):Int)]:=by unfold tN;rw[List.map_append];rfl
  rw[hm] at nx
  refine Ev.succ ?_
  simp only[kR.l0,if_pos (show(i:Int)<(bl.length:Int) by omega),if_pos (show(0:Int)<=(i:Int) from Int.natCast_nonneg _),vJ hil]
  refine UD hn (hb _ (List.getElem_mem hil)) (by unfold tN;rw[List.length_map,List.length_take];omega) bl[i].length 0 (by omega) (-1) (by omega) 0 (by decide) (λh=>?_) (λh=>?_)
  ·rw[List.drop_zero] at h ⊢
   rw[wn (show(i:Int)+1=((i+1:Nat):Int) by omega) (by omega)]
   exact nx (by rw[ha];simp [h])
  ·rw[List.drop_zero] at h
   refine hbad ?_
   rw[Bool.eq_false_iff]
   intro e
   rw[List.all_eq_true.mp e _ (List.getElem_mem hil)] at h
   cases h
def CW(ks:List Nat):Int×Int:=if(run ks (-1) true).2.2=true then((run ks (-1) true).2.1,0) else(0,11)
def yL(n t:Nat)(bl:List (List Int)):List Nat:=(sets n t 0).map (λv=>Kc v bl)
def zu(n t:Int)(bl:List (List Int)):Int×Int:=
 if n<0\/64<n then(0,6) else if bl.all (chk n (-1))=false then(0,5) else if t<0\/n<t then(0,6) else if 65536<bin n.toNat t.toNat then(0,8) else CW (yL n.toNat t.toNat bl)
theorem Ph{a b:Nat}:(mJ (a:Int) (b:Int)>0)↔b<a:=by
 unfold mJ
 split
 ·constructor<;>intro h<;>omega
 ·split
  ·constructor<;>intro h<;>omega
  ·constructor<;>intro h<;>omega
theorem U_{n t:Int}{bl:List (List Int)}(hlen:bl.length<=4096)(hb:∀b∈bl,b.length<=4096):Ev (λk=>kR.f k n bl t) (zu n t bl):=by
 by_cases hn:n<0\/64<n
 ·have e:zu n t bl=(0,6):=if_pos hn
  rw[e]
  have bad:Ev (λk=>kR.j0 k n bl t true) (0,6):=by
   refine Ev.succ ?_
   simp only[kR.j0,if_true]
   exact Ev.some _
  simp only[kR.f]
  by_cases g:n<0
  ·simp only[if_pos g];exact bad
  ·simp only[if_neg g,decide_eq_true (show n>64 by omega)];exact bad
 ·obtain⟨m,rfl⟩:∃m:Nat,n=(m:Int):=⟨n.toNat,by omega⟩
  have hm:m<=64:=by omega
  have go:Ev (λk=>kR.j0 k (m:Int) bl t false) (zu (m:Int) t bl):=by
   refine Ev.succ ?_
   simp only[kR.j0,Bool.false_eq_true,if_false]
   refine XH hm hlen hb (λhall=>?_) (λhall=>?_) bl.length 0 (by omega) rfl
   ·have e:zu (m:Int) t bl=if t<0\/(m:Int)<t then(0,6) else if 65536<bin m t.toNat then(0,8) else CW (yL m t.toNat bl):=by
     unfold zu
     rw[if_neg hn,if_neg (by rw[hall];simp),Int.toNat_natCast]
    rw[e]
    by_cases ht:t<0\/(m:Int)<t
    ·rw[if_pos ht]
     have bad:Ev (λk=>kR.j3 k (m:Int) t (tN bl) true) (0,6):=by
      refine Ev.succ ?_
      simp only[kR.j3,if_true]
      exact Ev.some _
     by_cases g:t<0
     ·simp only[if_pos g];exact bad
     ·simp only[if_neg g,decide_eq_true (show t>(m:Int) by omega)];exact bad
    ·rw[if_neg ht]
     obtain⟨u,rfl⟩:∃u:Nat,t=(u:Int):=⟨t.toNat,by omega⟩
     have hu:u<=m:=by omega
     have hb64:∀b∈bl,yc b:=λb hbm x hx=>by
      have:=(Pn (List.all_eq_true.mp hall b hbm)).2 x hx
      omega
     simp only[if_neg (show ¬(u:Int)<0 by omega),decide_eq_false (show ¬(u:Int)>(m:Int) by omega),Int.toNat_natCast]
     refine Ev.succ ?_
     simp only[kR.j3,Bool.false_eq_true,if_false]
     refine Ev.bind (PW (by omega) hu) ?_
     refine Ev.bind (FY (n:=65536) (by omega)) ?_
     refine Ev.bind (Et (by have:=xC (n:=m) (by omega) u;omega) (by have:=nO (n:=65536) (m:=1) (by rw[show(1:Nat)=0+1 from rfl,mY,tX];omega);omega)) ?_
     by_cases gm:65536<bin m u
     ·simp only[if_pos (Ph.mpr gm),if_pos gm]
      exact Ev.some _
     ·simp only[if_neg (λh=>gm (Ph.mp h)),if_neg gm]
      have sv:=RV hm hb64 hlen u hu 0 (by omega) [] (λx hx=>by simp at hx) (-1) true
      refine Ev.bind sv ?_
      have el:(sets m u 0).map (λv=>Kc ([]++v) bl)=yL m u bl:=rfl
      simp only[el,CW]
      by_cases gr:(run (yL m u bl) (-1) true).2.2=true
      ·simp only[if_pos gr];exact Ev.some _
      ·simp only[if_neg gr];exact Ev.some _
   ·unfold zu
    rw[if_neg hn,if_pos hall]
  simp only[kR.f,if_neg (show ¬(m:Int)<0 by omega),decide_eq_false (show ¬(m:Int)>64 by omega)]
  exact go
theorem TS{s t:List Int}(hs:s.length<=4096)(ht:t.length<=4096):Ev (λk=>o_.f k s t) (inb s t):=by
 have outer:∀(d i:Nat),i+d=s.length->Ev (λk=>o_.l0 k s t (i:Int)) (inb (s.drop i) t):=by
  intro d
  induction d with
  |zero=>
   intro i hi
   refine Ev.succ ?_
   simp only[o_.l0,if_neg (show ¬(i:Int)<(s.length:Int) by omega)]
   exact Ev.cast (Ev.some _) (by rw[List.drop_eq_nil_of_le (by omega)];rfl)
  |succ d ih=>
   intro i hi
   have hil:i<s.length:=by omega
   have wi:wrap64 ((i:Int)+1)=((i+1:Nat):Int):=wn (by omega) (by omega)
   have nx:=ih (i+1) (by clear wi;omega)
   have inner:∀(d j:Nat),j+d=t.length->∀v:Bool,Ev (λk=>o_.l1 k s t (i:Int) v (j:Int)) ((v||decide (rd s (i:Int)∈t.drop j))&&inb (s.drop (i+1)) t):=by
    intro d
    induction d with
    |zero=>
     intro j hj v
     refine Ev.succ ?_
     simp only[o_.l1,if_neg (show ¬(j:Int)<(t.length:Int) by clear wi;omega),wi]
     rw[List.drop_eq_nil_of_le (by clear wi;omega)]
     cases v with
     |true=>simp only[if_true];exact Ev.cast nx (by simp)
     |false=>simp only[Bool.false_eq_true,if_false];exact Ev.cast (Ev.some _) (by simp)
    |succ d AP=>
     intro j hj v
     have hjl:j<t.length:=by clear wi;omega
     have wj:wrap64 ((j:Int)+1)=((j+1:Nat):Int):=wn (by clear wi;omega) (by clear wi;omega)
     rw[Jm hjl]
     refine Ev.succ ?_
     simp only[o_.l1,if_pos (show(j:Int)<(t.length:Int) by clear wi wj;omega),wj]
     cases v with
     |true=>
      simp only[if_true]
      exact Ev.cast (AP (j+1) (by clear wi wj;omega) true) (by simp)
     |false=>
      simp only[Bool.false_eq_true,if_false,if_pos (show(0:Int)<=(j:Int) from Int.natCast_nonneg _),if_pos (show(0:Int)<=(i:Int) from Int.natCast_nonneg _),if_pos (show(i:Int)<(s.length:Int) by clear wi wj;omega)]
      refine Ev.cast (AP (j+1) (by clear wi wj;omega) _) ?_
      congr 1
      by_cases g:rd t (j:Int)=rd s (i:Int)
      ·simp [g]
      ·have g2:¬rd s (i:Int)=rd t (j:Int):=λe=>g e.symm
       simp [g,g2]
   refine Ev.succ ?_
   simp only[o_.l0,if_pos (show(i:Int)<(s.length:Int) by clear wi;omega)]
   refine Ev.cast (inner t.length 0 (by clear wi;omega) false) ?_
   rw[Jm hil,List.drop_zero,Bool.false_or]
   rfl
 simp only[o_.f]
 exact outer s.length 0 (by omega)
def tail(n t p d:Nat):List (List Int):=(List.range' p d).flatMap (λi:Nat=>(sets n t (i+1)).map (λs=>(i:Int)::s))
theorem LX{v:Nat}:∀(ks:List Nat) (s:Bool),(∀k∈ks,k=v)->(run ks (v:Int) s).2.1=(v:Int)/\(s=true->(run ks (v:Int) s).2.2=true)
 | [],s,_=>⟨rfl,λh=>h⟩
 |k::ks,s,h=>by
  have hk:=h k (List.mem_cons_self ..)
  subst hk
  have ih:=LX (v:=k) ks true (λj hj=>h j (List.mem_cons_of_mem _ hj))
  rw[run,if_pos (by simp)]
  exact⟨ih.1,λ_=>ih.2 rfl⟩
theorem W_{v:Nat}{ks:List Nat}(hne:ks≠[])(h:∀k∈ks,k=v):CW ks=((v:Int),0):=by
 cases ks with
 |nil=>exact absurd rfl hne
 |cons k ks=>
  have hk:=h k (List.mem_cons_self ..)
  subst hk
  have ih:=LX (v:=k) ks true (λj hj=>h j (List.mem_cons_of_mem _ hj))
  have e:run (k::ks) (-1) true=run ks (k:Int) true:=by rw[run,if_pos (by simp)]
  unfold CW
  rw[e,if_pos (ih.2 rfl),ih.1]
theorem SN{n:Nat}{t:Nat}(h:t<=n):sets n t 0≠[]:=by
 have hm:(List.range t).map (λi:Nat=>(i:Int))∈sets n t 0:=by
  refine LJ (by simp) ?_ (λx hx=>?_)
  ·rw[List.pairwise_map]
   exact List.pairwise_lt_range.imp (λh=>by omega)
  ·obtain⟨i,hi,rfl⟩:=List.mem_map.mp hx
   have:=List.mem_range.mp hi
   omega
 intro e
 rw[e] at hm
 simp at hm
theorem Vx{n t:Nat}(h:t<=n)(bl:List (List Int)):yL n t bl≠[]:=by
 unfold yL
 intro e
 exact SN h (List.map_eq_nil_iff.mp e)
theorem JH:∀n k:Nat,bin n k<=2^n
 |0,0=>by rw[qW];exact Nat.le_refl _
 |0,k+1=>by rw[tY (by omega)];exact Nat.zero_le _
 |n+1,0=>by rw[qW];exact Nat.pow_pos (by omega)
 |n+1,k+1=>by
  have h1:=JH n k
  have h2:=JH n (k+1)
  rw[vP,Nat.pow_succ]
  omega
theorem WS{n t:Nat}{bl:List (List Int)}(hn:n<=14)(ht:t<=n)(hb:bl.all (chk (n:Int) (-1))=true):zu (n:Int) (t:Int) bl=CW (yL n t bl):=by
 have h1:=JH n t
 have h2:(2:Nat)^n<=2^14:=Nat.pow_le_pow_right (by omega) hn
 unfold zu
 rw[if_neg (by omega),if_neg (by rw[hb];simp),if_neg (by omega),Int.toNat_natCast,Int.toNat_natCast,if_neg (by omega)]
theorem H8:∀{b s:List Int},s.Pairwise (· < ·)->b.Pairwise (· < ·)->(∀x∈s,x∈b)->s.length<=b.length/\(s.length=b.length->s=b)
 | [],[],_,_,_=>⟨Nat.le_refl _,λ_=>rfl⟩
 | [],a::s,_,_,h=>by have:=h a (List.mem_cons_self ..);simp at this
 |c::b,[],_,_,_=>⟨Nat.zero_le _,λh=>by simp at h⟩
 |c::b,a::s,h1,h2,h=>by
  have p1:=List.pairwise_cons.mp h1
  have p2:=List.pairwise_cons.mp h2
  have ha:=List.mem_cons.mp (h a (List.mem_cons_self ..))
  by_cases g:a=c
  ·subst g
   have ih:=H8 p1.2 p2.2 (λx hx=>by
    rcases List.mem_cons.mp (h x (List.mem_cons_of_mem _ hx)) with e|e
    ·have:=p1.1 x hx;omega
    ·exact e)
   exact⟨by rw[List.length_cons,List.length_cons];omega,λe=>by rw[ih.2 (by rw[List.length_cons,List.length_cons] at e;omega)]⟩
  ·have hab:=ha.resolve_left g
   have hca:=p2.1 a hab
   have ih:=H8 h1 p2.2 (λx hx=>by
    rcases List.mem_cons.mp hx with e|hx
    ·rw[e];exact hab
    ·rcases List.mem_cons.mp (h x (List.mem_cons_of_mem _ hx)) with e|e
     ·have:=p1.1 x hx;omega
     ·exact e)
   have hl:(c::b).length=b.length+1:=List.length_cons
   exact⟨by rw[hl];omega,λe=>by rw[hl] at e;omega⟩
def vG(n d:Nat):List (List Int)->List (List Int)->List (List Int)
 |acc,[]=>acc
 |acc,w::l=>vG n d (if wt w=d/\sp w n∉acc then acc++[sp w n] else acc) l
theorem H5{n d:Nat}:∀(l acc:List (List Int)),acc.Nodup->(vG n d acc l).Nodup/\∀s,s∈vG n d acc l↔s∈acc\/∃w,w∈l/\wt w=d/\s=sp w n
 | [],acc,h=>⟨h,λs=>by simp [vG]⟩
 |w::l,acc,h=>by
  rw[vG]
  by_cases g:wt w=d/\sp w n∉acc
  ·rw[if_pos g]
   have hn:(acc++[sp w n]).Nodup:=by
    rw[List.nodup_append]
    exact⟨h,List.pairwise_singleton _ _,λa ha b hb e=>g.2 (by rw[<-List.mem_singleton.mp hb,<-e];exact ha)⟩
   obtain⟨h1,h2⟩:=H5 l _ hn
   refine⟨h1,λs=>?_⟩
   rw[h2 s,List.mem_append,List.mem_singleton]
   constructor
   ·rintro((h|h)|⟨v,hv,e1,e2⟩)
    ·exact .inl h
    ·exact .inr ⟨w,List.mem_cons_self ..,g.1,h⟩
    ·exact .inr ⟨v,List.mem_cons_of_mem _ hv,e1,e2⟩
   ·rintro(h|⟨v,hv,e1,e2⟩)
    ·exact .inl (.inl h)
    ·rcases List.mem_cons.mp hv with e|hv
     ·exact .inl (.inr (by rw[e2,e]))
     ·exact .inr ⟨v,hv,e1,e2⟩
  ·rw[if_neg g]
   obtain⟨h1,h2⟩:=H5 l acc h
   refine⟨h1,λs=>?_⟩
   rw[h2 s]
   constructor
   ·rintro(h|⟨v,hv,e1,e2⟩)
    ·exact .inl h
    ·exact .inr ⟨v,List.mem_cons_of_mem _ hv,e1,e2⟩
   ·rintro(h|⟨v,hv,e1,e2⟩)
    ·exact .inl h
    ·rcases List.mem_cons.mp hv with e|hv
     ·subst e
      by_cases g2:sp v n∈acc
      ·exact .inl (by rw[e2];exact g2)
      ·exact absurd ⟨e1,g2⟩ g
     ·exact .inr ⟨v,hv,e1,e2⟩
theorem RQ{q n d:Nat}{code:List (List Int)}(hw:∀w,w∈code->Wd q n w)(hn:n<=12)(hlen:code.length<=4096):Ev (λk=>lZ.f k code (d:Int)) (vG n d [] code):=by
 have loop:∀(e i:Nat),i+e=code.length->∀acc:List (List Int),acc.length<=i->(∀b∈acc,Inc n b/\b.length<=12)->Ev (λk=>lZ.l0 k code (d:Int) acc (i:Int)) (vG n d acc (code.drop i)):=by
  intro e
  induction e with
  |zero=>
   intro i hi acc hal hacc
   refine Ev.succ ?_
   simp only[lZ.l0,if_neg (show ¬(i:Int)<(code.length:Int) by omega)]
   exact Ev.cast (Ev.some _) (by rw[List.drop_eq_nil_of_le (by omega)];rfl)
  |succ e ih=>
   intro i hi acc hal hacc
   have hil:i<code.length:=by omega
   have hwi:=hw _ (List.getElem_mem hil)
   obtain⟨w,hwd⟩:∃w,w=code[i]:=⟨_,rfl⟩
   have wi:wrap64 ((i:Int)+1)=((i+1:Nat):Int):=wn (by omega) (by omega)
   rw[List.drop_eq_getElem_cons hil,vG]
   rw[<-hwd] at hwi ⊢
   have hsl:(sp w n).length<=12:=by rw[yx hwi];have:=DK w;have:=hwi.1;omega
   have hsi:=FI w n
   have IG:∀acc':List (List Int),acc'.length<=i+1->(∀b∈acc',Inc n b/\b.length<=12)->Ev (λk=>lZ.l0 k code (d:Int) acc' ((i+1:Nat):Int)) (vG n d acc' (code.drop (i+1))):=
    λacc' h1 h2=>ih (i+1) (by omega) acc' h1 h2
   have old:∀(f j:Nat),j+f=acc.length->∀v:Bool,(v=decide (sp w n∈acc.take j))->Ev (λk=>lZ.l2 k code (d:Int) acc (i:Int) (sp w n) v (j:Int)) (vG n d (if wt w=d/\sp w n∉acc then acc++[sp w n] else acc) (code.drop (i+1))):=by
    intro f
    induction f with
    |zero=>
     intro j hj v hv
     rw[List.take_of_length_le (by clear wi;omega)] at hv
     refine Ev.succ ?_
     simp only[lZ.l2,if_neg (show ¬(j:Int)<(acc.length:Int) by clear wi;omega),wi]
     by_cases g1:wt w=d
     ·simp only[if_pos (show((sp w n).length:Int)=(d:Int) by rw[yx hwi,g1])]
      by_cases g2:sp w n∈acc
      ·rw[decide_eq_true g2] at hv
       simp only[hv,if_true]
       rw[if_neg (λh=>h.2 g2)]
       exact IG acc (by clear wi;omega) hacc
      ·rw[decide_eq_false g2] at hv
       simp only[hv,Bool.false_eq_true,if_false,if_pos (show acc.length<5864062014805 by clear wi;omega)]
       rw[if_pos ⟨g1,g2⟩]
       refine IG _ (by rw[List.length_append];simp only[List.length_cons,List.length_nil];clear wi;omega) (λb hb=>?_)
       rcases List.mem_append.mp hb with h|h
       ·exact hacc b h
       ·rw[List.mem_singleton.mp h];exact⟨hsi,hsl⟩
     ·simp only[if_neg (show ¬((sp w n).length:Int)=(d:Int) by rw[yx hwi];clear wi;omega)]
      rw[if_neg (λh=>g1 h.1)]
      exact IG acc (by clear wi;omega) hacc
    |succ f EC=>
     intro j hj v hv
     have hjl:j<acc.length:=by clear wi;omega
     have wj:wrap64 ((j:Int)+1)=((j+1:Nat):Int):=wn (by clear wi;omega) (by clear wi;omega)
     have hbj:=hacc _ (List.getElem_mem hjl)
     have ht:acc.take (j+1)=acc.take j++[acc[j]]:=List.take_succ_eq_append_getElem hjl
     refine Ev.succ ?_
     simp only[lZ.l2,if_pos (show(j:Int)<(acc.length:Int) by clear wi wj;omega),wj]
     cases v with
     |true=>
      simp only[if_true]
      refine EC (j+1) (by clear wi wj;omega) true ?_
      have:=of_decide_eq_true hv.symm
      rw[ht,decide_eq_true (List.mem_append.mpr (.inl this))]
     |false=>
      have hnot:=of_decide_eq_false hv.symm
      simp only[Bool.false_eq_true,if_false,if_pos (show(0:Int)<=(j:Int) from Int.natCast_nonneg _),vJ hjl]
      by_cases g:(acc[j].length:Int)=((sp w n).length:Int)
      ·simp only[if_pos g]
       refine Ev.bind (TS (by clear wi wj;omega) (by have:=hbj.2;clear wi wj;omega)) ?_
       refine EC (j+1) (by clear wi wj;omega) _ ?_
       rw[ht]
       by_cases g2:sp w n=acc[j]
       ·rw[decide_eq_true (List.mem_append.mpr (.inr (by rw[g2];exact List.mem_singleton.mpr rfl)))]
        rw[Ez,g2]
        exact λx hx=>hx
       ·rw[decide_eq_false (λh=>(List.mem_append.mp h).elim hnot (λh=>g2 (List.mem_singleton.mp h)))]
        rw[Bool.eq_false_iff]
        intro h
        exact g2 ((H8 hsi.up hbj.1.up (Ez.mp h)).2 (by clear wi wj;omega))
      ·simp only[if_neg g]
       refine EC (j+1) (by clear wi wj;omega) false ?_
       rw[ht,decide_eq_false (λh=>(List.mem_append.mp h).elim hnot (λh=>g (by rw[List.mem_singleton.mp h])))]
   have gather:∀(f j:Nat),j+f=n->Ev (λk=>lZ.l1 k code (d:Int) acc (i:Int) (sp w j) (j:Int)) (vG n d (if wt w=d/\sp w n∉acc then acc++[sp w n] else acc) (code.drop (i+1))):=by
    intro f
    induction f with
    |zero=>
     intro j hj
     have:j=n:=by clear wi;omega
     subst this
     refine Ev.succ ?_
     simp only[lZ.l1,if_pos (show(0:Int)<=(i:Int) from Int.natCast_nonneg _),if_pos (show(i:Int)<(code.length:Int) by clear wi;omega),vJ hil,<-hwd,if_neg (show ¬(j:Int)<(w.length:Int) by rw[hwi.1];exact Int.lt_irrefl _)]
     exact old acc.length 0 (by clear wi;omega) false (by simp)
    |succ f EC=>
     intro j hj
     have wj:wrap64 ((j:Int)+1)=((j+1:Nat):Int):=wn (by clear wi;omega) (by clear wi;omega)
     have nx:=EC (j+1) (by clear wi wj;omega)
     rw[sp] at nx
     have hsj:(sp w j).length<=j:=by rw[H9];exact Ld _ _
     refine Ev.succ ?_
     simp only[lZ.l1,if_pos (show(0:Int)<=(i:Int) from Int.natCast_nonneg _),if_pos (show(i:Int)<(code.length:Int) by clear wi wj;omega),vJ hil,<-hwd,if_pos (show(j:Int)<(w.length:Int) by rw[hwi.1];clear wi wj;omega),if_pos (show(0:Int)<=(j:Int) from Int.natCast_nonneg _),wj]
     by_cases g:rd w (j:Int)=0
     ·simp only[if_pos g]
      rw[if_pos g,List.append_nil] at nx
      exact nx
     ·simp only[if_neg g,if_pos (show(sp w j).length<17592186044416 by clear wi wj;omega)]
      rw[if_neg g] at nx
      exact nx
   refine Ev.succ ?_
   simp only[lZ.l0,if_pos (show(i:Int)<(code.length:Int) by clear wi;omega)]
   exact gather n 0 (by clear wi;omega)
 simp only[lZ.f]
 exact loop code.length 0 (by omega) [] (by simp) (λb hb=>by simp at hb)
theorem G6(s:List Int):∀l:List (List Int),((Kc s l:Nat):Int)=lU (λb=>ind (∀x,x∈s->x∈b)) l
 | []=>rfl
 |b::l=>by
  rw[Kc,lU,<-G6 s l]
  by_cases g:inb s b=true
  ·rw[if_pos g,kK (Ez.mp g)];omega
  ·rw[if_neg g,kE (λh=>g (Ez.mpr h))];omega
theorem OB(D:List (List Int))(n d:Nat):∀m,gr D n d m=0\/Pt D n d (gr D n d m)
 |0=> .inl rfl
 |m+1=>by
  rw[gr]
  by_cases g:Pt D n d (m+1)
  ·rw[if_pos g];exact .inr g
  ·rw[if_neg g];exact OB D n d m
theorem UZ{p m n:Nat}{md:List Int}{P M:Int}{code nX:List (List Int)}{add mul:Int->Int->Int}(S:qw P M md n code nX p m add mul):∀i,i<=n->o8 (nz (p^m) add mul n (· ∈code)) (i+1)<=pX (WL n nX) i:=by
 intro i
 induction i with
 |zero=>intro _;rw[o8,o8,pX,nz,if_pos rfl,if_pos rfl];exact Nat.le_refl _
 |succ i ih=>
  intro hi
  have:=ih (by omega)
  rw[o8,pX,EU (by omega)]
  have e:nz (p^m) add mul n (· ∈code) (i+1)=(mV nX (i+1):Int):=by
   unfold nz bd
   rw[if_neg (by omega),KF S.OU S.OM]
  rw[e]
  by_cases g:mV nX (i+1)=0
  ·rw[if_pos g,if_pos (by omega)];omega
  ·rw[if_neg g,if_neg (by omega)];omega
theorem KH{j:Nat}:∀{l:List (List Int)},mV l j=0->∀w,w∈l->wt w≠j
 | [],_,w,hw=>by simp at hw
 |v::l,h,w,hw=>by
  rw[mV] at h
  rcases List.mem_cons.mp hw with e|hw
  ·subst e
   intro e
   rw[if_pos e] at h;omega
  ·exact KH (by omega) w hw
theorem KJ{j:Nat}:∀{l:List (List Int)},mV l j≠0->∃w,w∈l/\wt w=j
 | [],h=>absurd rfl h
 |v::l,h=>by
  rw[mV] at h
  by_cases e:wt v=j
  ·exact⟨v,List.mem_cons_self ..,e⟩
  ·rw[if_neg e] at h
   obtain⟨w,hw,e⟩:=KJ (l:=l) (j:=j) (by omega)
   exact⟨w,List.mem_cons_of_mem _ hw,e⟩
theorem X3{P M a:Int}{md:List Int}{rows:List (List Int)}(hmd:md.length<=9223372036854775807)(ha0:0<=a)(ha1:a<=255)(hrl:rows.length<=9223372036854775807):
 Ev (λk=>BM.f k P M md a rows) true:=by
 obtain⟨len,code,nX,all,ok,h1,h2⟩:=Xj (P:=P) (M:=M) hmd ha0 ha1 hrl
 simp only[BM.f]
 refine Ev.bind h1 ?_
 rcases h2 with rfl|⟨rfl,n,rfl,p,m,add,mul,S⟩
 ·simp only[Bool.false_eq_true,if_false]
  exact Ev.some _
 ·have few:=S.few
  have CZ:=S.CZ
  have F:=S.E.AV
  obtain⟨D,Gl⟩:∃D,D=WL n nX:=⟨_,rfl⟩
  have hD:Cn D:=by rw[Gl];exact QY S.W9
  have hDl:D.length=n+1:=by rw[Gl,wJ]
  have nd:=S.nd
  have MJ:=S.T_
  rw[<-Gl] at nd MJ
  have hw:=S.wl
  have hn:(WL n code).length=n+1:=wJ n code
  have hi:wrap64 (((WL n code).length:Int)-1)=(n:Int):=by rw[hn];exact wn (by omega) (by omega)
  simp only[if_true]
  refine Ev.bind S.cw (Ev.bind S.ord ?_)
  rcases Vs (WL n code) n with hz|⟨d,d1,d2,d3,d4⟩
  ·have j1:Ev (λk=>l7.j1 k D (n:Int) ((n+1:Nat):Int)) (0,11):=by
    refine Ev.succ ?_
    simp only[l7.j1,if_pos (show((n+1:Nat):Int)>(n:Int) by omega)]
    exact Ev.some _
   have a:=NF (D:=D) hw hn (e:=n+1) (λj h1 h2=>hz j h1 (by omega)) (Nat.le_refl _) (λh=>by omega) j1 n 1 (by omega) (by omega)
   have b:=L_ hw hn (e:=n+1) (λj h1 h2=>hz j h1 (by omega)) (Nat.le_refl _) (λh=>by omega) n 1 (by omega) (by omega)
   rw[if_neg (by omega)] at b
   have st:Ev (λk=>l7.f k ((p^m:Nat):Int) (WL n code)) (0,11):=by
    simp only[l7.f]
    refine Ev.bind nd ?_
    simp only[if_true,hi]
    exact a
   refine Ev.bind st ?_
   simp only[sO.f]
   refine Ev.bind b ?_
   simp only[if_true]
   exact Ev.cast (Ev.some _) (by decide)
  ·obtain⟨t,htd⟩:∃t,t=gr D n d (d-1):=⟨_,rfl⟩
   have Rl:=Ws D n d (d-1)
   rw[<-htd] at Rl
   have j1:Ev (λk=>l7.j1 k D (n:Int) (d:Int)) (((gr D n d (d-1):Nat):Int),0):=by
    refine Ev.succ ?_
    simp only[l7.j1,if_neg (show ¬(d:Int)>(n:Int) by omega),wn (show(d:Int)-1=((d-1:Nat):Int) by omega) (by omega)]
    exact U4 hD hDl (by omega) d2 (d-1) (by omega)
   have a:=NF (D:=D) hw hn (e:=d) d4 (by omega) (λ_=>d3) j1 (d-1) 1 (by omega) (by omega)
   have b:=L_ hw hn (e:=d) d4 (by omega) (λ_=>d3) (d-1) 1 (by omega) (by omega)
   rw[if_pos d2] at b
   have c:=Tq hD hDl (by omega) d2 (d-1) 0 (by omega)
   rw[gr] at c
   rw[<-htd] at a c
   have st:Ev (λk=>l7.f k ((p^m:Nat):Int) (WL n code)) ((t:Int),0):=by
    simp only[l7.f]
    refine Ev.bind nd ?_
    simp only[if_true,hi]
    exact a
   clear hi
   refine Ev.bind st ?_
   simp only[sO.f]
   refine Ev.bind b ?_
   simp only[if_neg (show ¬(d:Int)=0 by omega)]
   refine Ev.bind S.ord (Ev.bind MJ ?_)
   simp only[if_true,uq.f]
   refine Ev.bind c ?_
   simp only[if_true]
   refine Ev.bind (RQ S.cwd few CZ) ?_
   obtain⟨out,hod⟩:∃out,out=vG n d [] code:=⟨_,rfl⟩
   obtain⟨Nl,Np⟩:=H5 (n:=n) (d:=d) code [] List.nodup_nil
   rw[<-hod] at Nl Np ⊢
   have hout:∀s,s∈out↔∃w,w∈code/\wt w=d/\s=sp w n:=λs=>by rw[Np s];simp
   have hin:∀b∈out,b.length=d/\Inc n b:=λb hb=>by
    obtain⟨w,hwc,hwd,e⟩:=(hout b).mp hb
    rw[e]
    exact⟨by rw[yx (S.cwd w hwc),hwd],FI w n⟩
   have UW:out.length<=4096:=by
    have:∀(l acc:List (List Int)),(vG n d acc l).length<=acc.length+l.length:=by
     intro l
     induction l with
     |nil=>intro acc;exact Nat.le_refl _
     |cons w l ih=>
      intro acc
      rw[vG]
      have:=ih (if wt w=d/\sp w n∉acc then acc++[sp w n] else acc)
      have h2:(if wt w=d/\sp w n∉acc then acc++[sp w n] else acc).length<=acc.length+1:=by
       split
       ·rw[List.length_append];simp
       ·omega
      rw[List.length_cons];omega
    have:=this code []
    rw[<-hod] at this
    simp only[List.length_nil] at this
    omega
   have UX:out.all (chk (n:Int) (-1))=true:=List.all_eq_true.mpr (λb hb=>by
    have:=(hin b hb).2
    exact Ox this.up (λx hx=>by have:=this.xK x hx;omega))
   have des:=U_ (n:=(n:Int)) (t:=(t:Int)) (bl:=out) UW (λb hb=>by rw[(hin b hb).1];omega)
   rw[WS (by omega) (by omega) UX] at des
   refine Ev.bind des ?_
   obtain⟨w,hwc,hwd⟩:=KJ (l:=code) (j:=d) (by rw[<-EU (n:=n) (by omega)];exact d3)
   have hb0:sp w n∈out:=(hout _).mpr ⟨w,hwc,hwd,rfl⟩
   have i0:=FI w n
   have l0:(sp w n).length=d:=by rw[yx (S.cwd w hwc),hwd]
   have L:BC (p^m) n (· ∈code) d:=⟨by omega,d2,λv hv VT hne=>by
    by_cases g:d<=wt v
    ·exact g
    ·have z:=d4 (wt v) (by omega) (by omega)
     rw[EU (by omega)] at z
     exact absurd rfl (KH z v VT)⟩
   have key:∃v:Nat,0<v/\∀k∈yL n t out,k=v:=by
    have first:∀s,s∈sets n t 0->Inc n s/\s.length=t:=λs hs=>by
     obtain⟨g1,g2,g3⟩:=LH hs
     exact⟨⟨g2,λx hx=>by have:=g3 x hx;omega⟩,g1⟩
    have i1:Inc n ((sp w n).take t):=⟨i0.up.sublist (List.take_sublist _ _),λx hx=>i0.xK x (List.mem_of_mem_take hx)⟩
    have l1:((sp w n).take t).length=t:=by rw[List.length_take];omega
    refine⟨Kc ((sp w n).take t) out,?_,λk hk=>?_⟩
    ·have h:=N9 (f:=λb=>ind (∀x,x∈(sp w n).take t->x∈b)) (λb=>Ey _) (a:=sp w n) (by rw[kK (λx hx=>List.mem_of_mem_take hx)];decide) hb0
     rw[<-G6] at h
     omega
    ·unfold yL at hk
     obtain⟨s,hs,rfl⟩:=List.mem_map.mp hk
     obtain⟨is,ls⟩:=first s hs
     by_cases t0:t=0
     ·have e1:s=[]:=List.length_eq_zero_iff.mp (by omega)
      have e2:(sp w n).take t=[]:=List.length_eq_zero_iff.mp (by omega)
      rw[e1,e2]
     ·have hp:=(OB D n d (d-1)).resolve_left (by rw[<-htd];exact t0)
      rw[<-htd] at hp
      unfold Pt at hp
      have hs2:o8 (nz (p^m) add mul n (· ∈code)) (n-t+1)<=d-t:=by
       have:=UZ S (n-t) (by omega)
       rw[<-Gl] at this
       omega
      have:=Xa F S.cnd S.cwd S.uF L Nl hout (t:=t) (by omega) hs2 is i1 ls l1
      rw[<-G6,<-G6] at this
      omega
   obtain⟨v,hv,hall⟩:=key
   rw[W_ (Vx (by omega) _) hall]
   simp only[if_true]
   exact Ev.cast (Ev.some _) (by simp;omega)
end Mw
end
section
namespace Mw
open Go Go.RowKit Go.ChangeShapes Go.WideShapes Go.Deep Go.Proofs.YtifkbghnmhineaaW.lJ
theorem UR{H:Type}{enc:TypeId×Value->H}{P:Program}{w:World}{base:Nat}{held:Bool}{t e q:TypeId}{k:IntKind}{A:Option Addr}{len cap:Nat}{d:DataW H}{ps:List MemPlace}
 (ht:P.underlying t=some (.slice e)) (he:P.underlying e=some (.slice q)) (hq:P.underlying q=some (.int k)) (ce:P.cellsOf e=1) (cq:P.cellsOf q=1)
 (h:DataW.Trod enc P w base (λ_=>true) held t (.slice A len cap) d ps):
 ∃l:List (List Int),l.length=len/\len<=cap/\len<=9223372036854775807/\Kd.C (Kd.slice q (Kd.int k)) w A len l/\∀x∈l,∀n∈x,(Lit.int k n).wf=true:=by
 obtain⟨fuel,hf⟩:=h
 rcases open_int_rows ht he hq ce cq hf with⟨hcs,_⟩|⟨a,len',cap',A',L,C,Z,hcs,_,hl,hm,_,hrows⟩
 ·simp [Value.cells] at hcs
  obtain⟨rfl,rfl,rfl⟩:=hcs
  exact⟨[],rfl,Nat.le_refl _,by omega,⟨rfl,by omega,λh=>absurd h (by omega)⟩,λx hx=>by simp at hx⟩
 ·simp [Value.cells] at hcs
  obtain⟨rfl,rfl,rfl⟩:=hcs
  have VW:cap<=9223372036854775807:=by simpa [maxLen] using hm
  refine⟨(List.range len).map λr=>(Z r).take (L r),by simp,hl,by omega,⟨by simp,by omega,λ_=>⟨a,rfl,λj p hj=>?_⟩⟩,λx hx n hn=>?_⟩
  ·have hjl:j<len:=by
    by_cases g:j<len
    ·exact g
    ·rw[List.getElem?_eq_none (by simp;omega)] at hj;simp at hj
   obtain⟨hc,hLC,Wj,hZ,hwf,hnil,hcells⟩:=hrows j (by omega)
   have Zc:C j<=9223372036854775807:=by simpa [maxLen] using Wj
   have hp:p=(Z j).take (L j):=by
    rw[List.getElem?_map,List.getElem?_range hjl] at hj
    simpa using hj.symm
   have hpl:p.length=L j:=by rw[hp,List.length_take];omega
   refine⟨[.slice (A' j) p.length (C j)],rfl,⟨A' j,C j,rfl,by omega,?_⟩,λi u hu=>?_⟩
   ·refine Kd.G9 (d:=(0:Int)) ⟨rfl,by omega,λhpos=>?_⟩
    cases hA:A' j with
    |none=>have:=hnil hA;omega
    |some a'=>
     refine⟨a',rfl,λi hi=>?_⟩
     have:=(hcells a' hA).2 i (by omega)
     rw[this,hp]
     congr 2
     simp only[List.getD_eq_getElem?_getD]
     rw[List.getElem?_take_of_lt (by omega)]
   ·cases i with
    |zero=>
     have:Value.slice (A' j) p.length (C j)=u:=by simpa using hu
     subst this
     rw[hpl]
     simpa [Kd.slice] using hc
    |succ i=>simp at hu
  ·obtain⟨r,hr,rfl⟩:=List.mem_map.mp hx
   have hr:=List.mem_range.mp hr
   exact(hrows r (by omega)).2.2.2.2.1 n (List.mem_of_mem_take hn)
end Mw
end
section
namespace Mw
open Go Go.RowKit Go.ChangeShapes Go.WideShapes Go.Deep Go.Proofs Go.Proofs.YtifkbghnmhineaaW.lJ Go.Proofs.Ytifkbghnmhineaa.qc
set_option maxRecDepth 100000
section
variable{H:Type}{enc:TypeId×Value->H}{w:World}{base:Nat}{held:Bool}
theorem VI{fuel:Nat}{cs:List Value}{y:DataW H×List MemPlace}(h:DataW.trod enc Try.prog w base (λ_=>true) held fuel 22 cs=some y):
 ∃(l:List Int) (A:Option Addr) (c:Nat),cs=[.slice A l.length c]/\l.length<=c/\l.length<=9223372036854775807/\(Kd.int .i64).C w A l.length l/\∀n∈l,(Lit.int .i64 n).wf=true:=by
 rcases open_ints Try.underlying22 Try.underlying3 (by kernel_rfl) h with⟨hcs,_⟩|⟨a,len,cap,zs,hcs,hb,hl,hm,hz,hx,hcell,hwz⟩
 ·exact⟨[],none,0,hcs,Nat.le_refl _,by simp,Kd.QH _ _,λn hn=>by simp at hn⟩
 ·simp only[if_true] at hz
  have VW:cap<=9223372036854775807:=by simpa [maxLen] using hm
  have hll:(zs.take len).length=len:=by rw[List.length_take];omega
  refine⟨zs.take len,some a,cap,by rw[hll];exact hcs,by omega,by omega,?_,λn hn=>hwz n (List.mem_of_mem_take hn)⟩
  refine Kd.G9 (d:=(0:Int)) ⟨rfl,by omega,λhpos=>⟨a,rfl,λi hi=>?_⟩⟩
  rw[hcell i (by omega)]
  congr 2
  simp only[List.getD_eq_getElem?_getD]
  rw[List.getElem?_take_of_lt (by omega)]
theorem UT{t:TypeId}{cs:Array Value}{d:DataW H}{ps:List MemPlace}(ht:Try.prog.underlying t=Try.prog.underlying 24)(hc:Try.prog.cellsOf t=3)(h:DataW.Trod enc Try.prog w base (λ_=>true) held t (.agg cs) d ps):
 ∃(P M:Int) (l:List Int) (A:Option Addr) (c:Nat),cs= #[.int .i64 P, .int .i64 M, .slice A l.length c]/\l.length<=c/\l.length<=9223372036854775807/\(Kd.int .i64).C w A l.length l:=by
 obtain⟨fuel,hf⟩:=h
 have hf:DataW.trod enc Try.prog w base (λ_=>true) held fuel t cs.toList=some (d,ps):=hf
 obtain⟨y0,y1,y2,n,_,hlen,g0,g1,g2⟩:=trod_struct3 (ht.trans Try.underlying24) hf
 have h3:Try.prog.cellsOf 3=1:=by kernel_rfl
 have h22:Try.prog.cellsOf 22=1:=by kernel_rfl
 rw[hc] at hlen
 obtain⟨a,b,c,e⟩:∃a b c,cs.toList=[a,b,c]:=by
  match cs.toList,hlen with
  | [a,b,c],_=>exact⟨a,b,c,rfl⟩
 rw[e] at g0 g1 g2
 have g0:DataW.trod enc Try.prog w base (λ_=>true) held n 3 (List.take (Try.prog.cellsOf 3) (List.drop 0 [a,b,c]))=some y0:=g0
 have g1:DataW.trod enc Try.prog w base (λ_=>true) held n 3 (List.take (Try.prog.cellsOf 3) (List.drop 1 [a,b,c]))=some y1:=g1
 have g2:DataW.trod enc Try.prog w base (λ_=>true) held n 22 (List.take (Try.prog.cellsOf 22) (List.drop 2 [a,b,c]))=some y2:=g2
 rw[h3] at g0 g1
 rw[h22] at g2
 obtain⟨P,e0,_⟩:=DataW.trod_int Try.underlying3 g0
 obtain⟨M,e1,_⟩:=DataW.trod_int Try.underlying3 g1
 obtain⟨l,A,cp,e2,p1,p2,p3,_⟩:=VI g2
 have f0:a= .int .i64 P:=by simpa using e0
 have f1:b= .int .i64 M:=by simpa using e1
 have f2:c= .slice A l.length cp:=by simpa using e2
 subst f0 f1 f2
 exact⟨P,M,l,A,cp,by cases cs;simp at e;rw[e],p1,p2,p3⟩
end
end Mw
end
section
namespace Mw
open Go Go.Proofs
def Gj:List Nat:=[
 104,97,114,110,101,115,115,32,97,52,54,100,51,98,54,57,49,99,100,102,102,55,57,50,53,50,54,98,102,49,
 54,102,48,51,48,99,54,97,97,48,53,57,101,57,49,50,49,49,52,97,101,54,102,97,52,52,54,99,49,56,
 54,102,57,55,99,52,101,54,51,97,102,50,32,99,117,116,32,97,116,32,99,111,100,101,119,114,105,103,104,116,
 47,99,111,100,101,119,114,105,103,104,116,108,97,119,50,52,46,77,97,99,119,105,108,108,105,97,109,115,80,108,
 101,115,115,32,99,111,100,101,119,114,105,103,104,116,47,99,111,100,101,119,114,105,103,104,116,108,97,119,50,52,
 46,77,97,99,119,105,108,108,105,97,109,115,68,101,115,105,103,110,115,32,99,111,100,101,119,114,105,103,104,116,
 47,99,111,100,101,119,114,105,103,104,116,108,97,119,50,52,46,77,97,99,119,105,108,108,105,97,109,115,68,101,
 114,105,118,101,100,32,99,111,100,101,119,114,105,103,104,116,47,99,111,100,101,119,114,105,103,104,116,108,97,119,
 50,52,46,77,97,99,119,105,108,108,105,97,109,115,77,111,109,101,110,116,115,32,99,111,100,101,119,114,105,103,
 104,116,47,99,111,100,101,119,114,105,103,104,116,108,97,119,50,52,46,77,97,99,119,105,108,108,105,97,109,115,
 83,116,114,101,110,103,116,104,115,32,99,111,100,101,119,114,105,103,104,116,47,99,111,100,101,119,114,105,103,104,
 116,108,97,119,50,52,46,77,97,99,119,105,108,108,105,97,109,115,75,114,97,119,116,99,104,111,117,107,32,99,
 111,100,101,119,114,105,103,104,116,47,99,111,100,101,119,114,105,103,104,116,108,97,119,50,52,46,77,97,99,119,
 105,108,108,105,97,109,115,65,115,115,109,117,115,32,99,111,100,101,119,114,105,103,104,116,47,99,111,100,101,119,
 114,105,103,104,116,108,97,119,50,52,46,77,97,99,119,105,108,108,105,97,109,115,71,101,110,101,114,97,116,105,
 110,103,32,99,111,100,101,119,114,105,103,104,116,47,99,111,100,101,119,114,105,103,104,116,108,97,119,50,52,46,
 77,97,99,119,105,108,108,105,97,109,115,79,114,116,104,111,103,111,110,97,108,32,99,111,100,101,119,114,105,103,
 104,116,47,99,111,100,101,119,114,105,103,104,116,108,97,119,50,52,46,77,97,99,119,105,108,108,105,97,109,115,
 82,101,99,105,112,114,111,99,97,108,32,99,111,100,101,119,114,105,103,104,116,47,99,111,100,101,119,114,105,103,
 104,116,108,97,119,50,52,46,77,97,99,119,105,108,108,105,97,109,115,82,101,99,117,114,114,101,110,99,101,32,
 99,111,100,101,119,114,105,103,104,116,47,99,111,100,101,119,114,105,103,104,116,108,97,119,50,52,46,77,97,99,
 119,105,108,108,105,97,109,115,73,100,101,110,116,105,116,121,32,99,111,100,101,119,114,105,103,104,116,47,99,111,
 100,101,119,114,105,103,104,116,108,97,119,50,52,46,77,97,99,119,105,108,108,105,97,109,115,68,101,108,115,97,
 114,116,101,32,99,111,100,101,119,114,105,103,104,116,47,99,111,100,101,119,114,105,103,104,116,108,97,119,50,52,
 46,77,97,99,119,105,108,108,105,97,109,115,69,120,116,101,114,110,97,108,115,32,99,111,100,101,119,114,105,103,
 104,116,47,99,111,100,101,119,114,105,103,104,116,108,97,119,50,52,46,77,97,99,119,105,108,108,105,97,109,115,
 84,114,97,110,115,102,111,114,109,115,32,99,111,100,101,119,114,105,103,104,116,47,99,111,100,101,119,114,105,103,
 104,116,108,97,119,50,52,46,77,97,99,119,105,108,108,105,97,109,115,73,110,118,101,114,116,115]
theorem head_eq:Try.prog.initOrder=String.ofList (Gj.map Char.ofNat):=by kernel_rfl
theorem V5:Try.prog.initOrder.toList=Gj.map Char.ofNat:=by rw[head_eq,String.toList_ofList]
def zA:List Char:=[99,117,116].map Char.ofNat
theorem V4:∃rest,behindMainWord (wordsSigns (Gj.map Char.ofNat))=zA::rest:=⟨(behindMainWord (wordsSigns (Gj.map Char.ofNat))).tail,by kernel_rfl⟩
theorem Jh:∃rest,behindMainWord (wordsSigns Try.prog.initOrder.toList)=zA::rest:=by rw[V5];exact V4
theorem OA(rest:List (List Char)):stripLifts liftWords (zA::rest)=([],zA::rest):=by kernel_rfl
theorem SH:(zA== "gc".toList)=false:=by kernel_rfl
theorem SG:(zA== "spec".toList)=false:=by kernel_rfl
theorem SE:(zA== "carried".toList)=false:=by kernel_rfl
theorem Lt:(zA== "cut".toList)=true:=by kernel_rfl
theorem Vl(P:Program)(c:List Char)(rest:List (List Char))(h:behindMainWord (wordsSigns P.initOrder.toList)=c::rest)(h1:(c== "gc".toList)=false)(h2:(c== "spec".toList)=false)(h3:(c== "cut".toList)=true):P.make=some .cut:=by
 unfold Program.make
 rw[h]
 simp only[h1,h2,h3,Bool.or_self,Bool.true_or,Bool.false_eq_true,if_false,if_true]
theorem WG(P:Program)(c:List Char)(rest:List (List Char))(h:behindMainWord (wordsSigns P.initOrder.toList)=c::rest)(hs:stripLifts liftWords (c::rest)=([],c::rest))(h3:(some c==some "cut".toList)=true)(ll:P.laysLater=false)(br:P.bearsReflect=false)(df:P.doorFits []=true):P.mayEnter=true:=by
 unfold Program.mayEnter
 rw[h]
 simp only[hs,List.head?_cons,h3,ll,br,df]
 simp
theorem WB(P:Program)(c:List Char)(rest:List (List Char))(h:behindMainWord (wordsSigns P.initOrder.toList)=c::rest)(hs:stripLifts liftWords (c::rest)=([],c::rest))(h3:(some c==some "carried".toList)=false):P.liftsFinal=false:=by
 unfold Program.liftsFinal Program.headLifts
 rw[h]
 simp only[hs,List.head?_cons,h3,Bool.false_and,Bool.false_or]
 split<;>rfl
theorem Vt:Try.prog.laysLater=false:=by kernel_rfl
theorem XZ:Try.prog.bearsReflect=false:=by kernel_rfl
theorem WU:Try.prog.doorFits []=true:=by kernel_rfl
theorem Vm:Try.prog.make=some .cut:=by
 obtain⟨rest,h⟩:=Jh
 exact Vl _ _ rest h SH SG Lt
theorem Vh:Try.prog.mayEnter=true:=by
 obtain⟨rest,h⟩:=Jh
 exact WG _ _ rest h (OA rest) Lt Vt XZ WU
theorem Vr:Try.prog.liftsFinal=false:=by
 obtain⟨rest,h⟩:=Jh
 exact WB _ _ rest h (OA rest) SE
theorem laidOut:laidOutB Try.prog=true:=by kernel_rfl
theorem Vk:mapsRowed Try.prog=true:=by kernel_rfl
theorem Sl:Try.prog.stopsHeard=true:=by kernel_rfl
theorem Sj:(Try.prog.stops==[])=true:=by kernel_rfl
theorem Sm:(Try.prog.stopKnobs==[])=true:=by kernel_rfl
theorem VE{P:Program}{f:FuncId}{fn:Func}{s:ChangeSpec}{c:OpenClaim}(k1:c.wf (OpenSpec.ofChange s)=true)(k2:laidOutB P=true)(k3:mapsRowed P=true)(k4:fn.params.all (P.readableRec ·)=true)(k5:namedTie P c.named s.vars=true)
 (k6:(c.stops==[])=true) (k7:(P.stops==[])=true) (k8:(c.knobs==[])=true) (k9:(P.stopKnobs==[])=true) (k10:(c.inPlace==P.inPlace f)=true) (k11:(c.unfollowed==P.unfollowed f)=true) (k12:(c.recurses==P.recurses f)=true) (k13:(c.named==P.varsNamed f)=true)
 (k14:(c.maps==(fn.params.toList++s.plain.varTypes P).any (P.mapsRec ·))=true) (k15:(c.ifaces==(fn.params.toList++s.plain.varTypes P).any (P.ifacesRec ·))=true) (k16:(c.mapsOut==P.mapsAmong fn.resultTypes.toList)=true) (k17:(c.loops==(fn.params.toList++s.plain.varTypes P).any (P.loopsFrom ·))=true) (k18:(c.wideKeys==(fn.params.toList++s.plain.varTypes P++fn.resultTypes.toList).any (P.wideKeysFrom ·))=true)
 (k19:s.vars.all (P.varReadable ·)=true) (k20:fn.resultTypes.all (λt=>P.readableRec t&&decide (t<P.types.size))=true) (k21:(c.ifacesOut==fn.resultTypes.toList.any (P.ifacesRec ·))=true) (k22:(c.loopsOut==fn.resultTypes.toList.any (P.loopsFrom ·))=true) (k23:(c.plainKeys==P.plainKeys)=true) (k24:c.shortTexts.isNone=true)
 (k25:P.stopsHeard=true) (k26:P.mayEnter=true) (k27:(c.lifted==P.liftsFinal)=true) (k28:(P.make==some c.make)=true) (k29:(c.kinds==(if c.domain.isEmpty then [] else fn.params.toList.map λt=>match P.underlying t with|some (.int k)=>some k|_=>none))=true) (k30:(c.pinned==c.pinnedBy)=true)
 (k31:(c.veiled==(fn.params.toList++s.plain.varTypes P++fn.resultTypes.toList).any (P.veiledRec ·))=true) (k32:c.veiledFits P fn.params.toList (fn.params.toList++s.plain.varTypes P++fn.resultTypes.toList)=true):joinedFacts P f fn s c=true:=by
 unfold joinedFacts
 simp only[Bool.and_eq_true]
 exact⟨⟨⟨⟨⟨⟨⟨⟨⟨⟨⟨⟨⟨⟨⟨⟨⟨⟨⟨⟨⟨⟨⟨⟨⟨⟨⟨⟨⟨⟨⟨k1,k2⟩,k3⟩,k4⟩,k5⟩,k6⟩,k7⟩,k8⟩,k9⟩,k10⟩,k11⟩,k12⟩,k13⟩,k14⟩,k15⟩,k16⟩,k17⟩,k18⟩,k19⟩,k20⟩,k21⟩,k22⟩,k23⟩,k24⟩,k25⟩,k26⟩,k27⟩,k28⟩,k29⟩,k30⟩,k31⟩,k32⟩
end Mw
end
section
namespace Go.Proofs.Ytifkbghnmhineaa.macwilliamsAssmus
open Go.ChangeShapes Go.WideShapes Go.ChangeAt Go.RowKit
open Go.ChangeMaps (open_string shut_string)
set_option linter.unusedVariables false
theorem own:ownKnob Try.prog.godebug=none:=by kernel_rfl
set_option maxRecDepth 100000 in
theorem lifted(os:Os)(started:os.Started)(H:Type)(enc:TypeId×Value->H):
 ReturnsInHanded {} Try.checked os 9 .any (Rows.macwilliamsAssmusSpec.pre6 enc Try.prog Try.f9 Rows.macwilliamsAssmusRow.domain false) (Rows.macwilliamsAssmusSpec.post enc Try.prog Try.f9 false true false false):=by
 refine returnsInHanded_of_change_sized (C:=Try.checked) own started (by kernel_rfl) Try.func9
  (ChangeSpec.witness6 (enc:=enc) (C:=Try.checked) false ⟨#[], #[.agg #[.int .i64 0, .int .i64 0, .slice none 0 0], .int .u8 0, .slice none 0 0],[]⟩ 8 (by kernel_rfl) (by kernel_rfl) (by kernel_rfl) (by kernel_rfl)) ?_
 intro W base args ds gs before hval0 hW hcnd hsz0 _
 have hval:∀(j:Nat) t v,Try.f9.params[j]?=some t->args[j]?=some v->Value.okWide Try.prog W .any base t v:=hval0
 have hW':=hW
 obtain⟨p,q,hA0,hV,rfl,hfz,hnd⟩:=hW
 have hA:DataW.TrodAll enc Try.prog W 0 (λ_=>true) true Try.f9.params.toList args.toList ds p:=hA0
 rw[Try.params9] at hA hval
 obtain⟨v0,YV,d0,ds0,p0,q0,hargs,rfl,rfl,h0,r0⟩:=trodAll_cons hA
 obtain⟨v1,vs1,d1,ds1,p1,q1,rfl,rfl,rfl,h1,r1⟩:=trodAll_cons r0
 obtain⟨v2,vs2,d2,ds2,p2,q2,rfl,rfl,rfl,h2,r2⟩:=trodAll_cons r1
 obtain⟨rfl,rfl,rfl⟩:=trodAll_nil r2
 obtain rfl:args= #[v0,v1,v2]:=by cases args;simp_all
 obtain⟨rfl,rfl⟩:=trodVars_none hV
 obtain⟨cs0,rfl,_⟩:=okWide_struct Try.underlying24 (hval 0 24 v0 rfl rfl)
 have k0:=h0
 have Vq:∀x∈p0,x.block<W.heap.size:=by obtain⟨m,hm⟩:=k0;exact DataW.trod_lt m _ _ _ hm
 obtain⟨P,M,l0,A0,c0,rfl,hc0,hm0,hr0⟩:=Mw.UT rfl (by kernel_rfl) h0
 obtain⟨a1,rfl,rfl,rfl,w1⟩:=open_int Try.underlying5 (hval 1 5 v1 rfl rfl) h1
 obtain⟨a2,Y5,cap2,rfl⟩:=okWide_slice Try.underlying25 (hval 2 25 v2 rfl rfl)
 have k2:=h2
 have Vp:∀x∈p2,x.block<W.heap.size:=by obtain⟨m,hm⟩:=k2;exact DataW.trod_lt m _ _ _ hm
 obtain⟨l2,rfl,hc2,hm2,hr2,_⟩:=Mw.UR Try.underlying25 Try.underlying22 Try.underlying3 (by kernel_rfl) (by kernel_rfl) h2
 clear hA0 hval0 hsz0
 obtain⟨k,hk⟩:=(Mw.X3 (P:=P) (M:=M) (md:=l0) (rows:=l2) (a:=a1) hm0 (by have:=w1;simp [Lit.wf,show IntKind.u8.min=0 from rfl,show IntKind.u8.max=255 from rfl] at this;omega) (by have:=w1;simp [Lit.wf,show IntKind.u8.min=0 from rfl,show IntKind.u8.max=255 from rfl] at this;omega) hm2).get
 refine(qc.BM.calls k P M A0 c0 l0 a1 a2 cap2 l2 true W hr0 hc0 hr2 hc2 hk).mono λe W' ⟨he,bel⟩=>?_
 subst he
 exact⟨_,rfl,_,_,_,[],_,[],hW',trodAll_mk1 (shut_bool Try.underlying4 _),(trodAll_cons_mk (Below.trod Mw.laidOut (by kernel_rfl) (of_decide_eq_true (by kernel_rfl)) k0 bel Vq) (trodAll_cons_mk (shut_int Try.underlying5 w1) (trodAll_cons_mk (Below.trod Mw.laidOut (by kernel_rfl) (of_decide_eq_true (by kernel_rfl)) k2 bel Vp) trodAll_mk0))),rfl,bel.frame _,λh=>by cases h⟩
theorem closed:joinedFacts Try.prog 9 Try.f9 Rows.macwilliamsAssmusSpec Rows.macwilliamsAssmusRow=true:=
 Mw.VE (by as_aux_lemma=>kernel_rfl) Mw.laidOut Mw.Vk (by as_aux_lemma=>kernel_rfl) (by as_aux_lemma=>kernel_rfl) (by as_aux_lemma=>kernel_rfl) Mw.Sj (by as_aux_lemma=>kernel_rfl) Mw.Sm (by as_aux_lemma=>kernel_rfl) (by as_aux_lemma=>kernel_rfl) (by as_aux_lemma=>kernel_rfl) (by as_aux_lemma=>kernel_rfl) (by as_aux_lemma=>kernel_rfl) (by as_aux_lemma=>kernel_rfl) (by as_aux_lemma=>kernel_rfl) (by as_aux_lemma=>kernel_rfl) (by as_aux_lemma=>kernel_rfl) (by as_aux_lemma=>kernel_rfl) (by as_aux_lemma=>kernel_rfl) (by as_aux_lemma=>kernel_rfl) (by as_aux_lemma=>kernel_rfl) (by as_aux_lemma=>kernel_rfl) (by as_aux_lemma=>kernel_rfl) Mw.Sl Mw.Vh (by rw[Mw.Vr];rfl) (by rw[Mw.Vm];rfl) (by as_aux_lemma=>kernel_rfl) (by as_aux_lemma=>kernel_rfl) (by as_aux_lemma=>kernel_rfl) (by as_aux_lemma=>kernel_rfl)
theorem over:Rows.macwilliamsAssmusRow.holds Try.pinned (OpenSpec.ofChange Rows.macwilliamsAssmusSpec):=
 OpenClaim.holds_of_wide 9 Try.f9 rfl rfl rfl rfl rfl rfl rfl ⟨rfl,rfl,rfl,rfl,rfl⟩ rfl rfl rfl rfl rfl (by as_aux_lemma=>kernel_rfl) Try.func9 closed
  (of_decide_eq_true (by as_aux_lemma=>kernel_rfl)) (by unfold Func.isWrapper;first|(rw[if_pos (by decide+kernel)];kernel_rfl)|(rw[if_neg (by decide+kernel)];exact⟨rfl,rfl⟩))
  (λos started H enc _=>lifted os started H enc)
theorem proved:Rows.MacwilliamsAssmusSaid:=over
end Go.Proofs.Ytifkbghnmhineaa.macwilliamsAssmus
namespace Go.Proofs.Ytifkbghnmhineaa
theorem macwilliamsAssmus_holds:Rows.MacwilliamsAssmusSaid:=macwilliamsAssmus.proved
end Go.Proofs.Ytifkbghnmhineaa
end
