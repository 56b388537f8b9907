/- The statement MacwilliamsDelsarte, proved for every input, and what it rests on. No condition. -/
import Derived.Test.YtifkbghnmhineaaQDelsarte3

section
set_option linter.unusedVariables false
set_option linter.unusedSimpArgs false
namespace Mw
open Go Go.RowKit Go.Proofs.YtifkbghnmhineaaW.PrintWords Go.Proofs.YtifkbghnmhineaaW.PrintLast Go.Proofs.YtifkbghnmhineaaW.PrintMore Go.Proofs.Ytifkbghnmhineaa.PAll
theorem rd_rep (n:Nat) (j:Nat):rd (List.replicate n 0) (j:Int)=0:=by
 by_cases h:j<n
 ·rw[rd_lt (by simpa using h)];simp
 ·exact rd_ge (by simp;omega)
theorem mac_bound {x y z c:Int} (hx0:0≤x) (hx1:x<4294967296) (hy0:0≤y) (hy1:y<4294967296) (hz0:0≤z) (hz1:z<4294967296) (hc0:0≤c) (hc1:c<4294967296):
 0≤x*y∧x*y+z+c<18446744073709551616:=by
 have hp0:0≤x*y:=Int.mul_nonneg hx0 hy0
 have hp1:x*y≤4294967295*4294967295:=Int.mul_le_mul (by omega) (by omega) hy0 (by decide)
 generalize x*y=p at*
 omega
theorem mac_wrap {x y z c:Int} (hx0:0≤x) (hx1:x<4294967296) (hy0:0≤y) (hy1:y<4294967296) (hz0:0≤z) (hz1:z<4294967296) (hc0:0≤c) (hc1:c<4294967296):
 IntKind.u64.wrap (IntKind.u64.wrap (IntKind.u64.wrap (IntKind.u64.wrap x*IntKind.u64.wrap y)+IntKind.u64.wrap z)+c)=x*y+z+c:=by
 have hb:=mac_bound hx0 hx1 hy0 hy1 hz0 hz1 hc0 hc1
 rw[u64w (x:=x) (by omega) (by omega),u64w (x:=y) (by omega) (by omega),u64w (x:=z) (by omega) (by omega)]
 generalize x*y=p at*
 rw[u64w (x:=p) (by omega) (by omega),u64w (x:=p+z) (by omega) (by omega),u64w (x:=p+z+c) (by omega) (by omega)]
theorem split_div (s:Int):s % 4294967296+4294967296*(s / 4294967296)=s:=by omega
theorem div_bound {s:Int} (h0:0≤s) (h1:s<18446744073709551616):0≤s % 4294967296∧s % 4294967296<4294967296∧0≤s / 4294967296∧s / 4294967296<4294967296:=by omega
theorem times_inner {x:Int} {b l18:List Int} (hx0:0≤x) (hx1:x<4294967296) (hb:Lm b) (hbl:b.length<536870912) (x19:Int) (i L:Nat) (hL:i+b.length+1≤L) (hL2:L<1073741824) (V:Int) (R:List Int)
 (next:∀o:List Int,o.length=L→Lm o→(∀j:Nat,i+1+b.length≤j→rd o (j:Int)=0)→Aside0 (lv o=V+(bp i:Int)*(x*lv b))→Ev (fun k=>nat_times.l0 k b o l18 x19 ((i+1:Nat):Int)) R):
 ∀(d j:Nat) (o:List Int) (c:Int),j+d=b.length→o.length=L→Lm o→0≤c→c<4294967296→(∀m:Nat,i+b.length≤m→rd o (m:Int)=0)→
  Aside0 (lv o+(bp (i+j):Int)*c=V+(bp i:Int)*(x*lv (b.take j)))→
  Ev (fun k=>nat_times.l1 k b o (i:Int) x c l18 x19 (i:Int) b (b.length:Int) (j:Int)) R:=by
 intro d
 induction d with
 |zero=>
  intro j o c hj ho hol hc0 hc1 hz hv
  have hj:j=b.length:=by omega
  subst hj
  refine Ev.succ ?_
  simp only[nat_times.l1,wn (show(i:Int)+(b.length:Int)=((i+b.length:Nat):Int) by omega) (by omega),wn (show(i:Int)+1=((i+1:Nat):Int) by omega) (by omega),if_neg (show ¬((b.length:Nat):Int)<(b.length:Int) by omega),if_pos (show(0:Int)≤((i+b.length:Nat):Int) by omega),if_pos (show((i+b.length:Nat):Int)<(o.length:Int) by omega)]
  rw[Int.toNat_natCast,show c % 4294967296=c by omega]
  refine next _ (by rw[List.length_set];omega) (lm_set hol hc0 hc1) (fun m hm=>?_) ⟨?_⟩
  ·rw[rd_set_ne _ (by omega)];exact hz m (by omega)
  ·rw[lv_set _ (by omega),hz _ (Nat.le_refl _),Int.sub_zero,hv.out,List.take_of_length_le (Nat.le_refl _)]
 |succ d ih=>
  intro j o c hj ho hol hc0 hc1 hz hv
  have hjb:j<b.length:=by omega
  refine Ev.succ ?_
  have rb:=rd_lm hb (j:Int)
  have ro:=rd_lm hol ((i+j:Nat):Int)
  simp only[nat_times.l1,wn (show(i:Int)+(j:Int)=((i+j:Nat):Int) by omega) (by omega),wn (show(j:Int)+1=((j+1:Nat):Int) by omega) (by omega),if_pos (show(j:Int)<(b.length:Int) by omega),if_pos (show(0:Int)≤(j:Int) by omega),if_pos (show(0:Int)≤((i+j:Nat):Int) by omega),if_pos (show((i+j:Nat):Int)<(o.length:Int) by omega),mac_wrap hx0 hx1 rb.1 rb.2 ro.1 ro.2 hc0 hc1]
  have hb2:=mac_bound hx0 hx1 rb.1 rb.2 ro.1 ro.2 hc0 hc1
  have hdef:∃s,s=x*rd b (j:Int)+rd o ((i+j:Nat):Int)+c:=⟨_,rfl⟩
  obtain⟨s,hs⟩:=hdef
  have hs0:0≤s:=by rw[hs];exact Int.add_nonneg (Int.add_nonneg hb2.1 ro.1) hc0
  have hs1:s<18446744073709551616:=by rw[hs];exact hb2.2
  have hd:=div_bound hs0 hs1
  clear hb2
  rw[←hs]
  rw[Int.toNat_natCast]
  have hs:=Aside0.mk hs
  refine ih (j+1) _ _ (by omega) (by rw[List.length_set];omega) (lm_set hol hd.1 hd.2.1) hd.2.2.1 hd.2.2.2 (fun m hm=>?_) ⟨?_⟩
  ·rw[rd_set_ne _ (by omega)];exact hz m hm
  ·rw[lv_set _ (by omega),lv_take_succ hjb,←Nat.add_assoc,bp_succ,Int.natCast_mul]
   have hdiv:s % 4294967296+4294967296*(s / 4294967296)=x*rd b (j:Int)+rd o ((i+j:Nat):Int)+c:=by rw[split_div];exact hs.out
   have hv:=hv.out
   have hbp:((bp (i+j):Nat):Int)=(bp i:Int)*(bp j:Int):=by rw[bp_add,Int.natCast_mul]
   clear ih hz next hs hs0 hs1 hd rb ro hc0 hc1
   generalize s % 4294967296=y at*
   generalize s / 4294967296=u at*
   generalize (bp (i+j):Int)=p at*
   generalize (bp i:Int)=pi at*
   generalize (bp j:Int)=pj at*
   generalize rd b (j:Int)=rb at*
   generalize rd o ((i+j:Nat):Int)=ro at*
   generalize lv o=lo at*
   generalize lv (b.take j)=lt at*
   subst hbp
   have h1:lo+pi*pj*c=V+pi*(x*lt):=hv
   have h2:y+4294967296*u=x*rb+ro+c:=hdiv
   show lo+pi*pj*(y-ro)+4294967296*(pi*pj)*u=V+pi*(x*(lt+pj*rb))
   have h3:pi*pj*(y+4294967296*u)=pi*pj*(x*rb+ro+c):=by rw[h2]
   grind
theorem times_outer {b l:List Int} (hb:Lm b) (hl:Lm l) (hbl:b.length<268435456) (hll:l.length<268435456):∀(d i:Nat) (o:List Int),i+d=l.length→o.length=l.length+b.length→Lm o→(∀m:Nat,i+b.length≤m→rd o (m:Int)=0)→
 Aside0 (lv o=lv (l.take i)*lv b)→Ev (fun k=>nat_times.l0 k b o l (l.length:Int) (i:Int)) (dg (lv l*lv b).toNat):=by
 intro d
 induction d with
 |zero=>
  intro i o hi ho hol hz hv
  have hi:i=l.length:=by omega
  subst hi
  refine Ev.succ ?_
  simp only[nat_times.l0,if_neg (show ¬((l.length:Nat):Int)<(l.length:Int) by omega)]
  refine Ev.bind (short_ev hol (by omega)) ?_
  refine Ev.cast (Ev.some _) ?_
  rw[hv.out,List.take_of_length_le (Nat.le_refl _)]
 |succ d ih=>
  intro i o hi ho hol hz hv
  have hil:i<l.length:=by omega
  refine Ev.succ ?_
  have rl:=rd_lm hl (i:Int)
  simp only[nat_times.l0,if_pos (show(i:Int)<(l.length:Int) by omega),if_pos (show(0:Int)≤(i:Int) by omega)]
  refine times_inner (l18:=l) rl.1 rl.2 hb (by omega) (l.length:Int) i (l.length+b.length) (by omega) (by omega) (lv (l.take i)*lv b) _ (fun o2 h1 h2 h3 h4=>?_) b.length 0 o 0 (by omega) ho hol (by omega) (by omega) hz ⟨?_⟩
  ·refine ih (i+1) o2 (by omega) h1 h2 (fun m hm=>h3 m hm) ⟨?_⟩
   rw[h4.out,lv_take_succ hil,Int.add_mul,Int.mul_assoc]
  ·rw[hv.out];simp [lv_nil]
theorem times_ev {a b:List Int} (ha:Lm a) (hb:Lm b) (h1:a.length<268435456) (h2:b.length<268435456):Ev (fun k=>nat_times.f k a b) (dg (lv a*lv b).toNat):=by
 simp only[nat_times.f]
 simp only[wn (show(a.length:Int)+(b.length:Int)=((a.length+b.length:Nat):Int) by omega) (by omega),Int.toNat_natCast,if_pos (show(0:Int)≤((a.length+b.length:Nat):Int) by omega),if_pos (show a.length+b.length≤70368744177664 by omega)]
 exact times_outer hb ha h2 h1 a.length 0 _ (by omega) (by simp) (lm_rep _) (fun m _=>rd_rep _ m) ⟨by rw[lv_rep];simp [lv_nil]⟩
theorem mul2_ev {a b:Nat} (ha:(dg a).length<134217728) (hb:(dg b).length<134217728):Ev (fun k=>nat_Mul.f k [dg a,dg b]) (dg (a*b)):=by
 simp only[nat_Mul.f]
 have mul_len:∀x y:Nat,(dg (x*y)).length≤(dg x).length+(dg y).length:=by
  intro x y
  refine dg_len_le ?_
  rw[bp_add]
  exact Nat.mul_lt_mul'' (dg_lt_len x) (dg_lt_len y)
 have one:lv [1]=1:=by rw[lv_cons,lv_nil];rfl
 have l1:Lm [1]:=by rw[lm_cons];exact⟨by omega,lm_nil⟩
 refine Ev.succ ?_
 simp only[nat_Mul.l0,List.length_cons,List.length_nil,w64 (x:=(0:Int)+1) (by omega) (by omega)]
 rw[show((0+1+1:Nat):Int)=2 from rfl]
 simp only[if_pos (show(0:Int)<2 by omega),if_pos (show(0:Int)≤0 by omega)]
 rw[show rd_L3 [dg a,dg b] 0=dg a from rfl]
 refine Ev.bind (short_ev (lm_dg a) (by omega)) ?_
 rw[lv_dg,Int.toNat_natCast]
 refine Ev.bind (times_ev l1 (lm_dg a) (by simp) (by omega)) ?_
 rw[one,lv_dg,Int.one_mul,Int.toNat_natCast]
 refine Ev.succ ?_
 rw[show(0:Int)+1=1 from rfl]
 simp only[nat_Mul.l0,List.length_cons,List.length_nil,w64 (x:=(1:Int)+1) (by omega) (by omega)]
 rw[show((0+1+1:Nat):Int)=2 from rfl]
 simp only[if_pos (show(1:Int)<2 by omega),if_pos (show(0:Int)≤1 by omega)]
 rw[show rd_L3 [dg a,dg b] 1=dg b from rfl]
 refine Ev.bind (short_ev (lm_dg b) (by omega)) ?_
 rw[lv_dg,Int.toNat_natCast]
 refine Ev.bind (times_ev (lm_dg a) (lm_dg b) (by omega) (by omega)) ?_
 rw[lv_dg,lv_dg,←Int.natCast_mul,Int.toNat_natCast]
 rw[show(1:Int)+1=2 from rfl]
 refine Ev.succ ?_
 simp only[nat_Mul.l0,if_neg (show ¬(2:Int)<2 by omega)]
 have:=mul_len a b
 refine Ev.bind (trim_ev (lm_dg (a*b)) (by omega)) ?_
 rw[lv_dg,Int.toNat_natCast]
 exact Ev.some _
theorem wraps_u64 (n:Int) (h0:0≤n) (h1:n<2^64):IntKind.u64.wrap n=n:=u64w h0 (by omega)
theorem join32 {x y:Int} (hx0:0≤x) (hx1:x<4294967296) (hy0:0≤y) (hy1:y<4294967296):Go.bits .or .u64 (IntKind.u64.wrap (x*4294967296)) (IntKind.u64.wrap y)=x*4294967296+y:=by
 rw[u64w (x:=x*4294967296) (by omega) (by omega),u64w (x:=y) (by omega) (by omega)]
 exact bits_join .u64 64 (by decide) wraps_u64 32 _ _ (by omega) (by omega) (by omega) hy0 (by omega) (by omega)
theorem digit_bounds {r b y:Int} (hr0:0≤r) (hrb:r<b) (hb:b<4294967296) (hy0:0≤y) (hy1:y<4294967296):
 0≤(r*4294967296+y) / b∧(r*4294967296+y) / b<4294967296∧0≤(r*4294967296+y) % b∧(r*4294967296+y) % b<b:=by
 have hbp:0<b:=by omega
 refine⟨Int.ediv_nonneg (by omega) (by omega),?_,Int.emod_nonneg _ (by omega),Int.emod_lt_of_pos _ hbp⟩
 refine Int.ediv_lt_of_lt_mul hbp ?_
 have:(r+1)*4294967296≤b*4294967296:=by omega
 omega
theorem digit_loop {a:List Int} {b:Int} (ha:Lm a) (hb0:0<b) (hb1:b<4294967296) (hlen:a.length<1073741824):∀(n:Nat) (o:List Int) (r:Int),n≤a.length→o.length=a.length→Lm o→(∀j:Nat,j<n→rd o (j:Int)=0)→0≤r→r<b→
 Aside0 (lv o*b+(bp n:Int)*r=lv a-lv (a.take n))→Ev (fun k=>nat_digit.l0 k a b o r ((n:Int)-1)) (dg (lv a / b).toNat,lv a % b):=by
 intro n
 induction n with
 |zero=>
  intro o r hn ho hol hz hr0 hr1 hv
  refine Ev.succ ?_
  simp only[nat_digit.l0,if_neg (show ¬((0:Nat):Int)-1≥0 by omega)]
  refine Ev.bind (short_ev hol (by omega)) ?_
  refine Ev.cast (Ev.some _) ?_
  have hv:=hv.out
  rw[List.take_zero,lv_nil,bp_zero] at hv
  have e:lv a=b*lv o+r:=by rw[Int.mul_comm];omega
  have h1:lv a / b=lv o:=by
   rw[e,Int.add_comm,Int.add_mul_ediv_left _ _ (by omega),Int.ediv_eq_zero_of_lt hr0 hr1];omega
  have h2:lv a % b=r:=by
   rw[e,Int.add_comm,Int.add_mul_emod_self_left,Int.emod_eq_of_lt hr0 hr1]
  rw[h1,h2]
  clear hv e h1 h2
  congr 1
  omega
 |succ n ih=>
  intro o r hn ho hol hz hr0 hr1 hv
  refine Ev.succ ?_
  have ra:=rd_lm ha (n:Int)
  have hd:=digit_bounds hr0 hr1 hb1 ra.1 ra.2
  have hdiv:b*((r*4294967296+rd a (n:Int)) / b)+(r*4294967296+rd a (n:Int)) % b=r*4294967296+rd a (n:Int):=Int.mul_ediv_add_emod _ _
  have t0:0≤r*4294967296+rd a (n:Int):=by omega
  simp only[nat_digit.l0,show((n+1:Nat):Int)-1=(n:Int) from by omega,if_pos (show(n:Int)≥0 by omega),if_pos (show(0:Int)≤(n:Int) by omega),if_pos (show(n:Int)<(a.length:Int) by omega),if_pos (show(n:Int)<(o.length:Int) by omega),if_neg (show ¬b=0 by omega),
   join32 hr0 (by omega) ra.1 ra.2,w64 (x:=(n:Int)-1) (by omega) (by omega),u64w (x:=b) (by omega) (by omega)]
  rw[Int.tdiv_eq_ediv_of_nonneg t0,Int.tmod_eq_emod_of_nonneg t0]
  generalize (r*4294967296+rd a (n:Int)) / b=q at*
  generalize (r*4294967296+rd a (n:Int)) % b=s at*
  rw[u64w (x:=q) hd.1 (by omega),show q % 4294967296=q by omega,Int.toNat_natCast]
  refine ih _ _ (by omega) (by rw[List.length_set];exact ho) (lm_set hol hd.1 hd.2.1) (fun j hj=>?_) hd.2.2.1 hd.2.2.2 ⟨?_⟩
  ·rw[rd_set_ne _ (by omega)];exact hz j (by omega)
  ·have hv:=hv.out
   rw[lv_take_succ (l:=a) (i:=n) (by omega),bp_succ,Int.natCast_mul] at hv
   rw[lv_set (l:=o) (i:=n) _ (by omega),hz n (by omega)]
   clear ih hz hd ra t0
   generalize lv o=x at*
   generalize (bp n:Int)=p at*
   generalize rd a (n:Int)=y at*
   generalize lv a=A at*
   generalize lv (a.take n)=T at*
   have hv:x*b+4294967296*p*r=A-(T+p*y):=hv
   have h3:p*(b*q+s)=p*(r*4294967296+y):=by rw[hdiv]
   grind
theorem digit_ev {a:List Int} {b:Int} (ha:Lm a) (hb0:0<b) (hb1:b<4294967296) (hlen:a.length<1073741824):Ev (fun k=>nat_digit.f k a b) (dg (lv a / b).toNat,lv a % b):=by
 simp only[nat_digit.f,Int.toNat_natCast,if_pos (show(0:Int)≤(a.length:Int) by omega),if_pos (show a.length≤70368744177664 by omega),w64 (x:=(a.length:Int)-1) (by omega) (by omega)]
 exact digit_loop ha hb0 hb1 hlen a.length _ 0 (Nat.le_refl _) (by simp) (lm_rep _) (fun j _=>rd_rep _ j) (by omega) (by omega) ⟨by rw[lv_rep,List.take_of_length_le (Nat.le_refl _)];simp⟩
theorem bin_mul (n i:Nat):bin n i*(n-i)=(i+1)*bin n (i+1):=by rw[bin_step,Nat.mul_comm]
theorem bin_lt (n k:Nat):bin n k≤2^n:=by
 induction n generalizing k with
 |zero=>cases k<;>simp [bin]
 |succ n ih=>cases k with
  |zero=>rw[bin_zero];exact Nat.one_le_two_pow
  |succ k=>rw[bin_succ,Nat.pow_succ];have h1:=ih k;have h2:=ih (k+1);omega
theorem pow2_bp (m:Nat):2^(32*m)=bp m:=by
 induction m with
 |zero=>rw[bp_zero]
 |succ m ih=>rw[Nat.mul_succ,Nat.pow_add,ih,bp_succ,Nat.mul_comm]
theorem bin_len {n:Nat} (hn:n≤4096) (k:Nat):(dg (bin n k)).length≤129:=by
 refine dg_len_le ?_
 have h1:=bin_lt n k
 have h2:∀m,n≤32*m→2^n≤bp m:=fun m h=>by rw[←pow2_bp];exact Nat.pow_le_pow_right (by decide) h
 have h2:=h2 128 (by omega)
 have h3:=bp_pos 128
 rw[show 129=128+1 from rfl,bp_succ]
 generalize 2^n=p at*
 generalize bp 128=u at*
 omega
theorem binomial_loop {n:Nat} (hn:n≤4096):∀(d i m:Nat),i+d=m→m≤n→Ev (fun k=>nat_Binomial.l0 k (n:Int) (dg (bin n i)) (m:Int) (i:Int)) (dg (bin n m),0):=by
 intro d
 induction d with
 |zero=>
  intro i m hi hm
  have hi:i=m:=by omega
  subst hi
  refine Ev.succ ?_
  simp only[nat_Binomial.l0,if_neg (show ¬(i:Int)<(i:Int) by omega)]
  have:=bin_len hn i
  refine Ev.bind (trim_ev (lm_dg _) (by omega)) ?_
  rw[lv_dg,Int.toNat_natCast]
  exact Ev.some _
 |succ d ih=>
  intro i m hi hm
  refine Ev.succ ?_
  have hl:=bin_len hn i
  have e0:((n:Int)-(i:Int)) % 4294967296=((n-i:Nat):Int):=by omega
  have e1:((i+1:Nat):Int) % 4294967296=((i+1:Nat):Int):=by omega
  simp only[nat_Binomial.l0,w64 (x:=(n:Int)-(i:Int)) (by omega) (by omega),wn (show(i:Int)+1=((i+1:Nat):Int) by omega) (by omega),if_pos (show(i:Int)<(m:Int) by omega),e0,e1]
  have l1:Lm [((n-i:Nat):Int)]:=by rw[lm_cons];exact⟨by omega,lm_nil⟩
  refine Ev.bind (times_ev (lm_dg _) l1 (by omega) (by simp)) ?_
  have v1:lv (dg (bin n i))*lv [((n-i:Nat):Int)]=((bin n i*(n-i):Nat):Int):=by rw[lv_dg,lv_cons,lv_nil,Int.natCast_mul];simp
  rw[v1,Int.toNat_natCast,bin_mul]
  have hl2:(dg ((i+1)*bin n (i+1))).length≤130:=by
   refine dg_len_le ?_
   rw[←bin_mul]
   have h1:=dg_lt_len (bin n i)
   have h2:=bp_mono hl
   have h3:bin n i<bp 129:=by omega
   rw[show 130=129+1 from rfl,bp_succ,Nat.mul_comm]
   have h4:n-i≤4294967296:=by omega
   exact Nat.lt_of_le_of_lt (Nat.mul_le_mul_right _ h4) (Nat.mul_lt_mul_of_pos_left h3 (by decide))
  refine Ev.bind (digit_ev (lm_dg _) (by omega) (by omega) (by omega)) ?_
  rw[lv_dg]
  have v2:(((i+1)*bin n (i+1):Nat):Int) / ((i+1:Nat):Int)=((bin n (i+1):Nat):Int):=by
   rw[Int.natCast_mul,Int.mul_ediv_cancel_left _ (by omega)]
  rw[v2,Int.toNat_natCast]
  exact ih (i+1) m (by omega) hm
theorem binomial_ev {n m:Nat} (hn:n≤4096) (hm:m≤n):Ev (fun k=>nat_Binomial.f k (n:Int) (m:Int)) (dg (bin n m),0):=by
 simp only[nat_Binomial.f,if_neg (show ¬(n:Int)<0 by omega),decide_eq_false (show ¬(n:Int)>4096 by omega)]
 refine Ev.succ ?_
 simp only[nat_Binomial.j0,Bool.false_eq_true,if_false,if_neg (show ¬(m:Int)<0 by omega),decide_eq_false (show ¬(m:Int)>(n:Int) by omega)]
 refine Ev.succ ?_
 simp only[nat_Binomial.j1,Bool.false_eq_true,if_false,wn (show(n:Int)-(m:Int)=((n-m:Nat):Int) by omega) (by omega)]
 have hone:([1]:List Int)=dg (bin n 0):=by rw[bin_zero,dg_one]
 rw[hone]
 have hz:(0:Int)=((0:Nat):Int):=rfl
 by_cases h:m≤n-m
 ·rw[show mn (m:Int) ((n-m:Nat):Int)=(m:Int) from by unfold mn;split<;>omega]
  exact binomial_loop hn m 0 m (by omega) hm
 ·rw[show mn (m:Int) ((n-m:Nat):Int)=((n-m:Nat):Int) from by unfold mn;split<;>omega,←bin_symm hm]
  exact binomial_loop hn (n-m) 0 (n-m) (by omega) (by omega)
theorem bits_half (x:Nat) (h:x<4294967296):Lib.bitLen x≤32:=Lib.bitLen_le x 32 (by decide) (by omega)
theorem bitLen_zero:Lib.bitLen 0=0:=by decide
theorem bitLen_pos {x:Nat} (h0:x≠0) (h:x<4294967296):1≤Lib.bitLen x:=by
 rw[Lib.bitLen_half x h0 (by omega)];omega
theorem bitLen_lt:∀(b x:Nat),x<4294967296→Lib.bitLen x≤b→x<2^b:=by
 intro b
 induction b with
 |zero=>
  intro x hx hb
  by_cases h:x=0
  ·subst h;decide
  ·have:=bitLen_pos h hx;omega
 |succ b ih=>
  intro x hx hb
  by_cases h:x=0
  ·subst h;exact Nat.two_pow_pos _
  ·rw[Lib.bitLen_half x h (by omega)] at hb
   have:=ih (x / 2) (by omega) (by omega)
   rw[Nat.pow_succ]
   omega
theorem dg_head {n:Nat} {i:Nat} (hi:i+1=(dg n).length):rd (dg n) (i:Int)≠0:=by
 have hne:dg n≠[]:=by intro e;rw[e] at hi;simp at hi
 have:=dg_last n hne
 rw[List.getLast_eq_getElem] at this
 rw[rd_lt (by omega)]
 have e:(dg n).length-1=i:=by omega
 simpa [e] using this
def bl (n:Nat):Nat:=if n=0 then 0 else 32*((dg n).length-1)+Lib.bitLen (rd (dg n) (((dg n).length-1:Nat):Int)).toNat
theorem bits_ev {n:Nat} (hn:(dg n).length<33554432):Ev (fun k=>nat_Bits.f k (dg n)) ((bl n:Nat):Int):=by
 simp only[nat_Bits.f]
 refine Ev.bind (short_ev (lm_dg n) (by omega)) ?_
 rw[lv_dg,Int.toNat_natCast]
 by_cases h:n=0
 ·subst h
  rw[dg_zero]
  simp only[List.length_nil,if_pos (show((0:Nat):Int)=0 from rfl)]
  exact Ev.cast (Ev.some _) (by simp [bl])
 ·have hp:(dg n).length≠0:=by rw[Ne,dg_len_zero];exact h
  obtain⟨m,hm⟩:∃m,(dg n).length=m+1:=⟨(dg n).length-1,by omega⟩
  have hb:bl n=32*m+Lib.bitLen (rd (dg n) (m:Int)).toNat:=by unfold bl;rw[if_neg h,hm];rfl
  have hr:=rd_lm (lm_dg n) (m:Int)
  have hbl:=bits_half (rd (dg n) (m:Int)).toNat (by omega)
  rw[hb,hm]
  have f1:bits_Len32.f (rd (dg n) (m:Int))=some ((Lib.bitLen (rd (dg n) (m:Int)).toNat:Nat):Int):=by
   unfold bits_Len32.f
   rw[if_pos hr.1,if_pos (by omega)]
  simp only[if_neg (show ¬((m+1:Nat):Int)=0 by omega),wn (show((m+1:Nat):Int)-1=(m:Int) by omega) (by omega),if_pos (show(0:Int)≤(m:Int) by omega),if_pos (show(m:Int)<((m+1:Nat):Int) by omega),f1,Option.bind_some]
  refine Ev.cast (Ev.some _) ?_
  rw[wn (show(32:Int)*(m:Int)=((32*m:Nat):Int) by omega) (by omega),wn (show((32*m:Nat):Int)+((Lib.bitLen (rd (dg n) (m:Int)).toNat:Nat):Int)=((32*m+Lib.bitLen (rd (dg n) (m:Int)).toNat:Nat):Int) by omega) (by omega)]
theorem bl_zero {n:Nat}:bl n=0↔n=0:=by
 constructor
 ·intro h
  by_cases h0:n=0
  ·exact h0
  ·unfold bl at h
   rw[if_neg h0] at h
   have hp:(dg n).length≠0:=by rw[Ne,dg_len_zero];exact h0
   obtain⟨m,hm⟩:∃m,(dg n).length=m+1:=⟨(dg n).length-1,by omega⟩
   have hr:=rd_lm (lm_dg n) (m:Int)
   have h1:=dg_head hm.symm
   rw[hm,show m+1-1=m from rfl] at h
   have:=bitLen_pos (x:=(rd (dg n) (m:Int)).toNat) (by omega) (by omega)
   omega
 ·intro h;subst h;rfl
theorem bl_small {n:Nat} (h0:n≠0) (h:n<4294967296):bl n=Lib.bitLen n:=by
 unfold bl
 rw[if_neg h0,dg_small h0 h]
 simp [rd]
theorem bl_one {n:Nat}:bl n=1↔n=1:=by
 constructor
 ·intro h
  have hn0:n≠0:=by intro e;subst e;rw[bl_zero.mpr rfl] at h;omega
  unfold bl at h
  rw[if_neg hn0] at h
  have hp:(dg n).length≠0:=by rw[Ne,dg_len_zero];exact hn0
  obtain⟨m,hm⟩:∃m,(dg n).length=m+1:=⟨(dg n).length-1,by omega⟩
  have hr:=rd_lm (lm_dg n) (m:Int)
  have h1:=dg_head hm.symm
  rw[hm,show m+1-1=m from rfl] at h
  have h2:=bitLen_pos (x:=(rd (dg n) (m:Int)).toNat) (by omega) (by omega)
  have hm0:m=0:=by omega
  subst hm0
  have hn:n<4294967296:=by
   have:=dg_lt_len n
   rw[hm,show(0+1:Nat)=0+1 from rfl,bp_succ,bp_zero] at this
   omega
  have h4:dg n=[(n:Int)]:=dg_small hn0 hn
  rw[h4] at h
  have h3:=bitLen_lt 1 n hn (by simp [rd] at h;omega)
  omega
 ·intro h;subst h;rw[bl_small (by decide) (by decide)];decide
theorem pow_len (x n m:Nat) (h:(dg x).length≤m):(dg (x^n)).length≤m*n+1:=by
 refine dg_len_le ?_
 have h1:=dg_lt_len x
 have h2:=bp_mono h
 have h3:∀n,x^n≤bp (m*n):=by
  intro n
  induction n with
  |zero=>simp [bp_zero]
  |succ n ih=>rw[Nat.pow_succ,Nat.mul_succ,bp_add];exact Nat.mul_le_mul ih (by omega)
 have h4:=h3 n
 rw[bp_succ]
 have h5:=bp_pos (m*n)
 omega
theorem and1 {n:Nat} (hn:n<9223372036854775808):Go.bits .and .i64 (n:Int) 1=((n % 2:Nat):Int):=by
 have:=bits_mask .i64 63 (by decide) (fun n h0 h1=>by
  rw[IntKind.wrap_i64]
  have:n<9223372036854775808:=by omega
  omega) 1 (by decide) (n:Int) (by omega) (Int.lt_of_lt_of_le (show(n:Int)<9223372036854775808 by omega) (by decide))
 rw[show(2:Int)^1-1=1 from rfl,show(2:Int)^1=2 from rfl] at this
 rw[this]
 omega
theorem mul_len (x y:Nat):(dg (x*y)).length≤(dg x).length+(dg y).length:=by
 refine dg_len_le ?_
 rw[bp_add]
 exact Nat.mul_lt_mul'' (dg_lt_len x) (dg_lt_len y)
theorem times2_ev {a b:Nat} (h1:(dg a).length<268435456) (h2:(dg b).length<268435456):Ev (fun k=>nat_times.f k (dg a) (dg b)) (dg (a*b)):=by
 refine Ev.cast (times_ev (lm_dg a) (lm_dg b) h1 h2) ?_
 rw[lv_dg,lv_dg,←Int.natCast_mul,Int.toNat_natCast]
theorem trim2_ev {a:Nat} (h1:(dg a).length<268435456):Ev (fun k=>nat_Trim.f k (dg a)) (dg a):=by
 refine Ev.cast (trim_ev (lm_dg a) (by omega)) ?_
 rw[lv_dg,Int.toNat_natCast]
theorem pow_half (y x n:Nat):y*x^n=(if n % 2=1 then y*x else y)*(x*x)^(n / 2):=by
 have e:n=2*(n / 2)+n % 2:=by omega
 have h:x^n=(x*x)^(n / 2)*x^(n % 2):=by
  conv=>lhs;rw[e]
  rw[Nat.pow_add,Nat.pow_mul,Nat.pow_two]
 rw[h]
 by_cases g:n % 2=1
 ·rw[if_pos g,g,Nat.pow_one];simp only[Nat.mul_assoc,Nat.mul_comm x]
 ·rw[if_neg g,show n % 2=0 by omega,Nat.pow_zero,Nat.mul_one]
theorem pow_loop:∀(n:Nat),0<n→n<4611686018427387904→∀(y x:Nat),Aside0 ((dg x).length*n+(dg y).length≤4096)→Ev (fun k=>nat_Pow.l0 k (n:Int) (dg y) (dg x)) (dg (y*x^n),0):=by
 intro n
 induction n using Nat.strongRecOn with
 |_ n ih=>
  intro h0 h1 y x hl
  have hx:(dg x).length≤4096:=by
   have h2:=hl.out
   have h3:(dg x).length*1≤(dg x).length*n:=Nat.mul_le_mul_left _ h0
   omega
  have hy:(dg y).length≤4096:=by have:=hl.out;omega
  have hyx:=mul_len y x
  have hxx:=mul_len x x
  refine Ev.succ ?_
  have hd:(n:Int) / 2=((n / 2:Nat):Int):=by omega
  have hy2:Aside0 ((dg (x*x)).length*(n / 2)+(dg (if n % 2=1 then y*x else y)).length≤4096):=by
   refine⟨?_⟩
   have h2:=hl.out
   have h3:(dg (x*x)).length*(n / 2)≤((dg x).length+(dg x).length)*(n / 2):=Nat.mul_le_mul_right _ hxx
   have h4:((dg x).length+(dg x).length)*(n / 2)+(dg x).length*(n % 2)=(dg x).length*n:=by
    conv=>rhs;rw[show n=2*(n / 2)+n % 2 by omega]
    rw[Nat.mul_add,←Nat.two_mul,Nat.mul_assoc,Nat.mul_left_comm]
   by_cases g:n % 2=1
   ·rw[if_pos g]
    rw[g,Nat.mul_one] at h4
    omega
   ·rw[if_neg g]
    rw[show n % 2=0 by omega,Nat.mul_zero] at h4
    omega
  have fin:n / 2=0→Ev (fun k=>if(((dg (if n % 2=1 then y*x else y)).length:Nat):Int)>4096 then some (([]:List Int),(8:Int)) else(nat_Trim.f k (dg (if n % 2=1 then y*x else y))).bind fun t=>some (t,0)) (dg (y*x^n),0):=by
   intro hz
   have h2:=hy2.out
   rw[hz,Nat.mul_zero] at h2
   rw[pow_half y x n,hz,Nat.pow_zero,Nat.mul_one]
   simp only[if_neg (show ¬(((dg (if n % 2=1 then y*x else y)).length:Nat):Int)>4096 by omega)]
   refine Ev.bind (trim2_ev (by omega)) ?_
   exact Ev.some _
  have go:n / 2≠0→Ev (fun k=>(nat_times.f k (dg x) (dg x)).bind fun t=>nat_Pow.l0 k ((n / 2:Nat):Int) (dg (if n % 2=1 then y*x else y)) t) (dg (y*x^n),0):=by
   intro hz
   refine Ev.bind (times2_ev (by omega) (by omega)) ?_
   rw[pow_half y x n]
   exact ih (n / 2) (by omega) (by omega) (by omega) _ _ hy2
  simp only[nat_Pow.l0,and1 (show n<9223372036854775808 by omega),hd]
  clear hy2 hl
  by_cases g:n % 2=1
  ·rw[if_pos g] at fin go
   simp only[if_pos (show((n % 2:Nat):Int)=1 by omega)]
   refine Ev.bind (times2_ev (by omega) (by omega)) ?_
   by_cases hz:n / 2=0
   ·simp only[if_pos (show((n / 2:Nat):Int)=0 by omega)]
    exact fin hz
   ·simp only[if_neg (show ¬((n / 2:Nat):Int)=0 by omega)]
    exact go hz
  ·rw[if_neg g] at fin go
   simp only[if_neg (show ¬((n % 2:Nat):Int)=1 by omega)]
   by_cases hz:n / 2=0
   ·simp only[if_pos (show((n / 2:Nat):Int)=0 by omega)]
    exact fin hz
   ·simp only[if_neg (show ¬((n / 2:Nat):Int)=0 by omega)]
    exact go hz
theorem pow_ev {x n:Nat} (hx:x<4294967296) (hn:n<4096):Ev (fun k=>nat_Pow.f k (dg x) (n:Int)) (dg (x^n),0):=by
 have hxl:(dg x).length≤1:=dg_len_le (by rw[show(1:Nat)=0+1 from rfl,bp_succ,bp_zero];omega)
 simp only[nat_Pow.f,if_neg (show ¬(n:Int)<0 by omega)]
 refine Ev.bind (bits_ev (by omega)) ?_
 have one:([1]:List Int)=dg 1:=dg_one.symm
 by_cases h0:n=0
 ·subst h0
  simp only[if_pos (show((0:Nat):Int)=0 from rfl)]
  refine Ev.succ ?_
  simp only[nat_Pow.j0,if_true,Nat.pow_zero,one]
  exact Ev.some _
 ·simp only[if_neg (show ¬(n:Int)=0 by omega)]
  by_cases h1:x=1
  ·subst h1
   rw[bl_one.mpr rfl]
   refine Ev.succ ?_
   simp only[nat_Pow.j0,Nat.one_pow,one]
   exact Ev.some _
  ·have hb1:bl x≠1:=fun e=>h1 (bl_one.mp e)
   have hbl:bl x≤32:=by
    by_cases hx0:x=0
    ·subst hx0;rw[bl_zero.mpr rfl];omega
    ·rw[bl_small hx0 hx];exact bits_half x hx
   rw[show(((bl x:Nat):Int)==1)=false from by simp;omega]
   refine Ev.succ ?_
   simp only[nat_Pow.j0,Bool.false_eq_true,if_false]
   by_cases hx0:x=0
   ·subst hx0
    simp only[bl_zero.mpr rfl,if_pos (show((0:Nat):Int)=0 from rfl)]
    rw[Nat.zero_pow (by omega),dg_zero]
    exact Ev.some _
   ·have hb0:bl x≠0:=fun e=>hx0 (bl_zero.mp e)
    have hmul:(bl x-1)*n≤31*4095:=Nat.mul_le_mul (by omega) (by omega)
    have e2:wrap64 (wrap64 ((bl x:Int)-1)*(n:Int))=(((bl x-1)*n:Nat):Int):=by
     rw[wn (show(bl x:Int)-1=((bl x-1:Nat):Int) by omega) (by omega)]
     exact wn (by rw[Int.natCast_mul]) (by omega)
    have e3:¬wrap64 (wrap64 ((bl x:Int)-1)*(n:Int))≥131072:=by rw[e2];clear e2;omega
    simp only[if_neg (show ¬((bl x:Nat):Int)=0 by clear e2 e3;omega),if_neg (show ¬(n:Int)>131072 by clear e2 e3;omega),if_neg e3]
    clear e2 e3
    refine Ev.bind (short_ev (lm_dg x) (by omega)) ?_
    rw[lv_dg,Int.toNat_natCast,one]
    refine Ev.cast (pow_loop n (by omega) (by omega) 1 x ⟨?_⟩) (by rw[Nat.one_mul])
    have h5:(dg x).length*n≤1*4095:=Nat.mul_le_mul hxl (by omega)
    rw[dg_one]
    simp only[List.length_cons,List.length_nil]
    omega
theorem rtrim_loop {l:List Int} (hl:Lm l) (hlen:l.length<1099511627776):∀n:Nat,n≤l.length→(∀i:Nat,n≤i→i<l.length→rd l (i:Int)=0)→
 Ev (fun k=>r1_Trim.l0 k l (n:Int)) (dg (lv l).toNat):=by
 intro n
 induction n with
 |zero=>
  intro hn hz
  refine Ev.succ ?_
  simp only[r1_Trim.l0,Option.bind_some,if_neg (show ¬((0:Nat):Int)>0 by omega),if_pos (show(0:Int)≤((0:Nat):Int) by omega),if_pos (show((0:Nat):Int)≤(l.length:Int) by omega),if_pos (show([]:List Int).length+(l.take ((0:Nat):Int).toNat).length<35184372088832 by simp),List.nil_append]
  refine Ev.cast (Ev.some _) ?_
  rw[show(((0:Nat):Int)).toNat=0 from rfl]
  exact dg_take hl hn hz (.inl rfl)
 |succ n ih=>
  intro hn hz
  refine Ev.succ ?_
  have e:wrap64 (((n+1:Nat):Int)-1)=(n:Int):=by rw[w64 (by omega) (by omega)];omega
  by_cases h:rd l (n:Int)=0
  ·simp only[r1_Trim.l0,e,if_pos (show((n+1:Nat):Int)>0 by omega),if_pos (show(0:Int)≤(n:Int) by omega),if_pos (show(n:Int)<(l.length:Int) by omega),if_pos h]
   exact ih (by omega) (fun i h1 h2=>by
    by_cases e2:i=n
    ·subst e2;exact h
    ·exact hz i (by omega) h2)
  ·have hlt:([]:List Int).length+(l.take ((n+1:Nat):Int).toNat).length<35184372088832:=by
    rw[List.length_take,List.length_nil];clear e;omega
   simp only[r1_Trim.l0,Option.bind_some,e,if_pos (show((n+1:Nat):Int)>0 by omega),if_pos (show(0:Int)≤(n:Int) by omega),if_pos (show(n:Int)<(l.length:Int) by omega),if_neg h,if_pos (show(0:Int)≤((n+1:Nat):Int) by omega),if_pos (show((n+1:Nat):Int)≤(l.length:Int) by omega),if_pos hlt,List.nil_append]
   refine Ev.cast (Ev.some _) ?_
   rw[show(((n+1:Nat):Int)).toNat=n+1 by omega]
   exact dg_take hl hn hz (.inr h)
theorem rtrim_ev {l:List Int} (hl:Lm l) (hlen:l.length<1099511627776):Ev (fun k=>r1_Trim.f k l) (dg (lv l).toNat):=by
 simp only[r1_Trim.f]
 exact rtrim_loop hl hlen l.length (Nat.le_refl _) (fun i h1 h2=>by omega)
theorem rtrim2_ev {a:Nat} (h1:(dg a).length<268435456):Ev (fun k=>r1_Trim.f k (dg a)) (dg a):=by
 refine Ev.cast (rtrim_ev (lm_dg a) (by omega)) ?_
 rw[lv_dg,Int.toNat_natCast]
theorem rof_ev {n:Nat} (hn:n<18446744073709551616):Ev (fun k=>r1_Of.f k (n:Int)) (dg n):=by
 simp only[r1_Of.f]
 have e1:Int.tmod (n:Int) 4294967296=(n:Int) % 4294967296:=Int.tmod_eq_emod_of_nonneg (by omega)
 have e2:Int.tdiv (n:Int) 4294967296=(n:Int) / 4294967296:=Int.tdiv_eq_ediv_of_nonneg (by omega)
 rw[e1,e2,u64w (x:=(n:Int) / 4294967296) (by clear e1 e2;omega) (by clear e1 e2;omega)]
 have hl:Lm [(n:Int) % 4294967296 % 4294967296,((n:Int) / 4294967296) % 4294967296]:=by
  rw[lm_cons,lm_cons]
  clear e1 e2
  exact⟨by omega,by omega,lm_nil⟩
 refine Ev.bind (rtrim_ev hl (by simp)) ?_
 refine Ev.cast (Ev.some _) ?_
 congr 1
 simp only[lv_cons,lv_nil]
 clear e1 e2
 omega
theorem lv_take_any (l:List Int) (i:Nat):lv (l.take (i+1))=lv (l.take i)+(bp i:Int)*rd l (i:Int):=by
 by_cases h:i<l.length
 ·exact lv_take_succ h
 ·rw[rd_ge (by omega),List.take_of_length_le (by omega),List.take_of_length_le (by omega)];simp
def cmpZ (x y:Int):Int:=if x<y then -1 else if y<x then 1 else 0
theorem take_bound {a:List Int} (ha:Lm a) (n:Nat):0≤lv (a.take n)∧lv (a.take n)<bp n:=by
 have h1:=lv_nonneg (lm_take ha n)
 have h2:=lv_le_of_len (lm_take ha n) (m:=n) (by rw[List.length_take];omega)
 omega
theorem cmp_lt {a b:List Int} (ha:Lm a) (hb:Lm b) (n:Nat) (h:rd a (n:Int)<rd b (n:Int)):lv (a.take (n+1))<lv (b.take (n+1)):=by
 have h1:=take_bound ha n
 have h2:=take_bound hb n
 have h3:(bp n:Int)*(rd a (n:Int)+1)≤(bp n:Int)*rd b (n:Int):=Int.mul_le_mul_of_nonneg_left (by omega) (by omega)
 rw[lv_take_any,lv_take_any]
 rw[Int.mul_add,Int.mul_one] at h3
 generalize (bp n:Int)*rd a (n:Int)=x at*
 generalize (bp n:Int)*rd b (n:Int)=y at*
 omega
theorem cmp_step {a b:List Int} (ha:Lm a) (hb:Lm b) (n:Nat):cmpZ (lv (a.take (n+1))) (lv (b.take (n+1)))=if rd a (n:Int)<rd b (n:Int) then -1 else if rd b (n:Int)<rd a (n:Int) then 1 else cmpZ (lv (a.take n)) (lv (b.take n)):=by
 by_cases h:rd a (n:Int)<rd b (n:Int)
 ·rw[if_pos h]
  unfold cmpZ
  rw[if_pos (cmp_lt ha hb n h)]
 ·rw[if_neg h]
  by_cases g:rd b (n:Int)<rd a (n:Int)
  ·rw[if_pos g]
   have:=cmp_lt hb ha n g
   unfold cmpZ
   rw[if_neg (by omega),if_pos this]
  ·rw[if_neg g]
   have e:rd a (n:Int)=rd b (n:Int):=by omega
   rw[lv_take_any,lv_take_any,e]
   unfold cmpZ
   generalize (bp n:Int)*rd b (n:Int)=y at*
   by_cases h1:lv (a.take n)<lv (b.take n)
   ·rw[if_pos h1,if_pos (by omega)]
   ·rw[if_neg h1,if_neg (by omega)]
    by_cases h2:lv (b.take n)<lv (a.take n)
    ·rw[if_pos h2,if_pos (by omega)]
    ·rw[if_neg h2,if_neg (by omega)]
theorem ncmp_loop {a b:List Int} (ha:Lm a) (hb:Lm b) (hlen:a.length<1073741824) (hab:a.length=b.length):∀n:Nat,n≤a.length→Ev (fun k=>nat_Cmp.l0 k a b ((n:Int)-1)) (cmpZ (lv (a.take n)) (lv (b.take n))):=by
 intro n
 induction n with
 |zero=>
  intro _
  refine Ev.succ ?_
  simp only[nat_Cmp.l0,if_neg (show ¬((0:Nat):Int)-1≥0 by omega)]
  exact Ev.cast (Ev.some _) (by simp [cmpZ])
 |succ n ih=>
  intro hn
  refine Ev.succ ?_
  rw[cmp_step ha hb n]
  simp only[nat_Cmp.l0,show((n+1:Nat):Int)-1=(n:Int) from by omega,if_pos (show(n:Int)≥0 by omega),if_pos (show(0:Int)≤(n:Int) by omega),if_pos (show(n:Int)<(a.length:Int) by omega),if_pos (show(n:Int)<(b.length:Int) by omega),w64 (x:=(n:Int)-1) (by omega) (by omega)]
  by_cases h:rd a (n:Int)<rd b (n:Int)
  ·simp only[if_pos h];exact Ev.some _
  ·simp only[if_neg h]
   by_cases g:rd b (n:Int)<rd a (n:Int)
   ·simp only[if_pos g,if_pos (show rd a (n:Int)>rd b (n:Int) from g)];exact Ev.some _
   ·simp only[if_neg g,if_neg (show ¬rd a (n:Int)>rd b (n:Int) from g)];exact ih (by omega)
theorem ncmp_ev {a b:Nat} (h1:(dg a).length<268435456) (h2:(dg b).length<268435456):Ev (fun k=>nat_Cmp.f k (dg a) (dg b)) (cmpZ (a:Int) (b:Int)):=by
 simp only[nat_Cmp.f]
 refine Ev.bind (short_ev (lm_dg a) (by omega)) ?_
 refine Ev.bind (short_ev (lm_dg b) (by omega)) ?_
 rw[lv_dg,lv_dg,Int.toNat_natCast,Int.toNat_natCast]
 by_cases h:(dg a).length=(dg b).length
 ·simp only[if_pos (show((dg a).length:Int)=((dg b).length:Int) by omega),w64 (x:=((dg a).length:Int)-1) (by omega) (by omega)]
  have:=ncmp_loop (lm_dg a) (lm_dg b) (by omega) h _ (Nat.le_refl _)
  rw[List.take_of_length_le (Nat.le_refl _),List.take_of_length_le (by omega),lv_dg,lv_dg] at this
  exact this
 ·simp only[if_neg (show ¬((dg a).length:Int)=((dg b).length:Int) by omega)]
  by_cases g:(dg a).length<(dg b).length
  ·simp only[if_pos (show((dg a).length:Int)<((dg b).length:Int) by omega)]
   have hlt:a<b:=by
    by_cases e:b≤a
    ·have:=dg_len_mono e;omega
    ·omega
   exact Ev.cast (Ev.some _) (by unfold cmpZ;rw[if_pos (by omega)])
  ·simp only[if_neg (show ¬((dg a).length:Int)<((dg b).length:Int) by omega)]
   have hlt:b<a:=by
    by_cases e:a≤b
    ·have:=dg_len_mono e;omega
    ·omega
   exact Ev.cast (Ev.some _) (by unfold cmpZ;rw[if_neg (by omega),if_pos (by omega)])
theorem sub_low {a b c:Int} (ha0:0≤a) (ha1:a<4294967296) (hb0:0≤b) (hb1:b<4294967296) (hc0:0≤c) (hc1:c≤1):
 IntKind.u64.wrap (IntKind.u64.wrap (IntKind.u64.wrap a-c)-IntKind.u64.wrap b) % 4294967296=(a-c-b) % 4294967296:=by
 simp only[u64m];omega
theorem sub_high {a b c:Int} (ha0:0≤a) (ha1:a<4294967296) (hb0:0≤b) (hb1:b<4294967296) (hc0:0≤c) (hc1:c≤1):
 IntKind.u64.wrap (IntKind.u64.wrap (IntKind.u64.wrap a-c)-IntKind.u64.wrap b) / 9223372036854775808= -((a-c-b) / 4294967296):=by
 simp only[u64m];omega
theorem sub_low0 {a c:Int} (ha0:0≤a) (ha1:a<4294967296) (hc0:0≤c) (hc1:c≤1):IntKind.u64.wrap (IntKind.u64.wrap a-c) % 4294967296=(a-c-0) % 4294967296:=by
 simp only[u64m];omega
theorem sub_high0 {a c:Int} (ha0:0≤a) (ha1:a<4294967296) (hc0:0≤c) (hc1:c≤1):IntKind.u64.wrap (IntKind.u64.wrap a-c) / 9223372036854775808= -((a-c-0) / 4294967296):=by
 simp only[u64m];omega
theorem sub_bounds {a b c:Int} (ha0:0≤a) (ha1:a<4294967296) (hb0:0≤b) (hb1:b<4294967296) (hc0:0≤c) (hc1:c≤1):
 0≤(a-c-b) % 4294967296∧(a-c-b) % 4294967296<4294967296∧0≤ -((a-c-b) / 4294967296)∧ -((a-c-b) / 4294967296)≤1∧(a-c-b) % 4294967296=a-c-b+4294967296* -((a-c-b) / 4294967296):=by omega
theorem nsub_loop {a b:List Int} (ha:Lm a) (hb:Lm b) (hlen:a.length<1073741824) (hba:b.length≤a.length) (hle:lv b≤lv a):∀(d i:Nat) (o:List Int) (c:Int),i+d=a.length→o.length=a.length→Lm o→0≤c→c≤1→(∀j:Nat,i≤j→rd o (j:Int)=rd a (j:Int))→
 Aside0 (lv o=lv a-lv (b.take i)+(bp i:Int)*c)→Ev (fun k=>nat_Sub.l0 k b o c (a.length:Int) (i:Int)) (dg (lv a-lv b).toNat,0):=by
 intro d
 induction d with
 |zero=>
  intro i o c hi ho hol hc0 hc1 hr hv
  have hi:i=a.length:=by omega
  subst hi
  refine Ev.succ ?_
  simp only[nat_Sub.l0,if_neg (show ¬((a.length:Nat):Int)<(a.length:Int) by omega)]
  refine Ev.bind (short_ev hol (by omega)) ?_
  refine Ev.cast (Ev.some _) ?_
  have hv:=hv.out
  rw[List.take_of_length_le hba] at hv
  have h1:=lv_le_of_len hol (m:=a.length) (by omega)
  have h2:=lv_nonneg hol
  have hc:c=0:=by
   by_cases e:c=1
   ·subst e;rw[Int.mul_one] at hv;omega
   ·omega
  subst hc
  rw[hv,Int.mul_zero,Int.add_zero]
 |succ d ih=>
  intro i o c hi ho hol hc0 hc1 hr hv
  have hia:i<a.length:=by omega
  have ra:=rd_lm ha (i:Int)
  have rb:=rd_lm hb (i:Int)
  have hri:=hr i (Nat.le_refl _)
  have step:Ev (fun k=>nat_Sub.l0 k b (o.set ((i:Int)).toNat ((rd a (i:Int)-c-rd b (i:Int)) % 4294967296)) (-((rd a (i:Int)-c-rd b (i:Int)) / 4294967296)) (a.length:Int) ((i+1:Nat):Int)) (dg (lv a-lv b).toNat,0):=by
   have sb:=sub_bounds ra.1 ra.2 rb.1 rb.2 hc0 hc1
   rw[Int.toNat_natCast]
   refine ih (i+1) _ _ (by omega) (by rw[List.length_set];exact ho) (lm_set hol sb.1 sb.2.1) sb.2.2.1 sb.2.2.2.1 (fun j hj=>?_) ⟨?_⟩
   ·rw[rd_set_ne _ (by omega)];exact hr j (by omega)
   ·rw[lv_set _ (by omega),lv_take_any,bp_succ,Int.natCast_mul,sb.2.2.2.2,hri,hv.out]
    generalize -((rd a (i:Int)-c-rd b (i:Int)) / 4294967296)=u at*
    generalize (bp i:Int)=p at*
    generalize rd a (i:Int)=x at*
    generalize rd b (i:Int)=y at*
    show lv a-lv (b.take i)+p*c+p*(x-c-y+4294967296*u-x)=lv a-(lv (b.take i)+p*y)+4294967296*p*u
    grind
  refine Ev.succ ?_
  by_cases hib:i<b.length
  ·simp only[nat_Sub.l0,wn (show(i:Int)+1=((i+1:Nat):Int) by omega) (by omega),if_pos (show(i:Int)<(a.length:Int) by omega),if_pos (show(0:Int)≤(i:Int) by omega),if_pos (show(i:Int)<(o.length:Int) by omega),if_pos (show(i:Int)<(b.length:Int) by omega),hri,sub_low ra.1 ra.2 rb.1 rb.2 hc0 hc1,sub_high ra.1 ra.2 rb.1 rb.2 hc0 hc1]
   exact step
  ·have hb0:rd b (i:Int)=0:=rd_ge (by omega)
   rw[hb0] at step
   simp only[nat_Sub.l0,wn (show(i:Int)+1=((i+1:Nat):Int) by omega) (by omega),if_pos (show(i:Int)<(a.length:Int) by omega),if_pos (show(0:Int)≤(i:Int) by omega),if_pos (show(i:Int)<(o.length:Int) by omega),if_neg (show ¬(i:Int)<(b.length:Int) by omega),hri,sub_low0 ra.1 ra.2 hc0 hc1,sub_high0 ra.1 ra.2 hc0 hc1]
   exact step
theorem nsub_ev {a b:Nat} (h1:(dg a).length<268435456) (hab:b≤a):Ev (fun k=>nat_Sub.f k (dg a) (dg b)) (dg (a-b),0):=by
 have hl:=dg_len_mono hab
 simp only[nat_Sub.f]
 refine Ev.bind (ncmp_ev (by omega) (by omega)) ?_
 have hc:¬cmpZ (a:Int) (b:Int)<0:=by unfold cmpZ;rw[if_neg (by omega)];split<;>omega
 simp only[if_neg hc]
 refine Ev.bind (trim2_ev (by omega)) ?_
 refine Ev.cast (nsub_loop (lm_dg a) (lm_dg b) (by omega) hl (by rw[lv_dg,lv_dg];omega) (dg a).length 0 _ 0 (by omega) rfl (lm_dg a) (by omega) (by omega) (fun j _=>rfl) ⟨by simp [lv_nil]⟩) ?_
 rw[lv_dg,lv_dg]
 congr 2
 omega
theorem bitLen_ge:∀(b x:Nat),x<4294967296→x≠0→Lib.bitLen x=b+1→2^b≤x:=by
 intro b
 induction b with
 |zero=>intro x _ h0 _;rw[Nat.pow_zero];omega
 |succ b ih=>
  intro x hx h0 hb
  rw[Lib.bitLen_half x h0 (by omega)] at hb
  have h2:x / 2≠0:=by intro e;rw[e,bitLen_zero] at hb;omega
  have:=ih (x / 2) (by omega) h2 (by omega)
  rw[Nat.pow_succ]
  omega
theorem bl_bounds {n:Nat} (h:n≠0):2^(bl n-1)≤n∧n<2^bl n∧1≤bl n:=by
 have hp:(dg n).length≠0:=by rw[Ne,dg_len_zero];exact h
 obtain⟨m,hm⟩:∃m,(dg n).length=m+1:=⟨(dg n).length-1,by omega⟩
 have hb:bl n=32*m+Lib.bitLen (rd (dg n) (m:Int)).toNat:=by unfold bl;rw[if_neg h,hm];rfl
 have hr:=rd_lm (lm_dg n) (m:Int)
 have ht:=dg_head hm.symm
 obtain⟨x,hx⟩:∃x:Nat,rd (dg n) (m:Int)=(x:Int):=⟨(rd (dg n) (m:Int)).toNat,by omega⟩
 have hv:lv (dg n)=lv ((dg n).take m)+(bp m:Int)*(x:Int):=by
  have:=lv_take_succ (l:=dg n) (i:=m) (by omega)
  rw[←hm,List.take_of_length_le (Nat.le_refl _),hx] at this
  exact this
 have hlow:=take_bound (lm_dg n) m
 rw[lv_dg] at hv
 rw[hx] at hr ht hb
 rw[Int.toNat_natCast] at hb
 have hx0:x≠0:=by omega
 have hx1:x<4294967296:=by omega
 obtain⟨c,hc⟩:∃c,Lib.bitLen x=c+1:=⟨Lib.bitLen x-1,by have:=bitLen_pos hx0 hx1;omega⟩
 have h1:=bitLen_ge c x hx1 hx0 hc
 have h2:=bitLen_lt (c+1) x hx1 (by omega)
 obtain⟨y,hy⟩:∃y:Nat,lv ((dg n).take m)=(y:Int):=⟨(lv ((dg n).take m)).toNat,by omega⟩
 rw[hy] at hlow hv
 have hn:n=y+bp m*x:=by
  have:((n:Nat):Int)=((y+bp m*x:Nat):Int):=by rw[hv,Int.natCast_add,Int.natCast_mul]
  omega
 have hy2:y<bp m:=by omega
 rw[hb,hc]
 refine⟨?_,?_,by omega⟩
 ·rw[show 32*m+(c+1)-1=32*m+c by omega,Nat.pow_add,pow2_bp]
  have:=Nat.mul_le_mul_left (bp m) h1
  omega
 ·rw[Nat.pow_add,pow2_bp]
  have h3:bp m*(x+1)≤bp m*2^(c+1):=Nat.mul_le_mul_left _ (by omega)
  rw[Nat.mul_add,Nat.mul_one] at h3
  omega
theorem rzero_ev {a:Nat} (h:(dg a).length<268435456):Ev (fun k=>r1_Zero.f k (dg a)) (decide (a=0)):=by
 simp only[r1_Zero.f]
 refine Ev.bind (rtrim2_ev h) ?_
 refine Ev.cast (Ev.some _) ?_
 by_cases h0:a=0
 ·subst h0;rw[dg_zero];simp
 ·rw[decide_eq_false h0]
  have:(dg a).length≠0:=by rw[Ne,dg_len_zero];exact h0
  simp only[beq_eq_false_iff_ne]
  omega
theorem short2_ev {a:Nat} (h1:(dg a).length<268435456):Ev (fun k=>nat_short.f k (dg a)) (dg a):=by
 refine Ev.cast (short_ev (lm_dg a) (by omega)) ?_
 rw[lv_dg,Int.toNat_natCast]
theorem ndivmod1_ev {a b:Nat} (hb0:b≠0) (hb1:b<4294967296) (hla:(dg a).length<268435456):Ev (fun k=>nat_DivMod.f k (dg a) (dg b)) (dg (a / b),dg (a % b),0):=by
 have hb:dg b=[(b:Int)]:=dg_small hb0 hb1
 have hbl:(dg b).length=1:=by rw[hb];rfl
 simp only[nat_DivMod.f]
 refine Ev.bind (short2_ev hla) ?_
 refine Ev.bind (short2_ev (by omega)) ?_
 rw[hbl]
 simp only[if_neg (show ¬((1:Nat):Int)=0 by omega)]
 refine Ev.bind (ncmp_ev hla (by omega)) ?_
 by_cases h:a<b
 ·have hc:cmpZ (a:Int) (b:Int)<0:=by unfold cmpZ;rw[if_pos (by omega)];omega
  simp only[if_pos hc]
  refine Ev.bind (trim2_ev hla) ?_
  rw[Nat.div_eq_of_lt h,Nat.mod_eq_of_lt h,dg_zero]
  exact Ev.some _
 ·have hc:¬cmpZ (a:Int) (b:Int)<0:=by unfold cmpZ;rw[if_neg (by omega)];split<;>omega
  simp only[if_neg hc,if_pos (show((1:Nat):Int)=1 by omega),if_pos (show(0:Int)<((1:Nat):Int) by omega)]
  have hr:rd (dg b) 0=(b:Int):=by rw[hb];rfl
  rw[hr]
  refine Ev.bind (digit_ev (lm_dg a) (by omega) (by omega) (by omega)) ?_
  have hm:lv (dg a) % (b:Int)=((a % b:Nat):Int):=by rw[lv_dg,Int.natCast_emod]
  have hd:(lv (dg a) / (b:Int)).toNat=a / b:=by rw[lv_dg,←Int.natCast_ediv,Int.toNat_natCast]
  have hmb:a % b<b:=Nat.mod_lt _ (by omega)
  rw[hm,hd]
  clear hm hd hr
  simp only[u64w (x:=((a % b:Nat):Int)) (by omega) (by omega)]
  refine Ev.bind (of_ev (by omega)) ?_
  exact Ev.some _
def sg (neg:Bool) (n:Nat):Int:=if neg=true then -(n:Int) else(n:Int)
theorem sg_abs (neg:Bool) (n:Nat):(sg neg n).natAbs=n:=by unfold sg;cases neg<;>simp
theorem L1 {W V p v1 v2 Vl Wl u2 top q r:Int} (hp:0<p) (hV:V=Vl+p*v2+4294967296*(p*v1)) (hW:W=Wl+p*u2+4294967296*(p*top)) (hv2:0≤v2) (hVl:0≤Vl) (hu2:u2<4294967296) (hWl:Wl<p)
 (hq:q*v1+r=top) (hr:r<v1) (hq0:0≤q):W<(q+1)*V:=by
 have h1:p*(u2+1)≤p*4294967296:=Int.mul_le_mul_of_nonneg_left (by omega) (by omega)
 have h2:p*(top+1)≤p*((q+1)*v1):=Int.mul_le_mul_of_nonneg_left (by grind) (by omega)
 have h3:0≤(q+1)*Vl:=Int.mul_nonneg (by omega) hVl
 have h4:0≤(q+1)*(p*v2):=Int.mul_nonneg (by omega) (Int.mul_nonneg (by omega) hv2)
 subst hV hW
 grind
theorem L3 {W V p v1 v2 Vl Wl u2 top q r:Int} (hp:0<p) (hV:V=Vl+p*v2+4294967296*(p*v1)) (hW:W=Wl+p*u2+4294967296*(p*top)) (hVl:0≤Vl) (hWl:Wl<p)
 (hq:q*v1+r=top) (ht:r*4294967296+u2<q*v2) (hq0:0≤q):W<q*V:=by
 have h1:p*(r*4294967296+u2+1)≤p*(q*v2):=Int.mul_le_mul_of_nonneg_left (by omega) (by omega)
 have h3:0≤q*Vl:=Int.mul_nonneg (by omega) hVl
 subst hV hW hq
 grind
theorem L4 {W V p v1 v2 Vl Wl u2 top q r:Int} (hp:0<p) (hV:V=Vl+p*v2+4294967296*(p*v1)) (hW:W=Wl+p*u2+4294967296*(p*top)) (hVl:0≤Vl) (hVl1:Vl<p) (hv2:0≤v2) (hv1:1≤v1) (hWl:0≤Wl)
 (hq:q*v1+r=top) (ht:q*v2≤r*4294967296+u2) (hq0:0≤q) (hq1:q<4294967296):(q-1)*V≤W:=by
 have h1:p*(q*v2)≤p*(r*4294967296+u2):=Int.mul_le_mul_of_nonneg_left (by omega) (by omega)
 have h2:q*Vl≤4294967296*p:=by
  have a:q*Vl≤q*p:=Int.mul_le_mul_of_nonneg_left (by omega) hq0
  have b:q*p≤4294967296*p:=Int.mul_le_mul_of_nonneg_right (by omega) (by omega)
  omega
 have h3:p*1≤p*v1:=Int.mul_le_mul_of_nonneg_left hv1 (by omega)
 have h4:0≤p*v2:=Int.mul_nonneg (by omega) hv2
 subst hV hW hq
 grind
theorem L5a {W V p v1 v2 Vl Wl u2 u1 u0:Int} (hp:0<p) (hV:V=Vl+p*v2+4294967296*(p*v1)) (hW:W=Wl+p*u2+4294967296*(p*(u0*4294967296+u1))) (hVl1:Vl<p) (hv2:v2<4294967296) (hWl:0≤Wl) (hu2:0≤u2) (hu1:0≤u1)
 (hWV:W<4294967296*V):u0≤v1:=by
 have h1:p*(v2+1)≤p*4294967296:=Int.mul_le_mul_of_nonneg_left (by omega) (by omega)
 have h2:0≤p*u2:=Int.mul_nonneg (by omega) hu2
 have h3:0≤p*u1:=Int.mul_nonneg (by omega) hu1
 have h5:p*u0<p*(v1+1):=by subst hV hW;grind
 have:=Int.lt_of_mul_lt_mul_left h5 (by omega)
 omega
theorem L5 {W V p v1 v2 Vl Wl u2 u1 u0 q r:Int} (hp:0<p) (hV:V=Vl+p*v2+4294967296*(p*v1)) (hW:W=Wl+p*u2+4294967296*(p*(u0*4294967296+u1))) (hVl1:Vl<p) (hv2:v2<4294967296) (hWl:0≤Wl) (hu2:0≤u2) (hu1:0≤u1) (hu1':u1<4294967296)
 (hWV:W<4294967296*V) (hv1:1≤v1) (hq:q*v1+r=u0*4294967296+u1) (hr:4294967296≤r) (hq0:0≤q):q<4294967296∧q*V≤W:=by
 have h0:=L5a hp hV hW hVl1 hv2 hWl hu2 hu1 hWV
 have hqv:q*v1<4294967296*v1:=by omega
 have hq1:q<4294967296:=Int.lt_of_mul_lt_mul_right hqv (by omega)
 refine⟨hq1,?_⟩
 have h1:p*(v2+1)≤p*4294967296:=Int.mul_le_mul_of_nonneg_left (by omega) (by omega)
 have h2:0≤p*u2:=Int.mul_nonneg (by omega) hu2
 have h4:V≤p*(4294967296*(v1+1)):=by subst hV;grind
 have h5:q*V≤q*(p*(4294967296*(v1+1))):=Int.mul_le_mul_of_nonneg_left h4 hq0
 have h6:p*(q*v1+q)≤p*(u0*4294967296+u1):=Int.mul_le_mul_of_nonneg_left (by omega) (by omega)
 subst hW
 grind
def Rz {α:Type} (P:α→Prop) (g:Nat→Option α):Prop:=∃r,Ev g r∧P r
theorem Rz.succ {α:Type} {P:α→Prop} {g:Nat→Option α} (h:Rz P (fun k=>g (k+1))):Rz P g:=by
 obtain⟨r,h1,h2⟩:=h
 exact⟨r,Ev.succ h1,h2⟩
theorem Rz.bind {α β:Type} {P:β→Prop} {g:Nat→Option α} {f:Nat→α→Option β} {a:α} (hg:Ev g a) (hf:Rz P (fun k=>f k a)):Rz P (fun k=>(g k).bind (f k)):=by
 obtain⟨r,h1,h2⟩:=hf
 exact⟨r,Ev.bind hg h1,h2⟩
theorem Rz.some {α:Type} {P:α→Prop} {r:α} (h:P r):Rz P (fun _=>Option.some r):=⟨r,Ev.some r,h⟩
theorem mulc {q v c:Int} (hq0:0≤q) (hq1:q<4294967296) (hv0:0≤v) (hv1:v<4294967296) (hc0:0≤c) (hc1:c<4294967296):
 IntKind.u64.wrap (IntKind.u64.wrap (q*IntKind.u64.wrap v)+c)=q*v+c∧0≤q*v+c∧q*v+c<18446744073709551616:=by
 have h1:q*v≤4294967295*4294967295:=Int.mul_le_mul (by omega) (by omega) hv0 (by omega)
 have h0:0≤q*v:=Int.mul_nonneg hq0 hv0
 rw[u64w (x:=v) hv0 (by omega)]
 generalize q*v=s at*
 rw[u64w (x:=s) h0 (by omega),u64w (by omega) (by omega)]
 omega
theorem subl {u s b:Int} (hu0:0≤u) (hu1:u<4294967296) (hb0:0≤b) (hb1:b≤1):
 ∃y b':Int,IntKind.u64.wrap (IntKind.u64.wrap (IntKind.u64.wrap u-s % 4294967296)-b) % 4294967296=y∧IntKind.u64.wrap (IntKind.u64.wrap (IntKind.u64.wrap u-s % 4294967296)-b) / 9223372036854775808=b'∧
  0≤y∧y<4294967296∧0≤b'∧b'≤1∧y=u-s % 4294967296-b+4294967296*b':=by
 refine⟨_,_,rfl,rfl,?_⟩
 rw[u64m,u64m,u64m]
 omega
theorem topl {u c b:Int} (hu0:0≤u) (hu1:u<4294967296) (hc0:0≤c) (hc1:c<4294967296) (hb0:0≤b) (hb1:b≤1):
 ∃y b':Int,IntKind.u64.wrap (IntKind.u64.wrap (IntKind.u64.wrap u-c)-b) % 4294967296=y∧IntKind.u64.wrap (IntKind.u64.wrap (IntKind.u64.wrap u-c)-b) / 9223372036854775808=b'∧
  0≤y∧y<4294967296∧(b'=0∨b'=1)∧y=u-c-b+4294967296*b':=by
 refine⟨_,_,rfl,rfl,?_⟩
 rw[u64m,u64m,u64m]
 omega
theorem step_sub {P:Int×List Int→Prop} {q u0 W:Int} {v:List Int} (hq0:0≤q) (hq1:q<4294967296) (hv:Lm v) (hvl:v.length<536870912)
 (hfin:∀(o:List Int) (bo ca:Int),o.length=v.length+1→Lm o→0≤bo→bo≤1→0≤ca→ca<4294967296→rd o (v.length:Int)=u0→Aside0 (lv o-(bp v.length:Int)*(ca+bo)=W-q*lv v)→Rz P (fun k=>nat_step.l1 k o v (v.length:Int) q bo ca (v.length:Int) (v.length:Int))):
 ∀(d i:Nat) (o:List Int) (bo ca:Int),i+d=v.length→o.length=v.length+1→Lm o→0≤bo→bo≤1→0≤ca→ca<4294967296→rd o (v.length:Int)=u0→Aside0 (lv o-(bp i:Int)*(ca+bo)=W-q*lv (v.take i))→Rz P (fun k=>nat_step.l1 k o v (v.length:Int) q bo ca (v.length:Int) (i:Int)):=by
 intro d
 induction d with
 |zero=>
  intro i o bo ca hi hol ho hb0 hb1 hc0 hc1 hu he
  have hi:i=v.length:=by omega
  subst hi
  refine hfin o bo ca hol ho hb0 hb1 hc0 hc1 hu ⟨?_⟩
  rw[he.out,List.take_of_length_le (Nat.le_refl _)]
 |succ d ih=>
  intro i o bo ca hi hol ho hb0 hb1 hc0 hc1 hu he
  have hiv:i<v.length:=by omega
  have rv:=rd_lm hv (i:Int)
  have ro:=rd_lm ho (i:Int)
  obtain⟨e1,s0,s1⟩:=mulc hq0 hq1 rv.1 rv.2 hc0 hc1
  obtain⟨y,b',e2,e3,y0,y1,b0,b1,ey⟩:=subl (s:=q*rd v (i:Int)+ca) ro.1 ro.2 hb0 hb1
  have hd:=div_bound s0 s1
  have hs:=split_div (q*rd v (i:Int)+ca)
  refine Rz.succ ?_
  simp only[nat_step.l1,if_pos (show(i:Int)<(v.length:Int) by omega),if_pos (show(0:Int)≤(i:Int) by omega),if_pos (show(i:Int)<(o.length:Int) by omega),e1,e2,e3,Int.toNat_natCast,wn (show(i:Int)+1=((i+1:Nat):Int) by omega) (by omega)]
  refine ih (i+1) _ _ _ (by omega) (by rw[List.length_set];exact hol) (lm_set ho y0 y1) b0 b1 hd.2.2.1 hd.2.2.2 (by rw[rd_set_ne _ (by omega)];exact hu) ⟨?_⟩
  rw[lv_set _ (by omega),lv_take_succ hiv,bp_succ,Int.natCast_mul]
  have he:=he.out
  clear ih hfin e1 e2 e3 hd s0 s1
  generalize (q*rd v (i:Int)+ca) / 4294967296=c2 at*
  generalize hsm:(q*rd v (i:Int)+ca) % 4294967296=sm at*
  generalize (bp i:Int)=p at*
  generalize rd v (i:Int)=vi at*
  generalize rd o (i:Int)=ui at*
  generalize lv o=lo at*
  generalize lv (v.take i)=lt at*
  subst ey
  show lo+p*(ui-sm-bo+4294967296*b'-ui)-4294967296*p*(c2+b')=W-q*(lt+p*vi)
  have h2:p*(sm+4294967296*c2)=p*(q*vi+ca):=by rw[hs]
  grind
theorem addl {u v c:Int} (hu0:0≤u) (hu1:u<4294967296) (hv0:0≤v) (hv1:v<4294967296) (hc0:0≤c) (hc1:c≤1):
 IntKind.u64.wrap (IntKind.u64.wrap (IntKind.u64.wrap u+IntKind.u64.wrap v)+c)=u+v+c:=by
 rw[u64m,u64m,u64m,u64m]
 omega
theorem step_add {P:Int×List Int→Prop} {q u0 W:Int} {v:List Int} (hv:Lm v) (hvl:v.length<536870912)
 (hfin:∀(o:List Int) (ca:Int),o.length=v.length+1→Lm o→0≤ca→ca≤1→rd o (v.length:Int)=u0→Aside0 (lv o+(bp v.length:Int)*ca=W+lv v)→Rz P (fun k=>nat_step.l2 k o v (v.length:Int) q ca (v.length:Int) (v.length:Int))):
 ∀(d i:Nat) (o:List Int) (ca:Int),i+d=v.length→o.length=v.length+1→Lm o→0≤ca→ca≤1→rd o (v.length:Int)=u0→Aside0 (lv o+(bp i:Int)*ca=W+lv (v.take i))→Rz P (fun k=>nat_step.l2 k o v (v.length:Int) q ca (v.length:Int) (i:Int)):=by
 intro d
 induction d with
 |zero=>
  intro i o ca hi hol ho hc0 hc1 hu he
  have hi:i=v.length:=by omega
  subst hi
  refine hfin o ca hol ho hc0 hc1 hu ⟨?_⟩
  rw[he.out,List.take_of_length_le (Nat.le_refl _)]
 |succ d ih=>
  intro i o ca hi hol ho hc0 hc1 hu he
  have hiv:i<v.length:=by omega
  have rv:=rd_lm hv (i:Int)
  have ro:=rd_lm ho (i:Int)
  have e1:=addl ro.1 ro.2 rv.1 rv.2 hc0 hc1
  have hs:=split_div (rd o (i:Int)+rd v (i:Int)+ca)
  have hd:0≤(rd o (i:Int)+rd v (i:Int)+ca) % 4294967296∧(rd o (i:Int)+rd v (i:Int)+ca) % 4294967296<4294967296∧0≤(rd o (i:Int)+rd v (i:Int)+ca) / 4294967296∧(rd o (i:Int)+rd v (i:Int)+ca) / 4294967296≤1:=by clear e1;omega
  refine Rz.succ ?_
  simp only[nat_step.l2,if_pos (show(i:Int)<(v.length:Int) by clear e1;omega),if_pos (show(0:Int)≤(i:Int) by clear e1;omega),if_pos (show(i:Int)<(o.length:Int) by clear e1;omega),e1,Int.toNat_natCast,wn (show(i:Int)+1=((i+1:Nat):Int) by clear e1;omega) (by clear e1;omega)]
  clear e1
  refine ih (i+1) _ _ (by omega) (by rw[List.length_set];exact hol) (lm_set ho hd.1 hd.2.1) hd.2.2.1 hd.2.2.2 (by rw[rd_set_ne _ (by omega)];exact hu) ⟨?_⟩
  rw[lv_set _ (by omega),lv_take_succ hiv,bp_succ,Int.natCast_mul]
  have he:=he.out
  clear ih hfin hd
  generalize (rd o (i:Int)+rd v (i:Int)+ca) / 4294967296=c2 at*
  generalize (rd o (i:Int)+rd v (i:Int)+ca) % 4294967296=sm at*
  generalize (bp i:Int)=p at*
  generalize rd v (i:Int)=vi at*
  generalize rd o (i:Int)=ui at*
  generalize lv o=lo at*
  generalize lv (v.take i)=lt at*
  show lo+p*(sm-ui)+4294967296*p*c2=W+(lt+p*vi)
  have h2:p*(sm+4294967296*c2)=p*(ui+vi+ca):=by rw[hs]
  grind
def Stp (n:Nat) (W V:Int) (a:Int×List Int):Prop:=a.1=W / V∧a.2.length=n+1∧Lm a.2∧lv a.2=W % V
theorem quo_of {W V q:Int} (h0:q*V≤W) (h1:W<(q+1)*V):W / V=q∧W % V=W-q*V:=by
 have hV:0<V:=by
  have e:(q+1)*V=q*V+V:=by grind
  omega
 have e:(q+1)*V=q*V+V:=by grind
 have:=Int.ediv_emod_unique (a:=W) (b:=V) (r:=W-q*V) (q:=q) hV
 have h:=this.mpr ⟨by grind,by omega,by omega⟩
 exact h
theorem step_j1 {x v:List Int} {q:Int} (hx:Lm x) (hv:Lm v) (hxl:x.length=v.length+1) (hvl:v.length<536870912) (hq0:0≤q) (hq1:q<4294967296) (hW:lv x<4294967296*lv v) (hhi:lv x<(q+1)*lv v) (hlo:(q-1)*lv v≤lv x):
 Rz (Stp v.length (lv x) (lv v)) (fun k=>nat_step.j1 k x v (v.length:Int) q):=by
 have hV0:=lv_nonneg hv
 have hV1:=lv_lt hv
 have hx0:=lv_nonneg hx
 refine Rz.succ ?_
 simp only[nat_step.j1]
 refine step_sub (u0:=rd x (v.length:Int)) (W:=lv x) hq0 hq1 hv hvl (fun o bo ca hol ho hb0 hb1 hc0 hc1 hu he=>?_) v.length 0 x 0 0 (by omega) hxl hx (by omega) (by omega) (by omega) (by omega) rfl ⟨by simp [lv_nil]⟩
 have ro:=rd_lm ho (v.length:Int)
 obtain⟨y,s,e2,e3,y0,y1,hs,ey⟩:=topl ro.1 ro.2 hc0 hc1 hb0 hb1
 have hlen:(v.length:Int)<(o.length:Int):=by clear e2 e3;omega
 refine Rz.succ ?_
 simp only[nat_step.l1,if_neg (show ¬(v.length:Int)<(v.length:Int) from Int.lt_irrefl _),if_pos (show(0:Int)≤(v.length:Int) from Int.natCast_nonneg _),if_pos hlen,e2,e3,Int.toNat_natCast,Option.bind_some]
 clear e2 e3
 have hval:lv (o.set v.length y)=lv x-q*lv v+(4294967296*bp v.length:Nat)*s:=by
  rw[lv_set _ (by omega)]
  have he:=he.out
  rw[Int.natCast_mul]
  generalize (bp v.length:Int)=p at*
  generalize lv o=lo at*
  generalize rd o (v.length:Int)=ui at*
  subst ey
  show lo+p*(ui-ca-bo+4294967296*s-ui)=lv x-q*lv v+4294967296*p*s
  grind
 have hlm:Lm (o.set v.length y):=lm_set ho y0 y1
 have hln:(o.set v.length y).length=v.length+1:=by rw[List.length_set];exact hol
 have h0:=lv_nonneg hlm
 have h1:=lv_lt hlm
 rw[hln,bp_succ] at h1
 rcases hs with e|e
 ·subst e
  simp only[if_true]
  refine Rz.some ⟨?_,hln,hlm,?_⟩
  ·show q % 4294967296=_
   rw[(quo_of (W:=lv x) (V:=lv v) (q:=q) (by rw[hval] at h0;omega) hhi).1]
   exact Int.emod_eq_of_lt hq0 hq1
  ·show lv (o.set v.length y)=_
   rw[(quo_of (W:=lv x) (V:=lv v) (q:=q) (by rw[hval] at h0;omega) hhi).2,hval]
   omega
 ·subst e
  simp only[if_neg (show ¬(1:Int)=0 by decide)]
  have hlt:lv x<q*lv v:=by rw[hval] at h1;omega
  have e1:(q-1+1)*lv v=q*lv v:=by rw[show q-1+1=q by omega]
  obtain⟨hq,hr⟩:=quo_of (W:=lv x) (V:=lv v) (q:=q-1) hlo (by rw[e1];exact hlt)
  refine step_add (u0:=rd (o.set v.length y) (v.length:Int)) (W:=lv (o.set v.length y)) hv hvl (fun o2 ca2 hol2 ho2 hc20 hc21 hu2 he2=>?_) v.length 0 _ 0 (by omega) hln hlm (by omega) (by omega) rfl ⟨by simp [lv_nil]⟩
  have ro2:=rd_lm ho2 (v.length:Int)
  have hlen2:(v.length:Int)<(o2.length:Int):=by omega
  have hq1':0≤q-1:=by
   have h2:0<q*lv v:=by omega
   by_cases g:0<q
   ·omega
   ·have:q=0:=by omega
    rw[this,Int.zero_mul] at h2
    omega
  refine Rz.succ ?_
  simp only[nat_step.l2,if_neg (show ¬(v.length:Int)<(v.length:Int) from Int.lt_irrefl _),if_pos (show(0:Int)≤(v.length:Int) from Int.natCast_nonneg _),if_pos hlen2,Int.toNat_natCast,u64w (x:=q-1) hq1' (by omega)]
  have y2:0≤(rd o2 (v.length:Int)+ca2 % 4294967296) % 4294967296∧(rd o2 (v.length:Int)+ca2 % 4294967296) % 4294967296<4294967296:=by omega
  have hlm2:Lm (o2.set v.length ((rd o2 (v.length:Int)+ca2 % 4294967296) % 4294967296)):=lm_set ho2 y2.1 y2.2
  obtain⟨t,ht,ht2⟩:∃t:Int,(t=0∨t=1)∧(rd o2 (v.length:Int)+ca2 % 4294967296) % 4294967296=rd o2 (v.length:Int)+ca2-4294967296*t:=by
   by_cases g:rd o2 (v.length:Int)+ca2<4294967296
   ·exact⟨0, .inl rfl,by omega⟩
   ·exact⟨1, .inr rfl,by omega⟩
  have hval2:lv (o2.set v.length ((rd o2 (v.length:Int)+ca2 % 4294967296) % 4294967296))=lv x-(q-1)*lv v+(4294967296*bp v.length:Nat)*(1-t):=by
   rw[lv_set _ (by omega),ht2]
   have he2:=he2.out
   rw[hval] at he2
   rw[Int.natCast_mul] at he2 ⊢
   generalize (bp v.length:Int)=p at*
   generalize lv o2=lo at*
   generalize rd o2 (v.length:Int)=ui at*
   show lo+p*(ui+ca2-4294967296*t-ui)=lv x-(q-1)*lv v+4294967296*p*(1-t)
   have:lo+p*ca2=lv x-q*lv v+4294967296*p*1+lv v:=he2
   grind
  have h2:=lv_lt hlm2
  rw[show(o2.set v.length ((rd o2 (v.length:Int)+ca2 % 4294967296) % 4294967296)).length=v.length+1 by rw[List.length_set];exact hol2,bp_succ] at h2
  have ht1:t=1:=by
   rcases ht with g|g
   ·exfalso
    rw[hval2,g] at h2
    omega
   ·exact g
  rw[ht1] at hval2
  refine Rz.some ⟨?_,by rw[List.length_set];exact hol2,hlm2,?_⟩
  ·show(q-1) % 4294967296=_
   rw[hq]
   exact Int.emod_eq_of_lt hq1' (by omega)
  ·show lv (o2.set v.length ((rd o2 (v.length:Int)+ca2 % 4294967296) % 4294967296))=_
   rw[hr,hval2]
   omega
theorem step_est {x v:List Int} {Wl u2 u1 u0 Vl v2 v1 p:Int} {n:Nat} (hx:Lm x) (hv:Lm v) (hxl:x.length=v.length+1) (hvl:v.length<536870912) (hn:v.length=n+2)
 (hp:0<p) (hV:lv v=Vl+p*v2+4294967296*(p*v1)) (hWe:lv x=Wl+p*u2+4294967296*(p*(u0*4294967296+u1))) (hVl:0≤Vl) (hVl1:Vl<p) (hWl:0≤Wl) (hWl1:Wl<p)
 (r1:rd v ((n+1:Nat):Int)=v1) (r2:rd v (n:Int)=v2) (ru2:rd x (n:Int)=u2) (hv1:2147483648≤v1) (hv1':v1<4294967296) (hv2:0≤v2) (hv2':v2<4294967296) (hu2:0≤u2) (hu2':u2<4294967296) (hu1:0≤u1) (hu1':u1<4294967296)
 (hW:lv x<4294967296*lv v):
 ∀(d:Nat) (q r:Int),4294967296≤r+d*2147483648→q*v1+r=u0*4294967296+u1→0≤r→r<8589934592→0≤q→q<18446744073709551616→lv x<(q+1)*lv v→
 Rz (Stp v.length (lv x) (lv v)) (fun k=>nat_step.l0 k x v (v.length:Int) q r):=by
 have hV0:0≤lv v:=lv_nonneg hv
 have done:∀(q r:Int),4294967296≤r→q*v1+r=u0*4294967296+u1→0≤q→lv x<(q+1)*lv v→Rz (Stp v.length (lv x) (lv v)) (fun k=>nat_step.l0 k x v (v.length:Int) q r):=by
  intro q r hr hq hq0 hhi
  obtain⟨h1,h2⟩:=L5 hp hV hWe hVl1 hv2' hWl hu2 hu1 hu1' hW (by omega) hq hr hq0
  refine Rz.succ ?_
  simp only[nat_step.l0,if_neg (show ¬r<4294967296 by omega)]
  refine step_j1 hx hv hxl hvl hq0 h1 hW hhi ?_
  have:(q-1)*lv v=q*lv v-lv v:=by grind
  omega
 intro d
 induction d with
 |zero=>
  intro q r hd hq hr0 hr1 hq0 hqb hhi
  exact done q r (by omega) hq hq0 hhi
 |succ d ih=>
  intro q r hd hq hr0 hr1 hq0 hqb hhi
  by_cases hr:4294967296≤r
  ·exact done q r hr hq hq0 hhi
  have nxt:∀g:lv x<q*lv v,Rz (Stp v.length (lv x) (lv v)) (fun k=>nat_step.l0 k x v (v.length:Int) (q-1) (r+v1)):=by
   intro g
   have hq1:0≤q-1:=by
    by_cases g2:0<q
    ·omega
    ·have e:q=0:=by omega
     rw[e,Int.zero_mul] at g
     have:=lv_nonneg hx
     omega
   refine ih (q-1) (r+v1) (by omega) ?_ (by omega) (by omega) hq1 (by omega) (by rw[show q-1+1=q by omega];exact g)
   have:(q-1)*v1=q*v1-v1:=by grind
   omega
  refine Rz.succ ?_
  have i1:wrap64 ((v.length:Int)-1)=((n+1:Nat):Int):=wn (by omega) (by omega)
  have i2:wrap64 ((v.length:Int)-2)=(n:Int):=wn (by omega) (by omega)
  have c1:(0:Int)≤((n+1:Nat):Int):=by clear i1 i2;omega
  have c2:((n+1:Nat):Int)<(v.length:Int):=by clear i1 i2;omega
  have c3:(0:Int)≤(n:Int):=by clear i1 i2;omega
  have c4:(n:Int)<(v.length:Int):=by clear i1 i2;omega
  have c5:(n:Int)<(x.length:Int):=by clear i1 i2;omega
  have c6:r<4294967296:=by clear i1 i2;omega
  by_cases hqB:q≥4294967296
  ·have g:lv x<q*lv v:=by
    have:=Int.mul_le_mul_of_nonneg_right (a:=4294967296) (b:=q) (c:=lv v) hqB hV0
    clear i1 i2
    omega
   simp only[nat_step.l0,if_pos c6,if_pos hqB,i1,if_pos c1,if_pos c2,r1,u64w (x:=v1) (by clear i1 i2;omega) (by clear i1 i2;omega),u64w (x:=q-1) (by clear i1 i2;omega) (by clear i1 i2;omega),u64w (x:=r+v1) (by clear i1 i2;omega) (by clear i1 i2;omega)]
   exact nxt g
  ·have hqs:q<4294967296:=by clear i1 i2;omega
   have hm0:0≤q*v2:=Int.mul_nonneg hq0 hv2
   have hm1:q*v2≤4294967295*4294967295:=Int.mul_le_mul (by clear i1 i2;omega) (by clear i1 i2;omega) hv2 (by decide)
   have ej:=join32 (x:=r) (y:=u2) hr0 c6 hu2 hu2'
   by_cases ht:q*v2>r*4294967296+u2
   ·have g:lv x<q*lv v:=L3 hp hV hWe hVl hWl1 hq (by clear i1 i2 ej;omega) hq0
    have hq1:0≤q-1:=by
     by_cases g2:0<q
     ·clear i1 i2 ej;omega
     ·have e:q=0:=by clear i1 i2 ej;omega
      rw[e,Int.zero_mul] at g
      have:=lv_nonneg hx
      clear i1 i2 ej
      omega
    have z1:=u64w (x:=v2) hv2 (by clear i1 i2 ej;omega)
    have z2:=u64w (x:=q*v2) hm0 (by clear i1 i2 ej z1;omega)
    simp only[nat_step.l0,if_pos c6,if_neg hqB,i1,i2,if_pos c1,if_pos c2,if_pos c3,if_pos c4,if_pos c5,r1,r2,ru2,z1,z2,ej,if_pos ht,u64w (x:=v1) (by clear i1 i2 ej z1 z2;omega) (by clear i1 i2 ej z1 z2;omega),u64w (x:=q-1) hq1 (by clear i1 i2 ej z1 z2;omega),u64w (x:=r+v1) (by clear i1 i2 ej z1 z2;omega) (by clear i1 i2 ej z1 z2;omega)]
    exact nxt g
   ·have z1:=u64w (x:=v2) hv2 (by clear i1 i2 ej;omega)
    have z2:=u64w (x:=q*v2) hm0 (by clear i1 i2 ej z1;omega)
    simp only[nat_step.l0,if_pos c6,if_neg hqB,i2,if_pos c3,if_pos c4,if_pos c5,r2,ru2,z1,z2,ej,if_neg ht]
    clear z1 z2 i1 i2 ej
    exact step_j1 hx hv hxl hvl hq0 hqs hW hhi (L4 hp hV hWe hVl hVl1 hv2 (by omega) hWl hq (by omega) hq0 hqs)
theorem lv_two {l:List Int} {n:Nat} (h:n+2≤l.length):lv (l.take (n+2))=lv (l.take n)+(bp n:Int)*rd l (n:Int)+4294967296*((bp n:Int)*rd l ((n+1:Nat):Int)):=by
 rw[lv_take_succ (i:=n+1) (by omega),lv_take_succ (i:=n) (by omega),bp_succ,Int.natCast_mul]
 show _+4294967296*(bp n:Int)*_=_
 rw[Int.mul_assoc]
theorem step_ev {x v:List Int} (hx:Lm x) (hv:Lm v) (hxl:x.length=v.length+1) (hvl:v.length<536870912) (hk:2≤v.length) (ht:2147483648≤rd v ((v.length-1:Nat):Int)) (hW:lv x<4294967296*lv v):
 Rz (Stp v.length (lv x) (lv v)) (fun k=>nat_step.f k x v):=by
 obtain⟨n,hn⟩:∃n,v.length=n+2:=⟨v.length-2,by omega⟩
 have hb:=bp_pos n
 have eV:=lv_two (l:=v) (n:=n) (by omega)
 rw[show n+2=v.length from hn.symm,List.take_of_length_le (Nat.le_refl _)] at eV
 have eX:=lv_take_succ (l:=x) (i:=n+2) (by omega)
 rw[show n+2+1=x.length by omega,List.take_of_length_le (Nat.le_refl _),lv_two (l:=x) (n:=n) (by omega),bp_succ,bp_succ,Int.natCast_mul,Int.natCast_mul] at eX
 have tv:=take_bound hv n
 have tx:=take_bound hx n
 have b1:=rd_lm hv ((n+1:Nat):Int)
 have b2:=rd_lm hv (n:Int)
 have bu0:=rd_lm hx ((n+2:Nat):Int)
 have bu1:=rd_lm hx ((n+1:Nat):Int)
 have bu2:=rd_lm hx (n:Int)
 rw[show v.length-1=n+1 by omega] at ht
 have eX':lv x=lv (x.take n)+(bp n:Int)*rd x (n:Int)+4294967296*((bp n:Int)*(rd x ((n+2:Nat):Int)*4294967296+rd x ((n+1:Nat):Int))):=by
  rw[eX]
  generalize (bp n:Int)=p
  show _+4294967296*(4294967296*p)*_=_
  grind
 have top0:0≤rd x ((n+2:Nat):Int)*4294967296+rd x ((n+1:Nat):Int):=by omega
 have top1:rd x ((n+2:Nat):Int)*4294967296+rd x ((n+1:Nat):Int)<18446744073709551616:=by omega
 have hmod:=Int.emod_lt_of_pos (rd x ((n+2:Nat):Int)*4294967296+rd x ((n+1:Nat):Int)) (show 0<rd v ((n+1:Nat):Int) by omega)
 have hmod0:=Int.emod_nonneg (rd x ((n+2:Nat):Int)*4294967296+rd x ((n+1:Nat):Int)) (show rd v ((n+1:Nat):Int)≠0 by omega)
 have hdm:=Int.mul_ediv_add_emod (rd x ((n+2:Nat):Int)*4294967296+rd x ((n+1:Nat):Int)) (rd v ((n+1:Nat):Int))
 have hdiv0:0≤(rd x ((n+2:Nat):Int)*4294967296+rd x ((n+1:Nat):Int)) / rd v ((n+1:Nat):Int):=Int.ediv_nonneg top0 (by omega)
 have hdiv1:(rd x ((n+2:Nat):Int)*4294967296+rd x ((n+1:Nat):Int)) / rd v ((n+1:Nat):Int)≤rd x ((n+2:Nat):Int)*4294967296+rd x ((n+1:Nat):Int):=Int.ediv_le_self _ top0
 have ej:=join32 bu0.1 bu0.2 bu1.1 bu1.2
 have z0:=u64w (x:=rd v ((n+1:Nat):Int)) b1.1 (by clear ej;omega)
 have i1:wrap64 ((v.length:Int)-1)=((n+1:Nat):Int):=wn (by clear ej z0;omega) (by clear ej z0;omega)
 have c1:(0:Int)≤((n+1:Nat):Int):=by clear i1 ej z0;omega
 have c2:((n+1:Nat):Int)<(v.length:Int):=by clear i1 ej z0;omega
 have c3:(0:Int)≤(v.length:Int):=by clear i1 ej z0;omega
 have c4:((n+1:Nat):Int)<(x.length:Int):=by clear i1 ej z0;omega
 have c5:(v.length:Int)<(x.length:Int):=by clear i1 ej z0;omega
 have c6:¬rd v ((n+1:Nat):Int)=0:=by clear i1 ej z0;omega
 have e0:(v.length:Int)=((n+2:Nat):Int):=by clear i1 ej z0;omega
 simp only[nat_step.f,if_pos c3,if_pos c5,i1,if_pos c1,if_pos c4,if_pos c2,z0,if_neg c6]
 rw[show rd x (v.length:Int)=rd x ((n+2:Nat):Int) by rw[e0]]
 have z3:=u64w (x:=rd x ((n+2:Nat):Int)) bu0.1 (by clear i1 ej z0;omega)
 simp only[z3,ej,Int.tdiv_eq_ediv_of_nonneg top0,Int.tmod_eq_emod_of_nonneg top0,u64w hdiv0 (Int.lt_of_le_of_lt hdiv1 top1)]
 clear i1 ej z0 z3
 refine step_est hx hv hxl hvl hn (by omega) eV eX' tv.1 tv.2 tx.1 tx.2 rfl rfl rfl ht b1.2 b2.1 b2.2 bu2.1 bu2.2 bu1.1 bu1.2 hW 2 _ _ (by omega) ?_ hmod0 (by omega) hdiv0 (Int.lt_of_le_of_lt hdiv1 top1) ?_
 ·rw[Int.mul_comm];exact hdm
 ·exact L1 (by omega) eV eX' b2.1 tv.1 bu2.2 tx.2 (by rw[Int.mul_comm];exact hdm) hmod hdiv0
theorem Rz.bind2 {α β:Type} {P:α→Prop} {Q:β→Prop} {g:Nat→Option α} {f:Nat→α→Option β} (hg:Rz P g) (hf:∀a,P a→Rz Q (fun k=>f k a)):Rz Q (fun k=>(g k).bind (f k)):=by
 obtain⟨a,h1,h2⟩:=hg
 exact Rz.bind h1 (hf a h2)
theorem Rz.of {α:Type} {P:α→Prop} {g:Nat→Option α} {a:α} (h:Ev g a) (hp:P a):Rz P g:=⟨a,h,hp⟩
theorem Rz.mono {α:Type} {P Q:α→Prop} {g:Nat→Option α} (h:Rz P g) (hq:∀a,P a→Q a):Rz Q g:=by
 obtain⟨a,h1,h2⟩:=h
 exact⟨a,h1,hq a h2⟩
structure Fd (p m:Nat):Prop where
 two:2≤p
 one:1≤m
 eight:m≤8
 small:p^m≤256
theorem Fd.p256 {p m:Nat} (h:Fd p m):p≤256:=by
 have:p^1≤p^m:=Nat.pow_le_pow_right (by have:=h.two;omega) h.one
 rw[Nat.pow_one] at this
 have:=h.small
 omega
theorem pow_le_256 {p m e:Nat} (h:Fd p m) (he:e≤m):p^e≤256:=Nat.le_trans (Nat.pow_le_pow_right (by have:=h.two;omega) he) h.small
theorem order_loop {p m:Nat} (hp:2≤p) (hm:m≤8) {l:List Int}:∀(d i:Nat),i+d=m→p^i≤256→
 Ev (fun k=>r4_Order.l0 k ((p^i:Nat):Int) (i:Int) (p:Int) (m:Int) l) (if p^m≤256 then((p^m:Nat):Int) else 0):=by
 intro d
 induction d with
 |zero=>
  intro i hi h
  have:i=m:=by omega
  subst this
  refine Ev.succ ?_
  simp only[r4_Order.l0,if_neg (Int.lt_irrefl (i:Int)),if_pos h]
  exact Ev.some _
 |succ d ih=>
  intro i hi h
  have e1:Int.tdiv (256:Int) (p:Int)=((256 / p:Nat):Int):=by rw[Int.tdiv_eq_ediv_of_nonneg (by omega)];rfl
  have e2:wrap64 ((256 / p:Nat):Int)=((256 / p:Nat):Int):=wn rfl (by clear e1;have:=Nat.div_le_self 256 p;omega)
  have hd:=Nat.div_lt_iff_lt_mul (x:=256) (y:=p^i) (show 0<p by clear e1 e2;omega)
  refine Ev.succ ?_
  simp only[r4_Order.l0,if_pos (show(i:Int)<(m:Int) by clear e1 e2;omega),if_neg (show ¬(p:Int)=0 by clear e1 e2;omega),e1,e2]
  clear e1 e2
  rw[show p^i*p=p^(i+1) from(Nat.pow_succ ..).symm] at hd
  by_cases g:256 / p<p^i
  ·simp only[if_pos (show((p^i:Nat):Int)>((256 / p:Nat):Int) by omega)]
   have h1:=hd.mp g
   have h2:p^(i+1)≤p^m:=Nat.pow_le_pow_right (by omega) (by omega)
   rw[if_neg (by omega)]
   exact Ev.some _
  ·simp only[if_neg (show ¬((p^i:Nat):Int)>((256 / p:Nat):Int) by omega)]
   have h1:p^(i+1)≤256:=Nat.le_of_not_lt (fun f=>g (hd.mpr f))
   have e3:wrap64 (((p^i:Nat):Int)*(p:Int))=((p^(i+1):Nat):Int):=wn (by rw[Nat.pow_succ,Int.natCast_mul]) (by omega)
   simp only[e3,wn (show(i:Int)+1=((i+1:Nat):Int) by clear e3;omega) (by clear e3;omega)]
   exact ih (i+1) (by clear e3;omega) h1
theorem order_ok {p m:Nat} (h:Fd p m) (l:List Int):Ev (fun k=>r4_Order.f k (p:Int) (m:Int) l) ((p^m:Nat):Int):=by
 obtain⟨h1,h2,h3,h4⟩:=h
 simp only[r4_Order.f,if_neg (show ¬(p:Int)<2 by omega),if_neg (show ¬(m:Int)<1 by omega),decide_eq_false (show ¬(m:Int)>8 by omega)]
 refine Ev.succ ?_
 simp only[r4_Order.j0,Bool.false_eq_true,if_false]
 have:=order_loop h1 h3 (l:=l) m 0 (by omega) (by rw[Nat.pow_zero];decide)
 rw[if_pos h4] at this
 exact this
theorem order_ev (P M:Int) (l:List Int):Rz (fun c=>c=0∨∃p m:Nat,P=(p:Int)∧M=(m:Int)∧Fd p m∧c=((p^m:Nat):Int)) (fun k=>r4_Order.f k P M l):=by
 have zero:Rz (fun c=>c=0∨∃p m:Nat,P=(p:Int)∧M=(m:Int)∧Fd p m∧c=((p^m:Nat):Int)) (fun k=>r4_Order.j0 k true P M l):=by
  refine Rz.succ ?_
  simp only[r4_Order.j0,if_true]
  exact Rz.some (.inl rfl)
 simp only[r4_Order.f]
 by_cases h1:P<2
 ·simp only[if_pos h1];exact zero
 simp only[if_neg h1]
 by_cases h2:M<1
 ·simp only[if_pos h2];exact zero
 simp only[if_neg h2]
 by_cases h3:M>8
 ·simp only[decide_eq_true h3];exact zero
 simp only[decide_eq_false h3]
 refine Rz.succ ?_
 simp only[r4_Order.j0,Bool.false_eq_true,if_false]
 obtain⟨p,rfl⟩:∃p:Nat,P=(p:Int):=⟨P.toNat,by omega⟩
 obtain⟨m,rfl⟩:∃m:Nat,M=(m:Int):=⟨M.toNat,by omega⟩
 refine Rz.of (order_loop (by omega) (by omega) (l:=l) m 0 (by omega) (by rw[Nat.pow_zero];decide)) ?_
 by_cases g:p^m≤256
 ·rw[if_pos g];exact .inr ⟨p,m,rfl,rfl,⟨by omega,by omega,by omega,g⟩,rfl⟩
 ·rw[if_neg g];exact .inl rfl
theorem prime_ev {p:Nat} (hp:2≤p) (h:p≤256):Rz (fun b=>b=true→Prm p) (fun k=>r4_prime.f k (p:Int)):=by
 have loop:∀(d i:Nat),i+d=p→2≤i→(∀e,2≤e→e<i→p % e≠0)→Rz (fun b=>b=true→Prm p) (fun k=>r4_prime.l0 k (p:Int) (i:Int)):=by
  intro d
  induction d with
  |zero=>
   intro i hi h2 hh
   have:i=p:=by omega
   subst this
   refine Rz.succ ?_
   simp only[r4_prime.l0,if_neg (Int.lt_irrefl (i:Int))]
   exact Rz.some (fun _=>⟨hp,hh⟩)
  |succ d ih=>
   intro i hi h2 hh
   have e1:Int.tmod (p:Int) (i:Int)=((p % i:Nat):Int):=by rw[Int.tmod_eq_emod_of_nonneg (by omega)];rfl
   refine Rz.succ ?_
   simp only[r4_prime.l0,if_pos (show(i:Int)<(p:Int) by clear e1;omega),if_neg (show ¬(i:Int)=0 by clear e1;omega),e1,wn (show(i:Int)+1=((i+1:Nat):Int) by clear e1;omega) (by clear e1;omega)]
   clear e1
   by_cases g:p % i=0
   ·simp only[if_pos (show((p % i:Nat):Int)=0 by omega)]
    exact Rz.some (fun e=>by cases e)
   ·simp only[if_neg (show ¬((p % i:Nat):Int)=0 by omega)]
    refine ih (i+1) (by omega) (by omega) (fun e h1 h3=>?_)
    by_cases g2:e=i
    ·subst g2;exact g
    ·exact hh e h1 (by omega)
 simp only[r4_prime.f]
 exact loop (p-2) 2 (by omega) (by omega) (fun e h1 h3=>by omega)
theorem dgt_nat (p x i:Nat):dgt p (x:Int) i=((x / p^i % p:Nat):Int):=by unfold dgt;rw[Int.toNat_natCast]
theorem digits_ev {p n x:Nat} (hp:2≤p) (hp2:p≤256) (hn:n≤8) (hx:x<4294967296):Rz (fun l=>l.length=n∧∀i,i<n→rd l (i:Int)=dgt p (x:Int) i) (fun k=>r4_digits.f k (x:Int) (p:Int) (n:Int)):=by
 have loop:∀(d i:Nat) (o:List Int),i+d=n→o.length=n→(∀j,j<i→rd o (j:Int)=dgt p (x:Int) j)→
  Rz (fun l=>l.length=n∧∀i,i<n→rd l (i:Int)=dgt p (x:Int) i) (fun k=>r4_digits.l0 k ((x / p^i:Nat):Int) (p:Int) (n:Int) o (i:Int)):=by
  intro d
  induction d with
  |zero=>
   intro i o hi ho hh
   have:i=n:=by omega
   subst this
   refine Rz.succ ?_
   simp only[r4_digits.l0,if_neg (Int.lt_irrefl (i:Int))]
   exact Rz.some ⟨ho,hh⟩
  |succ d ih=>
   intro i o hi ho hh
   have e1:Int.tdiv ((x / p^i:Nat):Int) (p:Int)=((x / p^(i+1):Nat):Int):=by
    rw[Int.tdiv_eq_ediv_of_nonneg (Int.natCast_nonneg _),Nat.pow_succ,←Nat.div_div_eq_div_mul];rfl
   have e2:Int.tmod ((x / p^i:Nat):Int) (p:Int)=dgt p (x:Int) i:=by
    rw[Int.tmod_eq_emod_of_nonneg (Int.natCast_nonneg _),dgt_nat];rfl
   have hle:x / p^(i+1)≤x:=Nat.div_le_self _ _
   have e3:wrap64 ((x / p^(i+1):Nat):Int)=((x / p^(i+1):Nat):Int):=wn rfl (by clear e1 e2;omega)
   refine Rz.succ ?_
   simp only[r4_digits.l0,if_pos (show(i:Int)<(n:Int) by clear e1 e2 e3;omega),if_neg (show ¬(p:Int)=0 by clear e1 e2 e3;omega),if_pos (show(0:Int)≤(i:Int) from Int.natCast_nonneg _),if_pos (show(i:Int)<(o.length:Int) by clear e1 e2 e3;omega),e1,e2,e3,Int.toNat_natCast,wn (show(i:Int)+1=((i+1:Nat):Int) by clear e1 e2 e3;omega) (by clear e1 e2 e3;omega)]
   clear e1 e2 e3
   refine ih (i+1) _ (by omega) (by rw[List.length_set];exact ho) (fun j hj=>?_)
   by_cases g:j=i
   ·subst g;rw[rd_set_eq _ (by omega)]
   ·rw[rd_set_ne _ (by omega)];exact hh j (by omega)
 simp only[r4_digits.f,if_pos (show(0:Int)≤(n:Int) from Int.natCast_nonneg _),Int.toNat_natCast,if_pos (show n≤35184372088832 by omega)]
 have:=loop n 0 (List.replicate n 0) (by omega) List.length_replicate (fun j hj=>by omega)
 rw[Nat.pow_zero,Nat.div_one] at this
 exact this
def Rng (p n:Nat) (l:List Int):Prop:=∀i,i<n→0≤rd l (i:Int)∧rd l (i:Int)<(p:Int)
def Lx (l:List Int) (n:Nat) (z:Int):Int:=sm n (fun i=>rd l (i:Int)*z^i)
theorem lx_dg (l:List Int) (n:Nat):Dg n (Lx l n):=⟨_,fun _=>rfl⟩
theorem lx_succ (l:List Int) (n:Nat) (z:Int):Lx l (n+1) z=Lx l n z+rd l (n:Int)*z^n:=rfl
theorem lx_set {l:List Int} {n i:Nat} (v:Int) (hi:i<n) (hl:i<l.length) (z:Int):Lx (l.set i v) n z=Lx l n z+(v-rd l (i:Int))*z^i:=by
 have h:=sm_single (a:=i) (n:=n) (f:=fun j=>rd (l.set i v) (j:Int)*z^j-rd l (j:Int)*z^j) hi (fun j _ hne=>by rw[rd_set_ne v (fun e=>hne e.symm)];omega)
 rw[sm_sub] at h
 simp only[rd_set_eq v hl] at h
 unfold Lx
 rw[Int.sub_mul]
 omega
theorem lx_px {p m:Nat} {x:Int} {l:List Int} (h:∀i,i<m→rd l (i:Int)=dgt p x i) (z:Int):Lx l m z=Px p m x z:=sm_congr (fun i hi=>by rw[h i hi])
theorem value_ev {p n:Nat} {M:Int} {md l:List Int} (hp:2≤p) (hl:l.length=n) (h:Rng p n l) (hpn:p^n≤256) (hn:n≤64):Ev (fun k=>r4_Value.f k (p:Int) M md l) ((nv p (fun i=>(rd l (i:Int)).toNat) n:Nat):Int):=by
 have loop:∀(i X:Nat),i≤n→X<p^(n-i)→Ev (fun k=>r4_Value.l0 k l (X:Int) ((i:Int)-1) (p:Int) M md) ((X*p^i+nv p (fun i=>(rd l (i:Int)).toNat) i:Nat):Int):=by
  intro i
  induction i with
  |zero=>
   intro X _ hX
   refine Ev.succ ?_
   simp only[r4_Value.l0,if_neg (show ¬((0:Nat):Int)-1≥0 by omega),nv,Nat.pow_zero,Nat.mul_one,Nat.add_zero]
   exact Ev.some _
  |succ i ih=>
   intro X hi hX
   have hr:=h i (by omega)
   obtain⟨c,hc⟩:∃c:Nat,rd l (i:Int)=(c:Int):=⟨(rd l (i:Int)).toNat,by omega⟩
   have hb:X*p+c<p^(n-i):=by
    have h1:(X+1)*p≤p^(n-(i+1))*p:=Nat.mul_le_mul_right _ hX
    have h2:p^(n-(i+1))*p=p^(n-i):=by rw[←Nat.pow_succ];congr 1;omega
    rw[h2,Nat.add_mul] at h1
    omega
   have hb2:p^(n-i)≤p^n:=Nat.pow_le_pow_right (by omega) (by omega)
   have e1:wrap64 ((X:Int)*(p:Int))=((X*p:Nat):Int):=wn (by rw[Int.natCast_mul]) (by omega)
   have e2:wrap64 (((X*p:Nat):Int)+(c:Int))=((X*p+c:Nat):Int):=wn (by clear e1;omega) (by clear e1;omega)
   refine Ev.succ ?_
   simp only[r4_Value.l0,show((i+1:Nat):Int)-1=(i:Int) from by clear e1 e2;omega,if_pos (show(i:Int)≥0 from Int.natCast_nonneg _),if_pos (show(0:Int)≤(i:Int) from Int.natCast_nonneg _),if_pos (show(i:Int)<(l.length:Int) by clear e1 e2;omega),hc,e1,e2,w64 (x:=(i:Int)-1) (by clear e1 e2;omega) (by clear e1 e2;omega)]
   clear e1 e2
   refine Ev.cast (ih (X*p+c) (by omega) hb) ?_
   rw[nv,hc,Int.toNat_natCast,Nat.add_mul,Nat.pow_succ,Nat.mul_comm (p^i) p,Nat.mul_assoc]
   congr 1
   omega
 simp only[r4_Value.f,hl,w64 (x:=(n:Int)-1) (by omega) (by omega)]
 refine Ev.cast (loop n 0 (Nat.le_refl _) (by rw[Nat.sub_self,Nat.pow_zero];exact Nat.one_pos)) ?_
 rw[Nat.zero_mul,Nat.zero_add]
theorem value_el {p n:Nat} {M:Int} {md l:List Int} (hp:2≤p) (hl:l.length=n) (h:Rng p n l) (hpn:p^n≤256) (hn:n≤64):Rz (fun x=>El (p^n) x∧∀i,i<n→dgt p x i=rd l (i:Int)) (fun k=>r4_Value.f k (p:Int) M md l):=by
 have hc:∀i,i<n→(rd l (i:Int)).toNat<p:=fun i hi=>by have:=h i hi;omega
 refine Rz.of (value_ev hp hl h hpn hn) ⟨⟨Int.natCast_nonneg _,by have:=nv_lt n hc;omega⟩,fun i hi=>?_⟩
 rw[dgt_nat,nv_digit hp n hc i hi]
 have:=h i hi
 omega
def inq (q:Nat) (x:Int):Int:=if 0≤x∧x<(q:Int) then x else 0
theorem inq_el {q:Nat} (hq:2≤q) (x:Int):El q (inq q x):=by
 unfold inq
 by_cases h:0≤x∧x<(q:Int)
 ·rw[if_pos h];exact h
 ·rw[if_neg h];exact⟨by omega,by omega⟩
theorem inq_of {q:Nat} {x:Int} (h:El q x):inq q x=x:=if_pos h
theorem in_ev {p m:Nat} (h:Fd p m) (md:List Int) (x:Int):Ev (fun k=>r4_In.f k (p:Int) (m:Int) md x) (inq (p^m) x):=by
 simp only[r4_In.f,r4_Is.f]
 by_cases h0:x≥0
 ·simp only[if_pos h0]
  refine Ev.bind (Ev.bind (order_ok h md) (Ev.some _)) ?_
  by_cases h1:x<((p^m:Nat):Int)
  ·rw[show inq (p^m) x=x from if_pos ⟨h0,h1⟩]
   simp only[decide_eq_true h1,if_true]
   exact Ev.some _
  ·rw[show inq (p^m) x=0 from if_neg (fun e=>h1 e.2)]
   simp only[decide_eq_false h1,Bool.false_eq_true,if_false]
   exact Ev.some _
 ·simp only[if_neg h0]
  rw[show inq (p^m) x=0 from if_neg (fun e=>h0 e.1)]
  refine Ev.bind (Ev.some _) ?_
  simp only[Bool.false_eq_true,if_false]
  exact Ev.some _
theorem Digits_ev {p m:Nat} (h:Fd p m) (md:List Int) {x:Int} (hx:El (p^m) x):Rz (fun l=>l.length=m∧∀i,i<m→rd l (i:Int)=dgt p x i) (fun k=>r4_Digits.f k (p:Int) (m:Int) md x):=by
 have hp:=h.p256
 obtain⟨h1,h2,h3,h4⟩:=h
 have ev:=in_ev ⟨h1,h2,h3,h4⟩ md x
 rw[inq_of hx] at ev
 obtain⟨n,rfl⟩:∃n:Nat,x=(n:Int):=⟨x.toNat,by have:=hx.1;omega⟩
 have hx2:=hx.2
 simp only[r4_Digits.f]
 refine Rz.bind ev ?_
 refine Rz.bind2 (digits_ev h1 hp h3 (by omega)) (fun l hl=>?_)
 exact Rz.some hl
theorem add_evG {p m:Nat} (h:Fd p m) (md:List Int) {x y:Int} (hx:El (p^m) x) (hy:El (p^m) y):
 Rz (fun z=>El (p^m) z∧∀i,i<m→dgt p z i=(dgt p x i+dgt p y i) % (p:Int)) (fun k=>r4_Add.f k (p:Int) (m:Int) md x y):=by
 have hp:=h.p256
 have h1:=h.two
 have h3:=h.eight
 simp only[r4_Add.f]
 refine Rz.bind2 (Digits_ev h md hx) (fun a ha=>?_)
 refine Rz.bind2 (Digits_ev h md hy) (fun b hb=>?_)
 have loop:∀(d i:Nat) (o:List Int),i+d=m→o.length=m→(∀j,j<i→rd o (j:Int)=(dgt p x j+dgt p y j) % (p:Int))→(∀j,i≤j→j<m→rd o (j:Int)=dgt p x j)→
  Rz (fun z=>El (p^m) z∧∀i,i<m→dgt p z i=(dgt p x i+dgt p y i) % (p:Int)) (fun k=>r4_Add.l0 k o b (i:Int) (p:Int) (m:Int) md):=by
  intro d
  induction d with
  |zero=>
   intro i o hi ho hl hh
   have:i=m:=by omega
   subst this
   refine Rz.succ ?_
   simp only[r4_Add.l0,ho,if_neg (Int.lt_irrefl (i:Int))]
   refine Rz.bind2 (value_el h1 ho (fun j hj=>?_) h.small (by omega)) (fun z hz=>Rz.some ⟨hz.1,fun j hj=>by rw[hz.2 j hj,hl j hj]⟩)
   rw[hl j hj]
   exact⟨Int.emod_nonneg _ (by omega),Int.emod_lt_of_pos _ (by omega)⟩
  |succ d ih=>
   intro i o hi ho hl hh
   have d1:=dgt_lt h1 x i
   have d2:=dgt_lt h1 y i
   have e0:=hh i (Nat.le_refl _) (by omega)
   have e1:=hb.2 i (by omega)
   have e2:wrap64 (dgt p x i+dgt p y i)=dgt p x i+dgt p y i:=w64 (by omega) (by omega)
   have e3:Int.tmod (dgt p x i+dgt p y i) (p:Int)=(dgt p x i+dgt p y i) % (p:Int):=Int.tmod_eq_emod_of_nonneg (by clear e2;omega)
   refine Rz.succ ?_
   simp only[r4_Add.l0,if_pos (show(i:Int)<(o.length:Int) by clear e2 e3;omega),if_pos (show(0:Int)≤(i:Int) from Int.natCast_nonneg _),if_pos (show(i:Int)<(b.length:Int) by have:=hb.1;clear e2 e3;omega),if_neg (show ¬(p:Int)=0 by clear e2 e3;omega),e0,e1,e2,e3,Int.toNat_natCast,wn (show(i:Int)+1=((i+1:Nat):Int) by clear e2 e3;omega) (by clear e2 e3;omega)]
   clear e2 e3
   refine ih (i+1) _ (by omega) (by rw[List.length_set];exact ho) (fun j hj=>?_) (fun j h1 h2=>?_)
   ·by_cases g:j=i
    ·subst g;rw[rd_set_eq _ (by omega)]
    ·rw[rd_set_ne _ (by omega)];exact hl j (by omega)
   ·rw[rd_set_ne _ (by omega)];exact hh j (by omega) h2
 exact loop m 0 a (by omega) ha.1 (fun j hj=>by omega) (fun j _ hj=>ha.2 j hj)
def Fm (m:Nat) (md:List Int) (z:Int):Int:=z^m+Lx md m z
theorem fm_mon (m:Nat) (md:List Int):Mon m (Fm m md):=⟨_,lx_dg md m,fun _=>rfl⟩
theorem emod_set {x p:Int}:x % p=x+p*(-(x / p)):=by
 have:=Int.emod_add_mul_ediv x p
 grind
structure Cv (p n:Nat) (T:Int→Int) (c:List Int):Prop where
 len:c.length=n
 rng:Rng p n c
 val:∃A,Pol A∧∀z,Lx c n z=T z+(p:Int)*A z
theorem cv_set {p n:Nat} {T T':Int→Int} {c:List Int} (h:Cv p n T c) (hp:2≤p) {i:Nat} (hi:i<n) {v:Int} (hT:∀z,T' z=T z+v*z^i):Cv p n T' (c.set i ((rd c (i:Int)+v) % (p:Int))):=by
 obtain⟨h1,h2,A,hA,e⟩:=h
 refine⟨by rw[List.length_set];exact h1,fun j hj=>?_,?_⟩
 ·by_cases g:i=j
  ·subst g
   rw[rd_set_eq _ (by omega)]
   exact⟨Int.emod_nonneg _ (by omega),Int.emod_lt_of_pos _ (by omega)⟩
  ·rw[rd_set_ne _ g];exact h2 j hj
 ·refine⟨_,pol_add hA (pol_smul (-((rd c (i:Int)+v) / (p:Int))) (pol_pow i)),fun z=>?_⟩
  rw[lx_set _ hi (by omega),e z,hT z,emod_set]
  grind
def Mds (p m:Nat) (md:List Int):Prop:=m=1∨(md.length=m∧Rng p m md)
theorem mulsmall {a b p:Int} (h1:0≤a∧a<p) (h2:0≤b∧b<p) (hp:p≤256):0≤a*b∧a*b≤65536:=by
 refine⟨Int.mul_nonneg h1.1 h2.1,?_⟩
 have:a*b≤256*256:=Int.mul_le_mul (by omega) (by omega) h2.1 (by omega)
 omega
theorem red_step {c t v:Int} {p:Nat} (hp:2≤p) (hp2:p≤256) (hc:0≤c∧c<(p:Int)) (ht:0≤t∧t<(p:Int)) (hv:0≤v∧v<(p:Int)):
 Int.tmod (wrap64 (c+wrap64 (wrap64 ((p:Int)-t)*v))) (p:Int)=(c+((p:Int)-t)*v) % (p:Int):=by
 have h1:0≤((p:Int)-t)*v∧((p:Int)-t)*v≤65536:=by
  refine⟨Int.mul_nonneg (by omega) hv.1,?_⟩
  have:((p:Int)-t)*v≤256*256:=Int.mul_le_mul (by omega) (by omega) hv.1 (by omega)
  omega
 rw[w64 (x:=(p:Int)-t) (by omega) (by omega),w64 (x:=((p:Int)-t)*v) (by omega) (by omega),w64 (x:=c+((p:Int)-t)*v) (by omega) (by omega)]
 exact Int.tmod_eq_emod_of_nonneg (by omega)
def Pr (p m:Nat) (md:List Int) (X:Int→Int) (z:Int):Prop:=El (p^m) z∧Cg (p:Int) (Fm m md) (Px p m z) X
theorem reduce_loop {p m:Nat} (h:Fd p m) {md:List Int} (hmd:Mds p m md) {X:Int→Int}:∀(d:Nat),d≤m-1→∀(c:List Int),c.length=2*m-1→Rng p (2*m-1) c→Cg (p:Int) (Fm m md) (Lx c (m+d)) X→
 Rz (Pr p m md X) (fun k=>r4_Mul.l2 k c (((m+d:Nat):Int)-1) (p:Int) (m:Int) md):=by
 have hp:=h.p256
 have h1:=h.two
 have h2:=h.one
 have h3:=h.eight
 intro d
 induction d with
 |zero=>
  intro _ c hl hr hc
  refine Rz.succ ?_
  simp only[r4_Mul.l2,Nat.add_zero,if_neg (show ¬(m:Int)-1≥(m:Int) by omega),if_pos (show(0:Int)≤(m:Int) from Int.natCast_nonneg _),if_pos (show(m:Int)≤(c.length:Int) by omega),Int.toNat_natCast]
  have ht:(c.take m).length=m:=by rw[List.length_take];omega
  have hrd:∀i,i<m→rd (c.take m) (i:Int)=rd c (i:Int):=by
   intro i hi
   rw[rd_lt (by omega),rd_lt (by omega),List.getElem_take]
  refine Rz.bind2 (value_el h1 ht (fun i hi=>by rw[hrd i hi];exact hr i (by omega)) h.small (by omega)) (fun z hz=>Rz.some ⟨hz.1,?_⟩)
  refine cg_trans (cg_of (fun z'=>?_)) hc
  refine sm_congr fun i hi=>?_
  rw[hz.2 i hi,hrd i hi]
 |succ d ih=>
  intro hd c hl hr hc
  obtain⟨hml,hmr⟩:md.length=m∧Rng p m md:=by
   rcases hmd with e|e
   ·omega
   ·exact e
  refine Rz.succ ?_
  simp only[r4_Mul.l2,show((m+(d+1):Nat):Int)-1=((m+d:Nat):Int) from by omega,if_pos (show((m+d:Nat):Int)≥(m:Int) by omega)]
  obtain⟨t,ht⟩:∃t,t=rd c ((m+d:Nat):Int):=⟨_,rfl⟩
  have htr:=hr (m+d) (by omega)
  rw[←ht] at htr
  have inner:∀(e j:Nat) (c:List Int),j+e=m→c.length=2*m-1→Rng p (2*m-1) c→rd c ((m+d:Nat):Int)=t→Cg (p:Int) (Fm m md) (Lx c (m+d+1)) (fun z=>X z+(-t)*(z^d*Lx md j z))→
   Rz (Pr p m md X) (fun k=>r4_Mul.l3 k c ((m+d:Nat):Int) (j:Int) (p:Int) (m:Int) md):=by
   intro e
   induction e with
   |zero=>
    intro j c hj hl hr htc hc
    have:j=m:=by omega
    subst this
    refine Rz.succ ?_
    simp only[r4_Mul.l3,if_neg (Int.lt_irrefl (j:Int)),w64 (x:=((j+d:Nat):Int)-1) (by omega) (by omega)]
    refine ih (by omega) c hl hr ?_
    have e1:∀z,Lx c (j+d) z=Lx c (j+d+1) z+(-t)*z^(j+d):=by
     intro z
     rw[lx_succ,htc]
     grind
    refine cg_trans (cg_of e1) (cg_trans (cg_add hc (cg_of (fun _=>rfl))) ?_)
    refine cg_F (pol_smul (-t) (pol_pow d)) (fun z=>?_)
    show X z+(-t)*(z^d*Lx md j z)+(-t)*z^(j+d)=X z+Fm j md z*(-t*z^d)
    unfold Fm
    rw[Int.pow_add]
    grind
   |succ e ihe=>
    intro j c hj hl hr htc hc
    have hjm:j<m:=by omega
    have ei:wrap64 (wrap64 (((m+d:Nat):Int)-(m:Int))+(j:Int))=((d+j:Nat):Int):=by
     rw[w64 (x:=((m+d:Nat):Int)-(m:Int)) (by omega) (by omega)]
     exact wn (by omega) (by omega)
    have st:=red_step h1 hp (hr (d+j) (by clear ei;omega)) htr (hmr j hjm)
    refine Rz.succ ?_
    simp only[r4_Mul.l3,if_pos (show(j:Int)<(m:Int) by clear ei st;omega),ei,if_pos (show(0:Int)≤((d+j:Nat):Int) from Int.natCast_nonneg _),if_pos (show((d+j:Nat):Int)<(c.length:Int) by clear ei st;omega),if_pos (show(0:Int)≤((m+d:Nat):Int) from Int.natCast_nonneg _),if_pos (show((m+d:Nat):Int)<(c.length:Int) by clear ei st;omega),if_pos (show(0:Int)≤(j:Int) from Int.natCast_nonneg _),if_pos (show(j:Int)<(md.length:Int) by clear ei st;omega),if_neg (show ¬(p:Int)=0 by clear ei st;omega),htc,st,Int.toNat_natCast,wn (show(j:Int)+1=((j+1:Nat):Int) by clear ei st;omega) (by clear ei st;omega)]
    clear ei st
    refine ihe (j+1) _ (by omega) (by rw[List.length_set];exact hl) (fun i hi=>?_) (by rw[rd_set_ne _ (by omega)];exact htc) ?_
    ·by_cases g:d+j=i
     ·subst g
      rw[rd_set_eq _ (by omega)]
      exact⟨Int.emod_nonneg _ (by omega),Int.emod_lt_of_pos _ (by omega)⟩
     ·rw[rd_set_ne _ g];exact hr i hi
    ·obtain⟨A,B,hA,hB,e⟩:=hc
     refine⟨_,B,pol_add hA (pol_smul (rd md (j:Int)+ -((rd c ((d+j:Nat):Int)+((p:Int)-t)*rd md (j:Int)) / (p:Int))) (pol_pow (d+j))),hB,fun z=>?_⟩
     rw[lx_set _ (by omega) (by omega),e z,emod_set]
     dsimp only
     rw[lx_succ,Int.pow_add]
     grind
  refine inner m 0 c (by omega) hl hr ht.symm ?_
  refine cg_trans hc (cg_of (fun z=>?_))
  show X z=X z+(-t)*(z^d*Lx md 0 z)
  unfold Lx
  simp [sm]
theorem mul_evG {p m:Nat} (h:Fd p m) {md:List Int} (hmd:Mds p m md) {x y:Int} (hx:El (p^m) x) (hy:El (p^m) y):
 Rz (Pr p m md (fun z=>Px p m x z*Px p m y z)) (fun k=>r4_Mul.f k (p:Int) (m:Int) md x y):=by
 have hp:=h.p256
 have h1:=h.two
 have h2:=h.one
 have h3:=h.eight
 have en:wrap64 (wrap64 (2*(m:Int))-1)=((2*m-1:Nat):Int):=by
  rw[w64 (x:=2*(m:Int)) (by omega) (by omega)]
  exact wn (by omega) (by omega)
 simp only[r4_Mul.f,en,if_pos (show(0:Int)≤((2*m-1:Nat):Int) from Int.natCast_nonneg _),Int.toNat_natCast,if_pos (show 2*m-1≤35184372088832 by clear en;omega)]
 clear en
 refine Rz.bind2 (Digits_ev h md hx) (fun a ha=>?_)
 refine Rz.bind2 (Digits_ev h md hy) (fun b hb=>?_)
 have outer:∀(d i:Nat) (c:List Int),i+d=m→Cv p (2*m-1) (fun z=>Lx a i z*Px p m y z) c→
  Rz (Pr p m md (fun z=>Px p m x z*Px p m y z)) (fun k=>r4_Mul.l0 k a b c (i:Int) (p:Int) (m:Int) md):=by
  intro d
  induction d with
  |zero=>
   intro i c hi hc
   have:i=m:=by omega
   subst this
   have en:wrap64 (wrap64 (2*(i:Int))-2)=((i+(i-1):Nat):Int)-1:=by
    rw[w64 (x:=2*(i:Int)) (by omega) (by omega),w64 (by omega) (by omega)]
    omega
   refine Rz.succ ?_
   simp only[r4_Mul.l0,if_neg (Int.lt_irrefl (i:Int)),en]
   clear en
   refine reduce_loop h hmd (i-1) (Nat.le_refl _) c hc.len hc.rng ?_
   obtain⟨A,hA,e⟩:=hc.val
   refine cg_p hA (fun z=>?_)
   rw[show i+(i-1)=2*i-1 by omega,e z,lx_px ha.2]
  |succ d ih=>
   intro i c hi hc
   have him:i<m:=by omega
   refine Rz.succ ?_
   simp only[r4_Mul.l0,if_pos (show(i:Int)<(m:Int) by omega)]
   have inner:∀(e j:Nat) (c:List Int),j+e=m→Cv p (2*m-1) (fun z=>Lx a i z*Px p m y z+rd a (i:Int)*z^i*Lx b j z) c→
    Rz (Pr p m md (fun z=>Px p m x z*Px p m y z)) (fun k=>r4_Mul.l1 k a b c (i:Int) (j:Int) (p:Int) (m:Int) md):=by
    intro e
    induction e with
    |zero=>
     intro j c hj hc
     have:j=m:=by omega
     subst this
     refine Rz.succ ?_
     simp only[r4_Mul.l1,if_neg (Int.lt_irrefl (j:Int)),wn (show(i:Int)+1=((i+1:Nat):Int) by omega) (by omega)]
     refine ih (i+1) c (by omega) ⟨hc.len,hc.rng,?_⟩
     obtain⟨A,hA,e⟩:=hc.val
     refine⟨A,hA,fun z=>?_⟩
     rw[e z,lx_px hb.2,lx_succ]
     grind
    |succ e ihe=>
     intro j c hj hc
     have hjm:j<m:=by omega
     have hl:=hc.len
     have hal:=ha.1
     have hbl:=hb.1
     have ra:0≤rd a (i:Int)∧rd a (i:Int)<(p:Int):=by rw[ha.2 i him];exact dgt_lt h1 x i
     have rb:0≤rd b (j:Int)∧rd b (j:Int)<(p:Int):=by rw[hb.2 j hjm];exact dgt_lt h1 y j
     have rc:=hc.rng (i+j) (by omega)
     have ms:=mulsmall ra rb (by omega)
     have ei:wrap64 ((i:Int)+(j:Int))=((i+j:Nat):Int):=wn (by omega) (by omega)
     have e1:wrap64 (rd a (i:Int)*rd b (j:Int))=rd a (i:Int)*rd b (j:Int):=w64 (by clear ei;omega) (by clear ei;omega)
     have e2:wrap64 (rd c ((i+j:Nat):Int)+rd a (i:Int)*rd b (j:Int))=rd c ((i+j:Nat):Int)+rd a (i:Int)*rd b (j:Int):=w64 (by clear ei e1;omega) (by clear ei e1;omega)
     have e3:Int.tmod (rd c ((i+j:Nat):Int)+rd a (i:Int)*rd b (j:Int)) (p:Int)=(rd c ((i+j:Nat):Int)+rd a (i:Int)*rd b (j:Int)) % (p:Int):=Int.tmod_eq_emod_of_nonneg (by clear ei e1 e2;omega)
     refine Rz.succ ?_
     simp only[r4_Mul.l1,if_pos (show(j:Int)<(m:Int) by clear ei e1 e2 e3;omega),ei,if_pos (show(0:Int)≤((i+j:Nat):Int) from Int.natCast_nonneg _),if_pos (show((i+j:Nat):Int)<(c.length:Int) by clear ei e1 e2 e3;omega),if_pos (show(0:Int)≤(i:Int) from Int.natCast_nonneg _),if_pos (show(i:Int)<(a.length:Int) by clear ei e1 e2 e3;omega),if_pos (show(0:Int)≤(j:Int) from Int.natCast_nonneg _),if_pos (show(j:Int)<(b.length:Int) by clear ei e1 e2 e3;omega),if_neg (show ¬(p:Int)=0 by clear ei e1 e2 e3;omega),e1,e2,e3,Int.toNat_natCast,wn (show(j:Int)+1=((j+1:Nat):Int) by clear ei e1 e2 e3;omega) (by clear ei e1 e2 e3;omega)]
     clear ei e1 e2 e3
     refine ihe (j+1) _ (by omega) (cv_set hc h1 (i:=i+j) (by omega) (v:=rd a (i:Int)*rd b (j:Int)) (fun z=>?_))
     rw[lx_succ,Int.pow_add]
     grind
   refine inner m 0 c (by omega) ⟨hc.len,hc.rng,?_⟩
   obtain⟨A,hA,e⟩:=hc.val
   refine⟨A,hA,fun z=>?_⟩
   rw[e z]
   unfold Lx
   simp [sm]
 refine outer m 0 _ (by omega) ⟨List.length_replicate,fun i _=>by rw[rd_rep];omega,_,pol_zero,fun z=>?_⟩
 unfold Lx
 rw[sm_zero (fun i _=>by rw[rd_rep];simp)]
 simp [sm]
def Dv (p m:Nat) (md:List Int) (e:Nat) (c:Nat→Int):Prop:=∃h A,Pol h∧Pol A∧∀z,Fm m md z=(z^e+sm e (fun i=>c i*z^i))*h z+(p:Int)*A z
theorem divides_ev {p m e:Nat} (h:Fd p m) {md lo:List Int} (hml:md.length=m) (hmr:Rng p m md) (hlo:lo.length=e) (hlr:Rng p e lo) (he:e≤m):
 Rz (fun b=>b=false→¬Dv p m md e (fun i=>rd lo (i:Int))) (fun k=>r4_divides.f k lo md (p:Int)):=by
 have hp:=h.p256
 have h1:=h.two
 have h2:=h.one
 have h3:=h.eight
 let L:Int→Int:=fun z=>z^e+Lx lo e z
 have hL:Mon e L:=⟨_,lx_dg lo e,fun _=>rfl⟩
 have scan:∀(d i:Nat) (r:List Int),i+d=m+1→r.length=m+1→Rz (fun b=>b=false→∃j,j<m+1∧rd r (j:Int)≠0) (fun k=>r4_divides.l2 k r (i:Int)):=by
  intro d
  induction d with
  |zero=>
   intro i r hi hr
   refine Rz.succ ?_
   simp only[r4_divides.l2,if_neg (show ¬(i:Int)<(r.length:Int) by omega)]
   exact Rz.some (fun e=>by cases e)
  |succ d ih=>
   intro i r hi hr
   refine Rz.succ ?_
   simp only[r4_divides.l2,if_pos (show(i:Int)<(r.length:Int) by omega),if_pos (show(0:Int)≤(i:Int) from Int.natCast_nonneg _),wn (show(i:Int)+1=((i+1:Nat):Int) by omega) (by omega)]
   by_cases g:rd r (i:Int)=0
   ·simp only[if_pos g];exact ih (i+1) r (by omega) hr
   ·simp only[if_neg g];exact Rz.some (fun _=>⟨i,by omega,g⟩)
 have outer:∀(d:Nat) (r:List Int),e+d≤m+1→r.length=m+1→Rng p (m+1) r→(∀j,e+d≤j→j<m+1→rd r (j:Int)=0)→Cg (p:Int) L (Lx r (m+1)) (Fm m md)→
  Rz (fun b=>b=false→¬Dv p m md e (fun i=>rd lo (i:Int))) (fun k=>r4_divides.l0 k lo (p:Int) (e:Int) r (((e+d:Nat):Int)-1)):=by
  intro d
  induction d with
  |zero=>
   intro r hle hl hr hz hc
   refine Rz.succ ?_
   simp only[r4_divides.l0,Nat.add_zero,if_neg (show ¬(e:Int)-1≥(e:Int) by omega)]
   refine Rz.mono (scan (m+1) 0 r (by omega) hl) (fun b hb hf ⟨hh,A,hhp,hA,eq⟩=>?_)
   obtain⟨j,hj,hne⟩:=hb hf
   have hje:j<e:=Nat.lt_of_not_le (fun f=>hne (hz j (by omega) hj))
   have hD:Cg (p:Int) L (Lx r e) (fun _=>0):=by
    have s1:Cg (p:Int) L (Lx r e) (Lx r (m+1)):=cg_of (fun z=>(sm_more' (m:=e) (n:=m+1) (by omega) (fun i hi hi2=>by rw[hz i (by omega) hi2];simp)).symm)
    refine cg_trans s1 (cg_trans hc ⟨A,hh,hA,hhp,fun z=>?_⟩)
    rw[eq z]
    show _=0+(p:Int)*A z+(z^e+Lx lo e z)*hh z
    unfold Lx
    grind
   obtain⟨a,ha⟩:=uniq hL (lx_dg r e) hD
   have key:=poly_eq (n:=e) (c:=fun i=>rd r (i:Int)) (d:=fun i=>(p:Int)*a i) (fun z=>by
    have e1:=ha z
    rw[←sm_mul] at e1
    unfold Lx at e1
    rw[e1]
    exact sm_congr (fun i _=>by rw[Int.mul_assoc])) j hje
   have key:rd r (j:Int)=(p:Int)*a j:=key
   have hrj:=hr j hj
   rcases Int.lt_trichotomy (a j) 0 with g|g|g
   ·have:=Int.mul_le_mul_of_nonneg_left (show a j≤ -1 by omega) (show(0:Int)≤(p:Int) by omega)
    omega
   ·rw[g,Int.mul_zero] at key;exact hne key
   ·have:=Int.mul_le_mul_of_nonneg_left (show 1≤a j by omega) (show(0:Int)≤(p:Int) by omega)
    omega
  |succ d ih=>
   intro r hle hl hr hz hc
   obtain⟨t,ht⟩:∃t,t=rd r ((e+d:Nat):Int):=⟨_,rfl⟩
   have htr:=hr (e+d) (by omega)
   rw[←ht] at htr
   refine Rz.succ ?_
   simp only[r4_divides.l0,show((e+(d+1):Nat):Int)-1=((e+d:Nat):Int) from by omega,if_pos (show((e+d:Nat):Int)≥(e:Int) by omega),if_pos (show(0:Int)≤((e+d:Nat):Int) from Int.natCast_nonneg _),if_pos (show((e+d:Nat):Int)<(r.length:Int) by omega),←ht]
   have inner:∀(n j:Nat) (r:List Int),j+n=e→r.length=m+1→Rng p (m+1) r→rd r ((e+d:Nat):Int)=t→(∀j,e+d+1≤j→j<m+1→rd r (j:Int)=0)→Cg (p:Int) L (Lx r (m+1)) (fun z=>Fm m md z+(-t)*(z^d*Lx lo j z))→
    Rz (fun b=>b=false→¬Dv p m md e (fun i=>rd lo (i:Int))) (fun k=>r4_divides.l1 k lo (p:Int) (e:Int) r ((e+d:Nat):Int) t (j:Int)):=by
    intro n
    induction n with
    |zero=>
     intro j r hj hl hr htc hz hc
     have:j=e:=by omega
     subst this
     refine Rz.succ ?_
     simp only[r4_divides.l1,if_neg (Int.lt_irrefl (j:Int)),if_pos (show(0:Int)≤((j+d:Nat):Int) from Int.natCast_nonneg _),if_pos (show((j+d:Nat):Int)<(r.length:Int) by omega),Int.toNat_natCast,w64 (x:=((j+d:Nat):Int)-1) (by omega) (by omega)]
     refine ih _ (by omega) (by rw[List.length_set];exact hl) (fun i hi=>?_) (fun i h1 h2=>?_) ?_
     ·by_cases g:j+d=i
      ·subst g;rw[rd_set_eq _ (by omega)];omega
      ·rw[rd_set_ne _ g];exact hr i hi
     ·by_cases g:j+d=i
      ·subst g;rw[rd_set_eq _ (by omega)]
      ·rw[rd_set_ne _ g];exact hz i (by omega) h2
     ·have e1:∀z,Lx (r.set (j+d) 0) (m+1) z=Lx r (m+1) z+(-t)*z^(j+d):=by
       intro z
       rw[lx_set _ (by omega) (by omega),htc]
       grind
      refine cg_trans (cg_of e1) (cg_trans (cg_add hc (cg_of (fun _=>rfl))) ?_)
      refine cg_F (pol_smul (-t) (pol_pow d)) (fun z=>?_)
      show Fm m md z+(-t)*(z^d*Lx lo j z)+(-t)*z^(j+d)=Fm m md z+(z^j+Lx lo j z)*(-t*z^d)
      rw[Int.pow_add]
      grind
    |succ n ihn=>
     intro j r hj hl hr htc hz hc
     have hje:j<e:=by omega
     have ei:wrap64 (wrap64 (((e+d:Nat):Int)-(e:Int))+(j:Int))=((d+j:Nat):Int):=by
      rw[w64 (x:=((e+d:Nat):Int)-(e:Int)) (by omega) (by omega)]
      exact wn (by omega) (by omega)
     have st:=red_step h1 hp (hr (d+j) (by clear ei;omega)) htr (hlr j hje)
     refine Rz.succ ?_
     simp only[r4_divides.l1,if_pos (show(j:Int)<(e:Int) by clear ei st;omega),ei,if_pos (show(0:Int)≤((d+j:Nat):Int) from Int.natCast_nonneg _),if_pos (show((d+j:Nat):Int)<(r.length:Int) by clear ei st;omega),if_pos (show(0:Int)≤(j:Int) from Int.natCast_nonneg _),if_pos (show(j:Int)<(lo.length:Int) by clear ei st;omega),if_neg (show ¬(p:Int)=0 by clear ei st;omega),st,Int.toNat_natCast,wn (show(j:Int)+1=((j+1:Nat):Int) by clear ei st;omega) (by clear ei st;omega)]
     clear ei st
     refine ihn (j+1) _ (by omega) (by rw[List.length_set];exact hl) (fun i hi=>?_) (by rw[rd_set_ne _ (by omega)];exact htc) (fun i h1 h2=>by rw[rd_set_ne _ (by omega)];exact hz i h1 h2) ?_
     ·by_cases g:d+j=i
      ·subst g
       rw[rd_set_eq _ (by omega)]
       exact⟨Int.emod_nonneg _ (by omega),Int.emod_lt_of_pos _ (by omega)⟩
      ·rw[rd_set_ne _ g];exact hr i hi
     ·obtain⟨A,B,hA,hB,eq⟩:=hc
      refine⟨_,B,pol_add hA (pol_smul (rd lo (j:Int)+ -((rd r ((d+j:Nat):Int)+((p:Int)-t)*rd lo (j:Int)) / (p:Int))) (pol_pow (d+j))),hB,fun z=>?_⟩
      rw[lx_set _ (by omega) (by omega),eq z,emod_set]
      dsimp only
      rw[lx_succ,Int.pow_add]
      grind
   refine inner e 0 r (by omega) hl hr ht.symm (fun j h1 h2=>hz j (by omega) h2) ?_
   refine cg_trans hc (cg_of (fun z=>?_))
   show Fm m md z=Fm m md z+(-t)*(z^d*Lx lo 0 z)
   unfold Lx
   simp [sm]
 simp only[r4_divides.f,Option.bind_some,List.nil_append,List.length_nil,hml,hlo,List.length_append,List.length_singleton,Nat.zero_add,if_pos (show m<17592186044416 by omega),w64 (x:=((m+1:Nat):Int)-1) (by omega) (by omega)]
 have hrl:(md++[1]).length=m+1:=by simp [hml]
 have rdlt:∀i,i<m→rd (md++[1]) (i:Int)=rd md (i:Int):=by
  intro i hi
  rw[rd_lt (by omega),rd_lt (by omega),List.getElem_append_left (by omega)]
 have rdm:rd (md++[1]) (m:Int)=1:=by
  rw[rd_lt (by omega)]
  simp [hml]
 have:=outer (m+1-e) (md++[1]) (by omega) hrl (fun i hi=>?_) (fun j h1 h2=>by omega) (cg_of (fun z=>?_))
 ·rw[show e+(m+1-e)=m+1 by omega] at this
  exact this
 ·by_cases g:i<m
  ·rw[rdlt i g];exact hmr i g
  ·have:i=m:=by omega
   subst this
   rw[rdm];omega
 ·rw[lx_succ,rdm]
  unfold Fm
  have:Lx (md++[1]) m z=Lx md m z:=sm_congr (fun i hi=>by rw[rdlt i hi])
  rw[this]
  omega
theorem dv_congr {p m e:Nat} {md:List Int} {c d:Nat→Int} (h:∀i,i<e→c i=d i) (k:Dv p m md e c):Dv p m md e d:=by
 obtain⟨hh,A,h1,h2,e⟩:=k
 refine⟨hh,A,h1,h2,fun z=>?_⟩
 rw[e z,sm_congr (fun i hi=>by rw[h i hi])]
def Irr (p m:Nat) (md:List Int):Prop:=∀(e:Nat) (c:Nat→Int),1≤e→2*e≤m→(∀i,i<e→0≤c i∧c i<(p:Int))→¬Dv p m md e c
theorem irreducible_ev {p m:Nat} (h:Fd p m) {md:List Int} (hml:md.length=m) (hmr:Rng p m md):
 Rz (fun b=>b=true→Irr p m md) (fun k=>r4_irreducible.f k md (p:Int)):=by
 have hp:=h.p256
 have h1:=h.two
 have h2:=h.one
 have h3:=h.eight
 have outer:∀(n d:Nat),d+n=m→(∀(e:Nat) (c:Nat→Int),1≤e→e≤d→(∀i,i<e→0≤c i∧c i<(p:Int))→¬Dv p m md e c)→
  Rz (fun b=>b=true→Irr p m md) (fun k=>r4_irreducible.l0 k md (p:Int) ((p^d:Nat):Int) ((d+1:Nat):Int)):=by
  intro n
  induction n with
  |zero=>
   intro d hd hh
   refine Rz.succ ?_
   simp only[r4_irreducible.l0,w64 (x:=2*((d+1:Nat):Int)) (by omega) (by omega),if_neg (show ¬2*((d+1:Nat):Int)≤(md.length:Int) by omega)]
   exact Rz.some (fun _ e c h1 h2 h3=>hh e c h1 (by omega) h3)
  |succ n ih=>
   intro d hd hh
   by_cases hle:2*(d+1)≤m
   ·have hsm:=pow_le_256 h (show d+1≤m by omega)
    have e1:wrap64 (((p^d:Nat):Int)*(p:Int))=((p^(d+1):Nat):Int):=wn (by rw[Nat.pow_succ,Int.natCast_mul]) (by omega)
    refine Rz.succ ?_
    simp only[r4_irreducible.l0,w64 (x:=2*((d+1:Nat):Int)) (by clear e1;omega) (by clear e1;omega),if_pos (show 2*((d+1:Nat):Int)≤(md.length:Int) by clear e1;omega),e1]
    clear e1
    have inner:∀(n v:Nat),v+n=p^(d+1)→(∀u:Nat,u<v→¬Dv p m md (d+1) (dgt p (u:Int)))→
     Rz (fun b=>b=true→Irr p m md) (fun k=>r4_irreducible.l1 k md (p:Int) ((p^(d+1):Nat):Int) ((d+1:Nat):Int) (v:Int)):=by
     intro n
     induction n with
     |zero=>
      intro v hv hh2
      refine Rz.succ ?_
      simp only[r4_irreducible.l1,if_neg (show ¬(v:Int)<((p^(d+1):Nat):Int) by omega),wn (show((d+1:Nat):Int)+1=((d+1+1:Nat):Int) by omega) (by omega)]
      refine ih (d+1) (by omega) (fun e c he1 he2 hc hdv=>?_)
      by_cases g:e=d+1
      ·subst g
       obtain⟨x,hx,hxd⟩:=el_of h1 c hc
       obtain⟨u,rfl⟩:∃u:Nat,x=(u:Int):=⟨x.toNat,by have:=hx.1;omega⟩
       exact hh2 u (by have:=hx.2;omega) (dv_congr (fun i hi=>(hxd i hi).symm) hdv)
      ·exact hh e c he1 (by omega) hc hdv
     |succ n ihn=>
      intro v hv hh2
      refine Rz.succ ?_
      simp only[r4_irreducible.l1,if_pos (show(v:Int)<((p^(d+1):Nat):Int) by omega),wn (show(v:Int)+1=((v+1:Nat):Int) by omega) (by omega)]
      refine Rz.bind2 (digits_ev h1 hp (n:=d+1) (by omega) (x:=v) (by omega)) (fun lo hlo=>?_)
      refine Rz.bind2 (divides_ev h hml hmr hlo.1 (fun i hi=>by rw[hlo.2 i hi];exact dgt_lt h1 _ _) (by omega)) (fun b hb=>?_)
      by_cases g:b=true
      ·simp only[if_pos g]
       exact Rz.some (fun e=>by cases e)
      ·simp only[if_neg g]
       refine ihn (v+1) (by omega) (fun u hu=>?_)
       by_cases g2:u=v
       ·subst g2
        exact fun hdv=>hb (by simpa using g) (dv_congr (fun i hi=>(hlo.2 i hi).symm) hdv)
       ·exact hh2 u (by omega)
    exact inner (p^(d+1)) 0 (by omega) (fun u hu=>by omega)
   ·refine Rz.succ ?_
    simp only[r4_irreducible.l0,w64 (x:=2*((d+1:Nat):Int)) (by omega) (by omega),if_neg (show ¬2*((d+1:Nat):Int)≤(md.length:Int) by omega)]
    exact Rz.some (fun _ e c h1 h2 h3=>hh e c h1 (by omega) h3)
 simp only[r4_irreducible.f]
 have:=outer m 0 (by omega) (fun e c h1 h2=>by omega)
 rw[Nat.pow_zero] at this
 exact this
structure Gdf (p m:Nat) (md:List Int):Prop where
 fd:Fd p m
 prm:Prm p
 mds:Mds p m md
 irr:Irr p m md
theorem check_ev (P M:Int) (md:List Int) (hl:md.length≤9223372036854775807):Rz (fun c=>c=0→∃p m:Nat,P=(p:Int)∧M=(m:Int)∧Gdf p m md) (fun k=>r4_Check.f k P M md):=by
 have bad:Rz (fun c=>c=0→∃p m:Nat,P=(p:Int)∧M=(m:Int)∧Gdf p m md) (fun k=>r4_Check.j0 k true P M md):=by
  refine Rz.succ ?_
  simp only[r4_Check.j0,if_true]
  exact Rz.some (fun e=>by cases e)
 have one:Rz (fun c:Int=>c=0→∃p m:Nat,P=(p:Int)∧M=(m:Int)∧Gdf p m md) (fun _=>some 1):=Rz.some (fun e=>by cases e)
 simp only[r4_Check.f]
 refine Rz.bind2 (order_ev P M md) (fun c hc=>?_)
 by_cases h0:c=0
 ·simp only[if_pos h0];exact bad
 simp only[if_neg h0]
 rcases hc with e|⟨p,m,rfl,rfl,h,rfl⟩
 ·exact absurd e h0
 have hp:=h.p256
 have h1:=h.two
 have h2:=h.one
 have h3:=h.eight
 refine Rz.bind2 (prime_ev h1 hp) (fun b hb=>?_)
 by_cases hbt:b=true
 ·subst hbt
  have prm:=hb rfl
  simp only[Bool.not_true]
  refine Rz.succ ?_
  simp only[r4_Check.j0,Bool.false_eq_true,if_false]
  by_cases hm1:(m:Int)=1
  ·simp only[if_pos hm1]
   by_cases hl0:(md.length:Int)=0
   ·simp only[if_pos hl0]
    refine Rz.some (fun _=>⟨p,m,rfl,rfl,h,prm, .inl (by omega),fun e c he1 he2=>by omega⟩)
   ·simp only[if_neg hl0];exact one
  ·simp only[if_neg hm1]
   by_cases hlm:(md.length:Int)=(m:Int)
   ·simp only[if_pos hlm]
    have loop:∀(d i:Nat),i+d=m→Rng p i md→Rz (fun c=>c=0→∃p' m':Nat,(p:Int)=(p':Int)∧(m:Int)=(m':Int)∧Gdf p' m' md) (fun k=>r4_Check.l0 k (i:Int) (p:Int) (m:Int) md):=by
     intro d
     induction d with
     |zero=>
      intro i hi hr
      have:i=m:=by omega
      subst this
      refine Rz.succ ?_
      simp only[r4_Check.l0,if_neg (Int.lt_irrefl (i:Int))]
      refine Rz.bind2 (irreducible_ev h (by omega) hr) (fun b hb=>?_)
      by_cases g:b=true
      ·simp only[if_pos g]
       exact Rz.some (fun _=>⟨p,i,rfl,rfl,h,prm, .inr ⟨by omega,hr⟩,hb g⟩)
      ·simp only[if_neg g]
       exact Rz.some (fun e=>by cases e)
     |succ d ih=>
      intro i hi hr
      refine Rz.succ ?_
      simp only[r4_Check.l0,if_pos (show(i:Int)<(m:Int) by omega),if_pos (show(0:Int)≤(i:Int) from Int.natCast_nonneg _),if_pos (show(i:Int)<(md.length:Int) by omega),wn (show(i:Int)+1=((i+1:Nat):Int) by omega) (by omega)]
      by_cases g1:rd md (i:Int)<0
      ·simp only[if_pos g1];exact Rz.some (fun e=>by cases e)
      simp only[if_neg g1]
      by_cases g2:rd md (i:Int)≥(p:Int)
      ·simp only[if_pos g2];exact Rz.some (fun e=>by cases e)
      simp only[if_neg g2]
      refine ih (i+1) (by omega) (fun j hj=>?_)
      by_cases g:j=i
      ·subst g;omega
      ·exact hr j (by omega)
    exact loop m 0 (by omega) (fun i hi=>by omega)
   ·simp only[if_neg hlm];exact one
 ·have:b=false:=by simpa using hbt
  subst this
  simp only[Bool.not_false]
  exact bad
theorem field_of {p m:Nat} {md:List Int} (h:Gdf p m md):∃add mul:Int→Int→Int,Fld (p^m) add mul∧
 (∀x y,El (p^m) x→El (p^m) y→Ev (fun k=>r4_Add.f k (p:Int) (m:Int) md x y) (add x y))∧
 (∀x y,El (p^m) x→El (p^m) y→Ev (fun k=>r4_Mul.f k (p:Int) (m:Int) md x y) (mul x y)):=by
 obtain⟨fd,prm,mds,irr⟩:=h
 have ha:∀x y,∃z,El (p^m) x→El (p^m) y→Ev (fun k=>r4_Add.f k (p:Int) (m:Int) md x y) z∧El (p^m) z∧Cg (p:Int) (Fm m md) (Px p m z) (fun t=>Px p m x t+Px p m y t):=by
  intro x y
  by_cases hx:El (p^m) x
  ·by_cases hy:El (p^m) y
   ·obtain⟨z,hz,he,hd⟩:=add_evG fd md hx hy
    refine⟨z,fun _ _=>⟨hz,he,?_⟩⟩
    refine cg_p (A:=fun t=>sm m (fun i=>(-((dgt p x i+dgt p y i) / (p:Int)))*t^i)) ⟨m,dg_sum _⟩ (fun t=>?_)
    unfold Px
    rw[←sm_add,←sm_mul,←sm_add]
    refine sm_congr fun i hi=>?_
    rw[hd i hi,emod_set]
    grind
   ·exact⟨0,fun _ e=>absurd e hy⟩
  ·exact⟨0,fun e=>absurd e hx⟩
 have hm:∀x y,∃z,El (p^m) x→El (p^m) y→Ev (fun k=>r4_Mul.f k (p:Int) (m:Int) md x y) z∧El (p^m) z∧Cg (p:Int) (Fm m md) (Px p m z) (fun t=>Px p m x t*Px p m y t):=by
  intro x y
  by_cases hx:El (p^m) x
  ·by_cases hy:El (p^m) y
   ·obtain⟨z,hz,he,hd⟩:=mul_evG fd mds hx hy
    exact⟨z,fun _ _=>⟨hz,he,hd⟩⟩
   ·exact⟨0,fun _ e=>absurd e hy⟩
  ·exact⟨0,fun e=>absurd e hx⟩
 refine⟨fun x y=>Classical.choose (ha x y),fun x y=>Classical.choose (hm x y),?_,fun x y hx hy=>(Classical.choose_spec (ha x y) hx hy).1,fun x y hx hy=>(Classical.choose_spec (hm x y) hx hy).1⟩
 exact gf prm fd.one (fm_mon m md) (fun e c h1 h2 h3 hh A hhp hA eq=>irr e c h1 h2 h3 ⟨hh,A,hhp,hA,eq⟩) (fun x y hx hy=>(Classical.choose_spec (ha x y) hx hy).2) (fun x y hx hy=>(Classical.choose_spec (hm x y) hx hy).2)
end Mw
end
section
set_option linter.unusedVariables false
set_option linter.unusedSimpArgs false
namespace Mw
def wt:List Int→Nat
 | []=>0
 |a::w=>(if a=0 then 0 else 1)+wt w
def zc:List Bool→List Int→Nat
 |true::T,_::w=>zc T w
 |false::T,a::w=>(if a=0 then 1 else 0)+zc T w
 |_,_=>0
def nc:List Bool→List Int→Nat
 |true::T,_::w=>nc T w
 |false::T,a::w=>(if a=0 then 0 else 1)+nc T w
 |_,_=>0
theorem wt_le:∀w:List Int,wt w≤w.length
 | []=>Nat.le_refl 0
 |a::w=>by have:=wt_le w;simp only[wt,List.length_cons];split<;>omega
theorem wt_zero:∀{w:List Int},wt w=0→w=List.replicate w.length 0
 | [],_=>rfl
 |a::w,h=>by
  simp only[wt] at h
  by_cases e:a=0
  ·subst e;rw[if_pos rfl,Nat.zero_add] at h
   have:=wt_zero h
   rw[List.length_cons,List.replicate_succ,←this]
  ·rw[if_neg e] at h;omega
theorem wt_rep (n:Nat):wt (List.replicate n 0)=0:=by
 induction n with
 |zero=>rfl
 |succ n ih=>rw[List.replicate_succ];simp only[wt,if_pos,ih]
theorem zc_nc:∀(T:List Bool) (w:List Int),T.length=w.length→zc T w+nc T w+cnt T=w.length
 | [],[],_=>rfl
 | [],_::_,h=>by simp at h
 |_::_,[],h=>by simp at h
 |true::T,a::w,h=>by have:=zc_nc T w (by simpa using h);simp only[zc,nc,cnt,List.length_cons];omega
 |false::T,a::w,h=>by have:=zc_nc T w (by simpa using h);simp only[zc,nc,cnt,List.length_cons];split<;>omega
theorem nc_van:∀(T:List Bool) (w:List Int),T.length=w.length→Van T w→nc T w=wt w
 | [],[],_,_=>rfl
 | [],_::_,h,_=>by simp at h
 |_::_,[],h,_=>by simp at h
 |true::T,a::w,h,hv=>by
  have:=nc_van T w (by simpa using h) hv.2
  have ha:=hv.1 rfl
  simp only[nc,wt,ha,if_pos];omega
 |false::T,a::w,h,hv=>by
  have:=nc_van T w (by simpa using h) hv.2
  simp only[nc,wt];omega
def sup:List Bool→Nat→(List Bool→Int)→Int
 | [],0,g=>g []
 | [],_+1,_=>0
 |true::T,v,g=>sup T v (fun U=>g (true::U))
 |false::T,0,g=>sup T 0 (fun U=>g (false::U))
 |false::T,v+1,g=>sup T (v+1) (fun U=>g (false::U))+sup T v (fun U=>g (true::U))
theorem sup_congr:∀(T:List Bool) (v:Nat) (f g:List Bool→Int),(∀U,U.length=T.length→cnt U=cnt T+v→f U=g U)→sup T v f=sup T v g
 | [],0,_,_,h=>h [] rfl rfl
 | [],_+1,_,_,_=>rfl
 |true::T,v,_,_,h=>sup_congr T v _ _ (fun U h1 h2=>h _ (by simp [h1]) (by simp only[cnt];omega))
 |false::T,0,_,_,h=>sup_congr T 0 _ _ (fun U h1 h2=>h _ (by simp [h1]) (by simp only[cnt];omega))
 |false::T,v+1,_,_,h=>by
  simp only[sup]
  rw[sup_congr T (v+1) _ _ (fun U h1 h2=>h (false::U) (by simp [h1]) (by simp only[cnt];omega)),
   sup_congr T v _ _ (fun U h1 h2=>h (true::U) (by simp [h1]) (by simp only[cnt];omega))]
theorem sup_mul:∀(T:List Bool) (v:Nat) (c:Int) (f:List Bool→Int),sup T v (fun U=>c*f U)=c*sup T v f
 | [],0,_,_=>rfl
 | [],_+1,c,_=>(Int.mul_zero c).symm
 |true::T,v,c,f=>sup_mul T v c _
 |false::T,0,c,f=>sup_mul T 0 c _
 |false::T,v+1,c,f=>by
  simp only[sup]
  rw[sup_mul T (v+1) c,sup_mul T v c,Int.mul_add]
theorem sup_ws {q n:Nat}:∀(T:List Bool) (v:Nat) (f:List Bool→List Int→Int),sup T v (fun U=>ws q n (f U))=ws q n (fun w=>sup T v (fun U=>f U w))
 | [],0,_=>rfl
 | [],_+1,_=>(ws_zero (fun _ _=>rfl)).symm
 |true::T,v,f=>sup_ws T v _
 |false::T,0,f=>sup_ws T 0 _
 |false::T,v+1,f=>by
  simp only[sup]
  rw[sup_ws T (v+1),sup_ws T v,ws_add]
theorem sup_van:∀(T:List Bool) (w:List Int) (v:Nat),T.length=w.length→sup T v (fun U=>ind (Van U w))=ind (Van T w)*(bin (zc T w) v:Int)
 | [],[],0,_=>by show ind True=ind True*1;rw[ind_true trivial];rfl
 | [],[],v+1,_=>by show(0:Int)=ind True*0;simp
 | [],_::_,_,h=>by simp at h
 |_::_,[],_,h=>by simp at h
 |true::T,a::w,v,h=>by
  have ih:=sup_van T w v (by simpa using h)
  show sup T v (fun U=>ind ((true=true→a=0)∧Van U w))=ind ((true=true→a=0)∧Van T w)*(bin (zc T w) v:Int)
  rw[sup_congr T v _ _ (fun U _ _=>ind_and _ (Van U w)),sup_mul,ih,ind_and,Int.mul_assoc]
 |false::T,a::w,0,h=>by
  have ih:=sup_van T w 0 (by simpa using h)
  show sup T 0 (fun U=>ind ((false=true→a=0)∧Van U w))=ind ((false=true→a=0)∧Van T w)*(bin (zc (false::T) (a::w)) 0:Int)
  have e:∀U,ind ((false=true→a=0)∧Van U w)=ind (Van U w):=fun U=>ind_congr ⟨fun g=>g.2,fun g=>⟨fun e=>by simp at e,g⟩⟩
  rw[sup_congr T 0 _ _ (fun U _ _=>e U),ih,e,bin_zero,bin_zero]
 |false::T,a::w,v+1,h=>by
  have ih1:=sup_van T w (v+1) (by simpa using h)
  have ih2:=sup_van T w v (by simpa using h)
  show sup T (v+1) (fun U=>ind ((false=true→a=0)∧Van U w))+sup T v (fun U=>ind ((true=true→a=0)∧Van U w))=ind ((false=true→a=0)∧Van T w)*(bin (zc (false::T) (a::w)) (v+1):Int)
  have e:∀U,ind ((false=true→a=0)∧Van U w)=ind (Van U w):=fun U=>ind_congr ⟨fun g=>g.2,fun g=>⟨fun e=>by simp at e,g⟩⟩
  rw[sup_congr T (v+1) _ _ (fun U _ _=>e U),sup_congr T v _ _ (fun U _ _=>ind_and _ (Van U w)),sup_mul,ih1,ih2,e]
  simp only[zc]
  by_cases ha:a=0
  ·rw[if_pos ha,ind_true (fun _=>ha),Nat.add_comm 1,bin_succ,Int.natCast_add];grind
  ·rw[if_neg ha,ind_false (p:=True→a=0) (fun g=>ha (g trivial)),Nat.zero_add];grind
theorem nc_f (T:List Bool) (a:Int) (w:List Int):nc (false::T) (a::w)=(if a=0 then 0 else 1)+nc T w:=rfl
theorem zc_f (T:List Bool) (a:Int) (w:List Int):zc (false::T) (a::w)=(if a=0 then 1 else 0)+zc T w:=rfl
theorem sup_in:∀(T:List Bool) (w:List Int) (v:Nat),T.length=w.length→
 sup T v (fun U=>ind (Van (U.map not) w))=if nc T w≤v then(bin (zc T w) (v-nc T w):Int) else 0
 | [],[],0,_=>by show ind True=_;rw[ind_true trivial];rfl
 | [],[],v+1,_=>by show(0:Int)=_;rfl
 | [],_::_,_,h=>by simp at h
 |_::_,[],_,h=>by simp at h
 |true::T,a::w,v,h=>by
  have ih:=sup_in T w v (by simpa using h)
  show sup T v (fun U=>ind ((false=true→a=0)∧Van (U.map not) w))=if nc T w≤v then(bin (zc T w) (v-nc T w):Int) else 0
  have e:∀U:List Bool,ind ((false=true→a=0)∧Van (U.map not) w)=ind (Van (U.map not) w):=fun U=>ind_congr ⟨fun g=>g.2,fun g=>⟨fun e=>by simp at e,g⟩⟩
  rw[sup_congr T v _ _ (fun U _ _=>e U),ih]
 |false::T,a::w,0,h=>by
  have ih:=sup_in T w 0 (by simpa using h)
  show sup T 0 (fun U=>ind ((true=true→a=0)∧Van (U.map not) w))=_
  rw[sup_congr T 0 _ _ (fun U _ _=>ind_and _ (Van (U.map not) w)),sup_mul,ih]
  rw[nc_f,zc_f]
  by_cases ha:a=0
  ·rw[if_pos ha,ind_true (fun _=>ha),if_pos ha]
   simp only[Nat.zero_add,bin_zero,Nat.zero_sub]
   simp
  ·rw[if_neg ha,ind_false (fun g=>ha (g rfl)),if_neg (by omega:¬1+nc T w≤0)];simp
 |false::T,a::w,v+1,h=>by
  have ih1:=sup_in T w (v+1) (by simpa using h)
  have ih2:=sup_in T w v (by simpa using h)
  show sup T (v+1) (fun U=>ind ((true=true→a=0)∧Van (U.map not) w))+sup T v (fun U=>ind ((false=true→a=0)∧Van (U.map not) w))=_
  have e:∀U:List Bool,ind ((false=true→a=0)∧Van (U.map not) w)=ind (Van (U.map not) w):=fun U=>ind_congr ⟨fun g=>g.2,fun g=>⟨fun e=>by simp at e,g⟩⟩
  rw[sup_congr T v _ _ (fun U _ _=>e U),sup_congr T (v+1) _ _ (fun U _ _=>ind_and _ (Van (U.map not) w)),sup_mul,ih1,ih2]
  rw[nc_f,zc_f]
  by_cases ha:a=0
  ·rw[if_pos ha,ind_true (fun _=>ha),if_pos ha,Nat.zero_add]
   by_cases h1:nc T w≤v
   ·rw[if_pos h1,if_pos (by omega),if_pos (by omega),Nat.add_comm 1,show v+1-nc T w=(v-nc T w)+1 by omega,bin_succ,Int.natCast_add];omega
   ·rw[if_neg h1]
    by_cases h2:nc T w≤v+1
    ·rw[if_pos h2,if_pos h2,show v+1-nc T w=0 by omega,bin_zero,bin_zero];rfl
    ·rw[if_neg h2,if_neg h2];rfl
  ·rw[if_neg ha,ind_false (fun g=>ha (g rfl)),if_neg ha,Nat.zero_add]
   by_cases h1:nc T w≤v
   ·rw[if_pos h1,if_pos (by omega:1+nc T w≤v+1),show v+1-(1+nc T w)=v-nc T w by omega];omega
   ·rw[if_neg h1,if_neg (by omega:¬1+nc T w≤v+1)];omega
def suppN (F:Nat→Int):Nat→Nat
 |0=>0
 |n+1=>suppN F n+if F n=0 then 0 else 1
theorem suppN_le (F G:Nat→Int):∀n,(∀j,j<n→F j=0→G j=0)→suppN G n≤suppN F n
 |0,_=>Nat.le_refl 0
 |n+1,h=>by
  have ih:=suppN_le F G n (fun j hj=>h j (by omega))
  simp only[suppN]
  by_cases e:F n=0
  ·rw[if_pos e,if_pos (h n (by omega) e)];exact ih
  ·rw[if_neg e];split<;>omega
theorem suppN_lt (F G:Nat→Int) (a:Nat):∀n,(∀j,j<n→F j=0→G j=0)→a<n→F a≠0→G a=0→suppN G n<suppN F n
 |0,_,h,_,_=>by omega
 |n+1,h,ha,h1,h2=>by
  simp only[suppN]
  by_cases e:a=n
  ·subst e
   have:=suppN_le F G a (fun j hj=>h j (by omega))
   rw[if_neg h1,if_pos h2];omega
  ·have ih:=suppN_lt F G a n (fun j hj=>h j (by omega)) (by omega) h1 h2
   by_cases e:F n=0
   ·rw[if_pos e,if_pos (h n (by omega) e)];omega
   ·rw[if_neg e];split<;>omega
theorem suppN_zero (F:Nat→Int):∀n,suppN F n=0→∀j,j<n→F j=0
 |0,_,j,hj=>by omega
 |n+1,h,j,hj=>by
  simp only[suppN] at h
  by_cases e:F n=0
  ·by_cases ej:j=n
   ·subst ej;exact e
   ·exact suppN_zero F n (by omega) j (by omega)
  ·rw[if_neg e] at h;omega
theorem suppN_top (F:Nat→Int):∀n,suppN F n≤n
 |0=>Nat.le_refl 0
 |n+1=>by have:=suppN_top F n;simp only[suppN];split<;>omega
theorem unique (n:Nat):∀(m:Nat) (F:Nat→Int),suppN F (n+1)≤m→(∀v,v<m→sm (n+1) (fun j=>F j*(bin (n-j) v:Int))=0)→∀j,j<n+1→F j=0:=by
 intro m
 induction m with
 |zero=>intro F h _;exact suppN_zero F (n+1) (by omega)
 |succ m ih=>
  intro F hs hm
  refine Classical.byContradiction fun hno=>?_
  obtain⟨a,ha,hne⟩:∃a,a<n+1∧F a≠0:=by
   refine Classical.byContradiction fun h=>hno fun j hj=>Classical.byContradiction fun e=>h ⟨j,hj,e⟩
  have hG:=ih (fun j=>((a:Int)-j)*F j) (by
   have:=suppN_lt F (fun j=>((a:Int)-j)*F j) a (n+1) (fun j _ e=>by show((a:Int)-j)*F j=0;rw[e];simp) ha hne (by show((a:Int)-a)*F a=0;simp)
   omega) (by
   intro v hv
   have h1:=hm (v+1) (by omega)
   have h2:=hm v (by omega)
   have e:∀j,j<n+1→((a:Int)-j)*F j*(bin (n-j) v:Int)=((v:Int)+1)*(F j*(bin (n-j) (v+1):Int))+((v:Int)-n+a)*(F j*(bin (n-j) v:Int)):=by
    intro j hj
    have hb:=bin_step (n-j) v
    by_cases g:v≤n-j
    ·have hb':=congrArg (fun x:Nat=>(x:Int)) hb
     simp only[Int.natCast_mul] at hb'
     rw[show((n-j-v:Nat):Int)=(n:Int)-j-v by omega,show((v+1:Nat):Int)=(v:Int)+1 by omega] at hb'
     generalize (bin (n-j) (v+1):Int)=x at*
     generalize (bin (n-j) v:Int)=y at*
     grind
    ·rw[bin_above (n:=n-j) (k:=v) (by omega),bin_above (n:=n-j) (k:=v+1) (by omega)];simp
   rw[sm_congr e,sm_add,sm_mul,sm_mul,h1,h2];simp)
  have hz:∀j,j<n+1→j≠a→F j=0:=by
   intro j hj hja
   have:=hG j hj
   have this:((a:Int)-j)*F j=0:=this
   rcases Int.mul_eq_zero.mp this with e|e
   ·omega
   ·exact e
  have h0:=hm 0 (by omega)
  rw[sm_single (a:=a) ha (fun i hi hia=>by rw[hz i hi hia];simp),bin_zero] at h0
  simp at h0
  exact hne h0
section codes
variable {q:Nat} {add mul:Int→Int→Int}
theorem moments (F:Fld q add mul) (n:Nat) (C:List Int→Prop) (hC:Lin q add mul n C) (T:List Bool) (hT:T.length=n) (v:Nat) (hv:cnt T+v≤n):
 ws q n (fun c=>ind (C c)*if nc T c≤v then(bin (zc T c) (v-nc T c):Int) else 0)*(q:Int)^(n-(cnt T+v))=
 ws q n (fun c=>ind (C c))*ws q n (fun d=>ind (Dl q add mul n C d)*(ind (Van T d)*(bin (zc T d) v:Int))):=by
 have e1:ws q n (fun c=>ind (C c)*if nc T c≤v then(bin (zc T c) (v-nc T c):Int) else 0)=sup T v (fun U=>ws q n (fun c=>ind (C c∧Van (U.map not) c))):=by
  rw[sup_ws]
  refine ws_congr fun w hw=>?_
  rw[sup_congr T v _ _ (fun U _ _=>ind_and (C w) (Van (U.map not) w)),sup_mul,sup_in T w v (by rw[hT,hw.1])]
 have e2:ws q n (fun d=>ind (Dl q add mul n C d)*(ind (Van T d)*(bin (zc T d) v:Int)))=sup T v (fun U=>ws q n (fun d=>ind (Dl q add mul n C d∧Van U d))):=by
  rw[sup_ws]
  refine ws_congr fun w hw=>?_
  rw[sup_congr T v _ _ (fun U _ _=>ind_and (Dl q add mul n C w) (Van U w)),sup_mul,sup_van T w v (by rw[hT,hw.1])]
 rw[e1,e2,Int.mul_comm _ ((q:Int)^_),←sup_mul,←sup_mul]
 refine sup_congr T v _ _ fun U h1 h2=>?_
 have k:=key F n C hC (U.map not) (by rw[List.length_map,h1,hT])
 rw[not_not_list] at k
 have hc:=cnt_not U
 rw[←k,Int.mul_comm,show n-(cnt T+v)=cnt (U.map not) by omega]
noncomputable def wd (q n:Nat) (C:List Int→Prop) (T:List Bool) (j:Nat):Int:=ws q n (fun c=>ind (C c)*(ind (Van T c)*ind (wt c=j)))
theorem by_weight (n:Nat) (C:List Int→Prop) (T:List Bool) (f:Nat→Int):
 ws q n (fun c=>ind (C c)*(ind (Van T c)*f (wt c)))=sm (n+1) (fun j=>wd q n C T j*f j):=by
 have:∀j,j<n+1→wd q n C T j*f j=ws q n (fun c=>ind (C c)*(ind (Van T c)*ind (wt c=j))*f j):=fun j _=>(ws_mul_right n (f j) _).symm
 rw[sm_congr this,←ws_sm]
 refine ws_congr fun w hw=>?_
 have hl:=wt_le w
 rw[hw.1] at hl
 rw[sm_single (a:=wt w) (by omega) (fun i _ hne=>by rw[ind_false (fun e:wt w=i=>hne e.symm)];simp),ind_true rfl]
 grind
theorem dual_moments (F:Fld q add mul) (n:Nat) (C:List Int→Prop) (hC:Lin q add mul n C) (T:List Bool) (hT:T.length=n) (v:Nat) (hv:cnt T+v≤n):
 ws q n (fun c=>ind (C c)*if nc T c≤v then(bin (zc T c) (v-nc T c):Int) else 0)*(q:Int)^(n-(cnt T+v))=
 ws q n (fun c=>ind (C c))*sm (n+1) (fun j=>wd q n (Dl q add mul n C) T j*(bin (n-cnt T-j) v:Int)):=by
 rw[moments F n C hC T hT v hv]
 congr 1
 rw[←by_weight n (Dl q add mul n C) T (fun j=>(bin (n-cnt T-j) v:Int))]
 refine ws_congr fun w hw=>?_
 by_cases h:Van T w
 ·have h1:=zc_nc T w (by rw[hT,hw.1])
  have h2:=nc_van T w (by rw[hT,hw.1]) h
  rw[hw.1] at h1
  rw[show n-cnt T-wt w=zc T w by omega]
 ·rw[ind_false h];simp
def none' (n:Nat):List Bool:=List.replicate n false
theorem none_len (n:Nat):(none' n).length=n:=List.length_replicate
theorem none_cnt:∀n,cnt (none' n)=0
 |0=>rfl
 |n+1=>none_cnt n
theorem none_van:∀(n:Nat) (w:List Int),Van (none' n) w
 |0,_=>trivial
 |_+1,[]=>trivial
 |n+1,_::w=>⟨fun e=>by simp at e,none_van n w⟩
theorem pless (F:Fld q add mul) (n:Nat) (C:List Int→Prop) (hC:Lin q add mul n C) (v:Nat) (hv:v≤n):
 (q:Int)^v*sm (n+1) (fun i=>wd q n C (none' n) i*(bin (n-i) v:Int))=
 ws q n (fun c=>ind (C c))*sm (n+1) (fun j=>wd q n (Dl q add mul n C) (none' n) j*(bin (n-j) (n-v):Int)):=by
 have h:=dual_moments F n C hC (none' n) (none_len n) (n-v) (by rw[none_cnt];omega)
 rw[none_cnt,Nat.zero_add,Nat.sub_zero,show n-(n-v)=v by omega] at h
 rw[←h,Int.mul_comm,←by_weight n C (none' n) (fun j=>(bin (n-j) v:Int))]
 congr 1
 refine ws_congr fun w hw=>?_
 rw[ind_true (none_van n w),Int.one_mul]
 congr 1
 have h1:=zc_nc (none' n) w (by rw[none_len,hw.1])
 have h2:=nc_van (none' n) w (by rw[none_len,hw.1]) (none_van n w)
 rw[none_cnt,hw.1] at h1
 rw[h2,show zc (none' n) w=n-wt w by omega]
 by_cases e:wt w≤n-v
 ·rw[if_pos e,←bin_symm (n:=n-wt w) (k:=v) (by omega),show n-wt w-v=n-v-wt w by omega]
 ·rw[if_neg e,bin_above (by omega)];rfl
theorem macwilliams (F:Fld q add mul) (n:Nat) (C:List Int→Prop) (hC:Lin q add mul n C) (j:Nat) (hj:j≤n):
 ws q n (fun c=>ind (C c))*wd q n (Dl q add mul n C) (none' n) j=sm (n+1) (fun i=>wd q n C (none' n) i*kr ((q:Int)-1) (n-i) i j):=by
 have hz:∀z:Int,sm (n+1) (fun j=>(ws q n (fun c=>ind (C c))*wd q n (Dl q add mul n C) (none' n) (n-j))*z^j)=
  sm (n+1) (fun j=>sm (n+1) (fun i=>wd q n C (none' n) i*kr ((q:Int)-1) (n-i) i (n-j))*z^j):=by
  intro z
  have r1:=sm_rev n (fun j=>(ws q n (fun c=>ind (C c))*wd q n (Dl q add mul n C) (none' n) (n-j))*z^j)
  have r2:=sm_rev n (fun j=>sm (n+1) (fun i=>wd q n C (none' n) i*kr ((q:Int)-1) (n-i) i (n-j))*z^j)
  rw[r1,r2]
  have f1:sm (n+1) (fun i=>(ws q n (fun c=>ind (C c))*wd q n (Dl q add mul n C) (none' n) (n-(n-i)))*z^(n-i))=
   sm (n+1) (fun u=>(z-1)^u*(ws q n (fun c=>ind (C c))*sm (n+1) (fun j=>wd q n (Dl q add mul n C) (none' n) j*(bin (n-j) u:Int)))):=by
   have s1:∀i,i<n+1→(ws q n (fun c=>ind (C c))*wd q n (Dl q add mul n C) (none' n) (n-(n-i)))*z^(n-i)=
    sm (n+1) (fun u=>ws q n (fun c=>ind (C c))*(wd q n (Dl q add mul n C) (none' n) i*((bin (n-i) u:Int)*(z-1)^u))):=by
    intro i hi
    rw[show n-(n-i)=i by omega,sm_mul,sm_mul]
    have:=binomial (n-i) 1 (z-1)
    rw[show(1:Int)+(z-1)=z by omega] at this
    rw[this,Int.mul_assoc]
    congr 2
    rw[sm_more (m:=n-i+1) (n:=n+1) (by omega) (fun k hk=>by rw[bin_above (by omega)];simp)]
    refine sm_congr fun u _=>?_
    rw[Int.one_pow,Int.mul_one]
   rw[sm_congr s1,sm_swap]
   refine sm_congr fun u _=>?_
   rw[←sm_mul,←sm_mul]
   refine sm_congr fun i _=>?_
   grind
  rw[f1]
  have f2:∀u,u<n+1→(z-1)^u*(ws q n (fun c=>ind (C c))*sm (n+1) (fun j=>wd q n (Dl q add mul n C) (none' n) j*(bin (n-j) u:Int)))=
   sm (n+1) (fun i=>wd q n C (none' n) i*((z-1)^u*(q:Int)^(n-u)*(bin (n-i) (n-u):Int))):=by
   intro u hu
   have:=pless F n C hC (n-u) (by omega)
   rw[show n-(n-u)=u by omega] at this
   rw[←this,←sm_mul,←sm_mul]
   refine sm_congr fun i _=>?_
   grind
  rw[sm_congr f2,sm_swap]
  have f3:∀i,i<n+1→sm (n+1) (fun j=>wd q n C (none' n) i*((z-1)^j*(q:Int)^(n-j)*(bin (n-i) (n-j):Int)))=
   sm (n+1) (fun j=>wd q n C (none' n) i*(kr ((q:Int)-1) (n-i) i j*z^(n-j))):=by
   intro i hi
   rw[sm_mul,sm_mul]
   congr 1
   have g1:=kr_gen ((q:Int)-1) (n-i) i z 1
   rw[show n-i+i=n by omega] at g1
   have g2:=binomial (n-i) (z-1) (q:Int)
   have g3:sm (n+1) (fun j=>kr ((q:Int)-1) (n-i) i j*z^(n-j))=(z-1)^i*(z-1+q)^(n-i):=by
    rw[Int.mul_comm,show z-1+(q:Int)=z+((q:Int)-1)*1 by omega,←g1]
    refine sm_congr fun j _=>?_
    rw[Int.one_pow,Int.mul_one]
   rw[g3,g2,←sm_mul]
   rw[sm_rev]
   rw[sm_more' (m:=n-i+1) (n:=n+1) (by omega) (fun k hk hk2=>by
    rw[show n-(n-k)=k by omega,bin_above (by omega)];simp)]
   refine sm_congr fun k hk=>?_
   rw[show n-(n-k)=k by omega,show n-k=i+(n-i-k) by omega,Int.pow_add]
   grind
  rw[sm_congr f3,sm_swap]
  refine sm_congr fun j hj=>?_
  rw[show n-(n-j)=j by omega,←sm_mul_right]
  refine sm_congr fun i _=>?_
  rw[Int.mul_assoc]
 have:=poly_eq hz (n-j) (by omega)
 rw[show n-(n-j)=j by omega] at this
 exact this
end codes
end Mw
end
section
set_option linter.unusedVariables false
set_option linter.unusedSimpArgs false
namespace Mw
open Go Go.RowKit Go.Proofs.YtifkbghnmhineaaW.PrintWords Go.Proofs.YtifkbghnmhineaaW.PrintLast Go.Proofs.YtifkbghnmhineaaW.PrintMore Go.Proofs.Ytifkbghnmhineaa.PAll
theorem rd1_lt {l:List (List Int)} {i:Nat} (h:i<l.length):rd_L1 l (i:Int)=l[i]:=by
 unfold rd_L1
 simp [List.getD_eq_getElem?_getD,h]
theorem ext_rd {l:List Int} {n:Nat} {f:Nat→Int} (h:l.length=n) (hf:∀i,i<n→rd l (i:Int)=f i):l=(List.range n).map f:=by
 refine List.ext_getElem (by simp [h]) (fun i h1 h2=>?_)
 rw[←rd_lt h1,hf i (by omega)]
 simp
theorem ext_rd2 {a b:List Int} (h:a.length=b.length) (hf:∀i,i<a.length→rd a (i:Int)=rd b (i:Int)):a=b:=by
 refine List.ext_getElem h (fun i h1 h2=>?_)
 rw[←rd_lt h1,hf i h1,rd_lt h2]
theorem rd_range {n:Nat} {f:Nat→Int} {i:Nat} (h:i<n):rd ((List.range n).map f) (i:Int)=f i:=by
 rw[rd_lt (by simpa using h)]
 simp
def rowL (q n:Nat) (l:List Int):List Int:=(List.range n).map (fun i:Nat=>inq q (rd l (i:Int)))
theorem rowL_wd {q n:Nat} (hq:2≤q) (l:List Int):Wd q n (rowL q n l):=by
 refine⟨by simp [rowL],fun x hx=>?_⟩
 obtain⟨i,_,rfl⟩:=List.mem_map.mp hx
 exact inq_el hq _
theorem inq_zero {q:Nat}:inq q 0=0:=by unfold inq;split<;>rfl
theorem row_ev {p m n:Nat} (h:Fd p m) (md l:List Int) (hn:n≤12):Ev (fun k=>r24_Row.f k (p:Int) (m:Int) md (n:Int) l) (rowL (p^m) n l):=by
 have loop:∀(d i:Nat) (o:List Int),i+d=n→o.length=n→(∀j,j<i→rd o (j:Int)=inq (p^m) (rd l (j:Int)))→(∀j,i≤j→j<n→rd o (j:Int)=0)→
  Ev (fun k=>r24_Row.l0 k (n:Int) l o (i:Int) (p:Int) (m:Int) md) (rowL (p^m) n l):=by
  intro d
  induction d with
  |zero=>
   intro i o hi ho hl hz
   have:i=n:=by omega
   subst this
   refine Ev.succ ?_
   simp only[r24_Row.l0,if_neg (Int.lt_irrefl (i:Int))]
   exact Ev.cast (Ev.some _) (ext_rd ho hl)
  |succ d ih=>
   intro i o hi ho hl hz
   refine Ev.succ ?_
   simp only[r24_Row.l0,if_pos (show(i:Int)<(n:Int) by omega)]
   by_cases g:i<l.length
   ·simp only[if_pos (show(i:Int)<(l.length:Int) by omega),if_pos (show(0:Int)≤(i:Int) from Int.natCast_nonneg _)]
    refine Ev.bind (in_ev h md _) ?_
    simp only[if_pos (show(i:Int)<(o.length:Int) by omega),Int.toNat_natCast,wn (show(i:Int)+1=((i+1:Nat):Int) by omega) (by omega)]
    refine ih (i+1) _ (by omega) (by rw[List.length_set];exact ho) (fun j hj=>?_) (fun j h1 h2=>?_)
    ·by_cases g2:i=j
     ·subst g2;rw[rd_set_eq _ (by omega)]
     ·rw[rd_set_ne _ g2];exact hl j (by omega)
    ·rw[rd_set_ne _ (by omega)];exact hz j (by omega) h2
   ·simp only[if_neg (show ¬(i:Int)<(l.length:Int) by omega)]
    refine Ev.cast (Ev.some _) (ext_rd ho (fun j hj=>?_))
    by_cases g2:j<i
    ·exact hl j g2
    ·rw[hz j (by omega) hj,rd_ge (by omega),inq_zero]
 simp only[r24_Row.f,if_pos (show(0:Int)≤(n:Int) from Int.natCast_nonneg _),Int.toNat_natCast,if_pos (show n≤35184372088832 by omega)]
 exact loop n 0 _ (by omega) List.length_replicate (fun j hj=>by omega) (fun j _ _=>rd_rep n j)
def dct (a b:List Int):Nat→Nat
 |0=>0
 |i+1=>dct a b i+if rd a (i:Int)=rd b (i:Int) then 0 else 1
theorem dct_le (a b:List Int):∀i,dct a b i≤i:=by
 intro i
 induction i with
 |zero=>exact Nat.le_refl 0
 |succ i ih=>rw[dct];split<;>omega
theorem dct_zero (a b:List Int):∀i,dct a b i=0↔∀j,j<i→rd a (j:Int)=rd b (j:Int):=by
 intro i
 induction i with
 |zero=>exact⟨fun _ j hj=>by omega,fun _=>rfl⟩
 |succ i ih=>
  rw[dct]
  refine⟨fun h j hj=>?_,fun h=>?_⟩
  ·by_cases e:rd a (i:Int)=rd b (i:Int)
   ·rw[if_pos e,Nat.add_zero] at h
    by_cases g:j=i
    ·subst g;exact e
    ·exact ih.mp h j (by omega)
   ·rw[if_neg e] at h;omega
  ·rw[if_pos (h i (by omega)),ih.mpr (fun j hj=>h j (by omega))]
theorem dct_rep (w:List Int) (n:Nat):∀i,i≤w.length→dct w (List.replicate n 0) i=wt (w.take i):=by
 have wt_app:∀(u:List Int) (a:Int),wt (u++[a])=wt u+if a=0 then 0 else 1:=by
  intro u a
  induction u with
  |nil=>simp [wt]
  |cons b u ih=>simp only[List.cons_append,wt,ih];omega
 intro i
 induction i with
 |zero=>intro _;simp [dct,wt]
 |succ i ih=>
  intro hi
  rw[dct,ih (by omega),take_succ_rd (by omega),wt_app,rd_rep]
theorem dist_ev {a b:List Int} (hl:a.length=b.length) (hn:a.length≤12):Ev (fun k=>r24_Distance.f k a b) ((dct a b a.length:Nat):Int):=by
 have loop:∀(d i:Nat),i+d=a.length→Ev (fun k=>r24_Distance.l0 k a b ((dct a b i:Nat):Int) (i:Int)) ((dct a b a.length:Nat):Int):=by
  intro d
  induction d with
  |zero=>
   intro i hi
   have:i=a.length:=by omega
   subst this
   refine Ev.succ ?_
   simp only[r24_Distance.l0,if_neg (Int.lt_irrefl (a.length:Int))]
   exact Ev.some _
  |succ d ih=>
   intro i hi
   have h1:=dct_le a b i
   have nx:=ih (i+1) (by omega)
   rw[dct] at nx
   refine Ev.succ ?_
   simp only[r24_Distance.l0,if_pos (show(i:Int)<(a.length:Int) by omega),if_pos (show(0:Int)≤(i:Int) from Int.natCast_nonneg _),if_pos (show(i:Int)<(b.length:Int) by omega),wn (show(i:Int)+1=((i+1:Nat):Int) by omega) (by omega),wn (show((dct a b i:Nat):Int)+1=((dct a b i+1:Nat):Int) by omega) (by omega)]
   by_cases g:rd a (i:Int)=rd b (i:Int)
   ·simp only[if_pos g,Nat.add_zero] at nx ⊢;exact nx
   ·simp only[if_neg g] at nx ⊢;exact nx
 simp only[r24_Distance.f]
 exact loop a.length 0 (by omega)
theorem dct_eq {a b:List Int} (hl:a.length=b.length):dct a b a.length=0↔a=b:=
 ⟨fun h=>ext_rd2 hl ((dct_zero a b a.length).mp h),fun h=>by subst h;exact(dct_zero a a a.length).mpr (fun _ _=>rfl)⟩
theorem has_ev {q n:Nat} {l:List (List Int)} {r:List Int} (hl:∀w,w∈l→Wd q n w) (hr:Wd q n r) (hn:n≤12) (hlen:l.length≤4096):Ev (fun k=>r24_has.f k l r) (decide (r∈l)):=by
 have loop:∀(d i:Nat),i+d=l.length→(∀j,(h:j<l.length)→j<i→l[j]≠r)→Ev (fun k=>r24_has.l0 k l r (i:Int)) (decide (r∈l)):=by
  intro d
  induction d with
  |zero=>
   intro i hi hh
   refine Ev.succ ?_
   simp only[r24_has.l0,if_neg (show ¬(i:Int)<(l.length:Int) by omega)]
   refine Ev.cast (Ev.some _) (decide_eq_false (fun hm=>?_)).symm
   obtain⟨j,hj,e⟩:=List.getElem_of_mem hm
   exact hh j hj (by omega) e
  |succ d ih=>
   intro i hi hh
   have hil:i<l.length:=by omega
   have hw:=hl l[i] (List.getElem_mem hil)
   have hlr:l[i].length=r.length:=by rw[hw.1,hr.1]
   refine Ev.succ ?_
   simp only[r24_has.l0,if_pos (show(i:Int)<(l.length:Int) by omega),if_pos (show(0:Int)≤(i:Int) from Int.natCast_nonneg _),rd1_lt hil,wn (show(i:Int)+1=((i+1:Nat):Int) by omega) (by omega)]
   refine Ev.bind (dist_ev hlr (by have:=hw.1;omega)) ?_
   by_cases g:l[i]=r
   ·simp only[if_pos (show((dct l[i] r l[i].length:Nat):Int)=0 by rw[(dct_eq hlr).mpr g];rfl)]
    exact Ev.cast (Ev.some _) (decide_eq_true (by rw[←g];exact List.getElem_mem hil)).symm
   ·have:dct l[i] r l[i].length≠0:=fun e=>g ((dct_eq hlr).mp e)
    simp only[if_neg (show ¬((dct l[i] r l[i].length:Nat):Int)=0 by omega)]
    refine ih (i+1) (by omega) (fun j h1 h2=>?_)
    by_cases e:j=i
    ·subst e;exact g
    ·exact hh j h1 (by omega)
 simp only[r24_has.f]
 exact loop l.length 0 (by omega) (fun j _ h=>by omega)
section
variable {q n:Nat} {add mul:Int→Int→Int}
structure Sp (q:Nat) (add mul:Int→Int→Int) (n:Nat) (R:Nat→List Int) (i:Nat) (l:List (List Int)):Prop where
 nodup:l.Nodup
 wd:∀w,w∈l→Wd q n w
 lin:Lin q add mul n (· ∈l)
 rows:∀j,j<i→R j∈l
 least:∀D,Lin q add mul n D→(∀j,j<i→D (R j))→∀w,w∈l→D w
 few:l.length≤4096
def cmb (add mul:Int→Int→Int) (r:List Int) (a:Int) (u:List Int):List Int:=wadd add u (wscl mul a r)
def more (q:Nat) (add mul:Int→Int→Int) (r:List Int) (l:List (List Int)) (a:Nat):List (List Int):=(List.range a).flatMap (fun b:Nat=>l.map (cmb add mul r (b:Int)))
theorem more_mem {r w:List Int} {l:List (List Int)} {a:Nat}:w∈more q add mul r l a↔∃(b:Nat) (u:List Int),b<a∧u∈l∧w=cmb add mul r (b:Int) u:=by
 unfold more
 rw[List.mem_flatMap]
 constructor
 ·rintro⟨b,hb,hw⟩
  obtain⟨u,hu,e⟩:=List.mem_map.mp hw
  exact⟨b,u,List.mem_range.mp hb,hu,e.symm⟩
 ·rintro⟨b,u,hb,hu,rfl⟩
  exact⟨b,List.mem_range.mpr hb,List.mem_map.mpr ⟨u,hu,rfl⟩⟩
theorem more_succ (r:List Int) (l:List (List Int)) (a:Nat):more q add mul r l (a+1)=more q add mul r l a++l.map (cmb add mul r (a:Int)):=by
 unfold more
 rw[List.range_succ,List.flatMap_append]
 simp
theorem more_len (r:List Int) (l:List (List Int)):∀a,(more q add mul r l a).length=a*l.length:=by
 intro a
 induction a with
 |zero=>simp [more]
 |succ a ih=>rw[more_succ,List.length_append,ih,List.length_map,Nat.add_mul,Nat.one_mul]
theorem cmb_wd (F:Fld q add mul) {r u:List Int} {a:Int} (ha:El q a) (hr:Wd q n r) (hu:Wd q n u):Wd q n (cmb add mul r a u):=wd_wadd F hu (wd_wscl F ha hr)
theorem wadd_swap (F:Fld q add mul) {a b c d:List Int} (ha:Wd q n a) (hb:Wd q n b) (hc:Wd q n c) (hd:Wd q n d):wadd add (wadd add a b) (wadd add c d)=wadd add (wadd add a c) (wadd add b d):=by
 rw[wadd_assoc F ha hb (wd_wadd F hc hd),←wadd_assoc F hb hc hd,wadd_comm F hb hc,wadd_assoc F hc hb hd,←wadd_assoc F ha hc (wd_wadd F hb hd)]
theorem el_nat {a:Nat} (h:a<q):El q (a:Int):=⟨Int.natCast_nonneg _,by omega⟩
theorem sp_more (F:Fld q add mul) {R:Nat→List Int} {i:Nat} {l:List (List Int)} (h:Sp q add mul n R i l) {r:List Int} (hr:Wd q n r) (hR:R i=r) (hnot:r∉l) (hlen:q*l.length≤4096):Sp q add mul n R (i+1) (more q add mul r l q):=by
 have hq:=F.two
 have e0:=F.el0
 have e1:=F.el1
 have elim:∀{w:List Int},w∈more q add mul r l q→∃(b:Int) (u:List Int),El q b∧u∈l∧w=cmb add mul r b u:=by
  intro w hw
  obtain⟨b,u,hb,hu,e⟩:=more_mem.mp hw
  exact⟨(b:Int),u,el_nat hb,hu,e⟩
 have intr:∀{b:Int} {u:List Int},El q b→u∈l→cmb add mul r b u∈more q add mul r l q:=by
  intro b u hb hu
  obtain⟨c,rfl⟩:∃c:Nat,b=(c:Int):=⟨b.toNat,by have:=hb.1;omega⟩
  exact more_mem.mpr ⟨c,u,by have:=hb.2;omega,hu,rfl⟩
 have lin:Lin q add mul n (· ∈more q add mul r l q):=by
  refine⟨?_,?_,?_⟩
  ·have:cmb add mul r 0 (List.replicate n 0)∈more q add mul r l q:=intr e0 h.lin.zero
   unfold cmb at this
   rw[wscl_zero F hr,wadd_rep F (wd_rep e0)] at this
   exact this
  ·intro u v _ _ hu hv
   obtain⟨a,u',ha,hu',rfl⟩:=elim hu
   obtain⟨b,v',hb,hv',rfl⟩:=elim hv
   have wu:=h.wd u' hu'
   have wv:=h.wd v' hv'
   have e:wadd add (cmb add mul r a u') (cmb add mul r b v')=cmb add mul r (add a b) (wadd add u' v'):=by
    unfold cmb
    rw[wadd_swap F wu (wd_wscl F ha hr) wv (wd_wscl F hb hr),wscl_add F ha hb hr]
   rw[e]
   exact intr (F.add_el a b ha hb) (h.lin.add u' v' wu wv hu' hv')
  ·intro c u hc _ hu
   obtain⟨a,u',ha,hu',rfl⟩:=elim hu
   have wu:=h.wd u' hu'
   have e:wscl mul c (cmb add mul r a u')=cmb add mul r (mul c a) (wscl mul c u'):=by
    unfold cmb
    rw[wscl_wadd F hc wu (wd_wscl F ha hr),wscl_wscl F hc ha hr]
   rw[e]
   exact intr (F.mul_el c a hc ha) (h.lin.scl c u' hc wu hu')
 have old:∀{u:List Int},u∈l→u∈more q add mul r l q:=by
  intro u hu
  have:=intr e0 hu
  unfold cmb at this
  rw[wscl_zero F hr,wadd_rep F (h.wd u hu)] at this
  exact this
 have inj:∀{a b:Int} {u v:List Int},El q a→El q b→u∈l→v∈l→cmb add mul r a u=cmb add mul r b v→a=b∧u=v:=by
  intro a b u v ha hb hu hv e
  have wu:=h.wd u hu
  have wv:=h.wd v hv
  obtain⟨mi,hmi,_,hneg⟩:=wneg F
  obtain⟨c,hc,hc0⟩:=F.neg b hb
  have cancel:∀{x y t:List Int},Wd q n x→Wd q n y→Wd q n t→wadd add x t=wadd add y t→x=y:=by
   intro x y t wx wy wt' e
   have e2:wadd add (wadd add x t) (wscl mul mi t)=wadd add (wadd add y t) (wscl mul mi t):=by rw[e]
   rw[wadd_assoc F wx wt' (wd_wscl F hmi wt'),wadd_assoc F wy wt' (wd_wscl F hmi wt'),hneg wt',wadd_rep F wx,wadd_rep F wy] at e2
   exact e2
  have hab:a=b:=by
   refine Classical.byContradiction fun hne=>?_
   have hd:El q (add a c):=F.add_el a c ha hc
   have hd0:add a c≠0:=by
    intro e0'
    apply hne
    have e3:add c a=add c b:=by rw[F.add_comm c a hc ha,F.add_comm c b hc hb,e0',hc0]
    exact F.cancel c a b hc ha hb e3
   have e4:wadd add u (wscl mul (add a c) r)=v:=by
    have e5:wadd add (cmb add mul r a u) (wscl mul c r)=wadd add (cmb add mul r b v) (wscl mul c r):=by rw[e]
    unfold cmb at e5
    rw[wadd_assoc F wu (wd_wscl F ha hr) (wd_wscl F hc hr),wadd_assoc F wv (wd_wscl F hb hr) (wd_wscl F hc hr),←wscl_add F ha hc hr,←wscl_add F hb hc hr,hc0,wscl_zero F hr,wadd_rep F wv] at e5
    exact e5
   have wdr:=wd_wscl F hd hr
   have e6:wscl mul (add a c) r=wadd add v (wscl mul mi u):=by
    rw[←e4,wadd_comm F wu wdr,wadd_assoc F wdr wu (wd_wscl F hmi wu),hneg wu,wadd_rep F wdr]
   have hin:wscl mul (add a c) r∈l:=by
    rw[e6]
    exact h.lin.add _ _ wv (wd_wscl F hmi wu) hv (h.lin.scl mi u hmi wu hu)
   obtain⟨y,hy,hy1⟩:=F.inv (add a c) hd hd0
   have:=h.lin.scl y _ hy wdr hin
   rw[wscl_wscl F hy hd hr,F.mul_comm y _ hy hd,hy1,wscl_one F hr] at this
   exact hnot this
  subst hab
  exact⟨rfl,cancel wu wv (wd_wscl F ha hr) e⟩
 refine⟨?_,?_,lin,?_,?_,?_⟩
 ·unfold more List.Nodup
  rw[List.pairwise_flatMap]
  refine⟨fun b hb=>?_,?_⟩
  ·rw[List.pairwise_map]
   have hb':=el_nat (q:=q) (List.mem_range.mp hb)
   refine List.Pairwise.imp_of_mem (fun {u v} hu hv hne e=>hne (inj hb' hb' hu hv e).2) h.nodup
  ·have hnd:(List.range q).Nodup:=List.nodup_range
   refine List.Pairwise.imp_of_mem (fun {a b} ha hb hne=>?_) hnd
   intro x hx y hy e
   obtain⟨u,hu,rfl⟩:=List.mem_map.mp hx
   obtain⟨v,hv,rfl⟩:=List.mem_map.mp hy
   have:=(inj (el_nat (List.mem_range.mp ha)) (el_nat (List.mem_range.mp hb)) hu hv e).1
   omega
 ·intro w hw
  obtain⟨a,u,ha,hu,rfl⟩:=elim hw
  exact cmb_wd F ha hr (h.wd u hu)
 ·intro j hj
  by_cases g:j=i
  ·subst g
   rw[hR]
   have:=intr e1 h.lin.zero
   unfold cmb at this
   rw[wscl_one F hr,wadd_comm F (wd_rep e0) hr,wadd_rep F hr] at this
   exact this
  ·exact old (h.rows j (by omega))
 ·intro D hD hrows w hw
  obtain⟨a,u,ha,hu,rfl⟩:=elim hw
  have wu:=h.wd u hu
  have d1:=h.least D hD (fun j hj=>hrows j (by omega)) u hu
  have d2:=hrows i (by omega)
  rw[hR] at d2
  exact hD.add _ _ wu (wd_wscl F ha hr) d1 (hD.scl a r ha hr d2)
 ·rw[more_len];exact hlen
theorem sp_zero (F:Fld q add mul) (R:Nat→List Int):Sp q add mul n R 0 [List.replicate n 0]:=by
 refine⟨by simp,?_,⟨by simp,?_,?_⟩,fun j h=>by omega,?_,by simp⟩
 ·intro w hw
  rw[List.mem_singleton.mp hw]
  exact wd_rep F.el0
 ·intro u v _ _ hu hv
  rw[List.mem_singleton.mp hu,List.mem_singleton.mp hv,wadd_rep F (wd_rep F.el0)]
  exact List.mem_singleton.mpr rfl
 ·intro a u ha _ hu
  rw[List.mem_singleton.mp hu,wscl_rep F ha]
  exact List.mem_singleton.mpr rfl
 ·intro D hD _ w hw
  rw[List.mem_singleton.mp hw]
  exact hD.zero
theorem sp_same {R:Nat→List Int} {i:Nat} {l:List (List Int)} (h:Sp q add mul n R i l) (hin:R i∈l):Sp q add mul n R (i+1) l:=by
 refine⟨h.nodup,h.wd,h.lin,fun j hj=>?_,fun D hD hr w hw=>h.least D hD (fun j hj=>hr j (by omega)) w hw,h.few⟩
 by_cases g:j=i
 ·subst g;exact hin
 ·exact h.rows j (by omega)
end
theorem rd_wadd {add:Int→Int→Int} {u v:List Int} {i:Nat} (h1:i<u.length) (h2:i<v.length):rd (wadd add u v) (i:Int)=add (rd u (i:Int)) (rd v (i:Int)):=by
 rw[rd_lt h1,rd_lt h2,rd_lt (by unfold wadd;simp;omega)]
 simp [wadd]
theorem rd_wscl {mul:Int→Int→Int} {a:Int} {u:List Int} {i:Nat} (h1:i<u.length):rd (wscl mul a u) (i:Int)=mul a (rd u (i:Int)):=by
 rw[rd_lt h1,rd_lt (by unfold wscl;simp;omega)]
 simp [wscl]
theorem wd_rd {q n:Nat} {w:List Int} (h:Wd q n w) {i:Nat} (hi:i<n):El q (rd w (i:Int)):=by
 rw[rd_lt (by rw[h.1];exact hi)]
 exact h.2 _ (List.getElem_mem _)
structure FE (p m:Nat) (md:List Int) (add mul:Int→Int→Int):Prop where
 fd:Fd p m
 fld:Fld (p^m) add mul
 ea:∀x y,El (p^m) x→El (p^m) y→Ev (fun k=>r4_Add.f k (p:Int) (m:Int) md x y) (add x y)
 em:∀x y,El (p^m) x→El (p^m) y→Ev (fun k=>r4_Mul.f k (p:Int) (m:Int) md x y) (mul x y)
section
variable {p m n:Nat} {md:List Int} {add mul:Int→Int→Int}
theorem cmb_rd {r u:List Int} {a:Int} {i:Nat} (h1:u.length=n) (h2:r.length=n) (hi:i<n):rd (cmb add mul r a u) (i:Int)=add (rd u (i:Int)) (mul a (rd r (i:Int))):=by
 unfold cmb
 rw[rd_wadd (by omega) (by unfold wscl;simp;omega),rd_wscl (by omega)]
theorem span_ev (E:FE p m md add mul) (hn:n≤12) {rows:List (List Int)} (hrl:rows.length≤12):
 Rz (fun l=>l=[]∨Sp (p^m) add mul n (fun j=>rowL (p^m) n (rd_L1 rows (j:Int))) rows.length l) (fun k=>r24_Span.f k (p:Int) (m:Int) md (n:Int) rows 4096):=by
 have hq2:=E.fld.two
 have hq:=E.fd.small
 have F:=E.fld
 obtain⟨q,hqd⟩:∃q,q=p^m:=⟨_,rfl⟩
 let Q:List (List Int)→Prop:=fun l=>l=[]∨Sp (p^m) add mul n (fun j=>rowL (p^m) n (rd_L1 rows (j:Int))) rows.length l
 have outer:∀(d i:Nat) (l:List (List Int)),i+d=rows.length→Sp (p^m) add mul n (fun j=>rowL (p^m) n (rd_L1 rows (j:Int))) i l→
  Rz Q (fun k=>r24_Span.l0 k (n:Int) rows 4096 l (i:Int) (p:Int) (m:Int) md):=by
  intro d
  induction d with
  |zero=>
   intro i l hi hl
   have:i=rows.length:=by omega
   subst this
   refine Rz.succ ?_
   simp only[r24_Span.l0,if_neg (Int.lt_irrefl (rows.length:Int))]
   exact Rz.some (.inr hl)
  |succ d ih=>
   intro i l hi hl
   have hil:i<rows.length:=by omega
   have hr:Wd (p^m) n (rowL (p^m) n (rd_L1 rows (i:Int))):=rowL_wd hq2 _
   obtain⟨r,hrd⟩:∃r,r=rowL (p^m) n (rd_L1 rows (i:Int)):=⟨_,rfl⟩
   refine Rz.succ ?_
   simp only[r24_Span.l0,if_pos (show(i:Int)<(rows.length:Int) by omega),if_pos (show(0:Int)≤(i:Int) from Int.natCast_nonneg _)]
   refine Rz.bind (row_ev E.fd md _ hn) ?_
   rw[←hrd] at hr ⊢
   refine Rz.bind (has_ev hl.wd hr hn hl.few) ?_
   have wi:wrap64 ((i:Int)+1)=((i+1:Nat):Int):=wn (by omega) (by omega)
   by_cases hin:r∈l
   ·simp only[decide_eq_true hin,if_true,wi]
    exact ih (i+1) l (by clear wi;omega) (sp_same hl (by rw[hrd] at hin;exact hin))
   ·simp only[decide_eq_false hin,Bool.false_eq_true,if_false]
    refine Rz.bind (order_ok E.fd md) ?_
    have e1:Int.tdiv (4096:Int) ((p^m:Nat):Int)=((4096 / p^m:Nat):Int):=by rw[Int.tdiv_eq_ediv_of_nonneg (by omega)];rfl
    have e2:wrap64 ((4096 / p^m:Nat):Int)=((4096 / p^m:Nat):Int):=wn rfl (by clear e1 wi;have:=Nat.div_le_self 4096 (p^m);omega)
    simp only[if_neg (show ¬((p^m:Nat):Int)=0 by clear e1 e2 wi;omega),e1,e2]
    clear e1 e2
    by_cases hbig:(l.length:Int)>((4096 / p^m:Nat):Int)
    ·simp only[if_pos hbig]
     exact Rz.some (.inl rfl)
    simp only[if_neg hbig]
    have hlen:p^m*l.length≤4096:=by
     have h1:l.length≤4096 / p^m:=by clear wi;omega
     have h2:=Nat.mul_le_mul_left (p^m) h1
     exact Nat.le_trans h2 (Nat.mul_div_le 4096 (p^m))
    have go:∀(d a:Nat),a+d=p^m→Rz Q (fun k=>r24_Span.l1 k (n:Int) rows 4096 l (i:Int) r (more (p^m) add mul r l a) (a:Int) (p:Int) (m:Int) md):=by
     intro d
     induction d with
     |zero=>
      intro a ha
      have:a=p^m:=by clear wi;omega
      subst this
      refine Rz.succ ?_
      simp only[r24_Span.l1]
      refine Rz.bind (order_ok E.fd md) ?_
      simp only[if_neg (Int.lt_irrefl ((p^m:Nat):Int)),wi]
      exact ih (i+1) _ (by clear wi;omega) (sp_more F hl hr hrd.symm hin hlen)
     |succ d iha=>
      intro a ha
      have haq:a<p^m:=by clear wi;omega
      have hae:El (p^m) (a:Int):=el_nat haq
      have wa:wrap64 ((a:Int)+1)=((a+1:Nat):Int):=wn (by clear wi;omega) (by clear wi;omega)
      refine Rz.succ ?_
      simp only[r24_Span.l1]
      refine Rz.bind (order_ok E.fd md) ?_
      simp only[if_pos (show(a:Int)<((p^m:Nat):Int) by clear wi wa;omega)]
      have col:∀(d j:Nat),j+d=l.length→Rz Q (fun k=>r24_Span.l2 k (n:Int) rows 4096 l (i:Int) r (more (p^m) add mul r l a++(l.take j).map (cmb add mul r (a:Int))) (a:Int) (j:Int) (p:Int) (m:Int) md):=by
       intro d
       induction d with
       |zero=>
        intro j hj
        have:j=l.length:=by clear wi wa;omega
        subst this
        refine Rz.succ ?_
        simp only[r24_Span.l2,if_neg (Int.lt_irrefl (l.length:Int)),wa,List.take_length]
        rw[←more_succ]
        exact iha (a+1) (by clear wi wa;omega)
       |succ d ihj=>
        intro j hj
        have hjl:j<l.length:=by clear wi wa;omega
        have hu:=hl.wd l[j] (List.getElem_mem hjl)
        have wj:wrap64 ((j:Int)+1)=((j+1:Nat):Int):=wn (by clear wi wa;omega) (by clear wi wa;have:=hl.few;omega)
        refine Rz.succ ?_
        simp only[r24_Span.l2,if_pos (show(j:Int)<(l.length:Int) by clear wi wa wj;omega),if_pos (show(0:Int)≤(n:Int) from Int.natCast_nonneg _),Int.toNat_natCast,if_pos (show n≤35184372088832 by clear wi wa wj;omega)]
        have cell:∀(d c:Nat) (w:List Int),c+d=n→w.length=n→(∀t,t<c→rd w (t:Int)=rd (cmb add mul r (a:Int) l[j]) (t:Int))→
         Rz Q (fun k=>r24_Span.l3 k (n:Int) rows 4096 l (i:Int) r (more (p^m) add mul r l a++(l.take j).map (cmb add mul r (a:Int))) (a:Int) (j:Int) w (c:Int) (p:Int) (m:Int) md):=by
         intro d
         induction d with
         |zero=>
          intro c w hc hw hh
          have:c=n:=by clear wi wa wj;omega
          subst this
          have ew:w=cmb add mul r (a:Int) l[j]:=ext_rd2 (by rw[hw,(cmb_wd F hae hr hu).1]) (fun t ht=>hh t (by clear wi wa wj;omega))
          have hml:(more (p^m) add mul r l a++(l.take j).map (cmb add mul r (a:Int))).length<5864062014805:=by
           rw[List.length_append,more_len,List.length_map,List.length_take]
           have h1:a*l.length≤p^m*l.length:=Nat.mul_le_mul_right _ (by clear wi wa wj;omega)
           have hf:=hl.few
           clear wi wa wj
           omega
          refine Rz.succ ?_
          simp only[r24_Span.l3,if_neg (Int.lt_irrefl (c:Int)),if_pos hml,wj]
          have e:more (p^m) add mul r l a++(l.take j).map (cmb add mul r (a:Int))++[w]=more (p^m) add mul r l a++(l.take (j+1)).map (cmb add mul r (a:Int)):=by
           rw[List.take_succ_eq_append_getElem hjl,List.map_append,ew,List.append_assoc]
           rfl
          rw[e]
          exact ihj (j+1) (by clear wi wa wj;omega)
         |succ d ihc=>
          intro c w hc hw hh
          have hcn:c<n:=by clear wi wa wj;omega
          have hr1:=hr.1
          have hu1:=hu.1
          have er:=wd_rd hr hcn
          have eu:=wd_rd hu hcn
          have emul:=F.mul_el _ _ hae er
          have wc:wrap64 ((c:Int)+1)=((c+1:Nat):Int):=wn (by clear wi wa wj;omega) (by clear wi wa wj;omega)
          refine Rz.succ ?_
          simp only[r24_Span.l3,if_pos (show(c:Int)<(n:Int) by clear wi wa wj wc;omega),if_pos (show(0:Int)≤(j:Int) from Int.natCast_nonneg _),if_pos (show(j:Int)<(l.length:Int) by clear wi wa wj wc;omega),if_pos (show(0:Int)≤(c:Int) from Int.natCast_nonneg _),rd1_lt hjl,if_pos (show(c:Int)<(l[j].length:Int) by clear wi wa wj wc;omega),if_pos (show(c:Int)<(r.length:Int) by clear wi wa wj wc;omega)]
          refine Rz.bind (E.em _ _ hae er) ?_
          refine Rz.bind (E.ea _ _ eu emul) ?_
          simp only[if_pos (show(c:Int)<(w.length:Int) by clear wi wa wj wc;omega),Int.toNat_natCast,wc]
          refine ihc (c+1) _ (by clear wi wa wj wc;omega) (by rw[List.length_set];exact hw) (fun t ht=>?_)
          clear wi wa wj wc
          by_cases g:c=t
          ·subst g
           rw[rd_set_eq _ (by omega),cmb_rd hu1 hr1 hcn]
          ·rw[rd_set_ne _ g];exact hh t (by omega)
        exact cell n 0 _ (by clear wi wa wj;omega) List.length_replicate (fun t ht=>by clear wi wa wj;omega)
      have:=col l.length 0 (by clear wi wa;omega)
      simp only[List.take_zero,List.map_nil,List.append_nil] at this
      exact this
    have:=go (p^m) 0 (by clear wi;omega)
    have e0:more (p^m) add mul r l 0=[]:=by simp [more]
    rw[e0] at this
    exact this
 simp only[r24_Span.f,if_pos (show(0:Int)≤(n:Int) from Int.natCast_nonneg _),Int.toNat_natCast,if_pos (show n≤35184372088832 by omega)]
 exact outer rows.length 0 _ (by omega) (sp_zero F _)
def unit (n i:Nat):List Int:=(List.replicate n 0).set i 1
theorem unit_rd {i j:Nat} (hi:i<n):rd (unit n i) (j:Int)=if i=j then 1 else 0:=by
 unfold unit
 by_cases g:i=j
 ·subst g;rw[rd_set_eq _ (by simpa using hi),if_pos rfl]
 ·rw[rd_set_ne _ g,rd_rep,if_neg g]
theorem unit_row {q i:Nat} (hq:2≤q) (hi:i<n):rowL q n (unit n i)=unit n i:=by
 refine ext_rd2 (by simp [rowL,unit]) (fun j hj=>?_)
 have hjn:j<n:=by simpa [rowL] using hj
 unfold rowL
 rw[rd_range hjn,unit_rd hi]
 by_cases g:i=j
 ·rw[if_pos g,inq_of ⟨by omega,by omega⟩]
 ·rw[if_neg g,inq_zero]
theorem all_of {q:Nat} (F:Fld q add mul) {C:List Int→Prop} (hC:Lin q add mul n C) (hu:∀i,i<n→C (unit n i)) {w:List Int} (hw:Wd q n w):C w:=by
 have uw:∀i,i<n→Wd q n (unit n i):=fun i hi=>by rw[←unit_row F.two hi];exact rowL_wd F.two _
 have part:∀k,k≤n→∃v,Wd q n v∧C v∧∀j,j<n→rd v (j:Int)=if j<k then rd w (j:Int) else 0:=by
  intro k
  induction k with
  |zero=>intro _;exact⟨_,wd_rep F.el0,hC.zero,fun j hj=>by rw[rd_rep,if_neg (by omega)]⟩
  |succ k ih=>
   intro hk
   obtain⟨v,hv,hCv,hd⟩:=ih (by omega)
   have ew:=wd_rd hw (show k<n by omega)
   have hs:=wd_wscl F ew (uw k (by omega))
   refine⟨wadd add v (wscl mul (rd w (k:Int)) (unit n k)),wd_wadd F hv hs,hC.add _ _ hv hs hCv (hC.scl _ _ ew (uw k (by omega)) (hu k (by omega))),fun j hj=>?_⟩
   rw[rd_wadd (by rw[hv.1];exact hj) (by rw[hs.1];exact hj),rd_wscl (by rw[(uw k (by omega)).1];exact hj),hd j hj,unit_rd (by omega)]
   by_cases g:k=j
   ·subst g
    rw[if_neg (Nat.lt_irrefl _),if_pos rfl,if_pos (by omega),F.mul_one _ ew,F.zero_add _ ew]
   ·rw[if_neg g,F.mul_zero _ ew]
    by_cases g2:j<k
    ·rw[if_pos g2,if_pos (by omega)]
     exact F.add_zero _ (wd_rd hw hj)
    ·rw[if_neg g2,if_neg (by omega)]
     exact F.add_zero _ F.el0
 obtain⟨v,hv,hCv,hd⟩:=part n (Nat.le_refl n)
 have:v=w:=ext_rd2 (by rw[hv.1,hw.1]) (fun j hj=>by rw[hv.1] at hj;rw[hd j hj,if_pos hj])
 exact this ▸ hCv
theorem all_ev (E:FE p m md add mul) (hn:n≤12):Rz (fun l=>l=[]∨(l.Nodup∧l.length≤4096∧∀w,w∈l↔Wd (p^m) n w)) (fun k=>r24_All.f k (p:Int) (m:Int) md (n:Int) 4096):=by
 have F:=E.fld
 have loop:∀(d i:Nat),i+d=n→Rz (fun l=>l=[]∨(l.Nodup∧l.length≤4096∧∀w,w∈l↔Wd (p^m) n w)) (fun k=>r24_All.l0 k (n:Int) 4096 ((List.range i).map (unit n)) (i:Int) (p:Int) (m:Int) md):=by
  intro d
  induction d with
  |zero=>
   intro i hi
   have:i=n:=by omega
   subst this
   refine Rz.succ ?_
   simp only[r24_All.l0,if_neg (Int.lt_irrefl (i:Int))]
   refine Rz.bind2 (span_ev E hn (rows:=(List.range i).map (unit i)) (by simp;omega)) (fun l hl=>Rz.some ?_)
   rcases hl with e|hl
   ·exact .inl e
   refine .inr ⟨hl.nodup,hl.few,fun w=>⟨hl.wd w,fun hw=>?_⟩⟩
   refine all_of F hl.lin (fun j hj=>?_) hw
   have:=hl.rows j (by simpa using hj)
   have e:rd_L1 ((List.range i).map (unit i)) (j:Int)=unit i j:=by
    rw[rd1_lt (by simpa using hj)];simp
   rw[e,unit_row F.two hj] at this
   exact this
  |succ d ih=>
   intro i hi
   have nx:=ih (i+1) (by omega)
   rw[List.range_succ,List.map_append] at nx
   refine Rz.succ ?_
   simp only[r24_All.l0,if_pos (show(i:Int)<(n:Int) by omega),if_pos (show(0:Int)≤(n:Int) from Int.natCast_nonneg _),Int.toNat_natCast,if_pos (show n≤35184372088832 by omega),Option.bind_some,if_pos (show(0:Int)≤(i:Int) from Int.natCast_nonneg _),List.length_replicate,if_pos (show(i:Int)<(n:Int) by omega),List.length_map,List.length_range,if_pos (show i<5864062014805 by omega),wn (show(i:Int)+1=((i+1:Nat):Int) by omega) (by omega)]
   exact nx
 simp only[r24_All.f]
 exact loop n 0 (by omega)
theorem dot_evG (E:FE p m md add mul) (hn:n≤12) {u v:List Int} (hu:Wd (p^m) n u) (hv:Wd (p^m) n v):Ev (fun k=>r4_Dot.f k (p:Int) (m:Int) md u v) (dot add mul u v):=by
 have F:=E.fld
 have hu1:=hu.1
 have hv1:=hv.1
 have wdrop:∀{w:List Int} (i:Nat),Wd (p^m) n w→Wd (p^m) (n-i) (w.drop i):=fun i h=>⟨by rw[List.length_drop,h.1],fun x hx=>h.2 x (List.mem_of_mem_drop hx)⟩
 have loop:∀(d i:Nat) (acc:Int),i+d=n→El (p^m) acc→Ev (fun k=>r4_Dot.l0 k u v acc (i:Int) (p:Int) (m:Int) md) (add acc (dot add mul (u.drop i) (v.drop i))):=by
  intro d
  induction d with
  |zero=>
   intro i acc hi ha
   refine Ev.succ ?_
   simp only[r4_Dot.l0,if_neg (show ¬(i:Int)<(u.length:Int) by omega)]
   refine Ev.succ ?_
   simp only[r4_Dot.j1,Bool.false_eq_true,if_false]
   refine Ev.cast (Ev.some _) ?_
   rw[List.drop_eq_nil_of_le (by omega),List.drop_eq_nil_of_le (by omega)]
   exact(F.add_zero acc ha).symm
  |succ d ih=>
   intro i acc hi ha
   have hin:i<n:=by omega
   have e1:=wd_rd hu hin
   have e2:=wd_rd hv hin
   have e3:=F.mul_el _ _ e1 e2
   refine Ev.succ ?_
   simp only[r4_Dot.l0,if_pos (show(i:Int)<(u.length:Int) by omega),decide_eq_true (show(i:Int)<(v.length:Int) by omega)]
   refine Ev.succ ?_
   simp only[r4_Dot.j1,if_true,if_pos (show(0:Int)≤(i:Int) from Int.natCast_nonneg _),if_pos (show(i:Int)<(u.length:Int) by omega),if_pos (show(i:Int)<(v.length:Int) by omega)]
   refine Ev.bind (E.em _ _ e1 e2) ?_
   refine Ev.bind (E.ea _ _ ha e3) ?_
   simp only[wn (show(i:Int)+1=((i+1:Nat):Int) by omega) (by omega)]
   refine Ev.cast (ih (i+1) _ (by omega) (F.add_el _ _ ha e3)) ?_
   rw[List.drop_eq_getElem_cons (i:=i) (l:=u) (by omega),List.drop_eq_getElem_cons (i:=i) (l:=v) (by omega),dot,←rd_lt (by omega),←rd_lt (by omega)]
   exact F.add_assoc _ _ _ ha e3 (dot_el F (wdrop (i+1) hu) (wdrop (i+1) hv))
 simp only[r4_Dot.f]
 refine Ev.cast (loop n 0 0 (by omega) F.el0) ?_
 rw[List.drop_zero,List.drop_zero]
 exact F.zero_add _ (dot_el F hu hv)
def orth (add mul:Int→Int→Int) (rows:List (List Int)) (w:List Int):Bool:=rows.all (fun r=>dot add mul w r==0)
theorem orth_ev (E:FE p m md add mul) (hn:n≤12) {words rows:List (List Int)} (hw:∀w,w∈words→Wd (p^m) n w) (hr:∀w,w∈rows→Wd (p^m) n w) (hwl:words.length≤4096) (hrl:rows.length≤12):
 Ev (fun k=>r24_Orthogonal.f k (p:Int) (m:Int) md words rows) (words.filter (orth add mul rows)):=by
 have outer:∀(d i:Nat),i+d=words.length→Ev (fun k=>r24_Orthogonal.l0 k words rows ((words.take i).filter (orth add mul rows)) (i:Int) (p:Int) (m:Int) md) (words.filter (orth add mul rows)):=by
  intro d
  induction d with
  |zero=>
   intro i hi
   have:i=words.length:=by omega
   subst this
   refine Ev.succ ?_
   simp only[r24_Orthogonal.l0,if_neg (Int.lt_irrefl (words.length:Int)),List.take_length]
   exact Ev.some _
  |succ d ih=>
   intro i hi
   have hil:i<words.length:=by omega
   have hwi:=hw words[i] (List.getElem_mem hil)
   have wi:wrap64 ((i:Int)+1)=((i+1:Nat):Int):=wn (by omega) (by omega)
   refine Ev.succ ?_
   simp only[r24_Orthogonal.l0,if_pos (show(i:Int)<(words.length:Int) by clear wi;omega)]
   have inner:∀(d j:Nat) (b:Bool),j+d=rows.length→(b&&(rows.drop j).all (fun r=>dot add mul words[i] r==0))=orth add mul rows words[i]→
    Ev (fun k=>r24_Orthogonal.l1 k words rows ((words.take i).filter (orth add mul rows)) (i:Int) b (j:Int) (p:Int) (m:Int) md) (words.filter (orth add mul rows)):=by
    intro d
    induction d with
    |zero=>
     intro j b hj hb
     rw[List.drop_eq_nil_of_le (by clear wi;omega)] at hb
     simp only[List.all_nil,Bool.and_true] at hb
     have nx:=ih (i+1) (by clear wi;omega)
     rw[List.take_succ_eq_append_getElem hil,List.filter_append] at nx
     have hfl:((words.take i).filter (orth add mul rows)).length<5864062014805:=by
      have h1:=List.length_filter_le (orth add mul rows) (words.take i)
      rw[List.length_take] at h1
      clear wi
      omega
     refine Ev.succ ?_
     simp only[r24_Orthogonal.l1,if_neg (show ¬(j:Int)<(rows.length:Int) by clear wi;omega)]
     by_cases g:b=true
     ·simp only[if_pos g,if_pos (show(0:Int)≤(i:Int) from Int.natCast_nonneg _),if_pos (show(i:Int)<(words.length:Int) by clear wi;omega),if_pos hfl,rd1_lt hil,wi]
      rw[List.filter_cons_of_pos (by rw[←hb];exact g),List.filter_nil] at nx
      exact nx
     ·simp only[if_neg g,wi]
      rw[List.filter_cons_of_neg (by rw[←hb];exact g),List.filter_nil,List.append_nil] at nx
      exact nx
    |succ d ihj=>
     intro j b hj hb
     have hjl:j<rows.length:=by clear wi;omega
     have wj:wrap64 ((j:Int)+1)=((j+1:Nat):Int):=wn (by clear wi;omega) (by clear wi;omega)
     rw[List.drop_eq_getElem_cons hjl,List.all_cons] at hb
     refine Ev.succ ?_
     simp only[r24_Orthogonal.l1,if_pos (show(j:Int)<(rows.length:Int) by clear wi wj;omega),wj]
     clear wj
     by_cases g:b=true
     ·subst g
      simp only[if_true,if_pos (show(0:Int)≤(i:Int) from Int.natCast_nonneg _),if_pos (show(i:Int)<(words.length:Int) by clear wi;omega),if_pos (show(0:Int)≤(j:Int) from Int.natCast_nonneg _),rd1_lt hil,rd1_lt hjl]
      refine Ev.bind (dot_evG E hn hwi (hr _ (List.getElem_mem hjl))) ?_
      exact ihj (j+1) _ (by clear wi;omega) (by rw[←hb];simp)
     ·have hbf:b=false:=by simpa using g
      subst hbf
      simp only[Bool.false_eq_true,if_false]
      exact ihj (j+1) false (by clear wi;omega) (by rw[←hb];simp)
   exact inner rows.length 0 true (by clear wi;omega) (by simp [orth])
 simp only[r24_Orthogonal.f]
 exact outer words.length 0 (by omega)
end
structure Cds (P M:Int) (md:List Int) (n:Nat) (code dual:List (List Int)) (p m:Nat) (add mul:Int→Int→Int):Prop where
 p_:P=(p:Int)
 m_:M=(m:Int)
 E:FE p m md add mul
 one:1≤n
 few:n≤12
 cnd:code.Nodup
 cwd:∀w,w∈code→Wd (p^m) n w
 lin:Lin (p^m) add mul n (· ∈code)
 cfew:code.length≤4096
 dnd:dual.Nodup
 dfew:dual.length≤4096
 dwd:∀w,w∈dual↔Wd (p^m) n w∧Dl (p^m) add mul n (· ∈code) w
theorem codes_ev {P M a:Int} {md:List Int} {rows:List (List Int)} (hmd:md.length≤9223372036854775807) (ha0:0≤a) (ha1:a≤255) (hrl:rows.length≤9223372036854775807):
 Rz (fun r=>r.2.2.2.2=false∨(r.2.2.2.2=true∧∃n:Nat,r.1=(n:Int)∧∃p m add mul,Cds P M md n r.2.1 r.2.2.1 p m add mul)) (fun k=>w24_codes.f k P M md a rows):=by
 let Q:Int×(List (List Int))×(List (List Int))×(List (List Int))×Bool→Prop:=fun r=>r.2.2.2.2=false∨(r.2.2.2.2=true∧∃n:Nat,r.1=(n:Int)∧∃p m add mul,Cds P M md n r.2.1 r.2.2.1 p m add mul)
 have bad:∀(x:Int),Rz Q (fun k=>w24_codes.j0 k rows x true P M md):=by
  intro x
  refine Rz.succ ?_
  simp only[w24_codes.j0,if_true]
  exact Rz.some (.inl rfl)
 obtain⟨u,rfl⟩:∃u:Nat,a=(u:Int):=⟨a.toNat,by omega⟩
 have en:wrap64 (Int.tmod (wrap64 (u:Int)) 12+1)=((u % 12+1:Nat):Int):=by
  rw[w64 (x:=(u:Int)) (by omega) (by omega),Int.tmod_eq_emod_of_nonneg (by omega)]
  exact wn (by omega) (by omega)
 obtain⟨n,hn⟩:∃n,n=u % 12+1:=⟨_,rfl⟩
 simp only[w24_codes.f,en,←hn]
 clear en
 refine Rz.bind2 (check_ev P M md hmd) (fun c hc=>?_)
 by_cases h0:c=0
 ·simp only[if_pos h0]
  obtain⟨p,m,rfl,rfl,G⟩:=hc h0
  by_cases h12:(rows.length:Int)>12
  ·simp only[decide_eq_true h12];exact bad _
  simp only[decide_eq_false h12]
  obtain⟨add,mul,F,ea,em⟩:=field_of G
  have E:FE p m md add mul:=⟨G.fd,F,ea,em⟩
  refine Rz.succ ?_
  simp only[w24_codes.j0,Bool.false_eq_true,if_false]
  refine Rz.bind2 (span_ev E (n:=n) (by omega) (rows:=rows) (by omega)) (fun code hcode=>?_)
  refine Rz.bind2 (all_ev E (n:=n) (by omega)) (fun all hall=>?_)
  have none:Rz Q (fun k=>w24_codes.j1 k rows (n:Int) code all true (p:Int) (m:Int) md):=by
   refine Rz.succ ?_
   simp only[w24_codes.j1,if_true]
   exact Rz.some (.inl rfl)
  by_cases hc0:(code.length:Int)=0
  ·simp only[if_pos hc0];exact none
  simp only[if_neg hc0]
  by_cases ha0:((all.length:Int)==0)=true
  ·simp only[ha0];exact none
  have ha0':((all.length:Int)==0)=false:=by simpa using ha0
  simp only[ha0']
  rcases hcode with e|S
  ·rw[e] at hc0;exact absurd rfl hc0
  rcases hall with e|⟨and_,afew,amem⟩
  ·rw[e] at ha0;exact absurd rfl ha0
  refine Rz.succ ?_
  simp only[w24_codes.j1,Bool.false_eq_true,if_false]
  let clean:Nat→List (List Int):=fun i=>(rows.take i).map (rowL (p^m) n)
  have cwd:∀i w,w∈clean i→Wd (p^m) n w:=by
   intro i w hw
   obtain⟨r,_,rfl⟩:=List.mem_map.mp hw
   exact rowL_wd F.two r
  have loop:∀(d i:Nat),i+d=rows.length→Rz Q (fun k=>w24_codes.l0 k rows (n:Int) code all (clean i) (i:Int) (p:Int) (m:Int) md):=by
   intro d
   induction d with
   |zero=>
    intro i hi
    have:i=rows.length:=by omega
    subst this
    refine Rz.succ ?_
    simp only[w24_codes.l0,if_neg (Int.lt_irrefl (rows.length:Int))]
    refine Rz.bind (orth_ev E (n:=n) (by omega) (fun w hw=>(amem w).mp hw) (cwd rows.length) afew (by show((rows.take rows.length).map _).length≤12;rw[List.length_map,List.length_take];omega)) ?_
    refine Rz.some (.inr ⟨rfl,n,rfl,p,m,add,mul,rfl,rfl,E,by omega,by omega,S.nodup,S.wd,S.lin,S.few,and_.filter _,Nat.le_trans (List.length_filter_le _ _) afew,fun w=>?_⟩)
    show w∈all.filter (orth add mul (clean rows.length))↔_
    rw[List.mem_filter,amem w]
    refine⟨fun⟨hw,ho⟩=>⟨hw,fun c hc hcin=>?_⟩,fun⟨hw,hd⟩=>⟨hw,?_⟩⟩
    ·have hD:Lin (p^m) add mul n (fun c=>dot add mul c w=0):=by
      refine⟨dot_rep F hw,fun x y hx hy h1 h2=>?_,fun s x hs hx h1=>?_⟩
      ·rw[dot_add F hx hy hw,h1,h2];exact F.add_zero 0 F.el0
      ·rw[dot_scl F hs hx hw,h1];exact F.mul_zero s hs
     refine S.least _ hD (fun j hj=>?_) c hcin
     have hj':rowL (p^m) n (rd_L1 rows (j:Int))∈clean rows.length:=by
      refine List.mem_map.mpr ⟨rows[j],?_,by rw[rd1_lt hj]⟩
      rw[List.take_length]
      exact List.getElem_mem hj
     have:=List.all_eq_true.mp ho _ hj'
     rw[dot_comm F (cwd _ _ hj') hw]
     simpa using this
    ·refine List.all_eq_true.mpr (fun r hr=>?_)
     obtain⟨r0,hr0,rfl⟩:=List.mem_map.mp hr
     rw[List.take_length] at hr0
     obtain⟨j,hj,rfl⟩:=List.getElem_of_mem hr0
     have hin:=S.rows j hj
     rw[rd1_lt hj] at hin
     have:=hd _ (S.wd _ hin) hin
     rw[dot_comm F (S.wd _ hin) hw] at this
     simpa using this
   |succ d ih=>
    intro i hi
    have hil:i<rows.length:=by omega
    have nx:=ih (i+1) (by omega)
    have ec:clean (i+1)=clean i++[rowL (p^m) n rows[i]]:=by
     show(rows.take (i+1)).map _=(rows.take i).map _++_
     rw[List.take_succ_eq_append_getElem hil,List.map_append]
     rfl
    rw[ec] at nx
    have hcl:(clean i).length<5864062014805:=by
     show((rows.take i).map _).length<_
     rw[List.length_map,List.length_take]
     omega
    refine Rz.succ ?_
    simp only[w24_codes.l0,if_pos (show(i:Int)<(rows.length:Int) by omega),if_pos (show(0:Int)≤(i:Int) from Int.natCast_nonneg _)]
    refine Rz.bind (row_ev E.fd md _ (by omega)) ?_
    simp only[rd1_lt hil,if_pos hcl,wn (show(i:Int)+1=((i+1:Nat):Int) by omega) (by omega)]
    exact nx
  exact loop rows.length 0 (by omega)
 ·simp only[if_neg h0];exact bad _
structure Wl (l:List (List Int)):Prop where
 lm:∀x∈l,Lm x
 short:∀x∈l,x.length≤20
 few:l.length≤65
theorem Wl.at {l:List (List Int)} (h:Wl l) {i:Nat} (hi:i<l.length):Lm (rd_L3 l (i:Int))∧(rd_L3 l (i:Int)).length≤20:=by
 rw[rd3_lt hi];exact⟨h.lm _ (List.getElem_mem hi),h.short _ (List.getElem_mem hi)⟩
def wcnt:List (List Int)→Nat→Nat
 | [],_=>0
 |w::l,j=>wcnt l j+if wt w=j then 1 else 0
def WL (n:Nat) (words:List (List Int)):List (List Int):=(List.range (n+1)).map (fun j=>dg (wcnt words j))
theorem wcnt_le (l:List (List Int)) (j:Nat):wcnt l j≤l.length:=by
 induction l with
 |nil=>exact Nat.le_refl 0
 |cons w l ih=>rw[wcnt,List.length_cons];split<;>omega
theorem wcnt_app (l:List (List Int)) (w:List Int) (j:Nat):wcnt (l++[w]) j=wcnt l j+if wt w=j then 1 else 0:=by
 induction l with
 |nil=>simp [wcnt]
 |cons v l ih=>rw[List.cons_append,wcnt,ih,wcnt];omega
theorem wt_dct {q n:Nat} {w:List Int} (h:Wd q n w):dct w (List.replicate n 0) w.length=wt w:=by
 rw[dct_rep w n w.length (Nat.le_refl _),List.take_length]
theorem weights_ev {q n:Nat} {words:List (List Int)} (hw:∀w,w∈words→Wd q n w) (hn:n≤12) (hl:words.length≤4096):Ev (fun k=>r24_Weights.f k (n:Int) words) (WL n words):=by
 have tail:∀(c:List Int),(∀j,j<n+1→rd c (j:Int)=(wcnt words j:Int))→c.length=n+1→∀(d i:Nat),i+d=n+1→Ev (fun k=>r24_Weights.l1 k (n:Int) c ((List.range i).map (fun j=>dg (wcnt words j))) (i:Int)) (WL n words):=by
  intro c hc hcl d
  induction d with
  |zero=>
   intro i hi
   have:i=n+1:=by omega
   subst this
   refine Ev.succ ?_
   simp only[r24_Weights.l1,if_neg (show ¬((n+1:Nat):Int)≤(n:Int) by omega)]
   exact Ev.some _
  |succ d ih=>
   intro i hi
   have nx:=ih (i+1) (by omega)
   rw[List.range_succ,List.map_append] at nx
   have h1:=wcnt_le words i
   refine Ev.succ ?_
   simp only[r24_Weights.l1,if_pos (show(i:Int)≤(n:Int) by omega),if_pos (show(0:Int)≤(i:Int) from Int.natCast_nonneg _),if_pos (show(i:Int)<(c.length:Int) by omega),hc i (by omega),u64w (x:=((wcnt words i:Nat):Int)) (by omega) (by omega)]
   refine Ev.bind (rof_ev (by omega)) ?_
   simp only[List.length_map,List.length_range,if_pos (show i<5864062014805 by omega),wn (show(i:Int)+1=((i+1:Nat):Int) by omega) (by omega)]
   exact nx
 have loop:∀(d i:Nat) (c:List Int),i+d=words.length→c.length=n+1→(∀j,j<n+1→rd c (j:Int)=(wcnt (words.take i) j:Int))→Ev (fun k=>r24_Weights.l0 k (n:Int) words c (List.replicate n 0) (i:Int)) (WL n words):=by
  intro d
  induction d with
  |zero=>
   intro i c hi hcl hc
   have:i=words.length:=by omega
   subst this
   rw[List.take_length] at hc
   refine Ev.succ ?_
   simp only[r24_Weights.l0,if_neg (Int.lt_irrefl (words.length:Int))]
   exact tail c hc hcl (n+1) 0 (by omega)
  |succ d ih=>
   intro i c hi hcl hc
   have hil:i<words.length:=by omega
   have hwi:=hw words[i] (List.getElem_mem hil)
   have h1:=wt_le words[i]
   rw[hwi.1] at h1
   have h2:=wcnt_le (words.take i) (wt words[i])
   rw[List.length_take] at h2
   have ed:=dist_ev (a:=words[i]) (b:=List.replicate n 0) (by rw[hwi.1,List.length_replicate]) (by rw[hwi.1];exact hn)
   rw[wt_dct hwi] at ed
   have hcw:=hc (wt words[i]) (by omega)
   have wi:wrap64 ((i:Int)+1)=((i+1:Nat):Int):=wn (by omega) (by omega)
   have wc:wrap64 (((wcnt (words.take i) (wt words[i]):Nat):Int)+1)=((wcnt (words.take i) (wt words[i])+1:Nat):Int):=wn (by clear wi;omega) (by clear wi;omega)
   refine Ev.succ ?_
   simp only[r24_Weights.l0,if_pos (show(i:Int)<(words.length:Int) by clear wi wc;omega),if_pos (show(0:Int)≤(i:Int) from Int.natCast_nonneg _),rd1_lt hil]
   refine Ev.bind ed ?_
   simp only[if_pos (show(0:Int)≤((wt words[i]:Nat):Int) from Int.natCast_nonneg _),if_pos (show((wt words[i]:Nat):Int)<(c.length:Int) by clear wi wc;omega),hcw,wi,wc,Int.toNat_natCast]
   clear wi wc
   refine ih (i+1) _ (by omega) (by rw[List.length_set];exact hcl) (fun j hj=>?_)
   rw[List.take_succ_eq_append_getElem hil,wcnt_app]
   by_cases g:wt words[i]=j
   ·subst g
    rw[rd_set_eq _ (by omega),if_pos rfl]
   ·rw[rd_set_ne _ g,if_neg g,hc j hj,Nat.add_zero]
 have e1:wrap64 ((n:Int)+1)=((n+1:Nat):Int):=wn (by omega) (by omega)
 simp only[r24_Weights.f,e1,if_pos (show(0:Int)≤((n+1:Nat):Int) from Int.natCast_nonneg _),if_pos (show(0:Int)≤(n:Int) from Int.natCast_nonneg _),Int.toNat_natCast,if_pos (show n+1≤35184372088832 by clear e1;omega),if_pos (show n≤35184372088832 by clear e1;omega)]
 clear e1
 refine loop words.length 0 _ (by omega) List.length_replicate (fun j hj=>?_)
 rw[rd_rep,List.take_zero]
 rfl
noncomputable def lsm (f:List Int→Int):List (List Int)→Int
 | []=>0
 |w::l=>f w+lsm f l
theorem ws_list {q n:Nat} (f:List Int→Int):∀{l:List (List Int)},l.Nodup→(∀w,w∈l→Wd q n w)→ws q n (fun w=>ind (w∈l)*f w)=lsm f l
 | [],_,_=>ws_zero (fun w _=>by rw[ind_false (fun h=>by simp at h)];simp)
 |a::l,hn,hw=>by
  have hn':=List.nodup_cons.mp hn
  have ih:=ws_list f hn'.2 (fun w h=>hw w (List.mem_cons_of_mem _ h))
  have e:∀w,Wd q n w→ind (w∈a::l)*f w=ind (w=a)*f w+ind (w∈l)*f w:=by
   intro w _
   by_cases g:w=a
   ·subst g
    rw[ind_true (List.mem_cons_self ..),ind_true rfl,ind_false hn'.1];simp
   ·rw[ind_false g,ind_congr (show w∈a::l↔w∈l from⟨fun h=>(List.mem_cons.mp h).elim (fun e=>absurd e g) id,fun h=>List.mem_cons_of_mem _ h⟩)];simp
  rw[ws_congr e,ws_add,ih,lsm]
  have hs:=ws_single (q:=q) (n:=n) (v:=a) (f:=fun w=>ind (w=a)*f w) (hw a (List.mem_cons_self ..)) (fun w _ hne=>by rw[ind_false hne];simp)
  rw[hs,ind_true rfl,Int.one_mul]
theorem lsm_cnt (j:Nat):∀l:List (List Int),lsm (fun w=>ind (wt w=j)) l=(wcnt l j:Int)
 | []=>rfl
 |w::l=>by
  rw[lsm,lsm_cnt j l,wcnt]
  by_cases g:wt w=j
  ·rw[ind_true g,if_pos g];omega
  ·rw[ind_false g,if_neg g];omega
theorem lsm_one:∀l:List (List Int),lsm (fun _=>1) l=(l.length:Int)
 | []=>rfl
 |w::l=>by rw[lsm,lsm_one l,List.length_cons];omega
theorem wd_cnt {q n:Nat} {l:List (List Int)} (hn:l.Nodup) (hw:∀w,w∈l→Wd q n w) (j:Nat):wd q n (· ∈l) (none' n) j=(wcnt l j:Int):=by
 rw[←lsm_cnt,←ws_list _ hn hw]
 refine ws_congr fun w _=>?_
 rw[ind_true (none_van n w),Int.one_mul]
theorem wd_cnt2 {q n:Nat} {l:List (List Int)} {D:List Int→Prop} (hn:l.Nodup) (hw:∀w,w∈l↔Wd q n w∧D w) (j:Nat):wd q n D (none' n) j=(wcnt l j:Int):=by
 rw[←wd_cnt hn (fun w h=>((hw w).mp h).1)]
 refine ws_congr fun w hwd=>?_
 rw[ind_congr (show D w↔w∈l from⟨fun h=>(hw w).mpr ⟨hwd,h⟩,fun h=>((hw w).mp h).2⟩)]
theorem ws_len {q n:Nat} {l:List (List Int)} (hn:l.Nodup) (hw:∀w,w∈l→Wd q n w):ws q n (fun w=>ind (w∈l))=(l.length:Int):=by
 rw[←lsm_one,←ws_list _ hn hw]
 exact ws_congr fun w _=>by rw[Int.mul_one]
theorem small_dg {c:Nat} (h:c<4294967296):(dg c).length≤1:=dg_len_le (by rw[show(1:Nat)=0+1 from rfl,bp_succ,bp_zero];omega)
theorem wl_len (n:Nat) (l:List (List Int)):(WL n l).length=n+1:=by simp [WL]
theorem wl_rd {n j:Nat} {l:List (List Int)} (h:j<n+1):rd_L3 (WL n l) (j:Int)=dg (wcnt l j):=by
 rw[rd3_lt (by rw[wl_len];exact h)]
 simp [WL]
theorem wl_wl {n:Nat} {l:List (List Int)} (hn:n≤12) (hl:l.length≤4096):Wl (WL n l):=by
 have each:∀x,x∈WL n l→∃c,c≤4096∧x=dg c:=by
  intro x hx
  obtain⟨j,_,rfl⟩:=List.mem_map.mp hx
  exact⟨_,Nat.le_trans (wcnt_le l j) hl,rfl⟩
 refine⟨fun x hx=>?_,fun x hx=>?_,by rw[wl_len];omega⟩
 ·obtain⟨c,_,rfl⟩:=each x hx
  exact lm_dg c
 ·obtain⟨c,hc,rfl⟩:=each x hx
  have:=small_dg (c:=c) (by omega)
  omega
theorem pm_pos (m:Nat):(0:Int)<(2:Int)^m:=Int.pow_pos (by decide)
theorem pm_le {m:Nat} (hm:m<32):(2:Int)^m≤2147483648:=by
 have hp:2^m≤2147483648:=Nat.pow_le_pow_right (n:=2) (by decide) (show m≤31 by omega)
 have h2:((2^m:Nat):Int)≤2147483648:=by omega
 rw[Int.natCast_pow] at h2
 exact h2
theorem shl_or {x c:Int} {m:Nat} (hx0:0≤x) (hx1:x<4294967296) (hm:m<32) (hc0:0≤c) (hc1:c<(2:Int)^m):
 Go.bits .or .u64 (shl .u64 (IntKind.u64.wrap x) (m:Int)) c=x*(2:Int)^m+c∧0≤x*(2:Int)^m+c∧x*(2:Int)^m+c<4294967296*(2:Int)^m∧x*(2:Int)^m+c<18446744073709551616:=by
 have hp:=pm_le hm
 have hp0:=pm_pos m
 have hb:x*(2:Int)^m≤4294967295*(2:Int)^m:=Int.mul_le_mul_of_nonneg_right (by omega) (by omega)
 have h0:0≤x*(2:Int)^m:=Int.mul_nonneg hx0 (by omega)
 have hmod:x*(2:Int)^m % (2:Int)^m=0:=Int.mul_emod_left _ _
 have e:shl .u64 (IntKind.u64.wrap x) (m:Int)=x*(2:Int)^m:=by
  unfold shl
  rw[u64w (x:=x) hx0 (by omega),Int.toNat_natCast,Nat.min_eq_left (show m≤IntKind.u64.bits by simp [IntKind.bits];omega)]
  exact u64w h0 (by omega)
 rw[e]
 refine⟨bits_join .u64 64 (by decide) wraps_u64 m _ _ h0 hmod ?_ hc0 hc1 ?_,by omega,by omega,by omega⟩
 ·have:x*(2:Int)^m<18446744073709551616:=by omega
  exact this
 ·have:c<18446744073709551616:=by omega
  exact this
def Shf (a:List Int) (m:Nat) (r:List Int):Prop:=r.length=a.length+1∧Lm r∧lv r=lv a*(2:Int)^m
theorem nshift_loop {a:List Int} {m:Nat} (ha:Lm a) (hla:a.length<268435456) (hm:m<32):∀(d i:Nat) (o:List Int) (c:Int),i+d=a.length→o.length=a.length+1→Lm o→0≤c→c<(2:Int)^m→(∀j:Nat,i≤j→rd o (j:Int)=0)→
 Aside0 (lv o+(bp i:Int)*c=lv (a.take i)*(2:Int)^m)→Rz (Shf a m) (fun k=>nat_shift.l0 k a (m:Int) o c a (a.length:Int) (i:Int)):=by
 intro d
 induction d with
 |zero=>
  intro i o c hi hol ho hc0 hc1 hz hv
  have hi:i=a.length:=by omega
  subst hi
  have hp:=pm_le hm
  have hc2:c % 4294967296=c:=by omega
  have hlen:(a.length:Int)<(o.length:Int):=by omega
  refine Rz.succ ?_
  simp only[nat_shift.l0,if_neg (show ¬(a.length:Int)<(a.length:Int) from Int.lt_irrefl _),if_pos (show(0:Int)≤(a.length:Int) from Int.natCast_nonneg _),if_pos hlen,Int.toNat_natCast,hc2]
  refine Rz.some ⟨by rw[List.length_set];exact hol,lm_set ho hc0 (by omega),?_⟩
  have hv:=hv.out
  rw[List.take_of_length_le (Nat.le_refl _)] at hv
  rw[lv_set _ (by omega),hz a.length (Nat.le_refl _),←hv]
  rw[Int.sub_zero]
 |succ d ih=>
  intro i o c hi hol ho hc0 hc1 hz hv
  have hia:i<a.length:=by omega
  have ra:=rd_lm ha (i:Int)
  obtain⟨e1,s0,sP,s1⟩:=shl_or ra.1 ra.2 hm hc0 hc1
  have hp0:=pm_pos m
  have hsP:(rd a (i:Int)*(2:Int)^m+c) / 4294967296<(2:Int)^m:=Int.ediv_lt_of_lt_mul (by decide) (by rw[Int.mul_comm ((2:Int)^m) 4294967296];exact sP)
  have hd:=div_bound s0 s1
  have hs:=split_div (rd a (i:Int)*(2:Int)^m+c)
  have c1:(i:Int)<(a.length:Int):=by clear e1;omega
  have c2:(i:Int)<(o.length:Int):=by clear e1;omega
  refine Rz.succ ?_
  simp only[nat_shift.l0,if_pos c1,if_pos (show(0:Int)≤(i:Int) from Int.natCast_nonneg _),if_pos (show(0:Int)≤(m:Int) from Int.natCast_nonneg _),if_pos c2,e1,Int.toNat_natCast,wn (show(i:Int)+1=((i+1:Nat):Int) by clear e1;omega) (by clear e1;omega)]
  clear e1
  refine ih (i+1) _ _ (by omega) (by rw[List.length_set];exact hol) (lm_set ho hd.1 hd.2.1) hd.2.2.1 hsP (fun j hj=>by rw[rd_set_ne _ (by omega)];exact hz j (by omega)) ⟨?_⟩
  rw[lv_set _ (by omega),lv_take_succ hia,bp_succ,Int.natCast_mul,hz i (Nat.le_refl _)]
  have hv:=hv.out
  clear ih hd hsP s0 s1 sP hz
  generalize (rd a (i:Int)*(2:Int)^m+c) / 4294967296=c2 at*
  generalize (rd a (i:Int)*(2:Int)^m+c) % 4294967296=sm at*
  generalize (2:Int)^m=P at*
  generalize (bp i:Int)=p at*
  generalize rd a (i:Int)=ai at*
  generalize lv o=lo at*
  generalize lv (a.take i)=lt at*
  show lo+p*(sm-0)+4294967296*p*c2=(lt+p*ai)*P
  have h2:p*(sm+4294967296*c2)=p*(ai*P+c):=by rw[hs]
  grind
theorem nshift_ev {a:List Int} {m:Nat} (ha:Lm a) (hla:a.length<268435456) (hm:m<32):Rz (Shf a m) (fun k=>nat_shift.f k a (m:Int)):=by
 simp only[nat_shift.f,wn (show(a.length:Int)+1=((a.length+1:Nat):Int) by omega) (by omega),Int.toNat_natCast,if_pos (show(0:Int)≤((a.length+1:Nat):Int) by omega),if_pos (show a.length+1≤70368744177664 by omega)]
 exact nshift_loop ha hla hm a.length 0 _ 0 (by omega) (by simp) (lm_rep _) (by omega) (pm_pos m) (fun j _=>rd_rep _ j) ⟨by rw[lv_rep];simp [lv_nil]⟩
theorem join_low {y x:Int} (hy0:0≤y) (hy1:y<4294967296) (hx0:0≤x) (hx1:x<4294967296):Go.bits .or .u64 (IntKind.u64.wrap y) (IntKind.u64.wrap (IntKind.u64.wrap x*4294967296))=y+x*4294967296:=by
 rw[u64w (x:=x) hx0 (by omega),u64w (x:=x*4294967296) (by omega) (by omega),u64w (x:=y) hy0 (by omega)]
 have h:=bits_join .u64 64 (by decide) wraps_u64 32 (x*4294967296) y (by omega) (by omega) (by omega) hy0 (by omega) (by omega)
 obtain⟨a,ha⟩:=Int.eq_ofNat_of_zero_le hy0
 obtain⟨b,hb⟩:=Int.eq_ofNat_of_zero_le (show 0≤x*4294967296 by omega)
 rw[ha,hb] at h ⊢
 rw[(bits_nat .u64 64 (by decide) wraps_u64 b a (by omega) (by omega)).2] at h
 rw[(bits_nat .u64 64 (by decide) wraps_u64 a b (by omega) (by omega)).2,Nat.or_comm,h]
 omega
theorem shr_limb {u0 u1:Int} {m:Nat} (h00:0≤u0) (h01:u0<4294967296) (h10:0≤u1) (h11:u1<4294967296) (hm:m<32):
 ∃x,shr .u64 (Go.bits .or .u64 (IntKind.u64.wrap u0) (IntKind.u64.wrap (IntKind.u64.wrap u1*4294967296))) (m:Int) % 4294967296=x∧0≤x∧x<4294967296∧x*(2:Int)^m=u0-u0 % (2:Int)^m+(u1 % (2:Int)^m)*4294967296:=by
 refine⟨_,rfl,by omega,by omega,?_⟩
 rw[join_low h00 h01 h10 h11]
 unfold shr
 rw[Int.toNat_natCast,Nat.min_eq_left (show m≤IntKind.u64.bits by simp [IntKind.bits];omega)]
 have hp0:=pm_pos m
 have hq0:=pm_pos (32-m)
 have hPP:(2:Int)^m*(2:Int)^(32-m)=4294967296:=by
  rw[←Int.pow_add,show m+(32-m)=32 by omega];rfl
 generalize (2:Int)^m=P at*
 generalize (2:Int)^(32-m)=P' at*
 have e1:(u0+u1*4294967296) / P=u0 / P+u1*P':=by
  rw[←hPP,show u1*(P*P')=(u1*P')*P by grind]
  exact Int.add_mul_ediv_right _ _ (by omega)
 have hm0:=Int.emod_nonneg u1 (show P≠0 by omega)
 have hm1:=Int.emod_lt_of_pos u1 hp0
 have hd:=Int.mul_ediv_add_emod u1 P
 have hd0:=Int.mul_ediv_add_emod u0 P
 have hu:=Int.ediv_nonneg h00 (show 0≤P by omega)
 have hu1:u0 / P<P':=Int.ediv_lt_of_lt_mul hp0 (by rw[Int.mul_comm,hPP];exact h01)
 have e2:(u0 / P+u1*P') % 4294967296=u0 / P+(u1 % P)*P':=by
  have e3:u0 / P+u1*P'=(u0 / P+(u1 % P)*P')+(u1 / P)*4294967296:=by
   rw[←hPP]
   have:u1*P'=(P*(u1 / P)+u1 % P)*P':=by rw[hd]
   grind
  rw[e3,Int.add_mul_emod_self_right]
  have h1:0≤(u1 % P)*P':=Int.mul_nonneg hm0 (by omega)
  have h2:(u1 % P+1)*P'≤P*P':=Int.mul_le_mul_of_nonneg_right (by omega) (by omega)
  have h3:(u1 % P+1)*P'=(u1 % P)*P'+P':=by grind
  exact Int.emod_eq_of_lt (by omega) (by omega)
 rw[e1,e2]
 have:(u0 / P)*P=u0-u0 % P:=by rw[Int.mul_comm];omega
 have h4:(u1 % P)*P'*P=(u1 % P)*4294967296:=by rw[←hPP];grind
 rw[Int.add_mul,this,h4]
theorem rem_loop {u quo:List Int} {m n:Nat} (hu:Lm u) (hn:n<u.length) (hnl:n<268435456) (hm:m<32):∀(d i:Nat) (o:List Int),i+d=n→o.length=n→Lm o→(∀j:Nat,i≤j→rd o (j:Int)=0)→
 Aside0 (lv o*(2:Int)^m=lv (u.take i)-rd u ((0:Nat):Int) % (2:Int)^m+(bp i:Int)*(rd u (i:Int) % (2:Int)^m))→
 Rz (fun r=>r.1=quo∧Lm r.2∧r.2.length=n∧lv r.2*(2:Int)^m=lv (u.take n)-rd u ((0:Nat):Int) % (2:Int)^m+(bp n:Int)*(rd u (n:Int) % (2:Int)^m)) (fun k=>nat_long.l1 k quo o (m:Int) u (n:Int) (i:Int)):=by
 intro d
 induction d with
 |zero=>
  intro i o hi hol ho hz hv
  have hi:i=n:=by omega
  subst hi
  refine Rz.succ ?_
  simp only[nat_long.l1,if_neg (show ¬(i:Int)<(i:Int) from Int.lt_irrefl _)]
  exact Rz.some ⟨rfl,ho,hol,hv.out⟩
 |succ d ih=>
  intro i o hi hol ho hz hv
  have r0:=rd_lm hu (i:Int)
  have r1:=rd_lm hu ((i+1:Nat):Int)
  obtain⟨x,ex,x0,x1,hx⟩:=shr_limb r0.1 r0.2 r1.1 r1.2 hm
  have c1:(i:Int)<(n:Int):=by clear ex;omega
  have c2:(i:Int)<(u.length:Int):=by clear ex;omega
  have c3:((i+1:Nat):Int)<(u.length:Int):=by clear ex;omega
  have c4:(i:Int)<(o.length:Int):=by clear ex;omega
  have ew:=wn (show(i:Int)+1=((i+1:Nat):Int) by clear ex;omega) (by clear ex;omega)
  refine Rz.succ ?_
  simp only[nat_long.l1,if_pos c1,if_pos (show(0:Int)≤(i:Int) from Int.natCast_nonneg _),if_pos c2,ew,if_pos (show(0:Int)≤((i+1:Nat):Int) from Int.natCast_nonneg _),if_pos c3,if_pos (show(0:Int)≤(m:Int) from Int.natCast_nonneg _),if_pos c4,ex,Int.toNat_natCast]
  clear ex ew
  refine ih (i+1) _ (by omega) (by rw[List.length_set];exact hol) (lm_set ho x0 x1) (fun j hj=>by rw[rd_set_ne _ (by omega)];exact hz j (by omega)) ⟨?_⟩
  rw[lv_set _ (by omega),hz i (Nat.le_refl _),lv_take_succ (by omega),bp_succ,Int.natCast_mul]
  have hv:=hv.out
  clear ih hz
  generalize (2:Int)^m=P at*
  generalize rd u ((i+1:Nat):Int) % P=k1 at*
  generalize hk0:rd u (i:Int) % P=k0 at*
  generalize rd u ((0:Nat):Int) % P=kz at*
  generalize (bp i:Int)=p at*
  generalize rd u (i:Int)=ui at*
  generalize lv o=lo at*
  generalize lv (u.take i)=lt at*
  show(lo+p*(x-0))*P=lt+p*ui-kz+4294967296*p*k1
  have h2:p*(x*P)=p*(ui-k0+k1*4294967296):=by rw[hx]
  grind
theorem win_split {u:List Int} {lo hi:Nat} (h1:lo≤hi) (h2:hi≤u.length):u.take lo++((u.take hi).drop lo++u.drop hi)=u:=by
 have h3:(u.take hi).take lo=u.take lo:=by rw[List.take_take,Nat.min_eq_left h1]
 rw[←List.append_assoc,←h3,List.take_append_drop,List.take_append_drop]
theorem lm_drop {l:List Int} (h:Lm l) (n:Nat):Lm (l.drop n):=fun x hx=>h x (List.mem_of_mem_drop hx)
theorem quo_loop {P:List Int×List Int→Prop} {v:List Int} {m N:Nat} {A:Int} (hv:Lm v) (hk:2≤v.length) (ht:2147483648≤rd v ((v.length-1:Nat):Int)) (hN:N<268435456)
 (hfin:∀(u quo:List Int),u.length=N→Lm u→Lm quo→quo.length=N-v.length→lv u<lv v→Aside0 (A=lv quo*lv v+lv u)→Rz P (fun k=>nat_long.l0 k quo (m:Int) v u (v.length:Int) (-1))):
 ∀(d:Nat) (u quo:List Int),d+v.length≤N→u.length=N→Lm u→Lm quo→quo.length=N-v.length→(∀i:Nat,i<d→rd quo (i:Int)=0)→lv u<(bp d:Int)*lv v→Aside0 (A=lv quo*lv v+lv u)→Rz P (fun k=>nat_long.l0 k quo (m:Int) v u (v.length:Int) ((d:Int)-1)):=by
 intro d
 induction d with
 |zero=>
  intro u quo hd hul hu hq hql hz hlt he
  rw[bp_zero] at hlt
  exact hfin u quo hul hu hq hql (by rw[show((1:Nat):Int)=1 from rfl,Int.one_mul] at hlt;exact hlt) he
 |succ d ih=>
  intro u quo hd hul hu hq hql hz hlt he
  have hV0:=lv_nonneg hv
  have hV1:=lv_lt hv
  obtain⟨w,hw⟩:∃w,w=(u.take (d+v.length+1)).drop d:=⟨_,rfl⟩
  obtain⟨dr,hdr⟩:∃dr,dr=u.drop (d+v.length+1):=⟨_,rfl⟩
  have hsp:=win_split (u:=u) (lo:=d) (hi:=d+v.length+1) (by omega) (by omega)
  rw[←hw,←hdr] at hsp
  have hwl:w.length=v.length+1:=by rw[hw,List.length_drop,List.length_take];omega
  have hdl:dr.length=N-(d+v.length+1):=by rw[hdr,List.length_drop];omega
  have hwm:Lm w:=by rw[hw];exact lm_drop (lm_take hu _) _
  have hdm:Lm dr:=by rw[hdr];exact lm_drop hu _
  have htl:(u.take d).length=d:=by rw[List.length_take];omega
  have hval:lv u=lv (u.take d)+(bp d:Int)*(lv w+(bp (v.length+1):Int)*lv dr):=by
   rw[←hwl]
   conv=>lhs;rw[←hsp,lv_append,lv_append,htl]
  have tb:=take_bound hu d
  have w0:=lv_nonneg hwm
  have d0:=lv_nonneg hdm
  have hb:=bp_pos d
  have hbk:=bp_pos v.length
  rw[bp_succ,Int.natCast_mul] at hlt
  have hdr0:lv dr=0:=by
   by_cases g:lv dr=0
   ·exact g
   ·exfalso
    have h1:(bp v.length:Int)*1≤(bp v.length:Int)*lv dr:=Int.mul_le_mul_of_nonneg_left (by omega) (by omega)
    rw[bp_succ,Int.natCast_mul] at hval
    have h2:(bp d:Int)*(lv w+4294967296*(bp v.length:Int)*lv dr)<(bp d:Int)*(4294967296*lv v):=by
     have:((4294967296:Nat):Int)*(bp d:Int)*lv v=(bp d:Int)*(4294967296*lv v):=by
      show 4294967296*(bp d:Int)*lv v=_
      grind
     have e2:(bp d:Int)*(lv w+((4294967296:Nat):Int)*(bp v.length:Int)*lv dr)=(bp d:Int)*(lv w+4294967296*(bp v.length:Int)*lv dr):=rfl
     omega
    have h3:=Int.lt_of_mul_lt_mul_left h2 (by omega)
    have h4:4294967296*(bp v.length:Int)*lv dr=4294967296*((bp v.length:Int)*lv dr):=by grind
    omega
  rw[hdr0,Int.mul_zero,Int.add_zero] at hval
  have hW:lv w<4294967296*lv v:=by
   have h2:(bp d:Int)*lv w<(bp d:Int)*(4294967296*lv v):=by
    have:((4294967296:Nat):Int)*(bp d:Int)*lv v=(bp d:Int)*(4294967296*lv v):=by
     show 4294967296*(bp d:Int)*lv v=_
     grind
    omega
   exact Int.lt_of_mul_lt_mul_left h2 (by omega)
  obtain⟨⟨q,rl⟩,hev,hq1,hrl,hrm,hrv⟩:=step_ev hwm hv hwl (by omega) hk ht hW
  simp only at hq1 hrl hrm hrv
  have hVp:0<lv v:=by omega
  have hdm2:=Int.mul_ediv_add_emod (lv w) (lv v)
  have hr0:=Int.emod_nonneg (lv w) (show lv v≠0 by omega)
  have hr1:=Int.emod_lt_of_pos (lv w) hVp
  have hq0:0≤q:=by rw[hq1];exact Int.ediv_nonneg w0 (by omega)
  have hqB:q<4294967296:=by rw[hq1];exact Int.ediv_lt_of_lt_mul hVp hW
  rw[←hq1,←hrv] at hdm2
  rw[←hrv] at hr0 hr1
  have i1:wrap64 ((d:Int)+(v.length:Int))=((d+v.length:Nat):Int):=wn (by omega) (by omega)
  have i2:wrap64 (((d+v.length:Nat):Int)+1)=((d+v.length+1:Nat):Int):=wn (by clear i1;omega) (by clear i1;omega)
  have i3:wrap64 ((d:Int)-1)=(d:Int)-1:=w64 (by clear i1 i2;omega) (by clear i1 i2;omega)
  have c1:(d:Int)≥0:=Int.natCast_nonneg _
  have c2:(d:Int)≤((d+v.length+1:Nat):Int):=by clear i1 i2 i3;omega
  have c3:((d+v.length+1:Nat):Int)≤(u.length:Int):=by clear i1 i2 i3;omega
  have c4:(d:Int)<(quo.length:Int):=by clear i1 i2 i3;omega
  refine Rz.succ ?_
  rw[show((d+1:Nat):Int)-1=(d:Int) by clear i1 i2 i3;omega]
  simp only[nat_long.l0,if_pos c1,if_pos (show(0:Int)≤(d:Int) from c1),i1,i2,if_pos c2,if_pos c3,Int.toNat_natCast,←hw,←hdr]
  refine Rz.bind hev ?_
  simp only[if_pos c4,i3]
  clear i1 i2 i3 hev
  have hul2:(u.take d++(rl++dr)).length=N:=by rw[List.length_append,List.length_append,htl,hrl,hdl];omega
  have hval2:lv (u.take d++(rl++dr))=lv (u.take d)+(bp d:Int)*lv rl:=by
   rw[lv_append,lv_append,htl,hdr0,Int.mul_zero,Int.add_zero]
  refine ih _ _ (by omega) hul2 (lm_append (lm_take hu _) (lm_append hrm hdm)) (lm_set hq hq0 hqB) (by rw[List.length_set];exact hql) (fun i hi=>by rw[rd_set_ne _ (by omega)];exact hz i (by omega)) ?_ ⟨?_⟩
  ·rw[hval2]
   have h1:(bp d:Int)*(lv rl+1)≤(bp d:Int)*lv v:=Int.mul_le_mul_of_nonneg_left (by omega) (by omega)
   have h2:(bp d:Int)*(lv rl+1)=(bp d:Int)*lv rl+bp d:=by grind
   omega
  ·rw[lv_set _ (by omega),hz d (by omega),hval2]
   have he:=he.out
   rw[hval] at he
   rw[he]
   have h1:(bp d:Int)*(lv v*q+lv rl)=(bp d:Int)*lv w:=by rw[hdm2]
   generalize (bp d:Int)=p at*
   grind
theorem len32 {x:Int} (h0:0≤x) (h1:x<4294967296):bits_Len32.f x=some ((Lib.bitLen x.toNat:Nat):Int):=by
 unfold bits_Len32.f
 rw[if_pos h0,if_pos (by omega)]
theorem nlong_ev {a b:Nat} (hb:2≤(dg b).length) (hab:b≤a) (hal:(dg a).length<67108864):
 Rz (fun r=>Lm r.1∧Lm r.2∧lv r.1=((a / b:Nat):Int)∧lv r.2=((a % b:Nat):Int)∧r.1.length≤(dg a).length+1∧r.2.length≤(dg a).length+1) (fun k=>nat_long.f k (dg a) (dg b)):=by
 have hlab:=dg_len_mono hab
 obtain⟨n,hn⟩:∃n,(dg b).length=n+1:=⟨(dg b).length-1,by omega⟩
 have hb0:b≠0:=by intro e;rw[e,dg_zero] at hb;simp at hb
 have hr:=rd_lm (lm_dg b) (n:Int)
 have hd:=dg_head (n:=b) (i:=n) (by omega)
 obtain⟨x,hx⟩:∃x:Nat,rd (dg b) (n:Int)=(x:Int):=⟨(rd (dg b) (n:Int)).toNat,by omega⟩
 rw[hx] at hr hd
 have hx0:x≠0:=by omega
 have hx1:x<4294967296:=by omega
 have hbl1:=bitLen_pos hx0 hx1
 have hbl2:=bits_half x hx1
 obtain⟨m,hm⟩:∃m,m=32-Lib.bitLen x:=⟨_,rfl⟩
 have hm32:m<32:=by omega
 have hblb:bl b=32*n+Lib.bitLen x:=by
  unfold bl
  rw[if_neg hb0,hn,show n+1-1=n from rfl,hx,Int.toNat_natCast]
 obtain⟨lo,hi,_⟩:=bl_bounds hb0
 obtain⟨V,hV⟩:∃V,V=b*2^m:=⟨_,rfl⟩
 have hVlo:2147483648*bp n≤V:=by
  rw[hV,←pow2_bp]
  have h1:=Nat.mul_le_mul_right (2^m) lo
  rw[←Nat.pow_add,hblb,show 32*n+Lib.bitLen x-1+m=31+32*n by omega,Nat.pow_add] at h1
  exact h1
 have hVhi:V<bp (n+1):=by
  rw[hV,←pow2_bp]
  have h1:=Nat.mul_lt_mul_of_pos_right hi (Nat.two_pow_pos m)
  rw[←Nat.pow_add,hblb,show 32*n+Lib.bitLen x+m=32*(n+1) by omega] at h1
  exact h1
 have hVl:(dg V).length=n+1:=by
  have h1:=dg_len_le hVhi
  by_cases g:(dg V).length≤n
  ·exfalso
   have h2:=dg_lt_len V
   have h3:=bp_mono g
   have h4:=bp_pos n
   omega
  ·omega
 have hVt:2147483648≤rd (dg V) (((dg V).length-1:Nat):Int):=by
  rw[hVl,show n+1-1=n from rfl]
  have h1:=lv_take_succ (l:=dg V) (i:=n) (by omega)
  rw[←hVl,List.take_of_length_le (Nat.le_refl _),lv_dg] at h1
  have h2:=take_bound (lm_dg V) n
  have h4:=bp_pos n
  have h5:(bp n:Int)*2147483647<(bp n:Int)*rd (dg V) (n:Int):=by omega
  have:=Int.lt_of_mul_lt_mul_left h5 (by omega)
  omega
 have hVm:Lm (dg V):=lm_dg V
 have hVv:lv (dg V)=(V:Int):=lv_dg V
 have hp2:((2^m:Nat):Int)=(2:Int)^m:=by rw[Int.natCast_pow];rfl
 have hpm:=pm_pos m
 obtain⟨s1,hs1,hs1l,hs1m,hs1v⟩:=nshift_ev (a:=dg b) (m:=m) (lm_dg b) (by omega) hm32
 obtain⟨u,hu,hul,hum,huv⟩:=nshift_ev (a:=dg a) (m:=m) (lm_dg a) (by omega) hm32
 have hs1V:(lv s1).toNat=V:=by
  rw[hs1v,lv_dg,←hp2,←Int.natCast_mul,Int.toNat_natCast,hV]
 have hsh:=short_ev hs1m (by omega)
 rw[hs1V] at hsh
 rw[lv_dg] at huv
 have i1:wrap64 (((n+1:Nat):Int)-1)=(n:Int):=wn (by omega) (by omega)
 have i2:wrap64 (32-((Lib.bitLen x:Nat):Int))=(m:Int):=wn (by clear i1;omega) (by clear i1;omega)
 have f1:bits_LeadingZeros32.f (rd (dg b) (n:Int))=some (m:Int):=by
  unfold bits_LeadingZeros32.f
  rw[hx,len32 (by clear i1 i2;omega) (by clear i1 i2;omega),Int.toNat_natCast,Option.bind_some,i2]
 have i3:wrap64 ((u.length:Int)-((dg V).length:Int))=((u.length-(n+1):Nat):Int):=wn (by clear i1 i2;omega) (by clear i1 i2;omega)
 have i4:wrap64 (((u.length-(n+1):Nat):Int)-1)=((u.length-(n+1):Nat):Int)-1:=w64 (by clear i1 i2 i3;omega) (by clear i1 i2 i3;omega)
 have c1:(0:Int)≤(n:Int):=Int.natCast_nonneg _
 have c2:(n:Int)<((n+1:Nat):Int):=by clear i1 i2 i3 i4;omega
 have c3:u.length-(n+1)≤70368744177664:=by clear i1 i2 i3 i4;omega
 simp only[nat_long.f,hn,i1,if_pos c1,if_pos c2]
 refine Rz.bind (Ev.of (fun k=>f1)) ?_
 refine Rz.bind hs1 ?_
 refine Rz.bind hsh ?_
 refine Rz.bind hu ?_
 simp only[i3,i4,if_pos (show(0:Int)≤((u.length-(n+1):Nat):Int) from Int.natCast_nonneg _),Int.toNat_natCast,if_pos c3]
 clear i1 i2 i3 i4 f1
 have hb1:bp n≤b:=by
  have h1:bp n*2^(Lib.bitLen x-1)≤b:=by
   rw[←pow2_bp,←Nat.pow_add,show 32*n+(Lib.bitLen x-1)=bl b-1 by omega];exact lo
  have h2:=Nat.two_pow_pos (Lib.bitLen x-1)
  have h3:bp n*1≤bp n*2^(Lib.bitLen x-1):=Nat.mul_le_mul_left _ h2
  omega
 refine quo_loop (A:=(a:Int)*(2:Int)^m) (N:=u.length) hVm (by omega) hVt (by omega) (fun u2 quo hu2l hu2m hqm hql hlt he=>?_) (u.length-(n+1)) u _ (by omega) rfl hum (lm_rep _) (by rw[List.length_replicate,hVl]) (fun i _=>rd_rep _ i) ?_ ⟨by rw[lv_rep,huv];omega⟩
 ·
  rw[hVv] at hlt he
  have he:=he.out
  have hVi:(V:Int)=(b:Int)*(2:Int)^m:=by rw[hV,Int.natCast_mul,hp2]
  have hu20:=lv_nonneg hu2m
  obtain⟨r,hr2⟩:∃r,r=(a:Int)-lv quo*b:=⟨_,rfl⟩
  have hrP:lv u2=r*(2:Int)^m:=by
   rw[hVi] at he
   rw[hr2]
   generalize (2:Int)^m=P at*
   grind
  have hr0:0≤r:=by
   by_cases g:0≤r
   ·exact g
   ·exfalso
    have h1:r*(2:Int)^m≤ -1*(2:Int)^m:=Int.mul_le_mul_of_nonneg_right (by omega) (by omega)
    omega
  have hrb:r<(b:Int):=by
   rw[hrP,hVi] at hlt
   exact Int.lt_of_mul_lt_mul_right hlt (by omega)
  have hqr:=(Int.ediv_emod_unique (a:=(a:Int)) (b:=(b:Int)) (r:=r) (q:=lv quo) (by omega)).mpr ⟨by rw[hr2,Int.mul_comm (b:Int)];omega,hr0,hrb⟩
  have hz1:rd u2 ((n+1:Nat):Int)=0∧lv (u2.take (n+1))=lv u2:=by
   have h1:=take_bound hu2m (n+1)
   have hsp:lv u2=lv (u2.take (n+1))+(bp (n+1):Int)*lv (u2.drop (n+1)):=by
    conv=>lhs;rw[←List.take_append_drop (n+1) u2,lv_append,List.length_take,Nat.min_eq_left (show n+1≤u2.length by omega)]
   have h2:=lv_nonneg (lm_drop hu2m (n+1))
   have h3:=bp_pos (n+1)
   have hz:lv (u2.drop (n+1))=0:=by
    by_cases g:lv (u2.drop (n+1))=0
    ·exact g
    ·exfalso
     have:(bp (n+1):Int)*1≤(bp (n+1):Int)*lv (u2.drop (n+1)):=Int.mul_le_mul_of_nonneg_left (by omega) (by omega)
     omega
   rw[hz,Int.mul_zero,Int.add_zero] at hsp
   refine⟨?_,hsp.symm⟩
   have h4:=lv_take_succ (l:=u2) (i:=n+1) (by omega)
   have h5:=rd_lm hu2m ((n+1:Nat):Int)
   have hsp2:lv u2=lv (u2.take (n+2))+(bp (n+2):Int)*lv (u2.drop (n+2)):=by
    conv=>lhs;rw[←List.take_append_drop (n+2) u2,lv_append,List.length_take,Nat.min_eq_left (show n+2≤u2.length by omega)]
   have h6:0≤(bp (n+2):Int)*lv (u2.drop (n+2)):=Int.mul_nonneg (Int.natCast_nonneg _) (lv_nonneg (lm_drop hu2m (n+2)))
   by_cases g:rd u2 ((n+1:Nat):Int)=0
   ·exact g
   ·exfalso
    have:(bp (n+1):Int)*1≤(bp (n+1):Int)*rd u2 ((n+1:Nat):Int):=Int.mul_le_mul_of_nonneg_left (by omega) (by omega)
    have h4':lv (u2.take (n+2))=lv (u2.take (n+1))+(bp (n+1):Int)*rd u2 ((n+1:Nat):Int):=h4
    omega
  have hc0:rd u2 ((0:Nat):Int) % (2:Int)^m=0:=by
   have h1:=lv_take_succ (l:=u2) (i:=0) (by omega)
   have hsp:lv u2=lv (u2.take 1)+(bp 1:Int)*lv (u2.drop 1):=by
    conv=>lhs;rw[←List.take_append_drop 1 u2,lv_append,List.length_take,Nat.min_eq_left (show 1≤u2.length by omega)]
   rw[List.take_zero,lv_nil,bp_zero] at h1
   have h2:lv (u2.take 1)=rd u2 ((0:Nat):Int):=by
    have:lv (u2.take (0+1))=0+((1:Nat):Int)*rd u2 ((0:Nat):Int):=h1
    rw[show u2.take 1=u2.take (0+1) from rfl,this];omega
   have hPP:(2:Int)^m*(2:Int)^(32-m)=4294967296:=by
    rw[←Int.pow_add,show m+(32-m)=32 by omega];rfl
   rw[h2,show(bp 1:Int)=4294967296 by rw[show bp 1=bp (0+1) from rfl,bp_succ,bp_zero];rfl,←hPP,hrP] at hsp
   have:rd u2 ((0:Nat):Int)=(r-(2:Int)^(32-m)*lv (u2.drop 1))*(2:Int)^m:=by
    generalize (2:Int)^m=P at*
    grind
   rw[this]
   exact Int.mul_emod_left _ _
  have c5:¬((-1:Int)≥0):=by omega
  have c6:n+1≤70368744177664:=by omega
  refine Rz.succ ?_
  rw[hVl]
  simp only[nat_long.l0,if_neg c5,if_pos (show(0:Int)≤((n+1:Nat):Int) from Int.natCast_nonneg _),Int.toNat_natCast,if_pos c6,Option.bind_some,List.length_replicate]
  obtain⟨⟨q3,r3⟩,h31,h32,h33,h34,h35⟩:=rem_loop (u:=u2) (quo:=quo) (m:=m) (n:=n+1) hu2m (by omega) (by omega) hm32 (n+1) 0 (List.replicate (n+1) 0) (by omega) (List.length_replicate) (lm_rep _) (fun j _=>rd_rep _ j) ⟨by
   rw[lv_rep,List.take_zero,lv_nil,bp_zero]
   show 0*_=0-_+1*_
   omega⟩
  refine⟨(q3,r3),h31,?_⟩
  simp only at h32 h33 h34 h35
  rw[hz1.1,hz1.2,hc0,hrP] at h35
  have hr3:lv r3=r:=by
   have h36:(2:Int)^m*lv r3=(2:Int)^m*r:=by
    rw[Int.zero_emod,Int.mul_zero] at h35
    rw[Int.mul_comm,h35,Int.mul_comm r];omega
   exact Int.eq_of_mul_eq_mul_left (by omega) h36
  refine⟨?_,h33,?_,?_,?_,?_⟩
  ·show Lm q3
   rw[h32];exact hqm
  ·show lv q3=_
   rw[h32,←hqr.1,Int.natCast_ediv]
  ·show lv r3=_
   rw[hr3,←hqr.2,Int.natCast_emod]
  ·show q3.length≤_
   rw[h32,hql];omega
  ·show r3.length≤_
   rw[h34];omega
 ·
  rw[huv,hVv,hV,Int.natCast_mul,hp2]
  have h1:(a:Int)<(bp (u.length-(n+1)):Int)*(b:Int):=by
   have h2:=dg_lt_len a
   have h3:bp (u.length-(n+1))*bp n≤bp (u.length-(n+1))*b:=Nat.mul_le_mul_left _ hb1
   rw[←bp_add,show u.length-(n+1)+n=(dg a).length by omega] at h3
   have h4:a<bp (u.length-(n+1))*b:=by omega
   have:=Int.ofNat_lt.mpr h4
   rw[Int.natCast_mul] at this
   exact this
  have h5:=Int.mul_lt_mul_of_pos_right h1 hpm
  rw[Int.mul_assoc] at h5
  exact h5
theorem ndivmod_ev {a b:Nat} (hb0:b≠0) (hla:(dg a).length<67108864) (hlb:(dg b).length<67108864):Ev (fun k=>nat_DivMod.f k (dg a) (dg b)) (dg (a / b),dg (a % b),0):=by
 by_cases hb1:b<4294967296
 ·exact ndivmod1_ev hb0 hb1 (by omega)
 have hb2:2≤(dg b).length:=by
  by_cases g:(dg b).length≤1
  ·exfalso
   have h2:=dg_lt_len b
   have h3:=bp_mono g
   rw[show bp 1=bp (0+1) from rfl,bp_succ,bp_zero] at h3
   omega
  ·omega
 simp only[nat_DivMod.f]
 refine Ev.bind (short2_ev (by omega)) ?_
 refine Ev.bind (short2_ev (by omega)) ?_
 simp only[if_neg (show ¬((dg b).length:Int)=0 by omega)]
 refine Ev.bind (ncmp_ev (by omega) (by omega)) ?_
 by_cases h:a<b
 ·have hc:cmpZ (a:Int) (b:Int)<0:=by unfold cmpZ;rw[if_pos (by omega)];omega
  simp only[if_pos hc]
  refine Ev.bind (trim2_ev (by omega)) ?_
  rw[Nat.div_eq_of_lt h,Nat.mod_eq_of_lt h,dg_zero]
  exact Ev.some _
 ·have hc:¬cmpZ (a:Int) (b:Int)<0:=by unfold cmpZ;rw[if_neg (by omega)];split<;>omega
  simp only[if_neg hc,if_neg (show ¬((dg b).length:Int)=1 by omega)]
  obtain⟨⟨q,r⟩,hev,hq,hr,hqv,hrv,hql,hrl⟩:=nlong_ev hb2 (by omega) hla
  simp only at hq hr hqv hrv hql hrl
  refine Ev.bind hev ?_
  refine Ev.bind (trim_ev hq (by simp only;omega)) ?_
  refine Ev.bind (trim_ev hr (by simp only;omega)) ?_
  simp only[hqv,hrv,Int.toNat_natCast]
  exact Ev.some _
theorem sg_len {b:Bool} {n:Nat} {z:Int} (h:sg b n=z):n=z.natAbs:=by rw[←h,sg_abs]
theorem nplus_ev {b1 b2:Bool} {n1 n2:Nat} (h1:(dg n1).length<134217728) (h2:(dg n2).length<134217728):
 ∃b n,Ev (fun k=>mw_plus.f k b1 (dg n1) b2 (dg n2)) (b,dg n)∧sg b n=sg b1 n1+sg b2 n2:=by
 by_cases hs:(b1==b2)=true
 ·refine⟨b1,n1+n2,?_,?_⟩
  ·simp only[mw_plus.f,hs,if_true]
   refine Ev.bind (add2_ev (by omega) (by omega)) ?_
   exact Ev.some _
  ·have e:b1=b2:=by simpa using hs
   subst e
   unfold sg
   cases b1<;>simp<;>omega
 ·have hne:b1≠b2:=by intro e;exact hs (by simp [e])
  by_cases hlt:n1<n2
  ·refine⟨b2,n2-n1,?_,?_⟩
   ·have hc:cmpZ (n1:Int) (n2:Int)<0:=by unfold cmpZ;rw[if_pos (by omega)];omega
    simp only[mw_plus.f,hs,Bool.false_eq_true,if_false]
    refine Ev.bind (ncmp_ev (by omega) (by omega)) ?_
    simp only[if_pos hc]
    refine Ev.bind (nsub_ev (by omega) (by omega)) ?_
    exact Ev.some _
   ·unfold sg
    cases b1<;>cases b2<;>simp at hne ⊢ <;>omega
  ·refine⟨b1,n1-n2,?_,?_⟩
   ·have hc:¬cmpZ (n1:Int) (n2:Int)<0:=by unfold cmpZ;rw[if_neg (by omega)];split<;>omega
    simp only[mw_plus.f,hs,Bool.false_eq_true,if_false]
    refine Ev.bind (ncmp_ev (by omega) (by omega)) ?_
    simp only[if_neg hc]
    refine Ev.bind (nsub_ev (by omega) (by omega)) ?_
    exact Ev.some _
   ·unfold sg
    cases b1<;>cases b2<;>simp at hne ⊢ <;>omega
theorem sg_not (b:Bool) (n:Nat):sg (!b) n= - sg b n:=by unfold sg;cases b<;>simp
theorem nminus_ev {b1 b2:Bool} {n1 n2:Nat} (h1:(dg n1).length<134217728) (h2:(dg n2).length<134217728):
 ∃b n,Ev (fun k=>mw_minus.f k b1 (dg n1) b2 (dg n2)) (b,dg n)∧sg b n=sg b1 n1-sg b2 n2:=by
 obtain⟨b,n,h,e⟩:=nplus_ev (b1:=b1) (b2:= !b2) h1 h2
 refine⟨b,n,?_,?_⟩
 ·simp only[mw_minus.f]
  refine Ev.bind h ?_
  exact Ev.some _
 ·rw[e,sg_not];omega
theorem ntimes_ev {b1 b2:Bool} {n1 n2:Nat} (h1:(dg n1).length<134217728) (h2:(dg n2).length<134217728):
 ∃b n,Ev (fun k=>mw_times.f k b1 (dg n1) b2 (dg n2)) (b,dg n)∧sg b n=sg b1 n1*sg b2 n2:=by
 refine⟨b1 != b2,n1*n2,?_,?_⟩
 ·simp only[mw_times.f]
  refine Ev.bind (mul2_ev h1 h2) ?_
  exact Ev.some _
 ·unfold sg
  cases b1<;>cases b2<;>simp [Int.neg_mul,Int.mul_neg]
theorem sm_abs {M:Nat} {f:Nat→Int}:∀n:Nat,(∀i,i<n→(f i).natAbs≤M)→(sm n f).natAbs≤n*M:=by
 intro n
 induction n with
 |zero=>intro _;simp [sm]
 |succ n ih=>
  intro h
  have h1:=ih (fun i hi=>h i (by omega))
  have h2:=h n (by omega)
  rw[sm,Nat.succ_mul]
  have:=Int.natAbs_add_le (sm n f) (f n)
  omega
theorem kr_len {g a b k:Nat} (hg:g<4294967296) (ha:a≤64) (hb:b≤64) (hk:k≤64):(dg (kr (g:Int) a b k).natAbs).length≤324:=by
 rw[kr_formula]
 have hgl:(dg g).length≤1:=dg_len_le (by rw[show(1:Nat)=0+1 from rfl,bp_succ,bp_zero];omega)
 have hterm:∀j,j<k+1→((-1:Int)^j*((g:Int)^(k-j)*((bin b j:Int)*(bin a (k-j):Int)))).natAbs≤bp 323:=by
  intro j hj
  have h1:(dg (g^(k-j))).length≤65:=by have:=pow_len g (k-j) 1 hgl;omega
  have h2:=bin_len (n:=b) (by omega) j
  have h3:=bin_len (n:=a) (by omega) (k-j)
  have e:((-1:Int)^j*((g:Int)^(k-j)*((bin b j:Int)*(bin a (k-j):Int)))).natAbs=g^(k-j)*(bin b j*bin a (k-j)):=by
   rw[Int.natAbs_mul,Int.natAbs_pow,Int.natAbs_mul,Int.natAbs_pow,Int.natAbs_mul]
   simp
  rw[e]
  have h4:=mul_len (bin b j) (bin a (k-j))
  have h5:=mul_len (g^(k-j)) (bin b j*bin a (k-j))
  exact Nat.le_of_lt (Nat.lt_of_lt_of_le (dg_lt_len _) (bp_mono (by omega)))
 have h:=sm_abs (k+1) hterm
 unfold krF
 refine dg_len_le ?_
 refine Nat.lt_of_le_of_lt h ?_
 rw[show 324=323+1 from rfl,bp_succ 323]
 have hp:=bp_pos 323
 have:(k+1)*bp 323≤65*bp 323:=Nat.mul_le_mul_right _ (by omega)
 generalize bp 323=p at*
 omega
def Num (e:S113) (z:Int):Prop:=∃b n,e=⟨b,dg n⟩∧sg b n=z
structure PRow (g n x m:Nat) (row:List S113):Prop where
 len:row.length=m
 at':∀k,k<m→Num (rd_T113 row (k:Int)) (kr (g:Int) (n-x) x k)
theorem rdT_app_lt {l m:List S113} {k:Nat} (h:k<l.length):rd_T113 (l++m) (k:Int)=rd_T113 l (k:Int):=by
 unfold rd_T113
 simp [List.getD_eq_getElem?_getD,List.getElem?_append_left h]
theorem rdT_app_eq {l:List S113} {e:S113} {k:Nat} (h:k=l.length):rd_T113 (l++[e]) (k:Int)=e:=by
 subst h
 unfold rd_T113
 simp [List.getD_eq_getElem?_getD]
theorem rdL_app_lt {l m:List (List S113)} {k:Nat} (h:k<l.length):rd_L6 (l++m) (k:Int)=rd_L6 l (k:Int):=by
 unfold rd_L6
 simp [List.getD_eq_getElem?_getD,List.getElem?_append_left h]
theorem rdL_app_eq {l:List (List S113)} {e:List S113} {k:Nat} (h:k=l.length):rd_L6 (l++[e]) (k:Int)=e:=by
 subst h
 unfold rd_L6
 simp [List.getD_eq_getElem?_getD]
theorem rdT_set_eq {l:List S113} {e:S113} {i:Nat} (h:i<l.length):rd_T113 (l.set i e) (i:Int)=e:=by
 unfold rd_T113
 simp [List.getD_eq_getElem?_getD,h]
theorem rdT_set_ne {l:List S113} {e:S113} {i j:Nat} (h:i≠j):rd_T113 (l.set i e) (j:Int)=rd_T113 l (j:Int):=by
 unfold rd_T113
 simp [List.getD_eq_getElem?_getD,h]
theorem row_loop {g n x:Nat} (hg:g<256) (hn:n≤64) (hx:x<n) {rows:List (List S113)} {old:List S113} {T:List (List S113)→Prop} (hrl:rows.length≤65) (hold:PRow g n x (n+1) old)
 (next:∀row,PRow g n (x+1) (n+1) row→∃t,Ev (fun k=>mw_table.l1 k (n:Int) (rows++[row]) (n:Int) ((x+1:Nat):Int) false (dg g)) t∧T t):
 ∀(d k:Nat) (row:List S113),k+1+d=n+1→PRow g n (x+1) (k+1) row→
  ∃t,Ev (fun kk=>mw_table.l2 kk (n:Int) rows old row ((k+1:Nat):Int) (n:Int) (x:Int) false (dg g)) t∧T t:=by
 intro d
 induction d with
 |zero=>
  intro k row hk hrow
  have hk:k=n:=by omega
  subst hk
  obtain⟨t,ht,hT⟩:=next row hrow
  refine⟨t,Ev.succ ?_,hT⟩
  simp only[mw_table.l2,if_neg (show ¬((k+1:Nat):Int)≤(k:Int) by omega),if_pos (show rows.length<5864062014805 by omega),wn (show(x:Int)+1=((x+1:Nat):Int) by omega) (by omega)]
  exact ht
 |succ d ih=>
  intro k row hk hrow
  have hol:=hold.len
  have hrl2:=hrow.len
  obtain⟨b1,n1,e1,s1⟩:=hold.at' (k+1) (by omega)
  obtain⟨b2,n2,e2,s2⟩:=hold.at' k (by omega)
  obtain⟨b3,n3,e3,s3⟩:=hrow.at' k (by omega)
  have l1:(dg n1).length≤324:=by rw[sg_len s1];exact kr_len (by omega) (by omega) (by omega) (by omega)
  have l2:(dg n2).length≤324:=by rw[sg_len s2];exact kr_len (by omega) (by omega) (by omega) (by omega)
  have l3:(dg n3).length≤324:=by rw[sg_len s3];exact kr_len (by omega) (by omega) (by omega) (by omega)
  have lg:(dg g).length≤1:=dg_len_le (by rw[show(1:Nat)=0+1 from rfl,bp_succ,bp_zero];omega)
  obtain⟨b4,n4,v4,s4⟩:=nminus_ev (b1:=b1) (b2:=b2) (n1:=n1) (n2:=n2) (by omega) (by omega)
  have l4:(dg n4).length≤326:=by
   refine dg_len_le ?_
   rw[sg_len s4]
   have t:=Int.natAbs_sub_le (sg b1 n1) (sg b2 n2)
   rw[sg_abs,sg_abs] at t
   have q1:=Nat.lt_of_lt_of_le (dg_lt_len n1) (bp_mono l1)
   have q2:=Nat.lt_of_lt_of_le (dg_lt_len n2) (bp_mono l2)
   rw[show 326=324+1+1 from rfl,bp_succ,bp_succ]
   generalize bp 324=p at*
   omega
  obtain⟨b5,n5,v5,s5⟩:=ntimes_ev (b1:=false) (b2:=b3) (n1:=g) (n2:=n3) (by omega) (by omega)
  have l5:(dg n5).length≤326:=by
   have t:n5=g*n3:=by rw[sg_len s5,Int.natAbs_mul,sg_abs,sg_abs]
   have:=mul_len g n3
   rw[t]
   omega
  obtain⟨b6,n6,v6,s6⟩:=nminus_ev (b1:=b4) (b2:=b5) (n1:=n4) (n2:=n5) (by omega) (by omega)
  have hval:sg b6 n6=kr (g:Int) (n-(x+1)) (x+1) (k+1):=by
   rw[s6,s4,s5,s1,s2,s3]
   have hr:=kr_row (g:Int) (n-(x+1)) x k
   rw[show n-(x+1)+1=n-x by omega] at hr
   rw[hr]
   rfl
  have hnew:PRow g n (x+1) (k+1+1) (row++[⟨b6,dg n6⟩]):=by
   refine⟨by rw[List.length_append,hrl2];rfl,fun j hj=>?_⟩
   by_cases hjk:j<k+1
   ·rw[rdT_app_lt (by omega)];exact hrow.at' j hjk
   ·have hj2:j=k+1:=by omega
    subst hj2
    rw[rdT_app_eq hrl2.symm]
    exact⟨b6,n6,rfl,hval⟩
  obtain⟨t,ht,hT⟩:=ih (k+1) _ (by omega) hnew
  refine⟨t,Ev.succ ?_,hT⟩
  simp only[mw_table.l2,wn (show((k+1:Nat):Int)-1=(k:Int) by omega) (by omega),wn (show((k+1:Nat):Int)+1=((k+1+1:Nat):Int) by omega) (by omega),if_pos (show((k+1:Nat):Int)≤(n:Int) by omega),if_pos (show(0:Int)≤((k+1:Nat):Int) by omega),if_pos (show((k+1:Nat):Int)<(old.length:Int) by omega),if_pos (show(0:Int)≤(k:Int) by omega),if_pos (show(k:Int)<(old.length:Int) by omega),if_pos (show(k:Int)<(row.length:Int) by omega),if_pos (show row.length<4398046511104 by omega),e1,e2,e3]
  refine Ev.bind v4 ?_
  refine Ev.bind v5 ?_
  refine Ev.bind v6 ?_
  exact ht
structure Tab (g n m:Nat) (t:List (List S113)):Prop where
 len:t.length=m
 at':∀x,x<m→PRow g n x (n+1) (rd_L6 t (x:Int))
theorem rows_loop {g n:Nat} (hg:g<256) (hn:n≤64):∀(d x:Nat) (rows:List (List S113)),x+d=n→Tab g n (x+1) rows→
 ∃t,Ev (fun k=>mw_table.l1 k (n:Int) rows (n:Int) (x:Int) false (dg g)) t∧Tab g n (n+1) t:=by
 intro d
 induction d with
 |zero=>
  intro x rows hx ht
  have hx:x=n:=by omega
  subst hx
  refine⟨rows,Ev.succ ?_,ht⟩
  simp only[mw_table.l1,if_neg (show ¬(x:Int)<(x:Int) by omega)]
  exact Ev.some _
 |succ d ih=>
  intro x rows hx ht
  have hl:=ht.len
  have hold:=ht.at' x (by omega)
  obtain⟨b0,n0,e0,s0⟩:=hold.at' 0 (by omega)
  have hol:=hold.len
  have hfirst:PRow g n (x+1) (0+1) [⟨b0,dg n0⟩]:=by
   refine⟨rfl,fun k hk=>?_⟩
   have hk:k=0:=by omega
   subst hk
   refine⟨b0,n0,rfl,?_⟩
   rw[s0,kr_zero,kr_zero]
  obtain⟨t,hev,hT⟩:=row_loop hg hn (show x<n by omega) (rows:=rows) (T:=Tab g n (n+1)) (by omega) hold (fun row hrow=>ih (x+1) (rows++[row]) (by omega) ⟨by rw[List.length_append,hl];rfl,fun y hy=>by
   by_cases hyx:y<x+1
   ·rw[rdL_app_lt (by omega)];exact ht.at' y hyx
   ·have:y=x+1:=by omega
    subst this
    rw[rdL_app_eq hl.symm];exact hrow⟩) n 0 _ (by omega) hfirst
  refine⟨t,Ev.succ ?_,hT⟩
  have e0':rd_T113 (rd_L6 rows (x:Int)) 0=⟨b0,dg n0⟩:=e0
  simp only[mw_table.l1,if_pos (show(x:Int)<(n:Int) by omega),wn (show(rows.length:Int)-1=(x:Int) by omega) (by omega),if_pos (show(0:Int)≤(x:Int) by omega),if_pos (show(x:Int)<(rows.length:Int) by omega),if_pos (show(0:Int)<((rd_L6 rows (x:Int)).length:Int) by omega),e0']
  exact hev
theorem first_loop {q n:Nat} (hq:2≤q) (hq2:q≤256) (hn:n≤64):∀(d i:Nat) (row:List S113),i+d=n+1→row.length=n+1→(∀k,k<i→Num (rd_T113 row (k:Int)) (kr ((q-1:Nat):Int) n 0 k))→
 ∃t,Ev (fun k=>mw_table.l0 k (q:Int) (n:Int) row ((n+1:Nat):Int) (i:Int)) t∧Tab (q-1) n (n+1) t:=by
 intro d
 have hw:wrap64 ((q:Int)-1)=((q-1:Nat):Int):=wn (by omega) (by omega)
 have hu:IntKind.u64.wrap ((q-1:Nat):Int)=((q-1:Nat):Int):=u64w (by clear hw;omega) (by clear hw;omega)
 have hw:=Aside0.mk hw
 have hu:=Aside0.mk hu
 induction d with
 |zero=>
  intro i row hi hrl hrow
  have hi:i=n+1:=by omega
  subst hi
  obtain⟨t,ht,hT⟩:=rows_loop (g:=q-1) (n:=n) (by omega) hn n 0 [row] (by omega) ⟨rfl,fun x hx=>by
   have:x=0:=by omega
   subst this
   exact⟨hrl,fun k hk=>hrow k hk⟩⟩
  refine⟨t,Ev.succ ?_,hT⟩
  simp only[mw_table.l0,if_neg (show ¬((n+1:Nat):Int)<((n+1:Nat):Int) by omega),mw_small.f,hw.out,hu.out]
  refine Ev.bind (Ev.bind (of_ev (by omega)) (Ev.some _)) ?_
  exact ht
 |succ d ih=>
  intro i row hi hrl hrow
  have hlb:=bin_len (n:=n) (by omega) i
  have hgl:(dg (q-1)).length≤1:=dg_len_le (by rw[show(1:Nat)=0+1 from rfl,bp_succ,bp_zero];omega)
  have hlp:=pow_len (q-1) i 1 hgl
  obtain⟨t,ht,hT⟩:=ih (i+1) (row.set i ⟨false,dg (bin n i*(q-1)^i)⟩) (by omega) (by rw[List.length_set];exact hrl) (fun k hk=>by
   by_cases e:k=i
   ·subst e
    rw[rdT_set_eq (by omega)]
    refine⟨false,_,rfl,?_⟩
    rw[kr_first]
    unfold sg
    simp [Int.natCast_mul,Int.natCast_pow]
   ·rw[rdT_set_ne (by omega)];exact hrow k (by omega))
  refine⟨t,Ev.succ ?_,hT⟩
  simp only[mw_table.l0,if_pos (show(i:Int)<((n+1:Nat):Int) by omega),hw.out,hu.out,if_pos (show(0:Int)≤(i:Int) by omega),if_pos (show(i:Int)<(row.length:Int) by omega),wn (show(i:Int)+1=((i+1:Nat):Int) by omega) (by omega),Int.toNat_natCast]
  refine Ev.bind (binomial_ev (by omega) (by omega)) ?_
  refine Ev.bind (of_ev (by omega)) ?_
  refine Ev.bind (pow_ev (by omega) (by omega)) ?_
  refine Ev.bind (mul2_ev (by omega) (by omega)) ?_
  exact ht
theorem table_ev {q n:Nat} (hq:2≤q) (hq2:q≤256) (hn:n≤64):∃t,Ev (fun k=>mw_table.f k (q:Int) (n:Int)) t∧Tab (q-1) n (n+1) t:=by
 obtain⟨t,ht,hT⟩:=first_loop hq hq2 hn (n+1) 0 (List.replicate (n+1) z113) (by omega) (by simp) (fun k hk=>by omega)
 refine⟨t,?_,hT⟩
 simp only[mw_table.f,wn (show(n:Int)+1=((n+1:Nat):Int) by omega) (by omega),Int.toNat_natCast,if_pos (show(0:Int)≤((n+1:Nat):Int) by omega),if_pos (show n+1≤8796093022208 by omega),Option.bind_some,List.length_replicate]
 exact ht
theorem mulq_len {x y:Int} {m n:Nat} (hx:(dg x.natAbs).length≤m) (hy:(dg y.natAbs).length≤n):(dg (x*y).natAbs).length≤m+n:=by
 rw[Int.natAbs_mul]
 have:=mul_len x.natAbs y.natAbs
 omega
theorem nat_len {m n:Nat} (h:(dg n).length≤m):(dg ((n:Nat):Int).natAbs).length≤m:=by rw[Int.natAbs_natCast];exact h
theorem sm_len {M m:Nat} {f:Nat→Int} (hm:m≤4096) (h:∀i,i<m→(dg (f i).natAbs).length≤M):(dg (sm m f).natAbs).length≤M+1:=by
 have h1:(sm m f).natAbs≤m*bp M:=sm_abs m (fun i hi=>Nat.le_of_lt (Nat.lt_of_lt_of_le (dg_lt_len _) (bp_mono (h i hi))))
 refine dg_len_le ?_
 rw[bp_succ M]
 have hp:=bp_pos M
 have:m*bp M≤4096*bp M:=Nat.mul_le_mul_right _ hm
 generalize bp M=p at*
 omega
def An (l:List (List Int)) (i:Nat):Nat:=(lv (rd_L3 l (i:Int))).toNat
def tT (g:Nat) (l:List (List Int)) (j i:Nat):Int:=(An l i:Int)*kr (g:Int) (l.length-1-i) i j
def tS (g:Nat) (l:List (List Int)) (j:Nat):Int:=sm l.length (tT g l j)
theorem An_len {l:List (List Int)} (h:Wl l) {i:Nat} (hi:i<l.length):(dg (An l i)).length≤20:=dg_len_le (lv_le_of_len (h.at hi).1 (h.at hi).2)
theorem tT_len {g:Nat} {l:List (List Int)} (h:Wl l) (hg:g<4294967296) {j i:Nat} (hi:i<l.length) (hj:j<l.length):(dg (tT g l j i).natAbs).length≤344:=by
 have f:=h.few
 have:=mulq_len (nat_len (An_len h hi)) (kr_len (g:=g) (a:=l.length-1-i) (b:=i) (k:=j) hg (by omega) (by omega) (by omega))
 unfold tT;omega
theorem tS_len {g:Nat} {l:List (List Int)} (h:Wl l) (hg:g<4294967296) {j m:Nat} (hm:m≤l.length) (hj:j<l.length):(dg (sm m (tT g l j)).natAbs).length≤345:=
 sm_len (by have:=h.few;omega) (fun i hi=>tT_len h hg (by omega) hj)
theorem num_zero:Num z113 0:=⟨false,0,by rw[dg_zero];rfl,by simp [sg]⟩
def Whl (l:List (List Int)) (w:List S113):Prop:=w.length=l.length∧∀i,i<l.length→rd_T113 w (i:Int)=⟨false,dg (An l i)⟩
structure Out (g:Nat) (l:List (List Int)) (j m:Nat) (o:List S113):Prop where
 len:o.length=l.length
 below:∀j',j'<j→Num (rd_T113 o (j':Int)) (tS g l j')
 here:j<l.length→Num (rd_T113 o (j:Int)) (sm m (tT g l j))
 above:∀j',j<j'→j'<l.length→Num (rd_T113 o (j':Int)) 0
theorem sums_loop {g:Nat} {l:List (List Int)} {w:List S113} {t:List (List S113)} (hl:Wl l) (hg:g<256) (hw:Whl l w) (ht:Tab g (l.length-1) l.length t):∀(d j:Nat),j+d=l.length→∀(o:List S113),Out g l j 0 o→
 Rz (fun o=>o.length=l.length∧∀j,j<l.length→Num (rd_T113 o (j:Int)) (tS g l j)) (fun k=>mw_sums.l0 k w t o (l.length:Int) (j:Int)):=by
 intro d
 have few:=hl.few
 have hwl:=hw.1
 induction d with
 |zero=>
  intro j hj o ho
  have hj:j=l.length:=by omega
  subst hj
  refine Rz.succ ?_
  simp only[mw_sums.l0,if_neg (show ¬(l.length:Int)<(l.length:Int) from Int.lt_irrefl _)]
  exact Rz.some ⟨ho.len,ho.below⟩
 |succ d ih=>
  intro j hj o ho
  have hjl:j<l.length:=by omega
  refine Rz.succ ?_
  simp only[mw_sums.l0,if_pos (show(j:Int)<(l.length:Int) by omega)]
  rw[hwl]
  have inner:∀(d2 i:Nat),i+d2=l.length→∀(o:List S113),Out g l j i o→Rz (fun o=>o.length=l.length∧∀j,j<l.length→Num (rd_T113 o (j:Int)) (tS g l j)) (fun k=>mw_sums.l1 k w t o (j:Int) (l.length:Int) (j:Int) w (l.length:Int) (i:Int)):=by
   intro d2
   induction d2 with
   |zero=>
    intro i hi o ho
    have hi:i=l.length:=by omega
    subst hi
    refine Rz.succ ?_
    simp only[mw_sums.l1,if_neg (show ¬(l.length:Int)<(l.length:Int) from Int.lt_irrefl _),wn (show(j:Int)+1=((j+1:Nat):Int) by omega) (by omega)]
    refine ih (j+1) (by omega) o ⟨ho.len,fun j' hj'=>?_,fun hlt=>?_,fun j' h1 h2=>ho.above j' (by omega) h2⟩
    ·by_cases e:j'=j
     ·subst e;exact ho.here hjl
     ·exact ho.below j' (by omega)
    ·exact ho.above (j+1) (by omega) hlt
   |succ d2 ih2=>
    intro i hi o ho
    have hil:i<l.length:=by omega
    have ew:=hw.2 i hil
    have hol:=ho.len
    have hrow:=ht.at' i hil
    have hrl:=hrow.len
    have htl:=ht.len
    have ea:=An_len hl hil
    refine Rz.succ ?_
    simp only[mw_sums.l1,if_pos (show(i:Int)<(l.length:Int) by omega),if_pos (show(0:Int)≤(i:Int) from Int.natCast_nonneg _),if_pos (show(i:Int)<(w.length:Int) by omega),ew,wn (show(i:Int)+1=((i+1:Nat):Int) by omega) (by omega)]
    by_cases h0:An l i=0
    ·have hz:¬((dg (An l i)).length:Int)>0:=by rw[h0,dg_zero];simp
     simp only[if_neg hz]
     refine ih2 (i+1) (by omega) o ⟨ho.len,ho.below,fun h=>?_,ho.above⟩
     have:=ho.here h
     have e:sm (i+1) (tT g l j)=sm i (tT g l j):=by
      rw[sm]
      have:tT g l j i=0:=by unfold tT;rw[h0];simp
      omega
     rw[e];exact this
    ·have hnz:((dg (An l i)).length:Int)>0:=by
      have:(dg (An l i)).length≠0:=by rw[Ne,dg_len_zero];exact h0
      omega
     obtain⟨b2,n2,e2,s2⟩:=hrow.at' j (by omega)
     obtain⟨b1,n1,e1,s1⟩:=ho.here hjl
     have l2:(dg n2).length≤324:=by rw[sg_len s2];exact kr_len (by omega) (by omega) (by omega) (by omega)
     have l1:(dg n1).length≤345:=by rw[sg_len s1];exact tS_len hl (by omega) (by omega) hjl
     obtain⟨b3,n3,v3,s3⟩:=ntimes_ev (b1:=false) (b2:=b2) (n1:=An l i) (n2:=n2) (by omega) (by omega)
     have l3:(dg n3).length≤344:=by
      have t:n3=An l i*n2:=by rw[sg_len s3,Int.natAbs_mul,sg_abs,sg_abs]
      have:=mul_len (An l i) n2
      rw[t];omega
     obtain⟨b4,n4,v4,s4⟩:=nplus_ev (b1:=b1) (b2:=b3) (n1:=n1) (n2:=n3) (by omega) (by omega)
     simp only[if_pos hnz,if_pos (show(0:Int)≤(j:Int) from Int.natCast_nonneg _),if_pos (show(j:Int)<(o.length:Int) by omega),if_pos (show(i:Int)<(t.length:Int) by omega),if_pos (show(j:Int)<((rd_L6 t (i:Int)).length:Int) by omega),e1,e2,Int.toNat_natCast]
     refine Rz.bind v3 ?_
     refine Rz.bind v4 ?_
     refine ih2 (i+1) (by omega) _ ⟨by rw[List.length_set];exact hol,fun j' hj'=>?_,fun _=>?_,fun j' h1 h2=>?_⟩
     ·rw[rdT_set_ne (by omega)];exact ho.below j' hj'
     ·rw[rdT_set_eq (by omega)]
      refine⟨b4,n4,rfl,?_⟩
      rw[s4,s3,s1,s2,sm]
      rfl
     ·rw[rdT_set_ne (by omega)];exact ho.above j' h1 h2
  exact inner l.length 0 (by omega) o ho
theorem sums_ev {q:Nat} {l:List (List Int)} {w:List S113} (hl:Wl l) (h1:1≤l.length) (hq:2≤q) (hq2:q≤256) (hw:Whl l w):
 Rz (fun o=>o.length=l.length∧∀j,j<l.length→Num (rd_T113 o (j:Int)) (tS (q-1) l j)) (fun k=>mw_sums.f k (q:Int) w):=by
 have few:=hl.few
 obtain⟨t,ht,hT⟩:=table_ev (q:=q) (n:=l.length-1) hq hq2 (by omega)
 rw[show l.length-1+1=l.length by omega] at hT
 simp only[mw_sums.f,hw.1,wn (show(l.length:Int)-1=((l.length-1:Nat):Int) by omega) (by omega)]
 refine Rz.bind ht ?_
 simp only[if_pos (show(0:Int)≤(l.length:Int) from Int.natCast_nonneg _),Int.toNat_natCast,if_pos (show l.length≤8796093022208 by omega),Option.bind_some,List.length_replicate]
 have hz:∀j:Nat,Num (rd_T113 (List.replicate l.length z113) (j:Int)) 0:=by
  intro j
  have:rd_T113 (List.replicate l.length z113) (j:Int)=z113:=by
   unfold rd_T113
   simp only[Int.toNat_natCast,List.getD_eq_getElem?_getD]
   by_cases h:j<l.length
   ·simp [h]
   ·rw[List.getElem?_eq_none (by simp;omega)];rfl
  rw[this];exact num_zero
 exact sums_loop hl (by omega) hw hT l.length 0 (by omega) _ ⟨List.length_replicate,fun j' h=>by omega,fun _=>hz 0,fun j' _ _=>hz j'⟩
def Good (T:Nat) (z:Int):Prop:=0≤z∧z % (T:Int)=0
open Classical in
noncomputable def dres (g:Nat) (l:List (List Int)) (T:Nat):List (List Int)×Int:=
 if ∀j,j<l.length→Good T (tS g l j) then((List.range l.length).map (fun j=>dg ((tS g l j).toNat / T)),0) else([],5)
theorem dres_good {g T:Nat} {l:List (List Int)} (h:∀j,j<l.length→Good T (tS g l j)):dres g l T=((List.range l.length).map (fun j=>dg ((tS g l j).toNat / T)),0):=by unfold dres;rw[if_pos h]
theorem dres_bad {g T:Nat} {l:List (List Int)} {j:Nat} (hj:j<l.length) (h:¬Good T (tS g l j)):dres g l T=([],5):=by unfold dres;rw[if_neg (fun f=>h (f j hj))]
theorem map_range_succ {α:Type} (f:Nat→α) (n:Nat):(List.range (n+1)).map f=(List.range n).map f++[f n]:=by rw[List.range_succ,List.map_append];rfl
theorem dual_loop {g T:Nat} {l:List (List Int)} {o:List S113} (hl:Wl l) (hg:g<256) (hT:T≠0) (hTl:(dg T).length≤22) (hol:o.length=l.length) (ho:∀j,j<l.length→Num (rd_T113 o (j:Int)) (tS g l j)):∀(d j:Nat),j+d=l.length→(∀i,i<j→Good T (tS g l i))→
 Ev (fun k=>mw_Dual.l1 k (dg T) ((List.range j).map (fun j=>dg ((tS g l j).toNat / T))) o (l.length:Int) (j:Int)) (dres g l T):=by
 intro d
 have few:=hl.few
 induction d with
 |zero=>
  intro j hj hgd
  have hj:j=l.length:=by omega
  subst hj
  refine Ev.succ ?_
  simp only[mw_Dual.l1,if_neg (show ¬(l.length:Int)<(l.length:Int) from Int.lt_irrefl _)]
  rw[dres_good hgd]
  exact Ev.some _
 |succ d ih=>
  intro j hj hgd
  have hjl:j<l.length:=by omega
  obtain⟨b,n,e,s⟩:=ho j hjl
  have hn:n=(tS g l j).natAbs:=sg_len s
  have hnl:(dg n).length≤345:=by rw[hn];exact tS_len hl (by omega) (Nat.le_refl _) hjl
  have hrl:((List.range j).map (fun j=>dg ((tS g l j).toNat / T))).length=j:=by simp
  refine Ev.succ ?_
  simp only[mw_Dual.l1,if_pos (show(j:Int)<(l.length:Int) by omega),if_pos (show(0:Int)≤(j:Int) from Int.natCast_nonneg _),if_pos (show(j:Int)<(o.length:Int) by omega),e,wn (show(j:Int)+1=((j+1:Nat):Int) by omega) (by omega),hrl,if_pos (show j<5864062014805 by omega)]
  refine Ev.bind (ndivmod_ev hT (by omega) (by omega)) ?_
  by_cases hm:n % T=0
  ·simp only[hm,dg_zero,List.length_nil,if_neg (show ¬((0:Nat):Int)>0 by omega)]
   have go:Good T (tS g l j)→Ev (fun k=>mw_Dual.l1 k (dg T) ((List.range j).map (fun j=>dg ((tS g l j).toNat / T))++[dg (n / T)]) o (l.length:Int) ((j+1:Nat):Int)) (dres g l T):=by
    intro hgj
    have:=ih (j+1) (by omega) (fun i hi=>by
     by_cases e:i=j
     ·subst e;exact hgj
     ·exact hgd i (by omega))
    rw[map_range_succ] at this
    rw[show n=(tS g l j).toNat by have:=hgj.1;omega]
    exact this
   have hdv:0≤tS g l j→Good T (tS g l j):=by
    intro h0
    refine⟨h0,?_⟩
    have:tS g l j=(n:Int):=by omega
    rw[this,←Int.natCast_emod,hm];rfl
   by_cases hb:b=true
   ·simp only[hb,if_true]
    by_cases h0:n=0
    ·have hz:¬((dg n).length:Int)>0:=by rw[h0,dg_zero];simp
     simp only[if_neg hz]
     exact go (hdv (by omega))
    ·have hz:((dg n).length:Int)>0:=by
      have:(dg n).length≠0:=by rw[Ne,dg_len_zero];exact h0
      omega
     simp only[if_pos hz]
     rw[dres_bad hjl (fun hgj=>by
      have h1:=hgj.1
      rw[hb] at s
      unfold sg at s
      simp at s
      omega)]
     exact Ev.some _
   ·simp only[if_neg hb]
    exact go (hdv (by
     have hb:b=false:=by simpa using hb
     rw[hb] at s
     unfold sg at s
     simp at s
     omega))
  ·have hz:((dg (n % T)).length:Int)>0:=by
    have:(dg (n % T)).length≠0:=by rw[Ne,dg_len_zero];exact hm
    omega
   simp only[if_pos hz]
   rw[dres_bad hjl (fun hgj=>by
    have h1:=hgj.1
    have h2:=hgj.2
    have:tS g l j=(n:Int):=by omega
    rw[this,←Int.natCast_emod] at h2
    omega)]
   exact Ev.some _
theorem whole_loop {q T:Nat} {l:List (List Int)} (hl:Wl l) (h1:1≤l.length) (hq:2≤q) (hq2:q≤256) (hT:T≠0) (hTl:(dg T).length≤22):∀(d i:Nat) (w:List S113),i+d=l.length→w.length=i→(∀j,j<i→rd_T113 w (j:Int)=⟨false,dg (An l j)⟩)→
 Ev (fun k=>mw_Dual.l0 k (q:Int) (dg T) w l (l.length:Int) (i:Int)) (dres (q-1) l T):=by
 intro d
 have few:=hl.few
 induction d with
 |zero=>
  intro i w hi hwl hw
  have hi:i=l.length:=by omega
  subst hi
  obtain⟨o,hev,hol,ho⟩:=sums_ev (q:=q) hl h1 hq hq2 ⟨hwl,hw⟩
  refine Ev.succ ?_
  simp only[mw_Dual.l0,if_neg (show ¬(l.length:Int)<(l.length:Int) from Int.lt_irrefl _)]
  refine Ev.bind hev ?_
  rw[hol]
  exact dual_loop hl (by omega) hT hTl hol ho l.length 0 (by omega) (fun i hi=>by omega)
 |succ d ih=>
  intro i w hi hwl hw
  have hil:i<l.length:=by omega
  have hx:=hl.at hil
  refine Ev.succ ?_
  simp only[mw_Dual.l0,if_pos (show(i:Int)<(l.length:Int) by omega),if_pos (show(0:Int)≤(i:Int) from Int.natCast_nonneg _),wn (show(i:Int)+1=((i+1:Nat):Int) by omega) (by omega),if_pos (show w.length<4398046511104 by omega)]
  refine Ev.bind (trim_ev hx.1 (by omega)) ?_
  refine ih (i+1) _ (by omega) (by rw[List.length_append,hwl];rfl) (fun j hj=>?_)
  by_cases e:j=i
  ·subst e;rw[rdT_app_eq hwl.symm];rfl
  ·rw[rdT_app_lt (by omega)];exact hw j (by omega)
theorem wl_lms {l:List (List Int)} (h:Wl l):Lms l:=fun x hx=>⟨h.lm x hx,by have:=h.short x hx;omega⟩
theorem lsum_len {l:List (List Int)} (h:Wl l):∀i:Nat,i≤l.length→0≤lsum (l.take i)∧lsum (l.take i)≤(i*bp 20:Nat):=by
 intro i
 induction i with
 |zero=>intro _;rw[List.take_zero];simp [lsum]
 |succ i ih=>
  intro hi
  have h1:=ih (by omega)
  have hx:=h.at (i:=i) (by omega)
  rw[rd3_lt (by omega)] at hx
  have h2:=lv_nonneg hx.1
  have h3:=lv_le_of_len hx.1 hx.2
  rw[lsum_take (by omega),Nat.succ_mul]
  omega
theorem tot_len {l:List (List Int)} (h:Wl l) {i:Nat} (hi:i≤l.length):(dg (lsum (l.take i)).toNat).length≤21:=by
 have h1:=lsum_len h i hi
 have f:=h.few
 refine dg_len_le ?_
 rw[show 21=20+1 from rfl,bp_succ]
 have h2:i*bp 20≤65*bp 20:=Nat.mul_le_mul_right _ (by omega)
 have:=bp_pos 20
 generalize bp 20=p at*
 omega
theorem ndual_ev {q:Nat} {l:List (List Int)} (hl:Wl l) (h1:1≤l.length) (hq:2≤q) (hq2:q≤256):
 Ev (fun k=>mw_Dual.f k (q:Int) l) (if(lsum l).toNat=0 then([],7) else dres (q-1) l (lsum l).toNat):=by
 have few:=hl.few
 have hsh:mw_wrong.f (q:Int) (l.length:Int)=some 0:=by
  simp only[mw_wrong.f,mw_shape.f,if_neg (show ¬(q:Int)<2 by omega),if_neg (show ¬(q:Int)>256 by omega),if_neg (show ¬(l.length:Int)<1 by omega),if_neg (show ¬(l.length:Int)>65 by omega),Option.bind_some]
 simp only[mw_Dual.f,hsh,Option.bind_some,if_true]
 refine Ev.bind (add_ev (wl_lms hl) (by omega)) ?_
 have ht:=tot_len hl (Nat.le_refl l.length)
 rw[List.take_of_length_le (Nat.le_refl _)] at ht
 by_cases h0:(lsum l).toNat=0
 ·have hz:((dg (lsum l).toNat).length:Int)=0:=by rw[h0,dg_zero];rfl
  simp only[if_pos hz,if_pos h0]
  exact Ev.some _
 ·have hz:¬((dg (lsum l).toNat).length:Int)=0:=by
   have:(dg (lsum l).toNat).length≠0:=by rw[Ne,dg_len_zero];exact h0
   omega
  simp only[if_neg hz,if_neg h0]
  exact whole_loop hl h1 hq hq2 h0 (by omega) l.length 0 [] (by omega) rfl (fun j hj=>by omega)
def Cn (D:List (List Int)):Prop:=∀i,i<D.length→rd_L3 D (i:Int)=dg (An D i)∧(dg (An D i)).length≤400
def cnz (D:List (List Int)):Nat→Nat
 |0=>0
 |i+1=>cnz D i+(if An D (i+1)=0 then 0 else 1)
theorem cnz_le (D:List (List Int)):∀m,cnz D m≤m:=by
 intro m
 induction m with
 |zero=>exact Nat.le_refl _
 |succ m ih=>rw[cnz];split<;>omega
theorem nsome_ev {D:List (List Int)} (hD:Cn D) (hlen:D.length≤100) {m:Nat} (hm:m<D.length):Ev (fun k=>mw_some.f k D (m:Int)) ((cnz D m:Nat):Int):=by
 have loop:∀(d i:Nat),i+d=m→Ev (fun k=>mw_some.l0 k D (m:Int) ((cnz D i:Nat):Int) ((i+1:Nat):Int)) ((cnz D m:Nat):Int):=by
  intro d
  induction d with
  |zero=>
   intro i hi
   have hi:i=m:=by omega
   subst hi
   refine Ev.succ ?_
   simp only[mw_some.l0,if_neg (show ¬((i+1:Nat):Int)≤(i:Int) by omega)]
   exact Ev.some _
  |succ d ih=>
   intro i hi
   have hc:=hD (i+1) (by omega)
   have hcl:=cnz_le D i
   have nx:=ih (i+1) (by omega)
   refine Ev.succ ?_
   simp only[mw_some.l0,if_pos (show((i+1:Nat):Int)≤(m:Int) by omega),if_pos (show(0:Int)≤((i+1:Nat):Int) from Int.natCast_nonneg _),if_pos (show((i+1:Nat):Int)<(D.length:Int) by omega),wn (show((i+1:Nat):Int)+1=((i+1+1:Nat):Int) by omega) (by omega),hc.1]
   refine Ev.bind (bits_ev (by omega)) ?_
   by_cases h0:An D (i+1)=0
   ·have hb:¬((bl (An D (i+1)):Nat):Int)>0:=by rw[bl_zero.mpr h0];omega
    simp only[if_neg hb]
    rw[cnz,if_pos h0,Nat.add_zero] at nx
    exact nx
   ·have hb:((bl (An D (i+1)):Nat):Int)>0:=by
     have:bl (An D (i+1))≠0:=fun e=>h0 (bl_zero.mp e)
     omega
    simp only[if_pos hb,wn (show((cnz D i:Nat):Int)+1=((cnz D i+1:Nat):Int) by omega) (by omega)]
    rw[cnz,if_neg h0] at nx
    exact nx
 simp only[mw_some.f]
 exact loop m 0 (by omega)
theorem rnonzero_ev {D:List (List Int)} (hD:Cn D) (hlen:D.length≤100) {m:Nat} (hm:m<D.length):Ev (fun k=>r24_nonzero.f k D (m:Int)) ((cnz D m:Nat):Int):=by
 have loop:∀(d i:Nat),i+d=m→Ev (fun k=>r24_nonzero.l0 k D (m:Int) ((cnz D i:Nat):Int) ((i+1:Nat):Int)) ((cnz D m:Nat):Int):=by
  intro d
  induction d with
  |zero=>
   intro i hi
   have hi:i=m:=by omega
   subst hi
   refine Ev.succ ?_
   simp only[r24_nonzero.l0,if_neg (show ¬((i+1:Nat):Int)≤(i:Int) by omega)]
   exact Ev.some _
  |succ d ih=>
   intro i hi
   have hc:=hD (i+1) (by omega)
   have hcl:=cnz_le D i
   have nx:=ih (i+1) (by omega)
   refine Ev.succ ?_
   simp only[r24_nonzero.l0,if_pos (show((i+1:Nat):Int)≤(m:Int) by omega),if_pos (show(0:Int)≤((i+1:Nat):Int) from Int.natCast_nonneg _),if_pos (show((i+1:Nat):Int)<(D.length:Int) by omega),wn (show((i+1:Nat):Int)+1=((i+1+1:Nat):Int) by omega) (by omega),hc.1]
   refine Ev.bind (rzero_ev (by omega)) ?_
   by_cases h0:An D (i+1)=0
   ·simp only[decide_eq_true h0,if_true]
    rw[cnz,if_pos h0,Nat.add_zero] at nx
    exact nx
   ·simp only[decide_eq_false h0,Bool.false_eq_true,if_false,wn (show((cnz D i:Nat):Int)+1=((cnz D i+1:Nat):Int) by omega) (by omega)]
    rw[cnz,if_neg h0] at nx
    exact nx
 simp only[r24_nonzero.f]
 exact loop m 0 (by omega)
end Mw
end
section
set_option linter.unusedVariables false
set_option linter.unusedSimpArgs false
namespace Mw
section
variable {q:Nat} {add mul:Int→Int→Int}
theorem wt_scl (F:Fld q add mul) {b:Int} (hb:El q b):∀{n:Nat} {w:List Int},Wd q n w→wt (wscl mul b w)≤wt w
 |0,w,h=>by rw[wd_zero h];exact Nat.le_refl _
 |n+1,[],h=>by simp [Wd] at h
 |n+1,a::w,h=>by
  have ih:=wt_scl F hb (wd_head h).2
  unfold wscl at ih
  simp only[wscl,List.map_cons,wt]
  by_cases e:a=0
  ·rw[e,F.mul_zero b hb,if_pos rfl];omega
  ·rw[if_neg e];split<;>omega
theorem ind_not (p r:Prop) (h:p→r):ind r=ind p+ind (r∧¬p):=by
 by_cases hp:p
 ·rw[ind_true hp,ind_true (h hp),ind_false (fun e=>e.2 hp)];rfl
 ·rw[ind_false hp]
  by_cases hr:r
  ·rw[ind_true hr,ind_true ⟨hr,hp⟩];rfl
  ·rw[ind_false hr,ind_false (fun e=>hr e.1)];rfl
def One (q:Nat) (add mul:Int→Int→Int) (n:Nat) (C:List Int→Prop) (y:List Int) (w:List Int):Prop:=
 ∃a u,El q a∧Wd q n u∧C u∧w=wadd add u (wscl mul a y)
theorem one_lin (F:Fld q add mul) {n:Nat} {C:List Int→Prop} (hC:Lin q add mul n C) {y:List Int} (hy:Wd q n y):Lin q add mul n (One q add mul n C y):=by
 refine⟨⟨0,_,F.el0,wd_rep F.el0,hC.zero,?_⟩,?_,?_⟩
 ·rw[wscl_zero F hy,wadd_rep F (wd_rep F.el0)]
 ·rintro _ _ _ _ ⟨a,u,ha,hu,hcu,rfl⟩ ⟨b,v,hb,hv,hcv,rfl⟩
  have hay:=wd_wscl F ha hy
  have hby:=wd_wscl F hb hy
  refine⟨add a b,wadd add u v,F.add_el a b ha hb,wd_wadd F hu hv,hC.add u v hu hv hcu hcv,?_⟩
  rw[wscl_add F ha hb hy,wadd_assoc F hu hay (wd_wadd F hv hby),←wadd_assoc F hay hv hby,wadd_comm F hay hv,wadd_assoc F hv hay hby,←wadd_assoc F hu hv (wd_wadd F hay hby)]
 ·rintro b _ hb _ ⟨a,u,ha,hu,hcu,rfl⟩
  refine⟨mul b a,wscl mul b u,F.mul_el b a hb ha,wd_wscl F hb hu,hC.scl b u hb hu hcu,?_⟩
  rw[wscl_wadd F hb hu (wd_wscl F ha hy),wscl_wscl F hb ha hy]
theorem one_sub (F:Fld q add mul) {n:Nat} {C:List Int→Prop} {y:List Int} (hy:Wd q n y) {w:List Int} (hw:Wd q n w) (h:C w):One q add mul n C y w:=
 ⟨0,w,F.el0,hw,h,by rw[wscl_zero F hy,wadd_rep F hw]⟩
theorem one_self (F:Fld q add mul) {n:Nat} {C:List Int→Prop} (hC:Lin q add mul n C) {y:List Int} (hy:Wd q n y):One q add mul n C y y:=
 ⟨1,_,F.el1,wd_rep F.el0,hC.zero,by rw[wscl_one F hy,wadd_comm F (wd_rep F.el0) hy,wadd_rep F hy]⟩
noncomputable def bd (q:Nat) (add mul:Int→Int→Int) (n:Nat) (C:List Int→Prop) (j:Nat):Int:=wd q n (Dl q add mul n C) (none' n) j
theorem wd_nonneg (n:Nat) (C:List Int→Prop) (T:List Bool) (j:Nat):0≤wd q n C T j:=
 ws_nonneg fun w _=>Int.mul_nonneg (ind_nonneg _) (Int.mul_nonneg (ind_nonneg _) (ind_nonneg _))
theorem ind_mono {p r:Prop} (h:p→r):ind p≤ind r:=by
 by_cases hp:p
 ·rw[ind_true hp,ind_true (h hp)];exact Int.le_refl _
 ·rw[ind_false hp];exact ind_nonneg _
theorem wd_mono {n:Nat} {C D:List Int→Prop} {T U:List Bool} (h:∀w,Wd q n w→C w→D w) (hT:∀w,Wd q n w→Van T w→Van U w) (j:Nat):wd q n C T j≤wd q n D U j:=by
 refine ws_le fun w hw=>?_
 rw[←ind_and,←ind_and,←ind_and,←ind_and]
 exact ind_mono fun⟨h1,h2,h3⟩=>⟨h w hw h1,hT w hw h2,h3⟩
theorem wd_zero_one (F:Fld q add mul) {n:Nat} {C:List Int→Prop} (h0:C (List.replicate n 0)) {T:List Bool} (hT:Van T (List.replicate n 0)):wd q n C T 0=1:=by
 unfold wd
 rw[ws_single (v:=List.replicate n 0) (wd_rep F.el0) (fun w hw hne=>?_)]
 ·rw[ind_true h0,ind_true hT,ind_true (wt_rep n)];rfl
 ·rw[ind_false (fun e:wt w=0=>hne (by have:=wt_zero e;rw[hw.1] at this;exact this))];simp
theorem dl_zero (F:Fld q add mul) (n:Nat) (C:List Int→Prop):Dl q add mul n C (List.replicate n 0):=by
 intro c hc _
 rw[dot_comm F hc (wd_rep F.el0),dot_rep F hc]
theorem delsarte (F:Fld q add mul) {n:Nat} {C:List Int→Prop} (hC:Lin q add mul n C) {y:List Int} (hy:Wd q n y) {s:Nat} (hs:suppN (bd q add mul n C) (n+1)≤s+1):
 ∃c,Wd q n c∧C c∧wt (wadd add c y)≤s:=by
 by_cases hex:∃c,Wd q n c∧C c∧wt (wadd add c y)≤s
 ·exact hex
 exfalso
 have far:∀c,Wd q n c→C c→s<wt (wadd add c y):=fun c hc hcc=>by
  by_cases h:wt (wadd add c y)≤s
  ·exact absurd ⟨c,hc,hcc,h⟩ hex
  ·omega
 let D:=One q add mul n C y
 have hD:Lin q add mul n D:=one_lin F hC hy
 have sub:∀w,Wd q n w→C w→D w:=fun w hw h=>one_sub F hy hw h
 have heavy:∀w,Wd q n w→D w∧¬C w→s<wt w:=by
  rintro w hw ⟨⟨a,u,ha,hu,hcu,e⟩,hn⟩
  by_cases ha0:a=0
  ·subst ha0
   rw[wscl_zero F hy,wadd_rep F hu] at e
   exact absurd (e ▸ hcu) hn
  ·obtain⟨b,hb,hab⟩:=F.inv a ha ha0
   have h1:=far (wscl mul b u) (wd_wscl F hb hu) (hC.scl b u hb hu hcu)
   have h2:=wt_scl F hb hw
   rw[e,wscl_wadd F hb hu (wd_wscl F ha hy),wscl_wscl F hb ha hy,F.mul_comm b a hb ha,hab,wscl_one F hy,←e] at h2
   omega
 have split:∀i,wd q n D (none' n) i=wd q n C (none' n) i+wd q n (fun w=>D w∧¬C w) (none' n) i:=by
  intro i
  unfold wd
  rw[←ws_add]
  refine ws_congr fun w hw=>?_
  rw[ind_not (C w) (D w) (sub w hw),Int.add_mul]
 have low:∀i,i≤s→wd q n (fun w=>D w∧¬C w) (none' n) i=0:=by
  intro i hi
  refine ws_zero fun w hw=>?_
  by_cases h:D w∧¬C w
  ·have:=heavy w hw h
   rw[ind_false (show ¬wt w=i by omega)];simp
  ·rw[ind_false h];simp
 let G:Nat→Int:=fun j=>ws q n (fun c=>ind (D c))*bd q add mul n D j-ws q n (fun c=>ind (C c))*bd q add mul n C j
 have dsub:∀w,Wd q n w→Dl q add mul n D w→Dl q add mul n C w:=fun w _ h c hc hcc=>h c hc (sub c hc hcc)
 have gz:∀j,j<n+1→bd q add mul n C j=0→G j=0:=by
  intro j _ h
  have h1:bd q add mul n D j≤bd q add mul n C j:=wd_mono dsub (fun _ _ h=>h) j
  have h2:0≤bd q add mul n D j:=wd_nonneg n _ _ j
  have h3:bd q add mul n D j=0:=by omega
  show _-_=_
  rw[h,h3];simp
 have hG:=suppN_le (bd q add mul n C) G (n+1) gz
 have ht:=suppN_top G (n+1)
 have all:=unique n (suppN G (n+1)) G (Nat.le_refl _) (fun v hv=>?_) 0 (by omega)
 ·have b1:bd q add mul n C 0=1:=wd_zero_one F (dl_zero F n C) (none_van n _)
  have b2:bd q add mul n D 0=1:=wd_zero_one F (dl_zero F n D) (none_van n _)
  have e:ws q n (fun c=>ind (D c))*bd q add mul n D 0-ws q n (fun c=>ind (C c))*bd q add mul n C 0=0:=all
  rw[b1,b2,Int.mul_one,Int.mul_one] at e
  have e2:ws q n (fun c=>ind (D c))=ws q n (fun c=>ind (C c))+ws q n (fun c=>ind (D c∧¬C c)):=by
   rw[←ws_add]
   exact ws_congr fun w hw=>ind_not (C w) (D w) (sub w hw)
  have hyn:¬C y:=fun h=>by
   obtain⟨m,hm,_,hneg⟩:=wneg F
   have:=far (wscl mul m y) (wd_wscl F hm hy) (hC.scl m y hm hy h)
   rw[wadd_comm F (wd_wscl F hm hy) hy,hneg hy,wt_rep] at this
   omega
  have e3:ws q n (fun c=>ind (c=y))≤ws q n (fun c=>ind (D c∧¬C c)):=ws_le fun w hw=>ind_mono fun h=>by subst h;exact⟨one_self F hC hw,hyn⟩
  rw[ws_single (v:=y) hy (fun w _ hne=>ind_false hne),ind_true rfl] at e3
  omega
 ·have hv1:v≤n:=by omega
  have p1:=pless F n C hC (n-v) (by omega)
  have p2:=pless F n D hD (n-v) (by omega)
  rw[show n-(n-v)=v by omega] at p1 p2
  have z:sm (n+1) (fun i=>wd q n D (none' n) i*(bin (n-i) (n-v):Int))=sm (n+1) (fun i=>wd q n C (none' n) i*(bin (n-i) (n-v):Int)):=by
   refine sm_congr fun i hi=>?_
   by_cases g:i≤v
   ·rw[split i,low i (by omega),Int.add_zero]
   ·rw[bin_above (by omega)];simp
  rw[z,p1,←sm_mul,←sm_mul] at p2
  have:sm (n+1) (fun j=>G j*(bin (n-j) v:Int))=sm (n+1) (fun j=>ws q n (fun c=>ind (D c))*(wd q n (Dl q add mul n D) (none' n) j*(bin (n-j) v:Int)))-sm (n+1) (fun j=>ws q n (fun c=>ind (C c))*(wd q n (Dl q add mul n C) (none' n) j*(bin (n-j) v:Int))):=by
   rw[←sm_sub]
   refine sm_congr fun j _=>?_
   show(_-_)*_=_
   unfold bd
   rw[Int.sub_mul,Int.mul_assoc,Int.mul_assoc]
  rw[this,p2]
  omega
end
end Mw
end
section
set_option linter.unusedVariables false
set_option linter.unusedSimpArgs false
namespace Mw
open Go Go.RowKit Go.Proofs.YtifkbghnmhineaaW.PrintWords Go.Proofs.YtifkbghnmhineaaW.PrintLast Go.Proofs.YtifkbghnmhineaaW.PrintMore Go.Proofs.Ytifkbghnmhineaa.PAll
theorem an_wl {n j:Nat} {l:List (List Int)} (h:j<n+1):An (WL n l) j=wcnt l j:=by
 unfold An
 rw[wl_rd h,lv_dg,Int.toNat_natCast]
theorem wl_sum {n:Nat} {l:List (List Int)}:∀i,i≤n+1→lsum ((WL n l).take i)=sm i (fun j=>(wcnt l j:Int)):=by
 intro i
 induction i with
 |zero=>intro _;rfl
 |succ i ih=>
  intro hi
  have hl:i<(WL n l).length:=by rw[wl_len];omega
  rw[lsum_take hl,ih (by omega),sm]
  congr 1
  rw[←rd3_lt hl,wl_rd (by omega),lv_dg]
theorem wcnt_sum {q n:Nat}:∀{l:List (List Int)},(∀w,w∈l→Wd q n w)→sm (n+1) (fun j=>(wcnt l j:Int))=(l.length:Int)
 | [],_=>sm_zero fun _ _=>rfl
 |w::l,h=>by
  have hw:=h w (List.mem_cons_self ..)
  have hl:=wt_le w
  rw[hw.1] at hl
  have e:∀j,j<n+1→((wcnt (w::l) j:Nat):Int)=(wcnt l j:Int)+ind (wt w=j):=by
   intro j _
   rw[wcnt]
   by_cases g:wt w=j
   ·rw[if_pos g,ind_true g];omega
   ·rw[if_neg g,ind_false g];omega
  rw[sm_congr e,sm_add,wcnt_sum (fun w hw=>h w (List.mem_cons_of_mem _ hw)),sm_single (a:=wt w) (f:=fun j=>ind (wt w=j)) (by omega) (fun i _ hne=>ind_false (fun e=>hne e.symm)),ind_true rfl,List.length_cons]
  omega
theorem wl_tot {q n:Nat} {l:List (List Int)} (h:∀w,w∈l→Wd q n w):(lsum (WL n l)).toNat=l.length:=by
 have:=wl_sum (n:=n) (l:=l) (n+1) (Nat.le_refl _)
 rw[List.take_of_length_le (by rw[wl_len];omega),wcnt_sum h] at this
 omega
section
variable {P M:Int} {md:List Int} {n:Nat} {code dual:List (List Int)} {p m:Nat} {add mul:Int→Int→Int}
theorem Cds.qs (S:Cds P M md n code dual p m add mul):2≤p^m∧p^m≤256:=⟨S.E.fld.two,S.E.fd.small⟩
theorem Cds.pos (S:Cds P M md n code dual p m add mul):1≤code.length:=by
 have:=S.lin.zero
 cases h:code with
 |nil=>rw[h] at this;simp at this
 |cons a l=>simp
theorem Cds.dl (S:Cds P M md n code dual p m add mul):∀w,w∈dual→Wd (p^m) n w:=fun w h=>((S.dwd w).mp h).1
theorem Cds.mac (S:Cds P M md n code dual p m add mul) {j:Nat} (hj:j≤n):tS (p^m-1) (WL n code) j=(code.length:Int)*(wcnt dual j:Int):=by
 have h:=macwilliams S.E.fld n (· ∈code) S.lin j hj
 have h2:=S.qs
 rw[ws_len S.cnd S.cwd,wd_cnt2 S.dnd S.dwd] at h
 rw[h]
 unfold tS tT
 rw[wl_len]
 refine sm_congr fun i hi=>?_
 rw[an_wl hi,wd_cnt S.cnd S.cwd,show n+1-1-i=n-i by omega,show((p^m-1:Nat):Int)=((p^m:Nat):Int)-1 by omega]
theorem Cds.dres (S:Cds P M md n code dual p m add mul):(if(lsum (WL n code)).toNat=0 then(([],7):List (List Int)×Int) else Mw.dres (p^m-1) (WL n code) (lsum (WL n code)).toNat)=(WL n dual,0):=by
 have h1:=S.pos
 have hp:0<code.length:=by omega
 rw[wl_tot S.cwd,if_neg (by omega),dres_good (fun j hj=>?_),wl_len]
 ·refine Prod.ext ?_ rfl
  show(List.range (n+1)).map (fun j=>dg ((tS (p^m-1) (WL n code) j).toNat / code.length))=(List.range (n+1)).map (fun j=>dg (wcnt dual j))
  refine List.map_congr_left fun j hj=>?_
  have hj:=List.mem_range.mp hj
  rw[S.mac (j:=j) (by omega),←Int.natCast_mul,Int.toNat_natCast,Nat.mul_div_cancel_left _ hp]
 ·rw[wl_len] at hj
  rw[S.mac (by omega)]
  exact⟨Int.mul_nonneg (Int.natCast_nonneg _) (Int.natCast_nonneg _),Int.mul_emod_right _ _⟩
theorem Cds.wl (S:Cds P M md n code dual p m add mul):Wl (WL n code):=wl_wl S.few S.cfew
theorem Cds.nd (S:Cds P M md n code dual p m add mul):Ev (fun k=>mw_Dual.f k ((p^m:Nat):Int) (WL n code)) (WL n dual,0):=by
 have:=ndual_ev (q:=p^m) S.wl (by rw[wl_len];omega) S.qs.1 S.qs.2
 rw[S.dres] at this
 exact this
theorem Cds.ord (S:Cds P M md n code dual p m add mul):Ev (fun k=>r4_Order.f k P M md) ((p^m:Nat):Int):=by
 rw[S.p_,S.m_]
 exact order_ok S.E.fd md
theorem Cds.cw (S:Cds P M md n code dual p m add mul):Ev (fun k=>r24_Weights.f k (n:Int) code) (WL n code):=weights_ev S.cwd S.few S.cfew
theorem Cds.dw (S:Cds P M md n code dual p m add mul):Ev (fun k=>r24_Weights.f k (n:Int) dual) (WL n dual):=weights_ev S.dl S.few S.dfew
end
theorem wl_cn {n:Nat} {l:List (List Int)} (hl:l.length≤4096):Cn (WL n l):=by
 intro i hi
 rw[wl_len] at hi
 rw[an_wl hi,wl_rd hi]
 have:=small_dg (c:=wcnt l i) (by have:=wcnt_le l i;omega)
 exact⟨rfl,by omega⟩
theorem codes_get {P M a:Int} {md:List Int} {rows:List (List Int)} (hmd:md.length≤9223372036854775807) (ha0:0≤a) (ha1:a≤255) (hrl:rows.length≤9223372036854775807):
 ∃(len:Int) (code dual all:List (List Int)) (ok:Bool),Ev (fun k=>w24_codes.f k P M md a rows) (len,code,dual,all,ok)∧(ok=false∨(ok=true∧∃n:Nat,len=(n:Int)∧∃p m add mul,Cds P M md n code dual p m add mul)):=by
 obtain⟨⟨len,code,dual,all,ok⟩,h1,h2⟩:=codes_ev (P:=P) (M:=M) hmd ha0 ha1 hrl
 exact⟨len,code,dual,all,ok,h1,h2⟩
theorem next_supp {p m n:Nat} {md:List Int} {P M:Int} {code dual:List (List Int)} {add mul:Int→Int→Int} (S:Cds P M md n code dual p m add mul):∀i,i≤n→suppN (bd (p^m) add mul n (· ∈code)) (i+1)≤cnz (WL n dual) i+1:=by
 intro i
 induction i with
 |zero=>intro _;rw[suppN,suppN,cnz];split<;>omega
 |succ i ih=>
  intro hi
  have:=ih (by omega)
  rw[suppN,cnz,an_wl (by omega)]
  unfold bd
  unfold bd at this
  rw[wd_cnt2 S.dnd S.dwd]
  by_cases g:wcnt dual (i+1)=0
  ·rw[if_pos g,if_pos (by omega)];omega
  ·rw[if_neg g,if_neg (by omega)];omega
theorem mn_nat (a b:Nat):mn (a:Int) (b:Int)=((min a b:Nat):Int):=by
 unfold mn
 split<;>omega
theorem delsarte_law {P M a:Int} {md word:List Int} {rows:List (List Int)} (hmd:md.length≤9223372036854775807) (ha0:0≤a) (ha1:a≤255) (hrl:rows.length≤9223372036854775807):
 Ev (fun k=>w24_MacwilliamsDelsarte.f k P M md a rows word) true:=by
 obtain⟨len,code,dual,all,ok,h1,h2⟩:=codes_get (P:=P) (M:=M) hmd ha0 ha1 hrl
 simp only[w24_MacwilliamsDelsarte.f]
 refine Ev.bind h1 ?_
 rcases h2 with rfl|⟨rfl,n,rfl,p,m,add,mul,S⟩
 ·simp only[Bool.false_eq_true,if_false]
  exact Ev.some _
 ·have few:=S.few
  have cfew:=S.cfew
  have F:=S.E.fld
  simp only[if_true]
  refine Ev.bind S.ord (Ev.bind S.cw ?_)
  have hi:wrap64 (((WL n dual).length:Int)-1)=((n:Nat):Int):=by rw[wl_len];exact wn (by omega) (by omega)
  obtain⟨s,hs⟩:∃s,s=cnz (WL n dual) n:=⟨_,rfl⟩
  have hcn:=wl_cn (n:=n) S.dfew
  have hext:Ev (fun k=>mw_External.f k ((p^m:Nat):Int) (WL n code)) ((s:Int),0):=by
   simp only[mw_External.f]
   refine Ev.bind S.nd ?_
   simp only[if_true,hi]
   clear hi
   rw[hs]
   refine Ev.bind (nsome_ev hcn (by rw[wl_len];omega) (by rw[wl_len];omega)) (Ev.some _)
  have hrext:Ev (fun k=>r24_External.f k (WL n dual)) (s:Int):=by
   simp only[r24_External.f,hi]
   clear hi
   rw[hs]
   refine Ev.bind (rnonzero_ev hcn (by rw[wl_len];omega) (by rw[wl_len];omega)) (Ev.some _)
  clear hi
  refine Ev.bind hext ?_
  rw[S.p_,S.m_]
  refine Ev.bind (row_ev S.E.fd md word few) ?_
  have hy:Wd (p^m) n (rowL (p^m) n word):=rowL_wd F.two word
  obtain⟨y,hyd⟩:∃y,y=rowL (p^m) n word:=⟨_,rfl⟩
  rw[←hyd] at hy ⊢
  have near:∃c,c∈code∧dct c y n≤s:=by
   obtain⟨c,hc,hcc,hd⟩:=delsarte F S.lin hy (s:=s) (by rw[hs];exact next_supp S n (Nat.le_refl n))
   obtain⟨e,he,he1,_⟩:=wneg F
   have nul:∀z,El (p^m) z→add z (mul e z)=0:=by
    intro z hz
    have:add (mul 1 z) (mul e z)=0:=by rw[←F.rdistrib z 1 e hz F.el1 he,he1,F.zero_mul z hz]
    rw[F.one_mul z hz] at this
    exact this
   refine⟨wscl mul e c,S.lin.scl e c he hc hcc,?_⟩
   have hcy:=wd_wadd F hc hy
   rw[←wt_dct hcy,hcy.1] at hd
   have same:∀i,i≤n→dct (wscl mul e c) y i=dct (wadd add c y) (List.replicate n 0) i:=by
    intro i
    induction i with
    |zero=>intro _;rfl
    |succ i ih=>
     intro hi
     rw[dct,dct,ih (by omega),rd_rep,rd_wscl (by rw[hc.1];omega),rd_wadd (by rw[hc.1];omega) (by rw[hy.1];omega)]
     have hci:=wd_rd hc (i:=i) (by omega)
     have hyi:=wd_rd hy (i:=i) (by omega)
     have hiff:mul e (rd c (i:Int))=rd y (i:Int)↔add (rd c (i:Int)) (rd y (i:Int))=0:=by
      constructor
      ·intro h;rw[←h];exact nul _ hci
      ·intro h;exact F.cancel _ _ _ hci (F.mul_el e _ he hci) hyi (by rw[nul _ hci,h])
     by_cases g:mul e (rd c (i:Int))=rd y (i:Int)
     ·rw[if_pos g,if_pos (hiff.mp g)]
     ·rw[if_neg g,if_neg (fun h=>g (hiff.mpr h))]
   rw[same n (Nat.le_refl n)]
   exact hd
  have loop:∀(d i v:Nat),i+d=code.length→v≤n→((∃j,∃h:j<code.length,j<i∧dct code[j] y n≤s)→v≤s)→
   Ev (fun k=>w24_MacwilliamsDelsarte.l0 k (n:Int) code dual (s:Int) 0 y (v:Int) (i:Int)) true:=by
   intro d
   induction d with
   |zero=>
    intro i v hi hv hn
    refine Ev.succ ?_
    simp only[w24_MacwilliamsDelsarte.l0,if_neg (show ¬(i:Int)<(code.length:Int) by omega),if_true]
    refine Ev.bind S.dw (Ev.bind hrext ?_)
    simp only[if_true]
    obtain⟨c,hc,hd⟩:=near
    obtain⟨j,hj,e⟩:=List.getElem_of_mem hc
    have:v≤s:=hn ⟨j,hj,by omega,by rw[e];exact hd⟩
    exact Ev.cast (Ev.some _) (by simp;omega)
   |succ d ih=>
    intro i v hi hv hn
    have hil:i<code.length:=by omega
    have hw:=S.cwd _ (List.getElem_mem hil)
    refine Ev.succ ?_
    simp only[w24_MacwilliamsDelsarte.l0,if_pos (show(i:Int)<(code.length:Int) by omega),if_pos (show(0:Int)≤(i:Int) from Int.natCast_nonneg _),rd1_lt hil,wn (show(i:Int)+1=((i+1:Nat):Int) by omega) (by omega)]
    refine Ev.bind (dist_ev (by rw[hw.1,hy.1]) (by rw[hw.1];exact few)) ?_
    rw[hw.1]
    simp only[mn_nat]
    refine ih (i+1) _ (by omega) (by omega) (fun⟨j,hj,h1,h2⟩=>?_)
    by_cases g:j=i
    ·subst g;omega
    ·have:=hn ⟨j,hj,by omega,h2⟩;omega
  exact loop code.length 0 n (by omega) (Nat.le_refl n) (fun⟨j,_,h,_⟩=>by omega)
end Mw
end
section
namespace Mw
open Go Go.RowKit Go.ChangeShapes Go.WideShapes Go.Deep Go.Proofs.YtifkbghnmhineaaW.PrintWords
theorem open_rows {H:Type} {enc:TypeId×Value→H} {P:Program} {w:World} {base:Nat} {held:Bool} {t e q:TypeId} {k:IntKind} {A:Option Addr} {len cap:Nat} {d:DataW H} {ps:List MemPlace}
 (ht:P.underlying t=some (.slice e)) (he:P.underlying e=some (.slice q)) (hq:P.underlying q=some (.int k)) (ce:P.cellsOf e=1) (cq:P.cellsOf q=1)
 (h:DataW.Trod enc P w base (fun _=>true) held t (.slice A len cap) d ps):
 ∃l:List (List Int),l.length=len∧len≤cap∧len≤9223372036854775807∧Kd.C (Kd.slice q (Kd.int k)) w A len l∧∀x∈l,∀n∈x,(Lit.int k n).wf=true:=by
 obtain⟨fuel,hf⟩:=h
 rcases open_int_rows ht he hq ce cq hf with⟨hcs,_⟩|⟨a,len',cap',A',L,C,Z,hcs,_,hl,hm,_,hrows⟩
 ·simp [Value.cells] at hcs
  obtain⟨rfl,rfl,rfl⟩:=hcs
  exact⟨[],rfl,Nat.le_refl _,by omega,⟨rfl,by omega,fun h=>absurd h (by omega)⟩,fun x hx=>by simp at hx⟩
 ·simp [Value.cells] at hcs
  obtain⟨rfl,rfl,rfl⟩:=hcs
  have hm9:cap≤9223372036854775807:=by simpa [maxLen] using hm
  refine⟨(List.range len).map fun r=>(Z r).take (L r),by simp,hl,by omega,⟨by simp,by omega,fun _=>⟨a,rfl,fun j p hj=>?_⟩⟩,fun x hx n hn=>?_⟩
  ·have hjl:j<len:=by
    by_cases g:j<len
    ·exact g
    ·rw[List.getElem?_eq_none (by simp;omega)] at hj;simp at hj
   obtain⟨hc,hLC,hCm,hZ,hwf,hnil,hcells⟩:=hrows j (by omega)
   have hC9:C j≤9223372036854775807:=by simpa [maxLen] using hCm
   have hp:p=(Z j).take (L j):=by
    rw[List.getElem?_map,List.getElem?_range hjl] at hj
    simpa using hj.symm
   have hpl:p.length=L j:=by rw[hp,List.length_take];omega
   refine⟨[.slice (A' j) p.length (C j)],rfl,⟨A' j,C j,rfl,by omega,?_⟩,fun i u hu=>?_⟩
   ·refine Kd.C_of_reads (d:=(0:Int)) ⟨rfl,by omega,fun hpos=>?_⟩
    cases hA:A' j with
    |none=>have:=hnil hA;omega
    |some a'=>
     refine⟨a',rfl,fun i hi=>?_⟩
     have:=(hcells a' hA).2 i (by omega)
     rw[this,hp]
     congr 2
     simp only[List.getD_eq_getElem?_getD]
     rw[List.getElem?_take_of_lt (by omega)]
   ·cases i with
    |zero=>
     have:Value.slice (A' j) p.length (C j)=u:=by simpa using hu
     subst this
     rw[hpl]
     simpa [Kd.slice] using hc
    |succ i=>simp at hu
  ·obtain⟨r,hr,rfl⟩:=List.mem_map.mp hx
   have hr:=List.mem_range.mp hr
   exact(hrows r (by omega)).2.2.2.2.1 n (List.mem_of_mem_take hn)
end Mw
end
section
namespace Mw
open Go Go.RowKit Go.ChangeShapes Go.WideShapes Go.Deep Go.Proofs Go.Proofs.YtifkbghnmhineaaW.PrintWords Go.Proofs.Ytifkbghnmhineaa.PAll
set_option maxRecDepth 100000
section
variable {H:Type} {enc:TypeId×Value→H} {w:World} {base:Nat} {held:Bool}
theorem ints_cells {fuel:Nat} {cs:List Value} {y:DataW H×List MemPlace} (h:DataW.trod enc Try.prog w base (fun _=>true) held fuel 22 cs=some y):
 ∃(l:List Int) (A:Option Addr) (c:Nat),cs=[.slice A l.length c]∧l.length≤c∧l.length≤9223372036854775807∧(Kd.int .i64).C w A l.length l∧∀n∈l,(Lit.int .i64 n).wf=true:=by
 rcases open_ints Try.underlying22 Try.underlying3 (by kernel_rfl) h with⟨hcs,_⟩|⟨a,len,cap,zs,hcs,hb,hl,hm,hz,hx,hcell,hwz⟩
 ·exact⟨[],none,0,hcs,Nat.le_refl _,by simp,Kd.C_nil _ _,fun n hn=>by simp at hn⟩
 ·simp only[if_true] at hz
  have hm9:cap≤9223372036854775807:=by simpa [maxLen] using hm
  have hll:(zs.take len).length=len:=by rw[List.length_take];omega
  refine⟨zs.take len,some a,cap,by rw[hll];exact hcs,by omega,by omega,?_,fun n hn=>hwz n (List.mem_of_mem_take hn)⟩
  refine Kd.C_of_reads (d:=(0:Int)) ⟨rfl,by omega,fun hpos=>⟨a,rfl,fun i hi=>?_⟩⟩
  rw[hcell i (by omega)]
  congr 2
  simp only[List.getD_eq_getElem?_getD]
  rw[List.getElem?_take_of_lt (by omega)]
theorem open_field {t:TypeId} {cs:Array Value} {d:DataW H} {ps:List MemPlace} (ht:Try.prog.underlying t=Try.prog.underlying 24) (hc:Try.prog.cellsOf t=3) (h:DataW.Trod enc Try.prog w base (fun _=>true) held t (.agg cs) d ps):
 ∃(P M:Int) (l:List Int) (A:Option Addr) (c:Nat),cs= #[.int .i64 P, .int .i64 M, .slice A l.length c]∧l.length≤c∧l.length≤9223372036854775807∧(Kd.int .i64).C w A l.length l:=by
 obtain⟨fuel,hf⟩:=h
 have hf:DataW.trod enc Try.prog w base (fun _=>true) held fuel t cs.toList=some (d,ps):=hf
 obtain⟨y0,y1,y2,n,_,hlen,g0,g1,g2⟩:=trod_struct3 (ht.trans Try.underlying24) hf
 have h3:Try.prog.cellsOf 3=1:=by kernel_rfl
 have h22:Try.prog.cellsOf 22=1:=by kernel_rfl
 rw[hc] at hlen
 obtain⟨a,b,c,e⟩:∃a b c,cs.toList=[a,b,c]:=by
  match cs.toList,hlen with
  | [a,b,c],_=>exact⟨a,b,c,rfl⟩
 rw[e] at g0 g1 g2
 have g0:DataW.trod enc Try.prog w base (fun _=>true) held n 3 (List.take (Try.prog.cellsOf 3) (List.drop 0 [a,b,c]))=some y0:=g0
 have g1:DataW.trod enc Try.prog w base (fun _=>true) held n 3 (List.take (Try.prog.cellsOf 3) (List.drop 1 [a,b,c]))=some y1:=g1
 have g2:DataW.trod enc Try.prog w base (fun _=>true) held n 22 (List.take (Try.prog.cellsOf 22) (List.drop 2 [a,b,c]))=some y2:=g2
 rw[h3] at g0 g1
 rw[h22] at g2
 obtain⟨P,e0,_⟩:=DataW.trod_int Try.underlying3 g0
 obtain⟨M,e1,_⟩:=DataW.trod_int Try.underlying3 g1
 obtain⟨l,A,cp,e2,p1,p2,p3,_⟩:=ints_cells g2
 have f0:a= .int .i64 P:=by simpa using e0
 have f1:b= .int .i64 M:=by simpa using e1
 have f2:c= .slice A l.length cp:=by simpa using e2
 subst f0 f1 f2
 exact⟨P,M,l,A,cp,by cases cs;simp at e;rw[e],p1,p2,p3⟩
theorem open_ints' {A:Option Addr} {len cap:Nat} {d:DataW H} {ps:List MemPlace} (h:DataW.Trod enc Try.prog w base (fun _=>true) held 22 (.slice A len cap) d ps):
 ∃l:List Int,l.length=len∧len≤cap∧len≤9223372036854775807∧(Kd.int .i64).C w A len l:=by
 obtain⟨fuel,hf⟩:=h
 have hf:DataW.trod enc Try.prog w base (fun _=>true) held fuel 22 [.slice A len cap]=some (d,ps):=by simpa [Value.cells] using hf
 obtain⟨l,A',c',e,p1,p2,p3,_⟩:=ints_cells hf
 simp at e
 obtain⟨rfl,rfl,rfl⟩:=e
 exact⟨l,rfl,p1,p2,p3⟩
end
end Mw
end
section
namespace Mw
open Go Go.Proofs
def headCodes:List Nat:=[
 104,97,114,110,101,115,115,32,97,52,54,100,51,98,54,57,49,99,100,102,102,55,57,50,53,50,54,98,102,49,
 54,102,48,51,48,99,54,97,97,48,53,57,101,57,49,50,49,49,52,97,101,54,102,97,52,52,54,99,49,56,
 54,102,57,55,99,52,101,54,51,97,102,50,32,99,117,116,32,97,116,32,99,111,100,101,119,114,105,103,104,116,
 47,99,111,100,101,119,114,105,103,104,116,108,97,119,50,52,46,77,97,99,119,105,108,108,105,97,109,115,80,108,
 101,115,115,32,99,111,100,101,119,114,105,103,104,116,47,99,111,100,101,119,114,105,103,104,116,108,97,119,50,52,
 46,77,97,99,119,105,108,108,105,97,109,115,68,101,115,105,103,110,115,32,99,111,100,101,119,114,105,103,104,116,
 47,99,111,100,101,119,114,105,103,104,116,108,97,119,50,52,46,77,97,99,119,105,108,108,105,97,109,115,68,101,
 114,105,118,101,100,32,99,111,100,101,119,114,105,103,104,116,47,99,111,100,101,119,114,105,103,104,116,108,97,119,
 50,52,46,77,97,99,119,105,108,108,105,97,109,115,77,111,109,101,110,116,115,32,99,111,100,101,119,114,105,103,
 104,116,47,99,111,100,101,119,114,105,103,104,116,108,97,119,50,52,46,77,97,99,119,105,108,108,105,97,109,115,
 83,116,114,101,110,103,116,104,115,32,99,111,100,101,119,114,105,103,104,116,47,99,111,100,101,119,114,105,103,104,
 116,108,97,119,50,52,46,77,97,99,119,105,108,108,105,97,109,115,75,114,97,119,116,99,104,111,117,107,32,99,
 111,100,101,119,114,105,103,104,116,47,99,111,100,101,119,114,105,103,104,116,108,97,119,50,52,46,77,97,99,119,
 105,108,108,105,97,109,115,65,115,115,109,117,115,32,99,111,100,101,119,114,105,103,104,116,47,99,111,100,101,119,
 114,105,103,104,116,108,97,119,50,52,46,77,97,99,119,105,108,108,105,97,109,115,71,101,110,101,114,97,116,105,
 110,103,32,99,111,100,101,119,114,105,103,104,116,47,99,111,100,101,119,114,105,103,104,116,108,97,119,50,52,46,
 77,97,99,119,105,108,108,105,97,109,115,79,114,116,104,111,103,111,110,97,108,32,99,111,100,101,119,114,105,103,
 104,116,47,99,111,100,101,119,114,105,103,104,116,108,97,119,50,52,46,77,97,99,119,105,108,108,105,97,109,115,
 82,101,99,105,112,114,111,99,97,108,32,99,111,100,101,119,114,105,103,104,116,47,99,111,100,101,119,114,105,103,
 104,116,108,97,119,50,52,46,77,97,99,119,105,108,108,105,97,109,115,82,101,99,117,114,114,101,110,99,101,32,
 99,111,100,101,119,114,105,103,104,116,47,99,111,100,101,119,114,105,103,104,116,108,97,119,50,52,46,77,97,99,
 119,105,108,108,105,97,109,115,73,100,101,110,116,105,116,121,32,99,111,100,101,119,114,105,103,104,116,47,99,111,
 100,101,119,114,105,103,104,116,108,97,119,50,52,46,77,97,99,119,105,108,108,105,97,109,115,68,101,108,115,97,
 114,116,101,32,99,111,100,101,119,114,105,103,104,116,47,99,111,100,101,119,114,105,103,104,116,108,97,119,50,52,
 46,77,97,99,119,105,108,108,105,97,109,115,69,120,116,101,114,110,97,108,115,32,99,111,100,101,119,114,105,103,
 104,116,47,99,111,100,101,119,114,105,103,104,116,108,97,119,50,52,46,77,97,99,119,105,108,108,105,97,109,115,
 84,114,97,110,115,102,111,114,109,115,32,99,111,100,101,119,114,105,103,104,116,47,99,111,100,101,119,114,105,103,
 104,116,108,97,119,50,52,46,77,97,99,119,105,108,108,105,97,109,115,73,110,118,101,114,116,115]
theorem head_eq:Try.prog.initOrder=String.ofList (headCodes.map Char.ofNat):=by kernel_rfl
theorem head_list:Try.prog.initOrder.toList=headCodes.map Char.ofNat:=by rw[head_eq,String.toList_ofList]
def cutSigns:List Char:=[99,117,116].map Char.ofNat
theorem head_word0:∃rest,behindMainWord (wordsSigns (headCodes.map Char.ofNat))=cutSigns::rest:=⟨(behindMainWord (wordsSigns (headCodes.map Char.ofNat))).tail,by kernel_rfl⟩
theorem head_word:∃rest,behindMainWord (wordsSigns Try.prog.initOrder.toList)=cutSigns::rest:=by rw[head_list];exact head_word0
theorem head_strip (rest:List (List Char)):stripLifts liftWords (cutSigns::rest)=([],cutSigns::rest):=by kernel_rfl
theorem sign1:(cutSigns== "gc".toList)=false:=by kernel_rfl
theorem sign2:(cutSigns== "spec".toList)=false:=by kernel_rfl
theorem sign3:(cutSigns== "carried".toList)=false:=by kernel_rfl
theorem sign4:(cutSigns== "cut".toList)=true:=by kernel_rfl
theorem make_of (P:Program) (c:List Char) (rest:List (List Char)) (h:behindMainWord (wordsSigns P.initOrder.toList)=c::rest) (h1:(c== "gc".toList)=false) (h2:(c== "spec".toList)=false) (h3:(c== "cut".toList)=true):P.make=some .cut:=by
 unfold Program.make
 rw[h]
 simp only[h1,h2,h3,Bool.or_self,Bool.true_or,Bool.false_eq_true,if_false,if_true]
theorem enter_of (P:Program) (c:List Char) (rest:List (List Char)) (h:behindMainWord (wordsSigns P.initOrder.toList)=c::rest) (hs:stripLifts liftWords (c::rest)=([],c::rest)) (h3:(some c==some "cut".toList)=true) (ll:P.laysLater=false) (br:P.bearsReflect=false) (df:P.doorFits []=true):P.mayEnter=true:=by
 unfold Program.mayEnter
 rw[h]
 simp only[hs,List.head?_cons,h3,ll,br,df]
 simp
theorem final_of (P:Program) (c:List Char) (rest:List (List Char)) (h:behindMainWord (wordsSigns P.initOrder.toList)=c::rest) (hs:stripLifts liftWords (c::rest)=([],c::rest)) (h3:(some c==some "carried".toList)=false):P.liftsFinal=false:=by
 unfold Program.liftsFinal Program.headLifts
 rw[h]
 simp only[hs,List.head?_cons,h3,Bool.false_and,Bool.false_or]
 split<;>rfl
theorem laysLater_:Try.prog.laysLater=false:=by kernel_rfl
theorem bearsReflect_:Try.prog.bearsReflect=false:=by kernel_rfl
theorem doorFits_:Try.prog.doorFits []=true:=by kernel_rfl
theorem make_:Try.prog.make=some .cut:=by
 obtain⟨rest,h⟩:=head_word
 exact make_of _ _ rest h sign1 sign2 sign4
theorem mayEnter_:Try.prog.mayEnter=true:=by
 obtain⟨rest,h⟩:=head_word
 exact enter_of _ _ rest h (head_strip rest) sign4 laysLater_ bearsReflect_ doorFits_
theorem liftsFinal_:Try.prog.liftsFinal=false:=by
 obtain⟨rest,h⟩:=head_word
 exact final_of _ _ rest h (head_strip rest) sign3
theorem laidOut:laidOutB Try.prog=true:=by kernel_rfl
theorem mapsRowed_:mapsRowed Try.prog=true:=by kernel_rfl
theorem stopsHeard_:Try.prog.stopsHeard=true:=by kernel_rfl
theorem stops_:(Try.prog.stops==[])=true:=by kernel_rfl
theorem stopKnobs_:(Try.prog.stopKnobs==[])=true:=by kernel_rfl
theorem joined_of {P:Program} {f:FuncId} {fn:Func} {s:ChangeSpec} {c:OpenClaim} (k1:c.wf (OpenSpec.ofChange s)=true) (k2:laidOutB P=true) (k3:mapsRowed P=true) (k4:fn.params.all (P.readableRec ·)=true) (k5:namedTie P c.named s.vars=true)
 (k6:(c.stops==[])=true) (k7:(P.stops==[])=true) (k8:(c.knobs==[])=true) (k9:(P.stopKnobs==[])=true) (k10:(c.inPlace==P.inPlace f)=true) (k11:(c.unfollowed==P.unfollowed f)=true) (k12:(c.recurses==P.recurses f)=true) (k13:(c.named==P.varsNamed f)=true)
 (k14:(c.maps==(fn.params.toList++s.plain.varTypes P).any (P.mapsRec ·))=true) (k15:(c.ifaces==(fn.params.toList++s.plain.varTypes P).any (P.ifacesRec ·))=true) (k16:(c.mapsOut==P.mapsAmong fn.resultTypes.toList)=true) (k17:(c.loops==(fn.params.toList++s.plain.varTypes P).any (P.loopsFrom ·))=true) (k18:(c.wideKeys==(fn.params.toList++s.plain.varTypes P++fn.resultTypes.toList).any (P.wideKeysFrom ·))=true)
 (k19:s.vars.all (P.varReadable ·)=true) (k20:fn.resultTypes.all (fun t=>P.readableRec t&&decide (t<P.types.size))=true) (k21:(c.ifacesOut==fn.resultTypes.toList.any (P.ifacesRec ·))=true) (k22:(c.loopsOut==fn.resultTypes.toList.any (P.loopsFrom ·))=true) (k23:(c.plainKeys==P.plainKeys)=true) (k24:c.shortTexts.isNone=true)
 (k25:P.stopsHeard=true) (k26:P.mayEnter=true) (k27:(c.lifted==P.liftsFinal)=true) (k28:(P.make==some c.make)=true) (k29:(c.kinds==(if c.domain.isEmpty then [] else fn.params.toList.map fun t=>match P.underlying t with|some (.int k)=>some k|_=>none))=true) (k30:(c.pinned==c.pinnedBy)=true)
 (k31:(c.veiled==(fn.params.toList++s.plain.varTypes P++fn.resultTypes.toList).any (P.veiledRec ·))=true) (k32:c.veiledFits P fn.params.toList (fn.params.toList++s.plain.varTypes P++fn.resultTypes.toList)=true):joinedFacts P f fn s c=true:=by
 unfold joinedFacts
 simp only[Bool.and_eq_true]
 exact⟨⟨⟨⟨⟨⟨⟨⟨⟨⟨⟨⟨⟨⟨⟨⟨⟨⟨⟨⟨⟨⟨⟨⟨⟨⟨⟨⟨⟨⟨⟨k1,k2⟩,k3⟩,k4⟩,k5⟩,k6⟩,k7⟩,k8⟩,k9⟩,k10⟩,k11⟩,k12⟩,k13⟩,k14⟩,k15⟩,k16⟩,k17⟩,k18⟩,k19⟩,k20⟩,k21⟩,k22⟩,k23⟩,k24⟩,k25⟩,k26⟩,k27⟩,k28⟩,k29⟩,k30⟩,k31⟩,k32⟩
end Mw
end
section
namespace Go.Proofs.Ytifkbghnmhineaa.macwilliamsDelsarte
open Go.ChangeShapes Go.WideShapes Go.ChangeAt Go.RowKit
open Go.ChangeMaps (open_string shut_string)
set_option linter.unusedVariables false
theorem own:ownKnob Try.prog.godebug=none:=by kernel_rfl
set_option maxRecDepth 100000 in
theorem lifted (os:Os) (started:os.Started) (H:Type) (enc:TypeId×Value→H):
 ReturnsInHanded {} Try.checked os 15 .any (Rows.macwilliamsDelsarteSpec.pre6 enc Try.prog Try.f15 Rows.macwilliamsDelsarteRow.domain false) (Rows.macwilliamsDelsarteSpec.post enc Try.prog Try.f15 false true false false):=by
 refine returnsInHanded_of_change_sized (C:=Try.checked) own started (by kernel_rfl) Try.func15
  (ChangeSpec.witness6 (enc:=enc) (C:=Try.checked) false ⟨#[], #[.agg #[.int .i64 0, .int .i64 0, .slice none 0 0], .int .u8 0, .slice none 0 0, .slice none 0 0],[]⟩ 8 (by kernel_rfl) (by kernel_rfl) (by kernel_rfl) (by kernel_rfl)) ?_
 intro W base args ds gs before hval0 hW hcnd hsz0 _
 have hval:∀(j:Nat) t v,Try.f15.params[j]?=some t→args[j]?=some v→Value.okWide Try.prog W .any base t v:=hval0
 have hW':=hW
 obtain⟨p,q,hA0,hV,rfl,hfz,hnd⟩:=hW
 have hA:DataW.TrodAll enc Try.prog W 0 (fun _=>true) true Try.f15.params.toList args.toList ds p:=hA0
 rw[Try.params15] at hA hval
 obtain⟨v0,vs0,d0,ds0,p0,q0,hargs,rfl,rfl,h0,r0⟩:=trodAll_cons hA
 obtain⟨v1,vs1,d1,ds1,p1,q1,rfl,rfl,rfl,h1,r1⟩:=trodAll_cons r0
 obtain⟨v2,vs2,d2,ds2,p2,q2,rfl,rfl,rfl,h2,r2⟩:=trodAll_cons r1
 obtain⟨v3,vs3,d3,ds3,p3,q3,rfl,rfl,rfl,h3,r3⟩:=trodAll_cons r2
 obtain⟨rfl,rfl,rfl⟩:=trodAll_nil r3
 obtain rfl:args= #[v0,v1,v2,v3]:=by cases args;simp_all
 obtain⟨rfl,rfl⟩:=trodVars_none hV
 obtain⟨cs0,rfl,_⟩:=okWide_struct Try.underlying24 (hval 0 24 v0 rfl rfl)
 have k0:=h0
 have lt0:∀x∈p0,x.block<W.heap.size:=by obtain⟨m,hm⟩:=k0;exact DataW.trod_lt m _ _ _ hm
 obtain⟨P,M,l0,A0,c0,rfl,hc0,hm0,hr0⟩:=Mw.open_field rfl (by kernel_rfl) h0
 obtain⟨a1,rfl,rfl,rfl,w1⟩:=open_int Try.underlying5 (hval 1 5 v1 rfl rfl) h1
 obtain⟨a2,len2,cap2,rfl⟩:=okWide_slice Try.underlying25 (hval 2 25 v2 rfl rfl)
 have k2:=h2
 have lt2:∀x∈p2,x.block<W.heap.size:=by obtain⟨m,hm⟩:=k2;exact DataW.trod_lt m _ _ _ hm
 obtain⟨l2,rfl,hc2,hm2,hr2,_⟩:=Mw.open_rows Try.underlying25 Try.underlying22 Try.underlying3 (by kernel_rfl) (by kernel_rfl) h2
 obtain⟨a3,len3,cap3,rfl⟩:=okWide_slice Try.underlying22 (hval 3 22 v3 rfl rfl)
 have k3:=h3
 have lt3:∀x∈p3,x.block<W.heap.size:=by obtain⟨m,hm⟩:=k3;exact DataW.trod_lt m _ _ _ hm
 obtain⟨l3,rfl,hc3,hm3,hr3⟩:=Mw.open_ints' h3
 clear hA0 hval0 hsz0
 obtain⟨k,hk⟩:=(Mw.delsarte_law (P:=P) (M:=M) (md:=l0) (rows:=l2) (a:=a1) (word:=l3) hm0 (by have:=w1;simp [Lit.wf,show IntKind.u8.min=0 from rfl,show IntKind.u8.max=255 from rfl] at this;omega) (by have:=w1;simp [Lit.wf,show IntKind.u8.min=0 from rfl,show IntKind.u8.max=255 from rfl] at this;omega) hm2).get
 refine(PAll.w24_MacwilliamsDelsarte.calls k P M A0 c0 l0 a1 a2 cap2 l2 a3 cap3 l3 true W hr0 hc0 hr2 hc2 hr3 hc3 hk).mono fun e W' ⟨he,bel⟩=>?_
 subst he
 exact⟨_,rfl,_,_,_,[],_,[],hW',trodAll_mk1 (shut_bool Try.underlying4 _),(trodAll_cons_mk (Below.trod Mw.laidOut (by kernel_rfl) (of_decide_eq_true (by kernel_rfl)) k0 bel lt0) (trodAll_cons_mk (shut_int Try.underlying5 w1) (trodAll_cons_mk (Below.trod Mw.laidOut (by kernel_rfl) (of_decide_eq_true (by kernel_rfl)) k2 bel lt2) (trodAll_cons_mk (Below.trod Mw.laidOut (by kernel_rfl) (of_decide_eq_true (by kernel_rfl)) k3 bel lt3) trodAll_mk0)))),rfl,bel.frame _,fun h=>by cases h⟩
theorem closed:joinedFacts Try.prog 15 Try.f15 Rows.macwilliamsDelsarteSpec Rows.macwilliamsDelsarteRow=true:=
 Mw.joined_of (by as_aux_lemma=>kernel_rfl) Mw.laidOut Mw.mapsRowed_ (by as_aux_lemma=>kernel_rfl) (by as_aux_lemma=>kernel_rfl) (by as_aux_lemma=>kernel_rfl) Mw.stops_ (by as_aux_lemma=>kernel_rfl) Mw.stopKnobs_ (by as_aux_lemma=>kernel_rfl) (by as_aux_lemma=>kernel_rfl) (by as_aux_lemma=>kernel_rfl) (by as_aux_lemma=>kernel_rfl) (by as_aux_lemma=>kernel_rfl) (by as_aux_lemma=>kernel_rfl) (by as_aux_lemma=>kernel_rfl) (by as_aux_lemma=>kernel_rfl) (by as_aux_lemma=>kernel_rfl) (by as_aux_lemma=>kernel_rfl) (by as_aux_lemma=>kernel_rfl) (by as_aux_lemma=>kernel_rfl) (by as_aux_lemma=>kernel_rfl) (by as_aux_lemma=>kernel_rfl) (by as_aux_lemma=>kernel_rfl) Mw.stopsHeard_ Mw.mayEnter_ (by rw[Mw.liftsFinal_];rfl) (by rw[Mw.make_];rfl) (by as_aux_lemma=>kernel_rfl) (by as_aux_lemma=>kernel_rfl) (by as_aux_lemma=>kernel_rfl) (by as_aux_lemma=>kernel_rfl)
theorem over:Rows.macwilliamsDelsarteRow.holds Try.pinned (OpenSpec.ofChange Rows.macwilliamsDelsarteSpec):=
 OpenClaim.holds_of_wide 15 Try.f15 rfl rfl rfl rfl rfl rfl rfl ⟨rfl,rfl,rfl,rfl,rfl⟩ rfl rfl rfl rfl rfl (by as_aux_lemma=>kernel_rfl) Try.func15 closed
  (of_decide_eq_true (by as_aux_lemma=>kernel_rfl)) (by unfold Func.isWrapper;first|(rw[if_pos (by decide+kernel)];kernel_rfl)|(rw[if_neg (by decide+kernel)];exact⟨rfl,rfl⟩))
  (fun os started H enc _=>lifted os started H enc)
theorem proved:Rows.MacwilliamsDelsarteSaid:=over
end Go.Proofs.Ytifkbghnmhineaa.macwilliamsDelsarte
namespace Go.Proofs.Ytifkbghnmhineaa
theorem macwilliamsDelsarte_holds:Rows.MacwilliamsDelsarteSaid:=macwilliamsDelsarte.proved
end Go.Proofs.Ytifkbghnmhineaa
end
