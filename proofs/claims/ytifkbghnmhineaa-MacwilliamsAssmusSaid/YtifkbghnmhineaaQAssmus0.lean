/- What functions of the program do and come to, for the statement MacwilliamsAssmus, part 0. Conditions: as each theorem says. -/
import Derived.Below
import Derived.Laws.Slices
import Derived.WalkKit
import Derived.KernelRfl
import Derived.RowKit3
import Derived.Deep.Draws
import Derived.Deep.AppendLies
import Derived.Maps.AppendAt
import Derived.OwnWalk
import Derived.Laws.BytesArg
import Derived.Laws.MakeOwn
import Derived.Laws.OwnMore
import Derived.Deep.OwnRows
import Derived.Tactics
import Derived.Lib.ConvBytes
import Derived.Deep.LoopGhost
import Derived.Deep.QuietTactic
import Derived.BigQuiet
import Derived.WideLaws
import Derived.Deep.DeepCutAuto
import Derived.Deep.CutBlock
import Derived.Deep.RegionHeld3
import Derived.Laws.Rows
import Derived.Lib.AppendStr
import Derived.ArgAppend
import Derived.Laws.IdiomCopy
import Derived.RowKit
import Derived.OrdersHeld
import Derived.Laws.BitsLemmas
import Derived.Laws.StructEq
import Derived.Test.YtifkbghnmhineaaProg
import Derived.Lib.BitFns
import Derived.Lib.Tables
import Derived.Deep.Matrix
import Derived.OpenShut
import Derived.Carry
import Derived.ShutString
import Derived.Deep.Strs
import Derived.Test.YtifkbghnmhineaaRows
import Derived.ProofKit
import Derived.JoinedOf
import Derived.ChangeOld
import Derived.SizedLaws

section
namespace Mw
open Go Go.RowKit
theorem O8{P:Program}(t e:TypeId)(kh:IntKind){i:TypeInfo}(ht:P.underlying t=some (.slice e))(hi:P.info? e=some i)(A:Option Addr)(n c:Nat)(j:Int)(h0:0<=j)(hm:j<=n)(hc:n<=c):
 ∀W:World,(Instr.slice t (.slice A n c) none (some (.int kh j)) (some (.int kh j))).run P W= .ok (.slice A j.toNat j.toNat) W:=by
 intro W
 have hel:P.elem t=e:=by simp [Program.elem,ht]
 have hu:P.underlying t=some (.slice (P.elem t)):=by rw[hel];exact ht
 have ha:(A.map λx=>x.add 0)=A:=by cases A<;>simp [Addr.add]
 rw[run_slice_hm W t A n c hu kh kh j j h0 (Int.le_refl j) (by omega),hel]
 simp [Go.sizeOf,Go.typeInfo,hi,sliced,Result.andThen,ha]
end Mw
end
section
set_option linter.unusedVariables false
set_option linter.unusedSimpArgs false
namespace Go.Proofs.YtifkbghnmhineaaW.lJ
open Go.RowKit
structure dw (p:Prop):Prop where mk::(out:p)
structure jh (w w':World):Prop where mk::(out:∃n,w'=w.drewN n)
theorem jh.refl(w:World):jh w w:=⟨⟨0,rfl⟩⟩
theorem jh.step{w w':World}(h:jh w w')(n:Nat):jh w (w'.drewN n):=by
 obtain⟨m,rfl⟩:=h
 exact⟨⟨m+n,World.drewN_drewN ..⟩⟩
theorem jh.grown{w w':World}(h:jh w w'):Grown w w':=by
 obtain⟨n,rfl⟩:=h
 induction n with
 |zero=>exact Grown.refl _
 |succ n ih=>rw[<-World.drew_drewN];exact Grown.drew ih
theorem jh.below{w w':World}(h:jh w w'):Below w.heap.size w w':=by
 obtain⟨n,rfl⟩:=h
 induction n with
 |zero=>exact Below.refl _ _
 |succ n ih=>rw[<-World.drew_drewN];exact ih.drew
def rd(xs:List Int)(i:Int):Int:=xs.getD i.toNat 0
def bt(s:ByteArray)(i:Int):Int:=if h:i.toNat<s.size then((s[i.toNat]'h).toNat:Int) else 0
theorem oZ{w W:World}(h:Below w.heap.size w W)(o:Obj):Below w.heap.size w (W.alloc o):=h.alloc h.size o
theorem ES{B:Nat}{w W:World}(h:Below B w W):Below B w W.drew:=⟨h.os,h.tape,h.output,h.size,h.block⟩
theorem qL{B:Nat}{w W:World}(h:Below B w W)(n:Nat):Below B w (W.drewN n):=⟨h.os,h.tape,h.output,h.size,h.block⟩
theorem XY{B:Nat}{w w1 w2:World}(h:Below B w w1)(hB:B<=w1.heap.size)(k:Below w1.heap.size w1 w2):Below B w w2:=
 h.trans ⟨k.os,k.tape,k.output,k.size,λi hi=>k.block i (Nat.lt_of_lt_of_le hi hB)⟩
theorem Wq{w w1:World}(h:Below w.heap.size w w1)(row:Option Nat):w.grownBy w1 row:=⟨h.os,h.tape,h.output,h.size,λi hi _=>h.block i hi⟩
theorem IA{w w1:World}(h:Below w.heap.size w w1){a:Addr}{v:Value}(hc:w.cell? a=some v):w1.cell? a=some v:=(h.cell (World.block_lt_of_cell? w a hc)).trans hc
theorem add_plain(g j:Nat):(⟨g,0,none⟩:Addr).add j=⟨g,j,none⟩:=by unfold Addr.add;split<;>simp_all
def wC(w:World)(k:IntKind)(A:Option Addr)(n:Nat)(xs:List Int):Prop:=
 xs.length=n/\n<=9223372036854775807/\(0<n->∃ad,A=some ad/\∀j,j<n->w.cell? (ad.add j)=some (.int k (xs.getD j 0)))
theorem wC.at_{w:World}{k:IntKind}{A:Option Addr}{n:Nat}{xs:List Int}(h:wC w k A n xs)(i:Int)(h0:0<=i)(h1:i<n):∃ad,A=some ad/\w.cell? (ad.add i.toNat)=some (.int k (rd xs i)):=by
 obtain⟨ad,e,hc⟩:=h.2.2 (by omega)
 exact⟨ad,e,hc _ (by omega)⟩
theorem wC.below{w w1:World}{k:IntKind}{A:Option Addr}{n:Nat}{xs:List Int}(h:wC w k A n xs)(hb:Below w.heap.size w w1):wC w1 k A n xs:=
 ⟨h.1,h.2.1,λhn=>by
  obtain⟨ad,e,hc⟩:=h.2.2 hn
  exact⟨ad,e,λj hj=>IA hb (hc j hj)⟩⟩
theorem UK(W:World)(base:Nat)(e:TypeId)(size:Nat):W.ownsRow base e size (.slice none 0 0) 0 []:=⟨by simp, .inl ⟨rfl,rfl⟩⟩
theorem own_base{w:World}{base:Nat}{e:TypeId}{size n:Nat}{v:Value}{xs:List Value}(h:w.ownsRow base e size v n xs)(k:Nat)(hk:v.ownBlock=some k):base<=k:=by
 rcases h.2 with⟨rfl,_⟩|⟨g,cap,cur,rfl,hb,_⟩
 ·simp [Value.ownBlock] at hk
 ·have:g=k:=by simpa [Value.ownBlock] using hk
  omega
theorem Nb{w:World}{base:Nat}{e:TypeId}{size n:Nat}{v:Value}{xs:List Value}(h:w.ownsRow base e size v n xs)(k:Nat)(hk:v.ownBlock=some k):k<w.heap.size:=by
 rcases h.2 with⟨rfl,_⟩|⟨g,cap,cur,rfl,hb,hh,_⟩
 ·simp [Value.ownBlock] at hk
 ·have:g=k:=by simpa [Value.ownBlock] using hk
  subst this
  exact(Array.getElem?_eq_some_iff.1 hh).1
theorem Uu{w w1:World}{base:Nat}{e:TypeId}{size n:Nat}{v:Value}{xs:List Value}(h:w.ownsRow base e size v n xs)(hb:Below w.heap.size w w1):w1.ownsRow base e size v n xs:=
 h.kept (Wq hb none) (by cases v.ownBlock<;>simp)
theorem wC.jI{w:World}{k:IntKind}{A:Option Addr}{n:Nat}{xs:List Int}(h:wC w k A n xs)(i:Nat)(hi:i<=n):wC w k A i (xs.take i):=by
 refine⟨by rw[List.length_take,h.1];omega,by have:=h.2.1;omega,λhp=>?_⟩
 obtain⟨ad,e,hc⟩:=h.2.2 (by omega)
 refine⟨ad,e,λj hj=>?_⟩
 rw[hc j (by omega)]
 simp [List.getD_eq_getElem?_getD,hj]
def rP{α:Type}(a b:Option α):Prop:=∀r,a=some r->b=some r
theorem rP.refl{α:Type}(a:Option α):rP a a:=λ_ h=>h
theorem rP.none{α:Type}(b:Option α):rP Option.none b:=λ_ h=>by cases h
theorem rP.trans{α:Type}{a b c:Option α}(h:rP a b)(k:rP b c):rP a c:=λr hr=>k r (h r hr)
theorem rP.bind{α β:Type}{a a':Option α}{f f':α->Option β}(h:rP a a')(k:∀x,rP (f x) (f' x)):rP (a.bind f) (a'.bind f'):=by
 intro r hr
 obtain⟨x,hx,hf⟩:=Option.bind_eq_some_iff.1 hr
 exact Option.bind_eq_some_iff.2 ⟨x,h x hx,k x r hf⟩
theorem rP.map{α β:Type}{a a':Option α}(f:α->β)(h:rP a a'):rP (a.map f) (a'.map f):=by
 intro r hr
 obtain⟨x,hx,hf⟩:=Option.map_eq_some_iff.1 hr
 exact Option.map_eq_some_iff.2 ⟨x,h x hx,hf⟩
theorem NL{α:Type}{g:Nat->Option α}(h:∀k,rP (g k) (g (k+1)))(k:Nat):∀j,rP (g k) (g (k+j))
 |0=>rP.refl _
 |j+1=>(NL h k j).trans (h (k+j))
theorem X0{α:Type}{g:Nat->Option α}(h:∀k,rP (g k) (g (k+1))){k k':Nat}(hk:k<=k'){r:α}(hr:g k=some r):g k'=some r:=by
 have:=NL h k (k'-k) r hr
 rwa [Nat.add_sub_cancel' hk] at this
def iY{α:Type}(R:α->List Value->Prop)(size:Nat)(ps:List α)(cs:List Value):Prop:=
 cs.length=ps.length*size/\∀j p,ps[j]?=some p->R p ((cs.drop (j*size)).take size)
theorem iY.none{α:Type}(R:α->List Value->Prop)(size:Nat):iY R size [] []:=⟨by simp,λj p h=>by simp at h⟩
theorem iY.snoc{α:Type}{R:α->List Value->Prop}{size:Nat}{ps:List α}{cs c:List Value}{p:α}(h:iY R size ps cs)(hp:R p c)(hc:c.length=size):iY R size (ps++[p]) (cs++c):=by
 refine⟨by rw[List.length_append,h.1,hc,List.length_append,List.length_singleton,Nat.add_mul,Nat.one_mul],λj q hq=>?_⟩
 rcases Nat.lt_or_ge j ps.length with hj|hj
 ·rw[List.getElem?_append_left hj] at hq
  have h1:j*size+size<=cs.length:=by rw[h.1,<-Nat.succ_mul];exact Nat.mul_le_mul_right _ hj
  have h2:=h.2 j q hq
  rw[List.drop_append_of_le_length (by omega),List.take_append_of_le_length (by rw[List.length_drop];omega)]
  exact h2
 ·have hj':j=ps.length:=by
   have:=(List.getElem?_eq_some_iff.1 hq).1
   rw[List.length_append,List.length_singleton] at this
   omega
  subst hj'
  have hq':p=q:=by simpa using hq
  subst hq'
  rw[<-h.1,List.drop_left,<-hc,List.take_length]
  exact hp
theorem iY.uH{α:Type}{R R':α->List Value->Prop}{size:Nat}{ps:List α}{cs:List Value}(h:iY R size ps cs)(hR:∀p c,R p c->R' p c):iY R' size ps cs:=⟨h.1,λj p hj=>hR _ _ (h.2 j p hj)⟩
def vS{α:Type}(R:α->List Value->Prop)(size:Nat)(w:World)(A:Option Addr)(n:Nat)(ps:List α):Prop:=
 ps.length=n/\n<=9223372036854775807/\(0<n->∃ad,A=some ad/\∀j p,ps[j]?=some p->∃c,c.length=size/\R p c/\∀i u,c[i]?=some u->w.cell? (ad.add (j*size+i))=some u)
theorem vS.Wu{α:Type}{R:α->List Value->Prop}{size:Nat}{w:World}{A:Option Addr}{n:Nat}{ps:List α}(h:vS R size w A n ps)(d:α)(i:Int)(h0:0<=i)(h1:i<n):
 ∃ad c,A=some ad/\c.length=size/\R (ps.getD i.toNat d) c/\∀j u,c[j]?=some u->w.cell? (ad.add (i.toNat*size+j))=some u:=by
 obtain⟨ad,e,hc⟩:=h.2.2 (by omega)
 have hl:i.toNat<ps.length:=by have:=h.1;omega
 obtain⟨c,hs,hr,hcell⟩:=hc i.toNat _ (List.getElem?_eq_getElem hl)
 refine⟨ad,c,e,hs,?_,hcell⟩
 rw[List.getD_eq_getElem?_getD,List.getElem?_eq_getElem hl]
 exact hr
theorem vS.uH{α:Type}{R R':α->List Value->Prop}{size:Nat}{w w1:World}{A:Option Addr}{n:Nat}{ps:List α}(h:vS R size w A n ps)(hb:Below w.heap.size w w1)(hR:∀p c,R p c->R' p c):vS R' size w1 A n ps:=
 ⟨h.1,h.2.1,λhn=>by
  obtain⟨ad,e,hc⟩:=h.2.2 hn
  refine⟨ad,e,λj p hj=>?_⟩
  obtain⟨c,hs,hr,hcell⟩:=hc j p hj
  exact⟨c,hs,hR _ _ hr,λi u hu=>IA hb (hcell i u hu)⟩⟩
theorem UJ{α:Type}{R:α->List Value->Prop}{w:World}{base n size:Nat}{e:TypeId}{v:Value}{ps:List α}{cs:List Value}(h:w.ownsRow base e size v n cs)(hR:iY R size ps cs)(hn:ps.length=n):
 ∃A c,v= .slice A n c/\vS R size w A n ps:=by
 rcases Nat.eq_zero_or_pos n with h0|h0
 ·rcases h.2 with⟨rfl,rfl⟩|⟨g,cap,cur,rfl,_⟩
  ·exact⟨none,0,rfl,hn,by omega,λhp=>absurd hp (by omega)⟩
  ·exact⟨_,cap,rfl,hn,by omega,λhp=>absurd hp (by omega)⟩
 ·obtain⟨g,cap,rfl,_,_⟩:=h.form h0
  have hm:n<=9223372036854775807:=by
   rcases h.2 with⟨_,h1⟩|⟨g',cap',cur,he,_,_,h1,h2,_⟩
   ·omega
   ·simp only[maxLen] at h2
    omega
  refine⟨_,cap,rfl,hn,hm,λ_=>⟨_,rfl,λj p hj=>⟨(cs.drop (j*size)).take size,?_,hR.2 j p hj,λi u hu=>?_⟩⟩⟩
  ·have hjl:=(List.getElem?_eq_some_iff.1 hj).1
   have h1:j*size+size<=cs.length:=by rw[hR.1,<-Nat.succ_mul];exact Nat.mul_le_mul_right _ hjl
   rw[List.length_take,List.length_drop]
   omega
  ·refine h.cells (g:=g) rfl _ u ?_
   rw[List.getElem?_take] at hu
   split at hu
   ·rw[List.getElem?_drop] at hu
    exact hu
   ·cases hu
theorem wz(ad:Addr)(m j:Nat)(hj:0<j):ad.add (m+j)=⟨(ad.add m).block,(ad.add m).off+j,none⟩:=by
 unfold Addr.add
 by_cases hm:m=0
 ·subst hm
  simp [Nat.ne_of_gt hj]
 ·simp [hm,Nat.add_assoc]
section
variable{P:Program}{ops:Array Oper}{rest:List Oper}{o:Oper}{a:Act}{Q:Exit->Act->World->Prop}
theorem MW{w0 W:World}(base:Nat)(hgd:o.guard=none)(s x:Operand)(t e:TypeId)(z:Value)(size bytes:Nat)
 (ho:o.op= .call {callee:= .builtin .append,args:= #[s,x],argTypes:= #[t,t]})
 (ht:P.underlying t=some (.slice e)) (hinfo:(P.info? e).map (λi=>(i.zero,i.size,i.bytes))=some (some z,size,bytes)) (hz:z.cells.size=size) (hs0:0<size) (hb0:0<bytes)
 (v:Value) (n:Nat) (xs ys:List Value) (hs:a.eval s=v) (hx:a.eval x= .slice (some ⟨W.heap.size,0,none⟩) 1 1) (hys:ys.length=size) (h1:∀u∈ys,u.oneCell'=true)
 (HO:W.ownsRow base e size v n xs) (HB:Below base w0 W) (hbase:base<=W.heap.size) (hl:(n+1)*bytes<=140737488355328)
 (h:∀v1 w1,w1.ownsRow base e size v1 (n+1) (xs++ys)->Below base w0 w1->W.grownBy w1 v.ownBlock->(v1.ownBlock=v.ownBlock\/∃b,v1.ownBlock=some b/\W.heap.size<=b)->wpList P ops Q rest (a.put o.dst v1) w1):
 wpList P ops Q (o::rest) a (W.alloc (.cells ys.toArray e)):=by
 obtain⟨i0,hi,hzz⟩:=Option.map_eq_some_iff.1 hinfo
 simp only[Prod.mk.injEq] at hzz
 obtain⟨hz0,hz1,hz2⟩:=hzz
 have hlen:n+1<=140737488355328:=Nat.le_trans (Nat.le_mul_of_pos_right _ hb0) hl
 refine wpList_append_own_at (W.alloc (.cells ys.toArray e)) hgd s x t ho base e i0 z size bytes ht hi hz0 hz1 hz2 hz hs0 v n xs hs (HO.alloc _) ⟨W.heap.size,0,none⟩ 1 1 ys hx (by rw[hys];simp)
  (by simpa using World.news_of_block (cs:=ys.toArray) (t:=e) (fr:=(0,0)) (heap_alloc_new W (.cells ys.toArray e))) h1 (by simp only[maxLen];omega) hl (by simp;omega) ?_
 intro v1 w1 hown hg _ hat
 refine h v1 w1 hown ((HB.alloc hbase _).grown hg (by simp;omega) (own_base HO)) (World.grownBy.trans (World.grownBy_alloc W _ _) hg) ?_
 rcases hat with hat|hat
 ·exact .inl hat
 ·exact .inr ⟨_,hat,by simp⟩
end
theorem own_ne{w:World}{base:Nat}{e t:TypeId}{size n g:Nat}{v:Value}{xs:List Value}{cs:Array Value}(h:w.ownsRow base e size v n xs)(hg:w.heap[g]?=some (.cells cs t (0,0)))(hne:e≠t):some g≠v.ownBlock:=by
 rcases h.2 with⟨rfl,_⟩|⟨g',cap,cur,rfl,_,hh,_⟩
 ·simp [Value.ownBlock]
 ·intro he
  have:g=g':=by simpa [Value.ownBlock] using he
  subst this
  rw[hg] at hh
  injection hh with hh
  injection hh with _ ht
  exact hne ht.symm
theorem PM{w:World}{g:Nat}{t:TypeId}{cs:Array Value}(h:w.heap[g]?=some (.cells cs t (0,0)))(i:Nat)(u:Value):(w.setCell ⟨g,i,none⟩ u).heap[g]?=some (.cells (cs.setIfInBounds i u) t (0,0)):=by
 simp [World.setCell,Array.getElem?_modify,h]
theorem qo{w:World}{g:Nat}{t:TypeId}{cs:Array Value}(h:w.heap[g]?=some (.cells cs t (0,0))){p:Addr}(hp:g≠p.block)(u:Value):(w.setCell p u).heap[g]?=some (.cells cs t (0,0)):=(Below.heap_setCell w p u g hp).trans h
theorem Bj{w:World}{g:Nat}{o:Obj}(h:w.heap[g]?=some o):g<w.heap.size:=(Array.getElem?_eq_some_iff.1 h).1
theorem iy{w:World}{g:Nat}{t:TypeId}{cs:Array Value}(h:w.heap[g]?=some (.cells cs t (0,0)))(i:Nat):w.cell? ⟨g,i,none⟩=cs[i]?:=cell_of_row w g i cs t (0,0) h
theorem pY{w:World}{g:Nat}{t:TypeId}{cs:Array Value}(h:w.heap[g]?=some (.cells cs t (0,0)))(i:Nat):w.frozen? ⟨g,i,none⟩=false:=by simp [World.frozen?,h]
theorem xU{w w1:World}{g:Nat}{o:Obj}{row:Option Nat}(h:w.heap[g]?=some o)(hg:w.grownBy w1 row)(hne:some g≠row):w1.heap[g]?=some o:=(hg.block g (Bj h) hne).trans h
def xe(w w':World)(g:Nat)(row:Option Nat):Prop:=w.heap.size<=w'.heap.size/\∀i,i<w.heap.size->i≠g->some i≠row->w'.heap[i]?=w.heap[i]?
theorem xe.refl(w:World)(g:Nat)(row:Option Nat):xe w w g row:=⟨Nat.le_refl _,λ_ _ _ _=>rfl⟩
theorem xe.of_below{w w1:World}(h:Below w.heap.size w w1)(g:Nat)(row:Option Nat):xe w w1 g row:=⟨h.size,λi hi _ _=>h.block i hi⟩
theorem xe.trans{w w1 w2:World}{g:Nat}{row Ik:Option Nat}(h:xe w w1 g row)(k:xe w1 w2 g Ik)(hr:Ik=row\/∃b,Ik=some b/\w.heap.size<=b):xe w w2 g row:=
 ⟨Nat.le_trans h.1 k.1,λi hi hg hn=>by
  refine(k.2 i (Nat.lt_of_lt_of_le hi h.1) hg ?_).trans (h.2 i hi hg hn)
  rcases hr with rfl|⟨b,rfl,hb⟩
  ·exact hn
  ·intro e
   injection e with e
   omega⟩
theorem xe.blk{w w1:World}{g g':Nat}{row:Option Nat}{o:Obj}(h:xe w w1 g row)(hb:w.heap[g']?=some o)(hg:g'≠g)(hr:some g'≠row):w1.heap[g']?=some o:=(h.2 g' (Bj hb) hg hr).trans hb
theorem xe.own{w w1:World}{g:Nat}{row:Option Nat}{base:Nat}{e:TypeId}{size n:Nat}{v:Value}{xs:List Value}(h:xe w w1 g row)(ho:w.ownsRow base e size v n xs)(hg:v.ownBlock≠some g)(hr:v.ownBlock=none\/v.ownBlock≠row):w1.ownsRow base e size v n xs:=by
 obtain⟨h1,h2⟩:=ho
 refine⟨h1,?_⟩
 rcases h2 with h2|⟨b,cap,cur,rfl,hb,hh,r⟩
 ·exact .inl h2
 ·refine .inr ⟨b,cap,cur,rfl,hb,h.blk hh ?_ ?_,r⟩
  ·intro e
   exact hg (by rw[<-e];rfl)
  ·rcases hr with hr|hr
   ·simp [Value.ownBlock] at hr
   ·exact hr
def Ev{α:Type}(g:Nat->Option α)(r:α):Prop:=∃K,∀k,K<=k->g k=some r
theorem Ev.of{α:Type}{g:Nat->Option α}{r:α}(hg:∀k,rP (g k) (g (k+1))){k:Nat}(h:g k=some r):Ev g r:=⟨k,λ_ hk=>X0 hg hk h⟩
theorem Ev.now{α:Type}(r:α):Ev (λ_=>some r) r:=⟨0,λ_ _=>rfl⟩
theorem Ev.bind{α β:Type}{g:Nat->Option α}{f:Nat->α->Option β}{a:α}{r:β}(h:Ev g a)(k:Ev (λn=>f n a) r):Ev (λn=>(g n).bind (f n)) r:=by
 obtain⟨K,h⟩:=h
 obtain⟨K',k⟩:=k
 refine⟨max K K',λn hn=>?_⟩
 have h1:=h n (by omega)
 have h2:=k n (by omega)
 simp only[h1,Option.bind_some]
 exact h2
theorem Ev.step{α:Type}{g f:Nat->Option α}{r:α}(h:∀k,g (k+1)=f k)(k:Ev f r):Ev g r:=by
 obtain⟨K,k⟩:=k
 refine⟨K+1,λn hn=>?_⟩
 obtain⟨m,rfl⟩:∃m,n=m+1:=⟨n-1,by omega⟩
 rw[h]
 exact k m (by omega)
theorem Ev.congr{α:Type}{g f:Nat->Option α}{r:α}(h:∀k,g k=f k)(k:Ev f r):Ev g r:=by
 obtain⟨K,k⟩:=k
 exact⟨K,λn hn=>(h n).trans (k n hn)⟩
section
variable{P:Program}{ops:Array Oper}{o:Oper}{a:Act}{Q:Exit->Act->World->Prop}{K:Act->World->Prop}
theorem Sr{w0 W:World}(base:Nat)(hw:Region.wanted o (yielded ops a.tmps)=true)(s x:Operand)(t e:TypeId)(z:Value)(size bytes:Nat)
 (ho:o.op= .call {callee:= .builtin .append,args:= #[s,x],argTypes:= #[t,t]})
 (ht:P.underlying t=some (.slice e)) (hinfo:(P.info? e).map (λi=>(i.zero,i.size,i.bytes))=some (some z,size,bytes)) (hz:z.cells.size=size) (hs0:0<size) (hb0:0<bytes)
 (v:Value) (n:Nat) (xs ys:List Value) (hs:a.eval s=v) (hx:a.eval x= .slice (some ⟨W.heap.size,0,none⟩) 1 1) (hys:ys.length=size) (h1:∀u∈ys,u.oneCell'=true)
 (HO:W.ownsRow base e size v n xs) (HB:Below base w0 W) (hbase:base<=W.heap.size) (hl:(n+1)*bytes<=140737488355328)
 (h:∀v1 w1,w1.ownsRow base e size v1 (n+1) (xs++ys)->Below base w0 w1->W.grownBy w1 v.ownBlock->(v1.ownBlock=v.ownBlock\/∃b,v1.ownBlock=some b/\W.heap.size<=b)->K (a.put o.dst v1) w1):
 if Region.wanted o (yielded ops a.tmps)=true then Oper.wp P o a (W.alloc (.cells ys.toArray e)) K Q else K (a.put o.dst undef) (W.alloc (.cells ys.toArray e)):=by
 obtain⟨i0,hi,hzz⟩:=Option.map_eq_some_iff.1 hinfo
 simp only[Prod.mk.injEq] at hzz
 obtain⟨hz0,hz1,hz2⟩:=hzz
 have hlen:n+1<=140737488355328:=Nat.le_trans (Nat.le_mul_of_pos_right _ hb0) hl
 rw[if_pos hw]
 obtain⟨v1,w1,hr,hown,hg,_,hat⟩:=run_append_own_at (P:=P) (W.alloc (.cells ys.toArray e)) base t o.type e i0 z size bytes ht hi hz0 hz1 hz2 hz hs0 v n xs (HO.alloc _) ⟨W.heap.size,0,none⟩ 1 1 ys (by rw[hys];simp)
  (by simpa using World.news_of_block (cs:=ys.toArray) (t:=e) (fr:=(0,0)) (heap_alloc_new W (.cells ys.toArray e))) h1 (by simp only[maxLen];omega) hl (by simp;omega)
 unfold Oper.wp execOp
 simp only[ho,resolve,invoke,builtin,Sem.run_bind,Sem.run_pure,Result.andThen_ok,List.map_toArray,List.map_cons,List.map_nil,hs,hx,hr]
 refine h v1 w1 hown ((HB.alloc hbase _).grown hg (by simp;omega) (own_base HO)) (World.grownBy.trans (World.grownBy_alloc W _ _) hg) ?_
 rcases hat with hat|hat
 ·exact .inl hat
 ·exact .inr ⟨_,hat,by simp⟩
end
theorem UH{w:World}{base base':Nat}{e:TypeId}{size n:Nat}{v:Value}{xs:List Value}(h:w.ownsRow base e size v n xs)(hb:base'<=base):w.ownsRow base' e size v n xs:=by
 obtain⟨h1,h2⟩:=h
 refine⟨h1,?_⟩
 rcases h2 with h2|⟨g,cap,cur,rfl,hg,r⟩
 ·exact .inl h2
 ·exact .inr ⟨g,cap,cur,rfl,Nat.le_trans hb hg,r⟩
section
variable{α:Type}{enc:α->Value}{d:α}
def encs(enc:α->Value)(xs:List α):List Value:=xs.map enc
def FU(d:α)(xs:List α)(i:Int):α:=xs.getD i.toNat d
theorem OI(xs:List α):(encs enc xs).length=xs.length:=by simp [encs]
theorem WH(xs:List α)(j:Nat)(h:j<xs.length):(encs enc xs)[j]?=some (enc (xs.getD j d)):=by
 simp [encs,List.getElem?_eq_getElem h,List.getD_eq_getElem?_getD]
def tH(enc:α->Value)(d:α)(w:World)(A:Option Addr)(n:Nat)(xs:List α):Prop:=
 xs.length=n/\n<=9223372036854775807/\(0<n->∃ad,A=some ad/\∀j,j<n->w.cell? (ad.add j)=some (enc (xs.getD j d)))
theorem tH.at_{w:World}{A:Option Addr}{n:Nat}{xs:List α}(h:tH enc d w A n xs)(i:Int)(h0:0<=i)(h1:i<n):∃ad,A=some ad/\w.cell? (ad.add i.toNat)=some (enc (FU d xs i)):=by
 obtain⟨ad,e,hc⟩:=h.2.2 (by omega)
 exact⟨ad,e,hc _ (by omega)⟩
theorem tH.below{w w1:World}{A:Option Addr}{n:Nat}{xs:List α}(h:tH enc d w A n xs)(hb:Below w.heap.size w w1):tH enc d w1 A n xs:=
 ⟨h.1,h.2.1,λhn=>by
  obtain⟨ad,e,hc⟩:=h.2.2 hn
  exact⟨ad,e,λj hj=>IA hb (hc j hj)⟩⟩
theorem tH.jI{w:World}{A:Option Addr}{n:Nat}{xs:List α}(h:tH enc d w A n xs)(i:Nat)(hi:i<=n):tH enc d w A i (xs.take i):=by
 refine⟨by rw[List.length_take,h.1];omega,by have:=h.2.1;omega,λhp=>?_⟩
 obtain⟨ad,e,hc⟩:=h.2.2 (by omega)
 refine⟨ad,e,λj hj=>?_⟩
 rw[hc j (by omega)]
 simp [List.getD_eq_getElem?_getD,hj]
theorem UN{W:World}{base g n cap:Nat}{e:TypeId}{xs:List α}(h:W.ownsRow base e 1 (.slice (some ⟨g,0,none⟩) n cap) n (encs enc xs))(i:Int)(h0:0<=i)(h1:i<n):
 W.cell? ⟨g,i.toNat,none⟩=some (enc (FU d xs i))/\W.frozen? ⟨g,i.toNat,none⟩=false:=by
 have hl:xs.length=n:=by have:=h.1;simp [encs] at this;exact this
 constructor
 ·have hc:=h.cells (g:=g) rfl i.toNat _ (WH (d:=d) xs i.toNat (by omega))
  rwa [add_plain] at hc
 ·rcases h.2 with⟨h',_⟩|⟨g',cap',cur,h',_,hh,_⟩
  ·cases h'
  ·have:g=g':=by injection h' with h';injection h' with h';injection h' with h'
   subst this
   simp [World.frozen?,hh]
theorem UI{W:World}{base g n cap:Nat}{e:TypeId}{xs:List α}(h:W.ownsRow base e 1 (.slice (some ⟨g,0,none⟩) n cap) n (encs enc xs))(i:Int)(x:α):
 (W.setCell ⟨g,i.toNat,none⟩ (enc x)).ownsRow base e 1 (.slice (some ⟨g,0,none⟩) n cap) n (encs enc (xs.set i.toNat x))/\W.grownBy (W.setCell ⟨g,i.toNat,none⟩ (enc x)) (some g):=by
 have hs:=h.stored i.toNat (enc x)
 have he:(encs enc xs).set i.toNat (enc x)=encs enc (xs.set i.toNat x):=by simp [encs,List.map_set]
 rwa [he] at hs
end
theorem iL{w:World}{g:Nat}{o:Obj}(h:w.heap[g]?=some o)(o':Obj):(w.alloc o').heap[g]?=some o:=(Below.heap_alloc w o' g (Bj h)).trans h
theorem iC{w:World}{g:Nat}{o:Obj}(h:w.heap[g]?=some o):w.drew.heap[g]?=some o:=h
theorem iM{w:World}{g:Nat}{o:Obj}(h:w.heap[g]?=some o)(n:Nat):(w.drewN n).heap[g]?=some o:=h
theorem Df{w w1:World}{g:Nat}{o:Obj}(h:w.heap[g]?=some o)(hb:Below w.heap.size w w1):w1.heap[g]?=some o:=(hb.block g (Bj h)).trans h
theorem XI(w:World)(o:Obj):(w.alloc o).heap[w.heap.size]?=some o:=heap_alloc_new w o
theorem UM{w:World}{base n m c size:Nat}{e:TypeId}{A:Option Addr}{xs:List Value}(h:w.ownsRow base e size (.slice A m c) n xs):m<=c:=by
 rcases h.2 with⟨he,_⟩|⟨g,cap,cur,he,_,_,hnc,_⟩
 ·injection he with _ h2 h3
  omega
 ·injection he with _ h2 h3
  omega
def su{α:Type}(R:α->List Value->Prop)(e:TypeId)(size:Nat)(w:World)(base:Nat)(v:Value)(ps:List α):Prop:=
 ∃inner,w.ownsRow base e size v ps.length inner/\iY R size ps inner
section
variable{α:Type}{R R':α->List Value->Prop}{e:TypeId}{size:Nat}{w w1:World}{base:Nat}{v:Value}{ps:List α}
theorem su.none_(R:α->List Value->Prop)(e:TypeId)(size:Nat)(w:World)(base:Nat):su R e size w base (.slice none 0 0) []:=⟨[],UK _ _ _ _,iY.none _ _⟩
theorem su.uH(h:su R e size w base v ps)(hR:∀p c,R p c->R' p c):su R' e size w base v ps:=by
 obtain⟨inner,ho,hr⟩:=h
 exact⟨inner,ho,hr.uH hR⟩
theorem su.below(h:su R e size w base v ps)(hb:Below w.heap.size w w1):su R e size w1 base v ps:=by
 obtain⟨inner,ho,hr⟩:=h
 exact⟨inner,Uu ho hb,hr⟩
theorem su.reads(h:su R e size w base v ps):∃A c,v= .slice A ps.length c/\ps.length<=c/\vS R size w A ps.length ps:=by
 obtain⟨inner,ho,hr⟩:=h
 obtain⟨A,c,rfl,hrow⟩:=UJ ho hr rfl
 exact⟨A,c,rfl,UM ho,hrow⟩
theorem su.U7(h:su R e size w base v ps){g:Nat}{t:TypeId}{cells:Array Value}(hb:w.heap[g]?=some (.cells cells t (0,0)))(ht:e≠t):some g≠v.ownBlock:=by
 obtain⟨inner,ho,hr⟩:=h
 exact own_ne ho hb ht
end
section
variable{P:Program}{ops:Array Oper}{rest:List Oper}{o:Oper}{a:Act}{Q:Exit->Act->World->Prop}{α:Type}{R:α->List Value->Prop}
theorem su.append{w0 W:World}(base:Nat)(hgd:o.guard=none)(s x:Operand)(t e:TypeId)(z:Value)(size bytes:Nat)
 (ho:o.op= .call {callee:= .builtin .append,args:= #[s,x],argTypes:= #[t,t]})
 (ht:P.underlying t=some (.slice e)) (hinfo:(P.info? e).map (λi=>(i.zero,i.size,i.bytes))=some (some z,size,bytes)) (hz:z.cells.size=size) (hs0:0<size) (hb0:0<bytes)
 (v:Value) (ps:List α) (p:α) (cs:List Value) (hs:a.eval s=v) (hx:a.eval x= .slice (some ⟨W.heap.size,0,none⟩) 1 1) (hp:R p cs) (hcs:cs.length=size) (h1:∀u∈cs,u.oneCell'=true)
 (HO:su R e size W base v ps) (HB:Below base w0 W) (hbase:base<=W.heap.size) (hl:(ps.length+1)*bytes<=140737488355328)
 (h:∀v1 w1,su R e size w1 base v1 (ps++[p])->Below base w0 w1->W.grownBy w1 v.ownBlock->(v1.ownBlock=v.ownBlock\/∃b,v1.ownBlock=some b/\W.heap.size<=b)->wpList P ops Q rest (a.put o.dst v1) w1):
 wpList P ops Q (o::rest) a (W.alloc (.cells cs.toArray e)):=by
 obtain⟨inner,hown,hr⟩:=HO
 refine MW base hgd s x t e z size bytes ho ht hinfo hz hs0 hb0 v ps.length inner cs hs hx hcs h1 hown HB hbase hl ?_
 intro v1 w1 hown1 hb1 hg1 AU
 exact h v1 w1 ⟨inner++cs,by rw[List.length_append,List.length_singleton];exact hown1,hr.snoc hp hcs⟩ hb1 hg1 AU
end
theorem vS.VK{α:Type}{R:α->List Value->Prop}{size:Nat}{w:World}{ad:Addr}{n:Nat}{ps:List α}(h:vS R size w (some ad) n ps):
 ∃inner,iY R size ps inner/\∀j u,inner[j]?=some u->w.cell? (ad.add j)=some u:=by
 have key:∀m,m<=ps.length->∃inner,iY R size (ps.take m) inner/\∀j u,inner[j]?=some u->w.cell? (ad.add j)=some u:=by
  intro m
  induction m with
  |zero=>exact λ_=>⟨[],iY.none _ _,λj u hu=>by simp at hu⟩
  |succ m ih=>
   intro hm
   obtain⟨inner,hr,hc⟩:=ih (by omega)
   obtain⟨ad',he,hcell⟩:=h.2.2 (by have:=h.1;omega)
   injection he with he
   subst he
   obtain⟨c,hcl,hp,hcc⟩:=hcell m _ (List.getElem?_eq_getElem (show m<ps.length by omega))
   refine⟨inner++c,?_,λj u hu=>?_⟩
   ·rw[List.take_succ_eq_append_getElem (show m<ps.length by omega)]
    exact hr.snoc hp hcl
   ·have hil:inner.length=m*size:=by rw[hr.1,List.length_take,Nat.min_eq_left (by omega)]
    rcases Nat.lt_or_ge j inner.length with hj|hj
    ·rw[List.getElem?_append_left hj] at hu
     exact hc j u hu
    ·rw[List.getElem?_append_right hj] at hu
     have:=hcc (j-inner.length) u hu
     rwa [hil,Nat.add_sub_cancel' (by omega)] at this
 obtain⟨inner,hr,hc⟩:=key ps.length (Nat.le_refl _)
 rw[List.take_length] at hr
 exact⟨inner,hr,hc⟩
section
variable{α:Type}{P:Program}
theorem MV(enc:α->Value)(d:α)(t e:TypeId)(kl:IntKind){i:TypeInfo}(ht:P.underlying t=some (.slice e))(hi:P.info? e=some i)(hsz:i.size=1)(A:Option Addr)(c:Nat)(xs:List α)(j:Int)(h0:0<=j)(hm:j<=xs.length)(hc:xs.length<=c):
 (∀W:World,(Instr.slice t (.slice A xs.length c) none (some (.int kl j)) none).run P W= .ok (.slice A (xs.take j.toNat).length c) W)/\
  (∀w:World,tH enc d w A xs.length xs->tH enc d w A (xs.take j.toNat).length (xs.take j.toNat))/\(xs.take j.toNat).length<=c:=by
 have hl:(xs.take j.toNat).length=j.toNat:=by rw[List.length_take];omega
 refine⟨λW=>?_,λw h=>by rw[hl];exact h.jI j.toNat (by omega),by rw[hl];omega⟩
 have hel:P.elem t=e:=by simp [Program.elem,ht]
 have hu:P.underlying t=some (.slice (P.elem t)):=by rw[hel];exact ht
 have ha:(A.map λx=>x.add 0)=A:=by cases A<;>simp [Addr.add]
 rw[run_slice_h W t A xs.length c hu kl j h0 (by omega),hel,hl]
 simp [sizeOf,typeInfo,hi,hsz,sliced,Result.andThen,ha]
end
structure Kd (α:Type) where
 sz:Nat
 E:List Nat
 K:World->α->List Value->Prop
 M:World->Nat->(Nat->Prop)->α->List Value->Prop
 rU:∀{w x cs},K w x cs->cs.length=sz
 rQ:∀{w x cs},K w x cs->∀u∈cs,u.oneCell'=true
 wG:∀{w w1:World} {x cs},Below w.heap.size w w1->K w x cs->K w1 x cs
 qQ:∀{w base ok x cs},M w base ok x cs->K w x cs
 oq:∀{w base ok ok' x cs},(∀k,ok k->ok' k)->M w base ok x cs->M w base ok' x cs
 sD:∀{w:World} {base ok x cs},M w base ok x cs->M w base (λk=>ok k/\base<=k/\k<w.heap.size/\∃q,q∈E/\∃cells,w.heap[k]?=some (.cells cells q (0,0))) x cs
 tJ:∀{w w1:World} {base ok x cs},(∀k,ok k->w1.heap[k]?=w.heap[k]?)->M w base ok x cs->M w1 base ok x cs
 wF:∀{w base base' ok x cs},base'<=base->M w base ok x cs->M w base' ok x cs
theorem UL{w w1:World}{base:Nat}{e:TypeId}{size n:Nat}{v:Value}{xs:List Value}(h:w.ownsRow base e size v n xs)(hm:∀k,v.ownBlock=some k->w1.heap[k]?=w.heap[k]?):w1.ownsRow base e size v n xs:=by
 obtain⟨h1,h2⟩:=h
 refine⟨h1,?_⟩
 rcases h2 with h2|⟨g,cap,cur,rfl,hg,hh,r⟩
 ·exact .inl h2
 ·exact .inr ⟨g,cap,cur,rfl,hg,(hm g (by simp [Value.ownBlock])).trans hh,r⟩
theorem FX{w:World}{base:Nat}{e:TypeId}{size n:Nat}{v:Value}{xs:List Value}(h:w.ownsRow base e size v n xs)(k:Nat)(hk:v.ownBlock=some k):∃cells,w.heap[k]?=some (.cells cells e (0,0)):=by
 rcases h.2 with⟨rfl,_⟩|⟨g,cap,cur,rfl,hg,hh,r⟩
 ·simp [Value.ownBlock] at hk
 ·have:g=k:=by simpa [Value.ownBlock] using hk
  subst this
  exact⟨cur,hh⟩
namespace Kd
def C{α:Type}(d:Kd α)(w:World)(A:Option Addr)(n:Nat)(xs:List α):Prop:=vS (d.K w) d.sz w A n xs
def R{α:Type}(d:Kd α)(e:Nat)(w:World)(base:Nat)(ok:Nat->Prop)(v:Value)(xs:List α):Prop:=
 (∀k,v.ownBlock=some k->ok k)/\su (d.M w base (λk=>ok k/\some k≠v.ownBlock)) e d.sz w base v xs
section
variable{α:Type}{d:Kd α}{e:Nat}{w w1:World}{base:Nat}{ok ok':Nat->Prop}{v:Value}{xs:List α}
theorem iR{A:Option Addr}{n:Nat}(h:d.C w A n xs)(hb:Below w.heap.size w w1):d.C w1 A n xs:=vS.uH h hb (λ_ _ hp=>d.wG hb hp)
theorem qN(d:Kd α)(e:Nat)(w:World)(base:Nat)(ok:Nat->Prop):d.R e w base ok (.slice none 0 0) []:=⟨λk hk=>by simp [Value.ownBlock] at hk,su.none_ _ _ _ _ _⟩
theorem iZ(h:d.R e w base ok v xs)(hok:∀k,ok k->ok' k):d.R e w base ok' v xs:=⟨λk hk=>hok k (h.1 k hk),h.2.uH (λ_ _ hp=>d.oq (λk hk=>⟨hok k hk.1,hk.2⟩) hp)⟩
theorem wE(h:d.R e w base ok v xs):d.R e w base (λk=>ok k/\base<=k/\k<w.heap.size/\∃q,q∈e::d.E/\∃cells,w.heap[k]?=some (.cells cells q (0,0))) v xs:=by
 obtain⟨h0,inner,ho,hr⟩:=h
 refine⟨λk hk=>?_,inner,ho,hr.uH (λ_ _ hp=>d.oq (λk hk=>?_) (d.sD hp))⟩
 ·obtain⟨cells,hc⟩:=FX ho k hk
  exact⟨h0 k hk,own_base ho k hk,Nb ho k hk,e,List.mem_cons_self,cells,hc⟩
 ·obtain⟨⟨h1,h2⟩,h3,h4,q,hq,hc⟩:=hk
  exact⟨⟨h1,h3,h4,q,List.mem_cons_of_mem _ hq,hc⟩,h2⟩
theorem Dq(h:d.R e w base ok v xs)(hm:∀k,ok k->w1.heap[k]?=w.heap[k]?):d.R e w1 base ok v xs:=by
 obtain⟨h0,inner,ho,hr⟩:=h
 exact⟨h0,inner,UL ho (λk hk=>hm k (h0 k hk)),hr.uH (λ_ _ hp=>d.tJ (λk hk=>hm k hk.1) hp)⟩
theorem zI{base':Nat}(h:d.R e w base ok v xs)(hb:base'<=base):d.R e w base' ok v xs:=by
 obtain⟨h0,inner,ho,hr⟩:=h
 exact⟨h0,inner,UH ho hb,hr.uH (λ_ _ hp=>d.wF hb hp)⟩
theorem EZ(h:d.R e w base ok v xs)(hm:∀k,ok k->k<w.heap.size->w1.heap[k]?=w.heap[k]?):d.R e w1 base ok v xs:=
 iZ (Dq (wE h) (λk hk=>hm k hk.1 hk.2.2.1)) (λ_ hk=>hk.1)
theorem Qy{x:α}{cs:List Value}(h:d.M w base ok x cs)(hm:∀k,ok k->k<w.heap.size->w1.heap[k]?=w.heap[k]?):d.M w1 base ok x cs:=
 d.oq (λ_ hk=>hk.1) (d.tJ (λk hk=>hm k hk.1 hk.2.2.1) (d.sD h))
theorem E5(h:d.R e w base ok v xs)(hb:Below w.heap.size w w1):d.R e w1 base ok v xs:=EZ h (λk _ hk=>hb.block k hk)
theorem Qz{x:α}{cs:List Value}(h:d.M w base ok x cs)(hb:Below w.heap.size w w1):d.M w1 base ok x cs:=Qy h (λk _ hk=>hb.block k hk)
theorem rM(h:d.R e w base ok v xs){p:Addr}(hok:∀k,ok k->k≠p.block)(u:Value):d.R e (w.setCell p u) base ok v xs:=EZ h (λk ho _=>Below.heap_setCell w p u k (hok k ho))
theorem mM(h:d.R e w base ok v xs){g t:Nat}{cells:Array Value}(hb:w.heap[g]?=some (.cells cells t (0,0)))(ht:∀q,q∈e::d.E->q≠t):d.R e w base (λk=>ok k/\k≠g) v xs:=
 iZ (wE h) (λk hk=>⟨hk.1,by
  obtain⟨_,_,_,q,hq,cells',hc⟩:=hk
  rintro rfl
  rw[hc] at hb
  injection hb with hb
  injection hb with _ hb
  exact ht q hq hb⟩)
theorem JI(h:d.R e w base ok v xs):∃A c,v= .slice A xs.length c/\xs.length<=c/\d.C w A xs.length xs:=by
 obtain⟨A,c,he,hl,hr⟩:=su.reads h.2
 exact⟨A,c,he,hl,hr.uH (Below.refl _ _) (λ_ _ hp=>d.qQ hp)⟩
theorem iD(h:d.R e w base ok v xs):∃A c,v= .slice A xs.length c:=by
 obtain⟨A,c,he,_⟩:=JI h
 exact⟨A,c,he⟩
theorem GU(h:d.R e w base ok v xs):∃inner,w.ownsRow base e d.sz v xs.length inner:=by
 obtain⟨_,inner,ho,_⟩:=h
 exact⟨inner,ho⟩
theorem Bv(h:d.R e w base ok v xs){g t:Nat}{cells:Array Value}(hb:w.heap[g]?=some (.cells cells t (0,0)))(ht:e≠t):some g≠v.ownBlock:=su.U7 h.2 hb ht
end
def scalar{α:Type}(enc:α->Value)(h1:∀x,(enc x).oneCell'=true):Kd α where
 sz:=1
 E:=[]
 K:=λ_ x cs=>cs=[enc x]
 M:=λ_ _ _ x cs=>cs=[enc x]
 rU:=λh=>by rw[h];rfl
 rQ:=λh u hu=>by
  rw[h] at hu
  rw[List.mem_singleton.1 hu]
  exact h1 _
 wG:=λ_ h=>h
 qQ:=λh=>h
 oq:=λ_ h=>h
 sD:=λh=>h
 tJ:=λ_ h=>h
 wF:=λ_ h=>h
def int(k:IntKind):Kd Int:=scalar (Value.int k) (λ_=>rfl)
def bool:Kd Bool:=scalar Value.bool (λ_=>rfl)
def slice{α:Type}(e:Nat)(d:Kd α):Kd (List α) where
 sz:=1
 E:=e::d.E
 K:=λw xs cs=>∃A c,cs=[.slice A xs.length c]/\xs.length<=c/\d.C w A xs.length xs
 M:=λw base ok xs cs=>∃v,cs=[v]/\d.R e w base ok v xs
 rU:=by
  rintro w x cs ⟨A,c,rfl,_⟩
  rfl
 rQ:=by
  rintro w x cs ⟨A,c,rfl,_⟩ u hu
  rw[List.mem_singleton.1 hu]
  rfl
 wG:=by
  rintro w w1 x cs hb ⟨A,c,rfl,hl,hr⟩
  exact⟨A,c,rfl,hl,iR hr hb⟩
 qQ:=by
  rintro w base ok x cs ⟨v,rfl,h⟩
  obtain⟨A,c,rfl,hl,hr⟩:=JI h
  exact⟨A,c,rfl,hl,hr⟩
 oq:=by
  rintro w base ok ok' x cs hok ⟨v,rfl,h⟩
  exact⟨v,rfl,iZ h hok⟩
 sD:=by
  rintro w base ok x cs ⟨v,rfl,h⟩
  exact⟨v,rfl,wE h⟩
 tJ:=by
  rintro w w1 base ok x cs hm ⟨v,rfl,h⟩
  exact⟨v,rfl,Dq h hm⟩
 wF:=by
  rintro w base base' ok x cs hb ⟨v,rfl,h⟩
  exact⟨v,rfl,zI h hb⟩
def pair{α β:Type}(a:Kd α)(b:Kd β):Kd (α×β) where
 sz:=a.sz+b.sz
 E:=a.E++b.E
 K:=λw x cs=>∃c0 c1,cs=c0++c1/\a.K w x.1 c0/\b.K w x.2 c1
 M:=λw base ok x cs=>∃c0 c1,cs=c0++c1/\a.M w base ok x.1 c0/\b.M w base ok x.2 c1
 rU:=by
  rintro w x cs ⟨c0,c1,rfl,h0,h1⟩
  rw[List.length_append,a.rU h0,b.rU h1]
 rQ:=by
  rintro w x cs ⟨c0,c1,rfl,h0,h1⟩ u hu
  rcases List.mem_append.1 hu with hu|hu
  ·exact a.rQ h0 u hu
  ·exact b.rQ h1 u hu
 wG:=by
  rintro w w1 x cs hb ⟨c0,c1,rfl,h0,h1⟩
  exact⟨c0,c1,rfl,a.wG hb h0,b.wG hb h1⟩
 qQ:=by
  rintro w base ok x cs ⟨c0,c1,rfl,h0,h1⟩
  exact⟨c0,c1,rfl,a.qQ h0,b.qQ h1⟩
 oq:=by
  rintro w base ok ok' x cs hok ⟨c0,c1,rfl,h0,h1⟩
  exact⟨c0,c1,rfl,a.oq hok h0,b.oq hok h1⟩
 sD:=by
  rintro w base ok x cs ⟨c0,c1,rfl,h0,h1⟩
  refine⟨c0,c1,rfl,a.oq ?_ (a.sD h0),b.oq ?_ (b.sD h1)⟩
  ·rintro k ⟨h2,h3,h4,q,hq,hc⟩
   exact⟨h2,h3,h4,q,List.mem_append_left _ hq,hc⟩
  ·rintro k ⟨h2,h3,h4,q,hq,hc⟩
   exact⟨h2,h3,h4,q,List.mem_append_right _ hq,hc⟩
 tJ:=by
  rintro w w1 base ok x cs hm ⟨c0,c1,rfl,h0,h1⟩
  exact⟨c0,c1,rfl,a.tJ hm h0,b.tJ hm h1⟩
 wF:=by
  rintro w base base' ok x cs hb ⟨c0,c1,rfl,h0,h1⟩
  exact⟨c0,c1,rfl,a.wF hb h0,b.wF hb h1⟩
def Oo{α β:Type}(d:Kd α)(f:β->α):Kd β where
 sz:=d.sz
 E:=d.E
 K:=λw x cs=>d.K w (f x) cs
 M:=λw base ok x cs=>d.M w base ok (f x) cs
 rU:=d.rU
 rQ:=d.rQ
 wG:=d.wG
 qQ:=d.qQ
 oq:=d.oq
 sD:=d.sD
 tJ:=d.tJ
 wF:=d.wF
theorem zK{α:Type}{d:Kd α}{w:World}{A:Option Addr}{n:Nat}{xs:List α}(h:d.C w A n xs)(z:α)(i:Int)(h0:0<=i)(h1:i<n):
 ∃ad c,A=some ad/\c.length=d.sz/\d.K w (xs.getD i.toNat z) c/\∀j u,c[j]?=some u->w.cell? (ad.add (i.toNat*d.sz+j))=some u:=vS.Wu h z i h0 h1
theorem Qn{α:Type}{d:Kd α}{e base:Nat}{ok je:Nat->Prop}{W w1:World}{v v1:Value}{xs:List α}{p:α}{inner cs:List Value}(h0:∀k,v.ownBlock=some k->ok k)(hr:iY (d.M W base (λk=>ok k/\some k≠v.ownBlock)) d.sz xs inner)(hp:d.M W base je p cs)(pW:∀k,je k->ok k/\some k≠v.ownBlock)(hfresh:∀k,W.heap.size<=k->ok k)
 (hown:w1.ownsRow base e d.sz v1 (xs.length+1) (inner++cs)) (hg:W.grownBy w1 v.ownBlock) (hat:v1.ownBlock=v.ownBlock\/∃b,v1.ownBlock=some b/\W.heap.size<=b):d.R e w1 base ok v1 (xs++[p]):=by
 have hne:∀k,some k≠v.ownBlock->k<W.heap.size->some k≠v1.ownBlock:=by
  intro k hk hlt
  rcases hat with hat|⟨b,hb,hle⟩
  ·rw[hat];exact hk
  ·rw[hb]
   intro he
   injection he with he
   omega
 have step:∀{q:α} {c:List Value} {o:Nat->Prop},d.M W base o q c->(∀k,o k->ok k/\some k≠v.ownBlock)->d.M w1 base (λk=>ok k/\some k≠v1.ownBlock) q c:=by
  intro q c o hq ho
  have h1:=d.tJ (w1:=w1) (λk hk=>hg.block k hk.2.2.1 (ho k hk.1).2) (d.sD hq)
  exact d.oq (λk hk=>⟨(ho k hk.1).1,hne k (ho k hk.1).2 hk.2.2.1⟩) h1
 refine⟨λk hk=>?_,inner++cs,by rw[List.length_append,List.length_singleton];exact hown,?_⟩
 ·rcases hat with hat|⟨b,hb,hle⟩
  ·exact h0 k (hat ▸ hk)
  ·rw[hb] at hk
   injection hk with hk
   exact hfresh k (by omega)
 ·exact(hr.uH (λ_ _ hq=>step hq (λ_ hk=>hk))).snoc (step hp pW) (d.rU (d.qQ hp))
section
variable{P:Program}{ops:Array Oper}{rest:List Oper}{o:Oper}{a:Act}{Q:Exit->Act->World->Prop}{α:Type}
theorem yU(d:Kd α){w0 W:World}(base:Nat)(hgd:o.guard=none)(s x:Operand)(t e:TypeId)(z:Value)(bytes:Nat)
 (ho:o.op= .call {callee:= .builtin .append,args:= #[s,x],argTypes:= #[t,t]})
 (ht:P.underlying t=some (.slice e)) (hinfo:(P.info? e).map (λi=>(i.zero,i.size,i.bytes))=some (some z,d.sz,bytes)) (hz:z.cells.size=d.sz) (hs0:0<d.sz) (hb0:0<bytes)
 (v:Value) (xs:List α) (p:α) (cs:List Value) (ok je:Nat->Prop) (hs:a.eval s=v) (hx:a.eval x= .slice (some ⟨W.heap.size,0,none⟩) 1 1) (hp:d.M W base je p cs) (pW:∀k,je k->ok k/\some k≠v.ownBlock) (hfresh:∀k,W.heap.size<=k->ok k)
 (HO:d.R e W base ok v xs) (HB:Below base w0 W) (hbase:base<=W.heap.size) (hl:(xs.length+1)*bytes<=140737488355328)
 (h:∀v1 w1,d.R e w1 base ok v1 (xs++[p])->Below base w0 w1->W.grownBy w1 v.ownBlock->(v1.ownBlock=v.ownBlock\/∃b,v1.ownBlock=some b/\W.heap.size<=b)->wpList P ops Q rest (a.put o.dst v1) w1):
 wpList P ops Q (o::rest) a (W.alloc (.cells cs.toArray e)):=by
 obtain⟨h0,inner,hown,hr⟩:=HO
 refine MW base hgd s x t e z d.sz bytes ho ht hinfo hz hs0 hb0 v xs.length inner cs hs hx (d.rU (d.qQ hp)) (d.rQ (d.qQ hp)) hown HB hbase hl ?_
 intro v1 w1 hown1 hb1 hg1 AU
 exact h v1 w1 (Qn h0 hr hp pW hfresh hown1 hg1 AU) hb1 hg1 AU
end
section
variable{P:Program}{ops:Array Oper}{o:Oper}{a:Act}{Q:Exit->Act->World->Prop}{Kc:Act->World->Prop}{α:Type}
theorem Yw(d:Kd α){w0 W:World}(base:Nat)(hw:Region.wanted o (yielded ops a.tmps)=true)(s x:Operand)(t e:TypeId)(z:Value)(bytes:Nat)
 (ho:o.op= .call {callee:= .builtin .append,args:= #[s,x],argTypes:= #[t,t]})
 (ht:P.underlying t=some (.slice e)) (hinfo:(P.info? e).map (λi=>(i.zero,i.size,i.bytes))=some (some z,d.sz,bytes)) (hz:z.cells.size=d.sz) (hs0:0<d.sz) (hb0:0<bytes)
 (v:Value) (xs:List α) (p:α) (cs:List Value) (ok je:Nat->Prop) (hs:a.eval s=v) (hx:a.eval x= .slice (some ⟨W.heap.size,0,none⟩) 1 1) (hp:d.M W base je p cs) (pW:∀k,je k->ok k/\some k≠v.ownBlock) (hfresh:∀k,W.heap.size<=k->ok k)
 (HO:d.R e W base ok v xs) (HB:Below base w0 W) (hbase:base<=W.heap.size) (hl:(xs.length+1)*bytes<=140737488355328)
 (h:∀v1 w1,d.R e w1 base ok v1 (xs++[p])->Below base w0 w1->W.grownBy w1 v.ownBlock->(v1.ownBlock=v.ownBlock\/∃b,v1.ownBlock=some b/\W.heap.size<=b)->Kc (a.put o.dst v1) w1):
 if Region.wanted o (yielded ops a.tmps)=true then Oper.wp P o a (W.alloc (.cells cs.toArray e)) Kc Q else Kc (a.put o.dst undef) (W.alloc (.cells cs.toArray e)):=by
 obtain⟨h0,inner,hown,hr⟩:=HO
 refine Sr base hw s x t e z d.sz bytes ho ht hinfo hz hs0 hb0 v xs.length inner cs hs hx (d.rU (d.qQ hp)) (d.rQ (d.qQ hp)) hown HB hbase hl ?_
 intro v1 w1 hown1 hb1 hg1 AU
 exact h v1 w1 (Qn h0 hr hp pW hfresh hown1 hg1 AU) hb1 hg1 AU
end
theorem TW{α:Type}{enc:α->Value}(xs:List α):iY (λ(x:α) (cs:List Value)=>cs=[enc x]) 1 xs (encs enc xs):=by
 refine⟨by simp [encs],λj p hj=>?_⟩
 obtain⟨hl,hp⟩:=List.getElem?_eq_some_iff.1 hj
 have hl':j<(encs enc xs).length:=by rw[OI];exact hl
 rw[Nat.mul_one,List.drop_eq_getElem_cons hl']
 simp [encs,hp]
theorem Yp{α:Type}{enc:α->Value}{h1:∀x,(enc x).oneCell'=true}{e:Nat}{w:World}{base:Nat}{ok:Nat->Prop}{v:Value}{xs:List α}(ho:w.ownsRow base e 1 v xs.length (encs enc xs))(hok:∀k,v.ownBlock=some k->ok k):(scalar enc h1).R e w base ok v xs:=⟨hok,encs enc xs,ho,TW xs⟩
theorem Na{α:Type}{enc:α->Value}{h1:∀x,(enc x).oneCell'=true}{e:Nat}{w:World}{base:Nat}{ok:Nat->Prop}{v:Value}{xs:List α}(h:(scalar enc h1).R e w base ok v xs):w.ownsRow base e 1 v xs.length (encs enc xs):=by
 obtain⟨_,inner,ho,hr⟩:=h
 have:inner=encs enc xs:=by
  apply List.ext_getElem?
  intro j
  rcases Nat.lt_or_ge j xs.length with hj|hj
  ·have h2:=hr.2 j _ (List.getElem?_eq_getElem hj)
   have hl:j<inner.length:=by have:=hr.1;simp [scalar] at this;omega
   have h3:(inner.drop (j*1)).take 1=[enc xs[j]]:=h2
   rw[Nat.mul_one,List.drop_eq_getElem_cons hl] at h3
   have h4:inner[j]=enc xs[j]:=by
    have h5:=congrArg List.head? h3
    rw[List.take_succ_cons] at h5
    exact Option.some.inj h5
   rw[List.getElem?_eq_getElem hl,h4]
   simp [encs,List.getElem?_eq_getElem hj]
  ·have h3:inner.length=xs.length:=by have:=hr.1;simp [scalar] at this;omega
   rw[List.getElem?_eq_none (by omega),List.getElem?_eq_none (by rw[OI];omega)]
 rw[<-this]
 exact ho
theorem G9{α:Type}{enc:α->Value}{d:α}{h1:∀x,(enc x).oneCell'=true}{w:World}{A:Option Addr}{n:Nat}{xs:List α}(h:tH enc d w A n xs):(scalar enc h1).C w A n xs:=by
 refine⟨h.1,h.2.1,λhn=>?_⟩
 obtain⟨ad,e,hc⟩:=h.2.2 hn
 refine⟨ad,e,λj p hj=>⟨[enc p],rfl,rfl,λi u hu=>?_⟩⟩
 obtain⟨hl,hp⟩:=List.getElem?_eq_some_iff.1 hj
 have h2:=hc j (by have:=h.1;omega)
 rw[List.getD_eq_getElem?_getD,hj] at h2
 cases i with
 |zero=>
  have:enc p=u:=by simpa using hu
  subst this
  simpa [scalar] using h2
 |succ i=>simp at hu
theorem Ip{α:Type}{enc:α->Value}{d:α}{h1:∀x,(enc x).oneCell'=true}{w:World}{A:Option Addr}{n:Nat}{xs:List α}(h:(scalar enc h1).C w A n xs):tH enc d w A n xs:=by
 refine⟨h.1,h.2.1,λhn=>?_⟩
 obtain⟨ad,e,hc⟩:=h.2.2 hn
 refine⟨ad,e,λj hj=>?_⟩
 have hl:j<xs.length:=by have:=h.1;omega
 obtain⟨c,_,hK,hcell⟩:=hc j _ (List.getElem?_eq_getElem hl)
 have hK':c=[enc xs[j]]:=hK
 subst hK'
 have:=hcell 0 _ rfl
 simpa [scalar,List.getD_eq_getElem?_getD,List.getElem?_eq_getElem hl] using this
end Kd
namespace Kd
theorem JK{α:Type}{d:Kd α}{e base:Nat}{ok:Nat->Prop}{W w1:World}{u v v1:Value}{xs:List α}(h:d.R e W base (λk=>ok k/\some k≠v.ownBlock) u xs)(hg:W.grownBy w1 v.ownBlock)(hat:v1.ownBlock=v.ownBlock\/∃b,v1.ownBlock=some b/\W.heap.size<=b):d.R e w1 base (λk=>ok k/\some k≠v1.ownBlock) u xs:=by
 refine iZ (Dq (wE h) (λk hk=>hg.block k hk.2.2.1 hk.1.2)) (λk hk=>⟨hk.1.1,?_⟩)
 rcases hat with hat|⟨b,hb,hle⟩
 ·rw[hat];exact hk.1.2
 ·rw[hb]
  intro he
  injection he with he
  have:=hk.2.2.1
  omega
theorem JQ{α:Type}{d:Kd α}{e base:Nat}{ok:Nat->Prop}{w:World}{v:Value}{xs:List α}(h:d.R e w base ok v xs):(slice e d).M w base ok xs [v]:=⟨v,rfl,h⟩
end Kd
namespace Kd
section
variable{α β:Type}{d:Kd α}{d':Kd β}{e e':Nat}{w w1 W:World}{base b b':Nat}{ok ok' Ci Nq:Nat->Prop}{v u:Value}{xs:List α}{ys:List β}
theorem iT(h:d.R e w base ok v xs)(o:Obj):d.R e (w.alloc o) base ok v xs:=E5 h (oZ (Below.refl _ _) o)
theorem iJ(h:d.R e w base ok v xs):d.R e w.drew base ok v xs:=E5 h (ES (Below.refl _ _))
theorem iU(h:d.R e w base ok v xs)(m:Nat):d.R e (w.drewN m) base ok v xs:=E5 h (qL (Below.refl _ _) m)
theorem uT{A:Option Addr}{n:Nat}(h:d.C w A n xs)(o:Obj):d.C (w.alloc o) A n xs:=iR h (oZ (Below.refl _ _) o)
theorem uS{A:Option Addr}{n:Nat}(h:d.C w A n xs):d.C w.drew A n xs:=iR h (ES (Below.refl _ _))
theorem uQ{A:Option Addr}{n:Nat}(h:d.C w A n xs)(m:Nat):d.C (w.drewN m) A n xs:=iR h (qL (Below.refl _ _) m)
theorem QH(d:Kd α)(w:World):d.C w none ([]:List α).length []:=⟨rfl,by simp,λh=>absurd h (Nat.lt_irrefl 0)⟩
theorem iw{A:Option Addr}{n c:Nat}(h:d.R e w base ok (.slice A n c) xs):n=xs.length/\n<=c/\d.C w A xs.length xs:=by
 obtain⟨A',c',he,hl,hr⟩:=JI h
 injection he with h1 h2 h3
 subst h1
 exact⟨h2,by omega,hr⟩
theorem qZ(h:d.R e w base ok v xs):∀k,v.ownBlock=some k->k<w.heap.size:=by
 obtain⟨inner,ho⟩:=GU h
 exact Nb ho
theorem pM(h:d.R e w base ok v xs):∀k,v.ownBlock=some k->base<=k:=by
 obtain⟨inner,ho⟩:=GU h
 exact own_base ho
theorem Yv(h:d.R e w base ok v xs){g:Nat}(hok:∀k,ok k->k≠g):some g≠v.ownBlock:=λe=>hok g (h.1 g e.symm) rfl
theorem qO(h:d.R e w base ok v xs)(hp:0<xs.length):∃g cap,v= .slice (some ⟨g,0,none⟩) xs.length cap/\base<=g/\g<w.heap.size/\∃cells,w.heap[g]?=some (.cells cells e (0,0)):=by
 obtain⟨inner,ho⟩:=GU h
 obtain⟨g,cap,he,hb,hl⟩:=ho.form hp
 obtain⟨cells,hc⟩:=FX ho g (by rw[he];simp [Value.ownBlock])
 exact⟨g,cap,he,hb,hl,cells,hc⟩
end
section
variable{w W:World}{A:Option Addr}{n:Nat}
theorem jG{k:IntKind}{xs:List Int}(h:(Kd.int k).C w A n xs)(i:Int)(h0:0<=i)(h1:i<n):∃ad,A=some ad/\w.cell? (ad.add i.toNat)=some (.int k (rd xs i)):=
 tH.at_ (Ip (enc:=Value.int k) (d:=(0:Int)) (h1:=λ_=>rfl) h) i h0 h1
variable{α:Type}{enc:α->Value}{h1:∀x,(enc x).oneCell'=true}{e base g cap:Nat}{ok:Nat->Prop}{xs:List α}
theorem Yu(d:α)(h:(scalar enc h1).R e W base ok (.slice (some ⟨g,0,none⟩) xs.length cap) xs)(i:Int)(h0:0<=i)(hi:i<xs.length):W.cell? ⟨g,i.toNat,none⟩=some (enc (FU d xs i))/\W.frozen? ⟨g,i.toNat,none⟩=false:=UN (Na h) i h0 hi
theorem Qj(h:(scalar enc h1).R e W base ok (.slice (some ⟨g,0,none⟩) xs.length cap) xs)(i:Int)(x:α):(scalar enc h1).R e (W.setCell ⟨g,i.toNat,none⟩ (enc x)) base ok (.slice (some ⟨g,0,none⟩) xs.length cap) (xs.set i.toNat x)/\W.grownBy (W.setCell ⟨g,i.toNat,none⟩ (enc x)) (some g):=by
 obtain⟨ho,hg⟩:=UI (Na h) i x
 exact⟨Yp (by rw[List.length_set];exact ho) h.1,hg⟩
end
section
variable{P:Program}{ops:Array Oper}{rest:List Oper}{o:Oper}{a:Act}{Q:Exit->Act->World->Prop}
theorem OE{W w1:World}{v:Value}(hgd:o.guard=none)(hrun:(execOp a.eval o).run P W= .ok (.value v) w1)(h:wpList P ops Q rest (a.put o.dst v) w1):wpList P ops Q (o::rest) a W:=by
 refine wpList_plain hgd λK hK=>?_
 unfold Oper.wp
 rw[hrun]
 exact hK _ _ h
variable{α:Type}
theorem qG(d:Kd α){w0 W:World}(base e:Nat)(hgd:o.guard=none){N:Tmp}(_hd:o.dst=some N){xs:List α}{inner:List Value}{ok je:Nat->Prop}
 (hrun:(execOp a.eval o).run P W= .ok (.value (.slice (some ⟨W.heap.size,0,none⟩) xs.length xs.length)) (W.alloc (.cells inner.toArray e)))
 (hrep:iY (d.M W base je) d.sz xs inner) (hok:∀k,je k->ok k) (hfresh:ok W.heap.size) (HB:Below base w0 W) (hbase:base<=W.heap.size) (hm:xs.length<=9223372036854775807)
 (h:∀v1 w1,d.R e w1 base ok v1 xs->Below base w0 w1->W.grownBy w1 none->(∃b,v1.ownBlock=some b/\W.heap.size<=b)->wpList P ops Q rest (a.put o.dst v1) w1):wpList P ops Q (o::rest) a W:=by
 refine OE hgd hrun (h _ _ ⟨λk hk=>?_,inner,?_,?_⟩ (HB.alloc hbase _) (World.grownBy_alloc W _ none) ⟨W.heap.size,by simp [Value.ownBlock],Nat.le_refl _⟩)
 ·have:W.heap.size=k:=by simpa [Value.ownBlock] using hk
  subst this
  exact hfresh
 ·have h2:=World.ownsRow_lit (base:=base) (e:=e) (size:=d.sz) W inner.toArray xs.length hbase (by simpa [maxLen] using hm) (by simpa using hrep.1)
  simpa using h2
 ·refine hrep.uH (λp c hp=>d.oq (λk hk=>⟨hok k hk.1,λhe=>?_⟩) (Qz (d.sD hp) (oZ (Below.refl _ _) _)))
  have h3:k=W.heap.size:=by simpa [Value.ownBlock] using he
  have:=hk.2.2.1
  omega
theorem TY{α:Type}{R:α->List Value->Prop}{z:Value}{size:Nat}{z0:α}(hz:z.cells.size=size)(hs:0<size)(h0:R z0 z.cells.toList)(m:Nat):iY R size (List.replicate m z0) (madeCells z.cells (m*size)).toList:=by
 refine⟨by simp [size_madeCells],λj p hj=>?_⟩
 obtain⟨hjl,hp⟩:=List.getElem?_eq_some_iff.1 hj
 have hjm:j<m:=by simpa using hjl
 have hp':z0=p:=by simpa using hp
 subst hp'
 have hle:j*size+size<=m*size:=by rw[<-Nat.succ_mul];exact Nat.mul_le_mul_right _ hjm
 have:((madeCells z.cells (m*size)).toList.drop (j*size)).take size=z.cells.toList:=by
  apply List.ext_getElem
  ·simp [size_madeCells,hz]
   omega
  ·intro i h1 h2
   have hi:i<size:=by rw[Array.length_toList,hz] at h2;exact h2
   have hmod:(j*size+i) % size=i:=by
    rw[Nat.mul_comm,Nat.mul_add_mod]
    exact Nat.mod_eq_of_lt hi
   simp [madeCells,hz,hmod]
   rw[getElem!_pos z.cells i (by omega)]
 rw[this]
 exact h0
theorem ug(d:Kd α){w0 W:World}(base e:Nat)(hgd:o.guard=none){N:Tmp}(hd:o.dst=some N)(t:TypeId)(x y:Operand)(ho:o.op= .makeSlice t x y)(n:Int)(hx:a.eval x= .int .i64 n)(hy:a.eval y= .int .i64 n)
 (ht:P.underlying t=some (.slice e)) (z:Value) (bytes:Nat) (hinfo:(P.info? e).map (λi=>(i.zero,i.size,i.bytes))=some (some z,d.sz,bytes)) (hz:z.cells.size=d.sz) (hs0:0<d.sz) (hb0:0<bytes)
 (z0:α) {ok je:Nat->Prop} (hzero:d.M W base je z0 z.cells.toList) (hok:∀k,je k->ok k) (hfresh:ok W.heap.size) (h0:0<=n) (hl:n.toNat*bytes<=281474976710656) (HB:Below base w0 W) (hbase:base<=W.heap.size)
 (h:∀v1 w1,d.R e w1 base ok v1 (List.replicate n.toNat z0)->Below base w0 w1->W.grownBy w1 none->(∃b,v1.ownBlock=some b/\W.heap.size<=b)->wpList P ops Q rest (a.put o.dst v1) w1):wpList P ops Q (o::rest) a W:=by
 obtain⟨m,rfl⟩:=Int.eq_ofNat_of_zero_le h0
 simp only[Int.toNat_natCast] at hl h
 obtain⟨i0,hi,hzz⟩:=Option.map_eq_some_iff.1 hinfo
 simp only[Prod.mk.injEq] at hzz
 obtain⟨hz0,hz1,hz2⟩:=hzz
 have hm:m<=281474976710656:=Nat.le_trans (Nat.le_mul_of_pos_right _ hb0) hl
 have hr:=run_make (P:=P) W t e i0 z ht hi hz0 .i64 .i64 (m:Int) (m:Int) (by omega) (by omega)
  (by
   have h3:((i0.bytes*m:Nat):Int)<=281474976710656:=by rw[hz2,Nat.mul_comm];omega
   rwa [Int.natCast_mul] at h3) (by omega)
 simp only[Int.toNat_natCast] at hr
 rw[hz1] at hr
 refine qG d base e hgd hd (xs:=List.replicate m z0) (inner:=(madeCells z.cells (m*d.sz)).toList) (je:=je) (ok:=ok) ?_ (TY hz hs0 hzero m) hok hfresh HB hbase (by simp;omega) h
 simp [execOp,ho,hx,hy,hr]
end
end Kd
section
variable{P:Program}
theorem Xe(t e:TypeId)(kh:IntKind){i:TypeInfo}(ht:P.underlying t=some (.slice e))(hi:P.info? e=some i)(A:Option Addr)(n c:Nat)(j:Int)(h0:0<=j)(hm:j<=n)(hc:n<=c):
 ∀W:World,(Instr.slice t (.slice A n c) none (some (.int kh j)) none).run P W= .ok (.slice A j.toNat c) W:=by
 intro W
 have hel:P.elem t=e:=by simp [Program.elem,ht]
 have hu:P.underlying t=some (.slice (P.elem t)):=by rw[hel];exact ht
 have ha:(A.map λx=>x.add 0)=A:=by cases A<;>simp [Addr.add]
 rw[run_slice_h W t A n c hu kh j h0 (by omega),hel]
 simp [sizeOf,typeInfo,hi,sliced,Result.andThen,ha]
end
def Qp(w:World)(base:Nat)(e:TypeId)(size:Nat)(v:Value)(n:Nat)(xs:List Value):Prop:=
 xs.length=n*size/\
 (
  (n=0/\∃A,v= .slice A 0 0/\∀a,A=some a->base<=a.block/\∃cur,w.heap[a.block]?=some (.cells cur e (0,0)))\/
  ∃g off cap cur,v= .slice (some ⟨g,off*size,none⟩) n cap/\base<=g/\w.heap[g]?=some (.cells cur e (0,0))/\n<=cap/\off+cap<=maxLen/\cur.size=(off+cap)*size/\(cur.toList.drop (off*size)).take (n*size)=xs)
section
variable{w w1:World}{base n size:Nat}{e:TypeId}{v:Value}{xs:List Value}
theorem Us(h:w.ownsRow base e size v n xs):Qp w base e size v n xs:=by
 obtain⟨h1,h2⟩:=h
 refine⟨h1,?_⟩
 rcases h2 with⟨rfl,h0⟩|⟨g,cap,cur,rfl,hb,hh,hnc,hcm,hcs,ht⟩
 ·exact .inl ⟨h0,none,rfl,λa ha=>by cases ha⟩
 ·exact .inr ⟨g,0,cap,cur,by rw[Nat.zero_mul],hb,hh,hnc,by rw[Nat.zero_add];exact hcm,by rw[Nat.zero_add];exact hcs,by rw[Nat.zero_mul,List.drop_zero];exact ht⟩
theorem P_(g o j:Nat):(⟨g,o,none⟩:Addr).add j=⟨g,o+j,none⟩:=by unfold Addr.add;split<;>simp_all
theorem LP{g:Nat}:∀(vs:List Value) (o:Nat) {w:World} (k:Nat),k≠g->(w.setCells g o vs).heap[k]?=w.heap[k]?
 | [],_,_,_,_=>rfl
 |v::r,o,w,k,hk=>by
  rw[World.setCells,LP r (o+1) k hk]
  exact Below.heap_setCell w ⟨g,o,none⟩ v k hk
theorem LK(g:Nat):∀(vs:List Value) (o:Nat) (w:World),(w.setCells g o vs).os=w.os/\(w.setCells g o vs).tape=w.tape/\(w.setCells g o vs).output=w.output/\(w.setCells g o vs).heap.size=w.heap.size
 | [],_,_=>⟨rfl,rfl,rfl,rfl⟩
 |v::r,o,w=>by
  obtain⟨h1,h2,h3,h4⟩:=LK g r (o+1) (w.setCell ⟨g,o,none⟩ v)
  rw[World.setCells]
  exact⟨h1,h2,h3,by rw[h4];simp [World.setCell]⟩
theorem LM{g:Nat}{e:TypeId}:∀(vs:List Value) (o:Nat) (w:World) (cur:Array Value),w.heap[g]?=some (.cells cur e (0,0))->o+vs.length<=cur.size->
 ∃cur',(w.setCells g o vs).heap[g]?=some (.cells cur' e (0,0))/\cur'.size=cur.size/\cur'.toList=cur.toList.take o++vs++cur.toList.drop (o+vs.length)
 | [],o,w,cur,h,_=>⟨cur,h,rfl,by simp⟩
 |v::r,o,w,cur,h,hl=>by
  have h2:=PM h o v
  simp only[List.length_cons] at hl
  obtain⟨cur',h3,h4,h5⟩:=LM r (o+1) (w.setCell ⟨g,o,none⟩ v) _ h2 (by simp;omega)
  refine⟨cur',h3,by rw[h4];simp,?_⟩
  rw[h5,Array.toList_setIfInBounds]
  have ho:o<cur.toList.length:=by rw[Array.length_toList];omega
  rw[List.take_set,List.drop_set_of_lt (by omega)]
  simp only[List.length_cons]
  rw[show o+1+r.length=o+(r.length+1) by omega]
  congr 1
  rw[List.take_succ_eq_append_getElem ho,List.set_append_right _ _ (by rw[List.length_take];omega)]
  have ho':o<cur.size:=by omega
  simp [Nat.min_eq_left (Nat.le_of_lt ho')]
end
namespace Kd
def Q{α:Type}(d:Kd α)(e:Nat)(w:World)(base:Nat)(ok:Nat->Prop)(v:Value)(xs:List α):Prop:=
 (∀k,v.ownBlock=some k->ok k)/\∃inner,Qp w base e d.sz v xs.length inner/\iY (d.M w base (λk=>ok k/\some k≠v.ownBlock)) d.sz xs inner
section
variable{α:Type}{d:Kd α}{e:Nat}{w w1 W:World}{base:Nat}{ok ok':Nat->Prop}{v:Value}{xs:List α}
theorem Yx(h:d.R e w base ok v xs):d.Q e w base ok v xs:=by
 obtain⟨h0,inner,ho,hr⟩:=h
 exact⟨h0,inner,Us ho,hr⟩
theorem uh(d:Kd α)(e:Nat)(w:World)(base:Nat)(ok:Nat->Prop):d.Q e w base ok (.slice none 0 0) []:=Yx (qN d e w base ok)
end
end Kd
namespace Kd
section
variable{α:Type}{d:Kd α}{e e':Nat}{w w1 W:World}{base:Nat}{ok:Nat->Prop}{u v:Value}{xs:List α}
theorem Qi(h:d.R e w base ok v xs):∀k,v.ownBlock=some k->∃cells,w.heap[k]?=some (.cells cells e (0,0)):=by
 obtain⟨inner,ho⟩:=GU h
 exact λk hk=>FX ho k hk
theorem vz(h:d.R e W base ok u xs)(hty:∀k,v.ownBlock=some k->∃cells,W.heap[k]?=some (.cells cells e' (0,0)))(ht:∀q,q∈e::d.E->q≠e')(hg:W.grownBy w1 v.ownBlock):d.R e w1 base ok u xs:=by
 refine iZ (Dq (wE h) (λk hk=>hg.block k hk.2.2.1 (λhe=>?_))) (λ_ hk=>hk.1)
 obtain⟨_,_,_,q,hq,cells,hc⟩:=hk
 obtain⟨cells',hc'⟩:=hty k he.symm
 rw[hc] at hc'
 injection hc' with hc'
 injection hc' with _ hc'
 exact ht q hq hc'
theorem jL(h:d.R e W base ok u xs)(hty:∀k,v.ownBlock=some k->∃cells,W.heap[k]?=some (.cells cells e' (0,0)))(ht:∀q,q∈e::d.E->q≠e'):d.R e W base (λk=>ok k/\some k≠v.ownBlock) u xs:=by
 refine iZ (wE h) (λk hk=>⟨hk.1,λhe=>?_⟩)
 obtain⟨_,_,_,q,hq,cells,hc⟩:=hk
 obtain⟨cells',hc'⟩:=hty k he.symm
 rw[hc] at hc'
 injection hc' with hc'
 injection hc' with _ hc'
 exact ht q hq hc'
theorem JJ(hu:d.R e W base ok u xs)(hbase:∀k,v.ownBlock=some k->W.heap.size<=k)(hb:Below W.heap.size W w1):d.R e w1 base (λk=>ok k/\some k≠v.ownBlock) u xs:=
 iZ (Dq (wE hu) (λk hk=>hb.block k hk.2.2.1)) (λk hk=>⟨hk.1,λhe=>by have:=hbase k he.symm;have:=hk.2.2.1;omega⟩)
theorem GV(h:d.R e w1 W.heap.size ok v xs)(hlt:∀k,u.ownBlock=some k->k<W.heap.size):d.R e w1 W.heap.size (λk=>ok k/\some k≠u.ownBlock) v xs:=
 iZ (wE h) (λk hk=>⟨hk.1,λhe=>by have:=hlt k he.symm;have:=hk.2.1;omega⟩)
theorem fresh'(hlt:∀k,u.ownBlock=some k->k<W.heap.size):∀k,W.heap.size<=k->some k≠u.ownBlock:=λk hk he=>by have:=hlt k he.symm;omega
end
end Kd
theorem D_{α:Type}(a lH:List α)(o:Nat)(h:o+lH.length<=a.length)(q:Nat):
 (a.take o++lH++a.drop (o+lH.length))[q]?=if q<o then a[q]? else if q<o+lH.length then lH[q-o]? else a[q]?:=by
 have hl:(a.take o).length=o:=by rw[List.length_take];omega
 rw[List.append_assoc]
 by_cases h1:q<o
 ·rw[if_pos h1,List.getElem?_append_left (by omega),List.getElem?_take,if_pos h1]
 ·rw[if_neg h1,List.getElem?_append_right (by omega),hl]
  by_cases h2:q<o+lH.length
  ·rw[if_pos h2,List.getElem?_append_left (by omega)]
  ·rw[if_neg h2,List.getElem?_append_right (by omega),List.getElem?_drop]
   congr 1
   omega
namespace Kd
section
variable{α:Type}{d:Kd α}{e base g n cap:Nat}{ok je:Nat->Prop}{W:World}{xs:List α}
theorem Qm(h:d.R e W base ok (.slice (some ⟨g,0,none⟩) n cap) xs)(z:α)(i:Int)(h0:0<=i)(h1:i<n):
 ∃c,c.length=d.sz/\d.M W base (λk=>ok k/\k≠g) (xs.getD i.toNat z) c/\(∀j u,c[j]?=some u->W.cell? ⟨g,i.toNat*d.sz+j,none⟩=some u)/\∀j,W.frozen? ⟨g,i.toNat*d.sz+j,none⟩=false:=by
 obtain⟨hn,hnc,hC⟩:=iw h
 obtain⟨_,inner,ho,hr⟩:=h
 have hil:i.toNat<xs.length:=by omega
 have hseg:i.toNat*d.sz+d.sz<=inner.length:=by rw[hr.1,<-Nat.succ_mul];exact Nat.mul_le_mul_right _ hil
 have hM:=hr.2 i.toNat _ (List.getElem?_eq_getElem hil)
 refine⟨(inner.drop (i.toNat*d.sz)).take d.sz,by rw[List.length_take,List.length_drop];omega,?_,λj u hu=>?_,λj=>?_⟩
 ·rw[List.getD_eq_getElem?_getD,List.getElem?_eq_getElem hil]
  exact d.oq (λk hk=>⟨hk.1,λhe=>hk.2 (by rw[he];simp [Value.ownBlock])⟩) hM
 ·rw[List.getElem?_take] at hu
  split at hu
  ·rw[List.getElem?_drop] at hu
   have:=ho.cells (g:=g) (by simp [Value.ownBlock]) _ u hu
   rwa [add_plain] at this
  ·cases hu
 ·obtain⟨cells,hc⟩:=FX ho g (by simp [Value.ownBlock])
  exact pY hc _
theorem Yo(h:d.R e W base ok (.slice (some ⟨g,0,none⟩) n cap) xs)(i:Int)(h0:0<=i)(h1:i<n){c lH:List Value}{j:Nat}(hcl:c.length=d.sz)(hcc:∀j u,c[j]?=some u->W.cell? ⟨g,i.toNat*d.sz+j,none⟩=some u)
 (hj:j+lH.length<=d.sz) {x':α} (hM:d.M W base je x' (c.take j++lH++c.drop (j+lH.length))) (pW:∀k,je k->ok k/\k≠g):
 d.R e (W.setCells g (i.toNat*d.sz+j) lH) base ok (.slice (some ⟨g,0,none⟩) n cap) (xs.set i.toNat x')/\W.grownBy (W.setCells g (i.toNat*d.sz+j) lH) (some g):=by
 obtain⟨hn,hnc,_⟩:=iw h
 obtain⟨hok,inner,ho,hr⟩:=h
 have hil:i.toNat<xs.length:=by omega
 have hseg:i.toNat*d.sz+d.sz<=inner.length:=by rw[hr.1,<-Nat.succ_mul];exact Nat.mul_le_mul_right _ hil
 have hin:inner.length=n*d.sz:=by rw[hr.1,hn]
 obtain⟨ho1,ho2⟩:=ho
 rcases ho2 with⟨hv,_⟩|⟨g',cap',cur,hv,hb,hh,hnc',hcm,hcs,ht⟩
 ·cases hv
 injection hv with ha _ hc
 injection ha with ha
 injection ha with hg
 subst hg;subst hc
 have hfit:i.toNat*d.sz+j+lH.length<=cur.size:=by
  have:n*d.sz<=cap*d.sz:=Nat.mul_le_mul_right _ hnc
  omega
 obtain⟨cur',h3,h4,h5⟩:=LM lH (i.toNat*d.sz+j) W cur hh hfit
 obtain⟨s1,s2,s3,s4⟩:=LK g lH (i.toNat*d.sz+j) W
 have Je:∀k,k≠g->(W.setCells g (i.toNat*d.sz+j) lH).heap[k]?=W.heap[k]?:=λk hk=>LP lH _ k hk
 have Ji:∀q,q<d.sz->c[q]?=inner[i.toNat*d.sz+q]?:=by
  intro q hq
  have hq':q<c.length:=by omega
  have h6:=hcc q _ (List.getElem?_eq_getElem hq')
  rw[cell_of_row W g _ cur e (0,0) hh] at h6
  rw[List.getElem?_eq_getElem hq',<-h6,<-ht,List.getElem?_take,if_pos (by rw[<-hn];omega),Array.getElem?_toList]
 refine⟨⟨hok,inner.take (i.toNat*d.sz+j)++lH++inner.drop (i.toNat*d.sz+j+lH.length),⟨?_, .inr ⟨g,cap,cur',by rw[List.length_set,hn],hb,h3,by rw[List.length_set,<-hn];exact hnc,hcm,by rw[h4,hcs],?_⟩⟩,?_⟩,
  ⟨s1,s2,s3,by rw[s4];exact Nat.le_refl _,λk _ hk=>Je k (λhe=>hk (by rw[he]))⟩⟩
 ·rw[List.length_set]
  simp only[List.length_append,List.length_take,List.length_drop]
  rw[hr.1] at hseg ⊢
  omega
 ·rw[List.length_set,<-hn]
  apply List.ext_getElem?
  intro q
  rw[List.getElem?_take,h5]
  rw[D_ cur.toList lH (i.toNat*d.sz+j) (by rw[Array.length_toList];omega) q,D_ inner lH (i.toNat*d.sz+j) (by omega) q]
  have V8:∀q,q<n*d.sz->cur.toList[q]?=inner[q]?:=by
   intro q hq
   rw[<-ht,List.getElem?_take,if_pos (by rw[<-hn];exact hq)]
  by_cases hq:q<n*d.sz
  ·rw[if_pos hq,V8 q hq]
  ·rw[if_neg hq,if_neg (by omega),if_neg (by omega),List.getElem?_eq_none (by omega)]
 ·refine⟨?_,λm p hm=>?_⟩
  ·rw[List.length_set]
   simp only[List.length_append,List.length_take,List.length_drop]
   rw[hr.1] at hseg ⊢
   omega
  ·have hml:m<xs.length:=by
    have:=(List.getElem?_eq_some_iff.1 hm).1
    rwa [List.length_set] at this
   have Y9:m*d.sz+d.sz<=inner.length:=by rw[hr.1,<-Nat.succ_mul];exact Nat.mul_le_mul_right _ hml
   have hgo:some g=(Value.slice (some ⟨g,0,none⟩) n cap).ownBlock:=by simp [Value.ownBlock]
   by_cases zt:m=i.toNat
   ·subst zt
    rw[List.getElem?_set_self (by omega)] at hm
    injection hm with hm
    subst hm
    have hcells:((inner.take (i.toNat*d.sz+j)++lH++inner.drop (i.toNat*d.sz+j+lH.length)).drop (i.toNat*d.sz)).take d.sz=c.take j++lH++c.drop (j+lH.length):=by
     apply List.ext_getElem?
     intro q
     rw[List.getElem?_take,List.getElem?_drop,D_ inner lH _ (by omega),D_ c lH j (by omega) q]
     by_cases hq:q<d.sz
     ·rw[if_pos hq,Ji q hq]
      by_cases hq1:q<j
      ·rw[if_pos (by omega),if_pos hq1]
      ·rw[if_neg (by omega),if_neg hq1]
       by_cases hq2:q<j+lH.length
       ·rw[if_pos (by omega),if_pos hq2]
        congr 1
        omega
       ·rw[if_neg (by omega),if_neg hq2]
     ·rw[if_neg hq,if_neg (by omega),if_neg (by omega),List.getElem?_eq_none (by omega)]
    rw[hcells]
    refine d.oq (λk hk=>?_) (d.tJ (w1:=W.setCells g (i.toNat*d.sz+j) lH) (λk hk=>Je k (pW k hk).2) hM)
    exact⟨(pW k hk).1,λhe=>(pW k hk).2 (by rw[<-hgo] at he;injection he)⟩
   ·rw[List.getElem?_set_ne (by omega)] at hm
    have hold:=hr.2 m p hm
    have hcells:((inner.take (i.toNat*d.sz+j)++lH++inner.drop (i.toNat*d.sz+j+lH.length)).drop (m*d.sz)).take d.sz=(inner.drop (m*d.sz)).take d.sz:=by
     apply List.ext_getElem?
     intro q
     rw[List.getElem?_take,List.getElem?_take,List.getElem?_drop,List.getElem?_drop,D_ inner lH _ (by omega)]
     by_cases hq:q<d.sz
     ·rw[if_pos hq,if_pos hq]
      rcases Nat.lt_or_gt_of_ne zt with hlt|hgt
      ·have:m*d.sz+d.sz<=i.toNat*d.sz:=by rw[<-Nat.succ_mul];exact Nat.mul_le_mul_right _ hlt
       rw[if_pos (by omega)]
      ·have:i.toNat*d.sz+d.sz<=m*d.sz:=by rw[<-Nat.succ_mul];exact Nat.mul_le_mul_right _ hgt
       rw[if_neg (by omega),if_neg (by omega)]
     ·rw[if_neg hq,if_neg hq]
    rw[hcells]
    refine d.tJ (λk hk=>Je k (λhe=>hk.2 (by rw[he];exact hgo))) hold
end
end Kd
namespace Kd
theorem TZ{α:Type}{R:α->List Value->Prop}{size:Nat}{ps qs:List α}{cs ds:List Value}(h:iY R size ps cs)(h':iY R size qs ds):iY R size (ps++qs) (cs++ds):=by
 refine⟨by rw[List.length_append,List.length_append,h.1,h'.1,Nat.add_mul],λj p hj=>?_⟩
 rcases Nat.lt_or_ge j ps.length with hlt|hge
 ·rw[List.getElem?_append_left hlt] at hj
  have hle:j*size+size<=cs.length:=by rw[h.1,<-Nat.succ_mul];exact Nat.mul_le_mul_right _ hlt
  rw[List.drop_append_of_le_length (by omega),List.take_append_of_le_length (by rw[List.length_drop];omega)]
  exact h.2 j p hj
 ·rw[List.getElem?_append_right hge] at hj
  have h2:=h'.2 (j-ps.length) p hj
  have hle:ps.length*size<=j*size:=Nat.mul_le_mul_right _ hge
  rw[List.drop_append,List.drop_eq_nil_of_le (by rw[h.1];exact hle),List.nil_append,h.1,<-Nat.sub_mul]
  exact h2
section
variable{P:Program}{ops:Array Oper}{rest:List Oper}{o:Oper}{a:Act}{Q:Exit->Act->World->Prop}{α:Type}
theorem GX(d:Kd α){Rr:α->List Value->Prop}{w0 W:World}(base:Nat)(hgd:o.guard=none)(s x:Operand)(t e:TypeId)(z:Value)(bytes:Nat)
 (ho:o.op= .call {callee:= .builtin .append,args:= #[s,x],argTypes:= #[t,t]})
 (ht:P.underlying t=some (.slice e)) (hinfo:(P.info? e).map (λi=>(i.zero,i.size,i.bytes))=some (some z,d.sz,bytes)) (hz:z.cells.size=d.sz) (hs0:0<d.sz) (hb0:0<bytes)
 (v:Value) (xs ys:List α) (A:Option Addr) (m c:Nat) (ok je:Nat->Prop) (hs:a.eval s=v) (hx:a.eval x= .slice A m c)
 (HO:d.R e W base ok v xs) (HR:vS Rr d.sz W A m ys) (Wi:∀x cs,Rr x cs->d.M W base je x cs) (pW:∀k,je k->ok k/\some k≠v.ownBlock) (hfresh:∀k,W.heap.size<=k->ok k)
 (HB:Below base w0 W) (hbase:base<=W.heap.size) (hl:(xs.length+m)*bytes<=140737488355328)
 (h:∀v1 w1,d.R e w1 base ok v1 (xs++ys)->Below base w0 w1->W.grownBy w1 v.ownBlock->(v1.ownBlock=v.ownBlock\/∃b,v1.ownBlock=some b/\W.heap.size<=b)->wpList P ops Q rest (a.put o.dst v1) w1):
 wpList P ops Q (o::rest) a W:=by
 obtain⟨i0,hi,hzz⟩:=Option.map_eq_some_iff.1 hinfo
 simp only[Prod.mk.injEq] at hzz
 obtain⟨hz0,hz1,hz2⟩:=hzz
 have hm:ys.length=m:=HR.1
 have hlen:xs.length+m<=140737488355328:=Nat.le_trans (Nat.le_mul_of_pos_right _ hb0) hl
 obtain⟨hok,inner,hown,hr⟩:=HO
 have hrun:∃v1 w1,(Builtin.append_ #[t,t] o.type #[v, .slice A m c]).run P W= .ok v1 w1/\d.R e w1 base ok v1 (xs++ys)/\W.grownBy w1 v.ownBlock/\(v1.ownBlock=v.ownBlock\/∃b,v1.ownBlock=some b/\W.heap.size<=b):=by
  rcases A with _|ad
  ·have h0:m=0:=by
    rcases Nat.eq_zero_or_pos m with h0|h0
    ·exact h0
    ·obtain⟨ad,h,_⟩:=HR.2.2 h0
     cases h
   subst h0
   obtain rfl:ys=[]:=List.eq_nil_of_length_eq_zero hm
   refine⟨v,W,?_,by rw[List.append_nil];exact⟨hok,inner,hown,hr⟩,World.grownBy.refl W _, .inl rfl⟩
   rcases hown.2 with⟨rfl,hn⟩|⟨g,cap,cur,rfl,_,_,hnc,_⟩
   ·simp [Builtin.append_,run_underlying ht,sizeOf,typeInfo,hi,Builtin.lenOf,Builtin.firstCells]
   ·simp [Builtin.append_,run_underlying ht,sizeOf,typeInfo,hi,Builtin.lenOf,Builtin.firstCells,hnc,storeCells]
  ·obtain⟨news,hnr,hnc⟩:=vS.VK HR
   have hnM:iY (d.M W base je) d.sz ys news:=hnr.uH (λp c hp=>Wi p c hp)
   have hone:∀u∈news,u.oneCell'=true:=by
    intro u hu
    obtain⟨q,hq,rfl⟩:=List.mem_iff_getElem.1 hu
    have I_:q / d.sz<ys.length:=by
     rw[Nat.div_lt_iff_lt_mul hs0]
     rw[<-hnM.1]
     exact hq
    have hc:=hnM.2 (q / d.sz) _ (List.getElem?_eq_getElem I_)
    refine d.rQ (d.qQ hc) _ ?_
    rw[List.mem_iff_getElem?]
    refine⟨q % d.sz,?_⟩
    rw[List.getElem?_take,if_pos (Nat.mod_lt _ hs0),List.getElem?_drop,Nat.mul_comm,Nat.div_add_mod,List.getElem?_eq_getElem hq]
   obtain⟨v1,w1,hrun,h2,hg,_,hat⟩:=run_append_own_at (P:=P) W base t o.type e i0 z d.sz bytes ht hi hz0 hz1 hz2 hz hs0 v xs.length inner hown ad m c news (by rw[hnM.1,hm]) hnc hone (by simp only[maxLen];omega) hl hbase
   have hat':v1.ownBlock=v.ownBlock\/∃b,v1.ownBlock=some b/\W.heap.size<=b:=by
    rcases hat with hat|hat
    ·exact .inl hat
    ·exact .inr ⟨_,hat,Nat.le_refl _⟩
   have hne:∀k,some k≠v.ownBlock->k<W.heap.size->some k≠v1.ownBlock:=by
    intro k hk hlt
    rcases hat' with hat|⟨b,hb,hle⟩
    ·rw[hat];exact hk
    ·rw[hb]
     intro he
     injection he with he
     omega
   have step:∀{q:α} {c:List Value} {o:Nat->Prop},d.M W base o q c->(∀k,o k->ok k/\some k≠v.ownBlock)->d.M w1 base (λk=>ok k/\some k≠v1.ownBlock) q c:=by
    intro q c o hq ho
    have h1:=d.tJ (w1:=w1) (λk hk=>hg.block k hk.2.2.1 (ho k hk.1).2) (d.sD hq)
    exact d.oq (λk hk=>⟨(ho k hk.1).1,hne k (ho k hk.1).2 hk.2.2.1⟩) h1
   refine⟨v1,w1,hrun,⟨λk hk=>?_,inner++news,by rw[List.length_append,hm];exact h2,TZ (hr.uH (λ_ _ hq=>step hq (λ_ hk=>hk))) (hnM.uH (λ_ _ hq=>step hq pW))⟩,hg,hat'⟩
   rcases hat' with hat|⟨b,hb,hle⟩
   ·exact hok k (hat ▸ hk)
   ·rw[hb] at hk
    injection hk with hk
    exact hfresh k (by omega)
 obtain⟨v1,w1,hr1,h1,hg,hat⟩:=hrun
 refine wpList_plain hgd λK hK=>?_
 unfold Oper.wp execOp
 simp only[ho,resolve,invoke,builtin,Sem.run_bind,Sem.run_pure,Result.andThen_ok,List.map_toArray,List.map_cons,List.map_nil,hs,hx,hr1]
 exact hK _ _ (h v1 w1 h1 (HB.grown hg hbase (own_base hown)) hg hat)
end
end Kd
namespace Kd
section
variable{α:Type}{k:Kd α}{w:World}{A:Option Addr}{xs:List α}{m c:Nat}
theorem QG(h:k.C w A xs.length xs)(hm:m<=xs.length):k.C w A (xs.take m).length (xs.take m):=by
 have hl:(xs.take m).length=m:=by rw[List.length_take];omega
 refine⟨rfl,by rw[hl];have:=h.2.1;omega,λhp=>?_⟩
 obtain⟨ad,e,hc⟩:=h.2.2 (by omega)
 refine⟨ad,e,λj p hj=>hc j p ?_⟩
 rw[List.getElem?_take] at hj
 split at hj
 ·exact hj
 ·cases hj
end
end Kd
theorem iQ{w W:World}(h:Below w.heap.size w W):w.heap.size<=W.heap.size:=h.size
theorem GI{w W w2:World}(h:Below w.heap.size w W)(k:Below W.heap.size W w2):Below w.heap.size w w2:=XY h h.size k
theorem wC.nil(W:World)(k:IntKind):wC W k none ([]:List Int).length []:=⟨rfl,by simp,λh=>absurd h (Nat.lt_irrefl 0)⟩
theorem wC.drewN{W:World}{k:IntKind}{A:Option Addr}{n:Nat}{xs:List Int}(h:wC W k A n xs)(m:Nat):wC (W.drewN m) k A n xs:=h
theorem lS{w W:World}{g j:Nat}{v:Value}(h:Below w.heap.size w W)(hg:w.heap.size<=g):Below w.heap.size w (W.setCell ⟨g,j,none⟩ v):=h.setCell hg _
theorem add_block(a:Addr)(i:Nat):(a.add i).block=a.block:=by unfold Addr.add;split<;>rfl
theorem tH.nil{α:Type}(enc:α->Value)(d:α)(W:World):tH enc d W none ([]:List α).length []:=⟨rfl,by simp,λh=>absurd h (Nat.lt_irrefl 0)⟩
theorem tH.drewN{α:Type}{enc:α->Value}{d:α}{W:World}{A:Option Addr}{n:Nat}{xs:List α}(h:tH enc d W A n xs)(m:Nat):tH enc d (W.drewN m) A n xs:=h
theorem cell_far{W:World}{p a:Addr}(h:a.block≠p.block)(u:Value):(W.setCell p u).cell? a=W.cell? a:=by
 have:=Below.heap_setCell W p u a.block h
 simp [World.cell?,this]
theorem vw{w:World}{g:Nat}{t:TypeId}{cs cs':Array Value}(h:w.heap[g]?=some (.cells cs t (0,0)))(i:Nat)(u:Value)(e:cs.setIfInBounds i u=cs'):(w.setCell ⟨g,i,none⟩ u).heap[g]?=some (.cells cs' t (0,0)):=e ▸ PM h i u
theorem l9{base:Nat}{w W:World}(h:Below base w W):Below base w W.drew:=h.drew
namespace Kd
section
variable{α:Type}{d:Kd α}{e base g:Nat}{ok:Nat->Prop}{w w1:World}{v:Value}{xs:List α}{o:Obj}
theorem kT(hb:w.heap[g]?=some o):∀k,w.heap.size<=k->k≠g:=λk hk=>by have:=Bj hb;omega
end
end Kd
section
variable{P:Program}{ops:Array Oper}{rest:List Oper}{o:Oper}{a:Act}{Q:Exit->Act->World->Prop}
theorem jM{W:World}(hgd:o.guard=none){N:Tmp}(_hd:o.dst=some N){cs:Array Value}{t:TypeId}
 (hrun:(execOp a.eval o).run P W= .ok (.value (.pointer (some ⟨W.heap.size,0,none⟩))) (W.alloc (.cells cs t (0,0))))
 (h:∀g,g=W.heap.size->∀w1,w1.heap[g]?=some (.cells cs t (0,0))->Below W.heap.size W w1->wpList P ops Q rest (a.put o.dst (.pointer (some ⟨g,0,none⟩))) w1):wpList P ops Q (o::rest) a W:=
 Kd.OE hgd hrun (h _ rfl _ (XI W _) (oZ (Below.refl _ _) _))
end
namespace Kd
section
variable{α:Type}{enc:α->Value}{h1:∀x,(enc x).oneCell'=true}{e base g n cap:Nat}{ok:Nat->Prop}{W:World}{xs:List α}
theorem nT(d:α)(h:(scalar enc h1).R e W base ok (.slice (some ⟨g,0,none⟩) n cap) xs)(i:Int)(h0:0<=i)(hi:i<n):W.cell? ⟨g,i.toNat,none⟩=some (enc (FU d xs i))/\W.frozen? ⟨g,i.toNat,none⟩=false:=by
 obtain⟨rfl,_⟩:=iw h
 exact Yu d h i h0 hi
theorem Dp(h:(scalar enc h1).R e W base ok (.slice (some ⟨g,0,none⟩) n cap) xs)(i:Int)(x:α):(scalar enc h1).R e (W.setCell ⟨g,i.toNat,none⟩ (enc x)) base ok (.slice (some ⟨g,0,none⟩) n cap) (xs.set i.toNat x):=by
 obtain⟨rfl,_⟩:=iw h
 exact(Qj h i x).1
end
end Kd
section
variable{P:Program}{ops:Array Oper}{rest:List Oper}{o:Oper}{a:Act}{Q:Exit->Act->World->Prop}
theorem qJ{W w1:World}(hgd:o.guard=none){t:TypeId}{p:Tmp}{v:Operand}(_ho:o.op= .store t (.tmp p) v)(hN:o.dst=none)
 (hrun:(execOp a.eval o).run P W= .ok .skip w1) (h:∀w',w'=w1->wpList P ops Q rest a w'):wpList P ops Q (o::rest) a W:=by
 refine wpList_plain hgd λK hK=>?_
 unfold Oper.wp
 rw[hrun]
 show K (a.put o.dst undef) w1
 rw[hN]
 exact hK _ _ (h _ rfl)
end
namespace Kd
section
variable{α:Type}{enc:α->Value}{h1:∀x,(enc x).oneCell'=true}{e base g n cap:Nat}{ok:Nat->Prop}{W:World}{xs:List α}
theorem qY(h:(scalar enc h1).R e W base ok (.slice (some ⟨g,0,none⟩) n cap) xs)(i:Int)(x:α):(scalar enc h1).R e (W.setCell ⟨g,i.toNat,none⟩ (enc x)) base ok (.slice (some ⟨g,0,none⟩) n cap) (xs.set i.toNat x)/\W.grownBy (W.setCell ⟨g,i.toNat,none⟩ (enc x)) (some g):=by
 obtain⟨rfl,_⟩:=iw h
 exact Qj h i x
end
end Kd
section
variable{P:Program}{ops:Array Oper}{rest:List Oper}{o:Oper}{a:Act}{Q:Exit->Act->World->Prop}{W:World}
theorem jc{N:Tmp}(_hN:o.dst=some N)(h:wpList P ops Q (o::rest) a W):wpList P ops Q (o::rest) a W:=h
theorem qM{t:TypeId}{p:Tmp}{v:Operand}(_ho:o.op= .store t (.tmp p) v)(h:wpList P ops Q (o::rest) a W):wpList P ops Q (o::rest) a W:=h
end
section
variable{P:Program}{ops:Array Oper}{o:Oper}{a:Act}{Q:Exit->Act->World->Prop}{Kc:Act->World->Prop}
theorem WE{W w1:World}{v:Value}(hw:Region.wanted o (yielded ops a.tmps)=true)(hrun:(execOp a.eval o).run P W= .ok (.value v) w1)(h:Kc (a.put o.dst v) w1):if Region.wanted o (yielded ops a.tmps)=true then Oper.wp P o a W Kc Q else Kc (a.put o.dst undef) W:=by
 rw[if_pos hw]
 unfold Oper.wp
 rw[hrun]
 exact h
namespace Kd
variable{α:Type}
theorem Yq(d:Kd α){w0 W:World}(base e:Nat)(hw:Region.wanted o (yielded ops a.tmps)=true){N:Tmp}(_hd:o.dst=some N){xs:List α}{inner:List Value}{ok je:Nat->Prop}
 (hrun:(execOp a.eval o).run P W= .ok (.value (.slice (some ⟨W.heap.size,0,none⟩) xs.length xs.length)) (W.alloc (.cells inner.toArray e)))
 (hrep:iY (d.M W base je) d.sz xs inner) (hok:∀k,je k->ok k) (hfresh:ok W.heap.size) (HB:Below base w0 W) (hbase:base<=W.heap.size) (hm:xs.length<=9223372036854775807)
 (h:∀v1 w1,d.R e w1 base ok v1 xs->Below base w0 w1->W.grownBy w1 none->(∃b,v1.ownBlock=some b/\W.heap.size<=b)->Kc (a.put o.dst v1) w1):if Region.wanted o (yielded ops a.tmps)=true then Oper.wp P o a W Kc Q else Kc (a.put o.dst undef) W:=by
 refine WE hw hrun (h _ _ ⟨λk hk=>?_,inner,?_,?_⟩ (HB.alloc hbase _) (World.grownBy_alloc W _ none) ⟨W.heap.size,by simp [Value.ownBlock],Nat.le_refl _⟩)
 ·have:W.heap.size=k:=by simpa [Value.ownBlock] using hk
  subst this
  exact hfresh
 ·have h2:=World.ownsRow_lit (base:=base) (e:=e) (size:=d.sz) W inner.toArray xs.length hbase (by simpa [maxLen] using hm) (by simpa using hrep.1)
  simpa using h2
 ·refine hrep.uH (λp c hp=>d.oq (λk hk=>⟨hok k hk.1,λhe=>?_⟩) (Qz (d.sD hp) (oZ (Below.refl _ _) _)))
  have h3:k=W.heap.size:=by simpa [Value.ownBlock] using he
  have:=hk.2.2.1
  omega
end Kd
end
inductive Bo (P:Program) (tmps:Array Value) (w:World):List ResultVar->List Value->Prop where
 |nil:Bo P tmps w [] []
 |tmp {u:Tmp} {rs:List ResultVar} {vs:List Value} (h:Bo P tmps w rs vs):Bo P tmps w (.tmp u::rs) (tmps.getD u undef::vs)
 |cell {p:Tmp} {ty:TypeId} {rs:List ResultVar} {vs:List Value} (g:Nat) (t:TypeId) (cs:Array Value) (fr:Nat×Nat) (d:TypeDesc)
  (hp:tmps.getD p undef= .pointer (some ⟨g,0,none⟩)) (hg:w.heap[g]?=some (.cells cs t fr))
  (hu:P.underlying ty=some d) (hd:(match d with| .struct _| .array _ _=>true|_=>false)=true) (hi:(P.info? ty).map (·.size)=some cs.size)
  (h:Bo P tmps w rs vs):Bo P tmps w (.cell p ty::rs) (.agg cs::vs)
section
variable{P:Program}{tmps:Array Value}{w:World}
theorem Ri{rs:List ResultVar}{vs:List Value}(hv:Bo P tmps w rs vs)(f:ResultVar->Sem Value)(hf:∀u,f (.tmp u)=pure (tmps.getD u undef))(hc:∀a t,f (.cell a t)=(do loadVar t (<-asAddr (tmps.getD a undef)))):
 (rs.mapM f).run P w= .ok vs w:=by
 induction hv with
 |nil=>simp
 |tmp h ih=>simp [List.mapM_cons,hf,ih]
 |cell g t cs fr d hp hg hu hd hi h ih=>
  rw[List.mapM_cons,hc,hp]
  simp [asAddr,run_loadVar_row w g t _ cs fr d hg hu hd hi,ih]
theorem Il{fn:Func}{rs:List ResultVar}{vs:List Value}(h:fn.results=rs.toArray)(hl:vs.length≠1)(hv:Bo P tmps w rs vs):(results fn tmps).run P w= .ok (.tuple vs.toArray) w:=by
 unfold results
 rw[h,List.mapM_toArray]
 simp only[Sem.run_bind,Sem.run_map]
 rw[Ri hv]
 ·simp [hl]
 ·intro u
  rfl
 ·intro a t
  rfl
end
end Go.Proofs.YtifkbghnmhineaaW.lJ
end
section
namespace Go.Proofs.YtifkbghnmhineaaW.rO
section
variable{P:Program}{ops:Array Oper}{Q:Exit->Act->World->Prop}{md:Region.Mode}{S:World->Prop}{ds:List Nat}
def Region.wQ(md:Region.Mode)(ops:Array Oper)(i:Nat):Nat->Nat->Bool
 |0,_=>false
 |fuel+1,d=>match ops[d]? with
  |some o=>o.after.any λe=>Region.binds md e&&(e.on==i||Region.wQ md ops i fuel e.on)
  |none=>false
def Region.EI(md:Region.Mode)(ops:Array Oper)(listed:Array Bool):Bool:=
 (List.range ops.size).all λj=> !listed.getD j false||match ops[j]? with
  |some o=>o.after.all λe=> !Region.binds md e||listed.getD e.on false
  |none=>true
def Region.lastB(md:Region.Mode)(ops:Array Oper)(listed:Array Bool)(ds:List Nat)(i:Nat):Bool:=
 ds.all λd=>listed.getD d true||Region.wQ md ops i ops.size d
def BD(md:Region.Mode)(ops:Array Oper)(listed:Array Bool):Prop:=
 ∀j oj,ops[j]?=some oj->listed.getD j false=true->∀e∈oj.after,Region.binds md e=true->listed.getD e.on false=true
theorem Region.Xn{listed:Array Bool}(h:Region.EI md ops listed=true):BD md ops listed:=by
 intro j oj hj hl e he hb
 have hlt:j<ops.size:=(Array.getElem?_eq_some_iff.1 hj).1
 have h1:=List.all_eq_true.1 h j (List.mem_range.2 hlt)
 simp only[hl,hj,Bool.not_true,Bool.false_or] at h1
 have h2:=Array.all_eq_true_iff_forall_mem.1 h1 e he
 simpa [hb] using h2
theorem BD.set{listed:Array Bool}{i:Nat}(h:BD md ops listed)(hi:i∈Region.ready md ops listed):BD md ops (listed.setIfInBounds i true):=by
 obtain⟨_,oi,hoi,hall⟩:=mem_ready.1 hi
 intro j oj hj hl e he hb
 by_cases hij:i=j
 ·subst hij
  have:oj=oi:=Option.some.inj (hj.symm.trans hoi)
  subst this
  exact getD_set_true (hall e he hb)
 ·rw[getD_set_ne false hij] at hl
  exact getD_set_true (h j oj hj hl e he hb)
theorem Region.MF{listed:Array Bool}{i:Nat}(hc:BD md ops listed):∀(fuel d:Nat),Region.wQ md ops i fuel d=true->listed.getD d false=true->listed.getD i false=true
 |0,_,h,_=>by simp [Region.wQ] at h
 |fuel+1,d,h,hl=>by
  unfold Region.wQ at h
  cases ho:ops[d]? with
  |none=>rw[ho] at h;simp at h
  |some o=>
   rw[ho] at h
   obtain⟨e,he,h1⟩:=Array.any_eq_true'.1 h
   simp only[Bool.and_eq_true,Bool.or_eq_true,beq_iff_eq] at h1
   have hle:=hc d o ho hl e he h1.1
   rcases h1.2 with h2|h2
   ·rw[<-h2];exact hle
   ·exact Region.MF hc fuel e.on h2 hle
theorem Region.Uc{listed:Array Bool}{i d fuel:Nat}(hc:BD md ops listed)(hr:Region.wQ md ops i fuel d=true)(hun:listed.getD i true=false):d∉Region.ready md ops listed:=by
 intro hd
 obtain⟨_,o,ho,hall⟩:=mem_ready.1 hd
 have hi:listed.getD i false=true:=by
  cases fuel with
  |zero=>simp [Region.wQ] at hr
  |succ n=>
   unfold Region.wQ at hr
   rw[ho] at hr
   obtain⟨e,he,h1⟩:=Array.any_eq_true'.1 hr
   simp only[Bool.and_eq_true,Bool.or_eq_true,beq_iff_eq] at h1
   have hle:=hall e he h1.1
   rcases h1.2 with h2|h2
   ·rw[<-h2];exact hle
   ·exact Region.MF hc n e.on h2 hle
 rcases Nat.lt_or_ge i listed.size with h'|h'
 ·simp [h'] at hun hi
  rw[hun] at hi
  cases hi
 ·simp [Array.getElem?_eq_none h'] at hun
def nR(P:Program)(md:Region.Mode)(ops:Array Oper)(Q:Exit->Act->World->Prop)(S:World->Prop)(ds:List Nat):Nat->Array Bool->Act->World->Prop
 |0,listed,a,w=>Region.ready md ops listed=[]/\Q .normal a w
 |fuel+1,listed,a,w=>
  (Region.ready md ops listed=[]->Q .normal a w)/\
  ∀i∈Region.ready md ops listed,wpOp P ops Q i (λa' w'=>(i∉ds->S w->S w')/\nR P md ops Q S ds fuel (listed.setIfInBounds i true) a' w') a w
theorem Ky:∀(fuel:Nat) (listed:Array Bool) (a:Act) (w:World),nR P md ops Q S ds fuel listed a w->wpAny P md ops Q fuel listed a w
 |0,_,_,_,h=>h
 |fuel+1,_,_,_,h=>⟨h.1,λi hi=>wpOp_mono (λa' w' h'=>Ky fuel _ a' w' h'.2) (h.2 i hi)⟩
theorem QR{i:Nat}{oi:Oper}{v:Value}(hi:ops[i]?=some oi)(hsel:∀(j:Nat) (o:Oper) cs b,ops[j]?=some o->o.op≠ .select cs b)
 (hQ:∀c a w,Q (.panic c) (a.put oi.dst v) w->Q (.panic c) a w) (n:Nat):
 ∀(fuel:Nat) (listed:Array Bool) (a:Act) (w:World),
  (∀j oj,ops[j]?=some oj->j≠i->listed.getD j true=false->(∀e∈oj.after,Region.binds md e=true->e.on≠i)->oi.apart ops oj=true)->
  BD md ops listed->(∀d∈ds,listed.getD d true=false->Region.wQ md ops i n d=true)->
  i∈Region.ready md ops listed->YieldsIf P ops S oi v a->S w->
  nR P md ops Q S ds fuel (listed.setIfInBounds i true) (a.put oi.dst v) w->nR P md ops Q S ds (fuel+1) listed a w:=by
 intro fuel
 induction fuel with
 |zero=>
  intro listed a w _ _ _ hr hy hS H
  refine⟨λh=>(by rw[h] at hr;cases hr),λj hj=>?_⟩
  by_cases hji:j=i
  ·subst hji;exact hy.wpOp hi hS ⟨λ_ h=>h,H⟩
  ·have:=ready_mono hj hji
   rw[H.1] at this
   cases this
 |succ fuel ih=>
  intro listed a w hfree hc hd hr hy hS H
  refine⟨λh=>(by rw[h] at hr;cases hr),λj hj=>?_⟩
  by_cases hji:j=i
  ·subst hji;exact hy.wpOp hi hS ⟨λ_ h=>h,H⟩
  ·have h1:=H.2 j (ready_mono hj hji)
   obtain⟨hjun,oj,hoj,hall⟩:=mem_ready.1 hj
   have CU:=(mem_ready.1 hr).1
   have hnot:∀e∈oj.after,Region.binds md e=true->e.on≠i:=λe he hb heq=>by
    have h1:=hall e he hb
    rw[heq] at h1
    rcases Nat.lt_or_ge i listed.size with h'|h'
    ·simp [h'] at CU h1;rw[CU] at h1;cases h1
    ·simp [Array.getElem?_eq_none h'] at h1
   have hjd:j∉ds:=λhm=>Region.Uc hc (hd j hm hjun) CU hj
   have h2:=wpOp_putIf hoj (hfree j oj hoj hji hjun hnot) (λcs b=>hsel i oi cs b hi) (λcs b=>hsel j oj cs b hoj) hQ hy h1
   have hfree':∀k ok,ops[k]?=some ok->k≠i->(listed.setIfInBounds j true).getD k true=false->
    (∀e∈ok.after,Region.binds md e=true->e.on≠i)->oi.apart ops ok=true:=λk ok hk hki hun hno=>by
    refine hfree k ok hk hki ?_ hno
    by_cases hjk:j=k
    ·subst hjk;exact hjun
    ·rw[getD_set_ne true hjk] at hun;exact hun
   have hd':∀d∈ds,(listed.setIfInBounds j true).getD d true=false->Region.wQ md ops i n d=true:=λd hm hun=>by
    refine hd d hm ?_
    by_cases hjk:j=d
    ·subst hjk;exact hjun
    ·rw[getD_set_ne true hjk] at hun;exact hun
   refine wpOp_mono (λa' w' h3=>⟨h3.2.1,ih (listed.setIfInBounds j true) a' w' hfree' (hc.set hj) hd' (ready_mono hr (Ne.symm hji)) h3.1 (h3.2.1 hjd hS) ?_⟩) h2
   rw[Array.setIfInBounds_comm _ _ hji]
   exact h3.2.2
theorem QT{i:Nat}{oi:Oper}{v:Value}(hi:ops[i]?=some oi)(hsel:∀(j:Nat) (o:Oper) cs b,ops[j]?=some o->o.op≠ .select cs b)
 (hQ:∀c a w,Q (.panic c) (a.put oi.dst v) w->Q (.panic c) a w):
 ∀(fuel:Nat) (listed:Array Bool) (a:Act) (w:World),
  (∀j oj,ops[j]?=some oj->j≠i->listed.getD j true=false->(∀e∈oj.after,Region.binds md e=true->e.on≠i)->oi.apart ops oj=true)->
  i∈Region.ready md ops listed->Yields P ops oi v a->
  nR P md ops Q S ds fuel (listed.setIfInBounds i true) (a.put oi.dst v) w->nR P md ops Q S ds (fuel+1) listed a w:=by
 intro fuel
 induction fuel with
 |zero=>
  intro listed a w _ hr hy H
  refine⟨λh=>(by rw[h] at hr;cases hr),λj hj=>?_⟩
  by_cases hji:j=i
  ·subst hji;exact(hy.yieldsIf (S:=λ_=>True)).wpOp hi trivial ⟨λ_ h=>h,H⟩
  ·have:=ready_mono hj hji
   rw[H.1] at this
   cases this
 |succ fuel ih=>
  intro listed a w hfree hr hy H
  refine⟨λh=>(by rw[h] at hr;cases hr),λj hj=>?_⟩
  by_cases hji:j=i
  ·subst hji;exact(hy.yieldsIf (S:=λ_=>True)).wpOp hi trivial ⟨λ_ h=>h,H⟩
  ·have h1:=H.2 j (ready_mono hj hji)
   obtain⟨hjun,oj,hoj,hall⟩:=mem_ready.1 hj
   have CU:=(mem_ready.1 hr).1
   have hnot:∀e∈oj.after,Region.binds md e=true->e.on≠i:=λe he hb heq=>by
    have h1:=hall e he hb
    rw[heq] at h1
    rcases Nat.lt_or_ge i listed.size with h'|h'
    ·simp [h'] at CU h1;rw[CU] at h1;cases h1
    ·simp [Array.getElem?_eq_none h'] at h1
   have h2:=wpOp_put hoj (hfree j oj hoj hji hjun hnot) (λcs b=>hsel i oi cs b hi) (λcs b=>hsel j oj cs b hoj) hQ hy h1
   have hfree':∀k ok,ops[k]?=some ok->k≠i->(listed.setIfInBounds j true).getD k true=false->
    (∀e∈ok.after,Region.binds md e=true->e.on≠i)->oi.apart ops ok=true:=λk ok hk hki hun hno=>by
    refine hfree k ok hk hki ?_ hno
    by_cases hjk:j=k
    ·subst hjk;exact hjun
    ·rw[getD_set_ne true hjk] at hun;exact hun
   refine wpOp_mono (λa' w' h3=>⟨h3.2.1,ih (listed.setIfInBounds j true) a' w' hfree' (ready_mono hr (Ne.symm hji)) h3.1 ?_⟩) h2
   rw[Array.setIfInBounds_comm _ _ hji]
   exact h3.2.2
theorem QQ{i:Nat}{oi:Oper}{v:Value}{fuel:Nat}{listed:Array Bool}{a:Act}{w:World}(hi:ops[i]?=some oi)
 (hs:Region.noSelect ops=true) (hf:Region.free md ops listed i=true) (hr:(Region.ready md ops listed).contains i=true)
 (hc:Region.EI md ops listed=true) (hl:Region.lastB md ops listed ds i=true)
 (hQ:∀c a w,Q (.panic c) (a.put oi.dst v) w->Q (.panic c) a w) (hy:YieldsIf P ops S oi v a) (hS:S w)
 (h:nR P md ops Q S ds fuel (listed.setIfInBounds i true) (a.put oi.dst v) w):nR P md ops Q S ds (fuel+1) listed a w:=
 QR hi (Region.noSelect_spec hs) hQ ops.size fuel listed a w (Region.free_spec hi hf) (Region.Xn hc)
  (λd hm hun=>by have:=List.all_eq_true.1 hl d hm;rw[hun] at this;simpa using this) (by simpa using hr) hy hS h
theorem QU{rs:List Nat}{fuel:Nat}{listed:Array Bool}{a:Act}{w:World}(hr:Region.ready md ops listed=rs)(hne:rs≠[])
 (h:∀i∈rs,wpOp P ops Q i (λa' w'=>(i∉ds->S w->S w')/\nR P md ops Q S ds fuel (listed.setIfInBounds i true) a' w') a w):nR P md ops Q S ds (fuel+1) listed a w:=
 ⟨λh0=>absurd (hr ▸ h0) hne,hr ▸ h⟩
theorem QS{listed:Array Bool}{a:Act}{w:World}(hr:Region.ready md ops listed=[])(h:Q .normal a w):
 ∀fuel,nR P md ops Q S ds fuel listed a w
 |0=>⟨hr,h⟩
 |_+1=>⟨λ_=>h,by rw[hr];simp⟩
theorem QP{id:Nat}{a:Act}{w:World}(hm:P.follows .mixedOrders=true)
 (h:nR P .any ops Q S ds ops.size (Array.replicate ops.size false) a {w with drawn:=w.drawn+1}):(Code.region id ops true).wp P Q a w:=
 wp_region_any hm (Ky _ _ _ _ h)
end
section
variable{P:Program}{ops:Array Oper}{Q:Exit->Act->World->Prop}{md:Region.Mode}{S:World->Prop}{ds:List Nat}
def wH(P:Program)(md:Region.Mode)(ops:Array Oper)(Q:Exit->Act->World->Prop)(S:World->Prop)(ds:List Nat)(fuel:Nat)(listed:Array Bool)(a:Act)(w:World)(rs:List Nat):Prop:=
 ∀i∈rs,wpOp P ops Q i (λa' w'=>(i∉ds->S w->S w')/\nR P md ops Q S ds fuel (listed.setIfInBounds i true) a' w') a w
theorem wH.nil{fuel:Nat}{listed:Array Bool}{a:Act}{w:World}:wH P md ops Q S ds fuel listed a w []:=λ_ h=>by cases h
theorem wH.cons{fuel:Nat}{listed:Array Bool}{a:Act}{w:World}{i:Nat}{o:Oper}{rs:List Nat}(ho:ops[i]?=some o)(hd:i∉ds)
 (h:∀K':Act->World->Prop,Shut (∀a w,S w->(S w->nR P md ops Q S ds fuel (listed.setIfInBounds i true) a w)->K' a w)->if Region.wanted o (yielded ops a.tmps)=true then Oper.wp P o a w K' Q else K' (a.put o.dst undef) w)
 (hs:wH P md ops Q S ds fuel listed a w rs):wH P md ops Q S ds fuel listed a w (i::rs):=λj hj=>by
 rcases List.mem_cons.1 hj with rfl|hj
 ·exact wpOp_step ho (λK' hK=>h K' (λa w hS hW=>hK a w ⟨λ_ _=>hS,hW hS⟩))
 ·exact hs j hj
theorem wH.Xg{fuel:Nat}{listed:Array Bool}{a:Act}{w:World}{i:Nat}{o:Oper}{rs:List Nat}(ho:ops[i]?=some o)(hd:i∈ds)
 (h:∀K':Act->World->Prop,Shut (∀a w,nR P md ops Q S ds fuel (listed.setIfInBounds i true) a w->K' a w)->if Region.wanted o (yielded ops a.tmps)=true then Oper.wp P o a w K' Q else K' (a.put o.dst undef) w)
 (hs:wH P md ops Q S ds fuel listed a w rs):wH P md ops Q S ds fuel listed a w (i::rs):=λj hj=>by
 rcases List.mem_cons.1 hj with rfl|hj
 ·exact wpOp_step ho (λK' hK=>h K' (λa w hW=>hK a w ⟨λhn=>absurd hd hn,hW⟩))
 ·exact hs j hj
theorem Kz{rs:List Nat}{fuel:Nat}{listed:Array Bool}{a:Act}{w:World}(hr:Region.ready md ops listed=rs)(hne:rs≠[])
 (h:wH P md ops Q S ds fuel listed a w rs):nR P md ops Q S ds (fuel+1) listed a w:=QU hr hne h
theorem qi{id n:Nat}{a:Act}{w:World}(l:Array Bool)(hm:P.follows .mixedOrders=true)(hn:ops.size=n)(hl:Array.replicate n false=l)(hS:S w.drew)
 (h:S w.drew->nR P .any ops Q S ds n l a w.drew):(Code.region id ops true).wp P Q a w:=by
 subst hn
 subst hl
 exact QP hm (h hS)
def takeB(md:Region.Mode)(ops:Array Oper)(ds:List Nat)(l l':Array Bool)(i:Nat):Bool:=
 Region.noSelect ops&&Region.free md ops l i&&(Region.ready md ops l).contains i&&Region.EI md ops l&&Region.lastB md ops l ds i&&(l.setIfInBounds i true==l')
theorem jI{i:Nat}{N:Option Tmp}{oi:Oper}{v:Value}{fuel:Nat}{l:Array Bool}{a:Act}{w:World}(l':Array Bool)(hi:ops[i]?=some oi)(hN:oi.dst=N)(hc:takeB md ops ds l l' i=true)
 (hQ:∀c a w,Q (.panic c) (a.put oi.dst v) w->Q (.panic c) a w) (hy:YieldsIf P ops S oi v a) (hS:S w) {a':Act} (ha:a.put N v=a')
 (h:nR P md ops Q S ds fuel l' a' w):nR P md ops Q S ds (fuel+1) l a w:=by
 subst ha
 subst hN
 simp only[takeB,Bool.and_eq_true,beq_iff_eq] at hc
 obtain⟨⟨⟨⟨⟨h1,h2⟩,h3⟩,h4⟩,h5⟩,h6⟩:=hc
 subst h6
 exact QQ hi h1 h2 h3 h4 h5 hQ hy hS h
def ET(md:Region.Mode)(ops:Array Oper)(l l':Array Bool)(i:Nat):Bool:=
 Region.noSelect ops&&Region.free md ops l i&&(Region.ready md ops l).contains i&&(l.setIfInBounds i true==l')
theorem uB{i:Nat}{N:Option Tmp}{oi:Oper}{v:Value}{fuel:Nat}{l:Array Bool}{a:Act}{w:World}(l':Array Bool)(hi:ops[i]?=some oi)(hN:oi.dst=N)(hc:ET md ops l l' i=true)
 (hQ:∀c a w,Q (.panic c) (a.put oi.dst v) w->Q (.panic c) a w) (hy:Yields P ops oi v a) {a':Act} (ha:a.put N v=a')
 (h:nR P md ops Q S ds fuel l' a' w):nR P md ops Q S ds (fuel+1) l a w:=by
 subst ha
 subst hN
 simp only[ET,Bool.and_eq_true,beq_iff_eq] at hc
 obtain⟨⟨⟨h1,h2⟩,h3⟩,h6⟩:=hc
 subst h6
 exact QT hi (Region.noSelect_spec h1) hQ fuel l a w (Region.free_spec hi h2) (by simpa using h3) hy h
def BZ(md:Region.Mode)(ops:Array Oper)(l l':Array Bool)(i:Nat):Bool:=(Region.ready md ops l==[i])&&(l.setIfInBounds i true==l')
theorem lN{i:Nat}{N:Option Tmp}{oi:Oper}{fuel:Nat}{l:Array Bool}{a:Act}{w:World}(l':Array Bool)(hi:ops[i]?=some oi)(hN:oi.dst=N)(hc:BZ md ops l l' i=true)(hd:i∉ds)
 (h:∀K:Act->World->Prop,Shut (∀a' w',S w'->(S w'->nR P md ops Q S ds fuel l' a' w')->K a' w')->if Region.wanted oi (yielded ops a.tmps)=true then Oper.wp P oi a w K Q else K (a.put N undef) w):
 nR P md ops Q S ds (fuel+1) l a w:=by
 subst hN
 simp only[BZ,Bool.and_eq_true,beq_iff_eq] at hc
 obtain⟨h1,h2⟩:=hc
 subst h2
 exact Kz h1 (by simp) (wH.cons hi hd (λK hK=>h K hK) wH.nil)
theorem xR{i:Nat}{N:Option Tmp}{oi:Oper}{fuel:Nat}{l:Array Bool}{a:Act}{w:World}(l':Array Bool)(hi:ops[i]?=some oi)(hN:oi.dst=N)(hc:BZ md ops l l' i=true)(hd:i∈ds)
 (h:∀K:Act->World->Prop,Shut (∀a' w',nR P md ops Q S ds fuel l' a' w'->K a' w')->if Region.wanted oi (yielded ops a.tmps)=true then Oper.wp P oi a w K Q else K (a.put N undef) w):
 nR P md ops Q S ds (fuel+1) l a w:=by
 subst hN
 simp only[BZ,Bool.and_eq_true,beq_iff_eq] at hc
 obtain⟨h1,h2⟩:=hc
 subst h2
 exact Kz h1 (by simp) (wH.Xg hi hd (λK hK=>h K hK) wH.nil)
theorem ql{l:Array Bool}{a:Act}{w:World}{n:Nat}(hr:(Region.ready md ops l==[])=true)(h:Q .normal a w):nR P md ops Q S ds n l a w:=QS (by simpa using hr) h n
theorem mr{fuel:Nat}{l:Array Bool}{a a':Act}{w:World}(ha:a=a')(h:nR P md ops Q S ds fuel l a' w):nR P md ops Q S ds fuel l a w:=by
 subst ha
 exact h
theorem call_{oi:Oper}{N:Option Tmp}{a:Act}{w:World}{K:Act->World->Prop}(f:FuncId)(args:Array Value)(hw:Region.wanted oi (yielded ops a.tmps)=true)(hN:oi.dst=N)(hrun:(execOp a.eval oi).run P w= .ok (.enter f args) w)
 (h:Calls P f args w λe w'=>∃v,e= .returned v/\K (a.put N v) w'):if Region.wanted oi (yielded ops a.tmps)=true then Oper.wp P oi a w K Q else K (a.put N undef) w:=by
 rw[if_pos hw]
 subst hN
 unfold Oper.wp
 rw[hrun,Oper.upon_enter]
 refine h.mono λe w'' hh=>?_
 obtain⟨v,rfl,hk⟩:=hh
 exact hk
theorem OH{f:FuncId}{fn:Func}(hf:P.funcs[f]?=some fn)(hname:(fn.name== "runtime.NumGoroutine")=false)(hb:fn.body.isSome=true)(args:Array Value)(w:World):(callFunc f args).run P w= .ok (.enter f args) w:=by
 have h1:fn.name≠ "runtime.NumGoroutine" :=by simpa using hname
 obtain⟨c,hc⟩:=Option.isSome_iff_exists.1 hb
 simp [callFunc,hf,h1,hc]
theorem nS{oi:Oper}{N:Option Tmp}{a:Act}{w:World}{K:Act->World->Prop}{f:FuncId}{fn:Func}{as_:Array Operand}{ts:Array TypeId}(hf:P.funcs[f]?=some fn)(hname:(fn.name== "runtime.NumGoroutine")=false)(hb:fn.body.isSome=true)(args:Array Value)
 (hw:Region.wanted oi (yielded ops a.tmps)=true) (hN:oi.dst=N) (hop:oi.op= .call {callee:= .value (.func f),args:=as_,argTypes:=ts}) (hargs:as_.map a.eval=args)
 (h:Calls P f args w λe w'=>∃v,e= .returned v/\K (a.put N v) w'):if Region.wanted oi (yielded ops a.tmps)=true then Oper.wp P oi a w K Q else K (a.put N undef) w:=by
 refine call_ f args hw hN ?_ h
 have he:=OH hf hname hb args w
 unfold execOp
 simp [hop,resolve,Deferred.ofValue,invoke,Act.eval,hargs,he]
theorem Jl{rest:List Oper}{oi:Oper}{a:Act}{w:World}(N:Option Tmp)(hd:oi.dst=N)(hg:oi.guard=none){f:FuncId}{fn:Func}{as_:Array Operand}{ts:Array TypeId}(hf:P.funcs[f]?=some fn)(hname:(fn.name== "runtime.NumGoroutine")=false)(hb:fn.body.isSome=true)(args:Array Value)
 (hop:oi.op= .call {callee:= .value (.func f),args:=as_,argTypes:=ts}) (hargs:as_.map a.eval=args)
 (h:Calls P f args w λe w'=>∃v,e= .returned v/\wpList P ops Q rest (a.put N v) w'):wpList P ops Q (oi::rest) a w:=by
 refine wpList_plain hg λK hK=>?_
 have he:=OH hf hname hb args w
 have hrun:(execOp a.eval oi).run P w= .ok (.enter f args) w:=by
  unfold execOp
  simp [hop,resolve,Deferred.ofValue,invoke,Act.eval,hargs,he]
 unfold Oper.wp
 rw[hrun,Oper.upon_enter]
 refine h.mono λe w'' hh=>?_
 obtain⟨v,rfl,hk⟩:=hh
 subst hd
 exact hK _ _ hk
theorem KQ{oi:Oper}{N:Option Tmp}{a:Act}{w w1:World}{v:Value}{K:Act->World->Prop}(hw:Region.wanted oi (yielded ops a.tmps)=true)(hN:oi.dst=N)(hrun:(execOp a.eval oi).run P w= .ok (.value v) w1)
 (h:K (a.put N v) w1):if Region.wanted oi (yielded ops a.tmps)=true then Oper.wp P oi a w K Q else K (a.put N undef) w:=by
 rw[if_pos hw]
 subst hN
 unfold Oper.wp
 rw[hrun]
 exact h
theorem vH{oi:Oper}{a:Act}{w w1:World}{K:Act->World->Prop}(hw:Region.wanted oi (yielded ops a.tmps)=true)(hN:oi.dst=none)(hrun:(execOp a.eval oi).run P w= .ok .skip w1)
 (h:K a w1):if Region.wanted oi (yielded ops a.tmps)=true then Oper.wp P oi a w K Q else K (a.put none undef) w:=by
 rw[if_pos hw]
 unfold Oper.wp
 rw[hrun]
 show K (a.put oi.dst undef) w1
 rw[hN]
 exact h
theorem iI(n:Int):IntKind.i64.wrap n=Go.RowKit.wrap64 n:=by unfold Go.RowKit.wrap64;exact IntKind.wrap_i64 n
theorem iP(n:Int):IntKind.i32.wrap n=Go.RowKit.wrap32 n:=by unfold Go.RowKit.wrap32;exact IntKind.wrap_i32 n
end
end Go.Proofs.YtifkbghnmhineaaW.rO
end
section
namespace Go.Proofs.YtifkbghnmhineaaW.lJ
open Go.RowKit
namespace Kd
def tag{α:Type}(f:Nat->Nat)(d:Kd α):Kd (α×Nat) where
 sz:=d.sz
 E:=d.E
 K:=λw x cs=>d.K w x.1 cs
 M:=λw base ok x cs=>d.M w base (λk=>ok k/\f k=x.2) x.1 cs
 rU:=λh=>d.rU h
 rQ:=λh=>d.rQ h
 wG:=λhb h=>d.wG hb h
 qQ:=λh=>d.qQ h
 oq:=λhok h=>d.oq (λk hk=>⟨hok k hk.1,hk.2⟩) h
 sD:=λh=>d.oq (λ_ hk=>⟨⟨hk.1.1,hk.2⟩,hk.1.2⟩) (d.sD h)
 tJ:=λhm h=>d.tJ (λk hk=>hm k hk.1) h
 wF:=λhb h=>d.wF hb h
def raw(sz:Nat):Kd (List Value) where
 sz:=sz
 E:=[]
 K:=λ_ x cs=>cs=x/\cs.length=sz/\∀u∈cs,u.oneCell'=true
 M:=λ_ _ _ x cs=>cs=x/\cs.length=sz/\∀u∈cs,u.oneCell'=true
 rU:=λh=>h.2.1
 rQ:=λh=>h.2.2
 wG:=λ_ h=>h
 qQ:=λh=>h
 oq:=λ_ h=>h
 sD:=λh=>h
 tJ:=λ_ h=>h
 wF:=λ_ h=>h
def S{α:Type}(d:Kd α)(e:Nat)(w:World)(base:Nat)(ok:Nat->Prop)(v:Value)(xs:List α):Prop:=∃f,(tag f d).R e w base ok v xs.zipIdx
section
variable{α β:Type}{d:Kd α}{d':Kd β}{e e':Nat}{w w1 W:World}{base b:Nat}{ok ok' Ci Nq:Nat->Prop}{u v:Value}{xs:List α}{ys:List β}
theorem QJ{xs:List α}{j:Nat}{p:α}(h:xs[j]?=some p):xs.zipIdx[j]?=some (p,j):=by rw[List.getElem?_zipIdx,h,Nat.zero_add];rfl
theorem zH(h:S d e w base ok v xs):d.R e w base ok v xs:=by
 obtain⟨f,h0,inner,ho,hr⟩:=h
 rw[List.length_zipIdx] at ho
 exact⟨h0,inner,ho,by have:=hr.1;rw[List.length_zipIdx] at this;exact this,λj p hj=>d.oq (λ_ hk=>hk.1) (hr.2 j (p,j) (QJ hj))⟩
theorem Ql{ad:Addr}{n cap:Nat}(h:d.R e w base ok (.slice (some ad) n cap) xs):∃g,ad=⟨g,0,none⟩:=by
 obtain⟨_,inner,ho,hr⟩:=h
 rcases ho.2 with⟨hv,_⟩|⟨g,cap',cur,hv,_⟩
 ·cases hv
 ·injection hv with ha _ _
  injection ha with ha
  exact⟨g,ha⟩
theorem Yt{ad:Addr}{n cap:Nat}(h:d.R e W base ok (.slice (some ad) n cap) xs)(z:α)(i:Int)(h0:0<=i)(h1:i<n):
 ∃c,c.length=d.sz/\d.M W base (λk=>ok k/\some k≠(Value.slice (some ad) n cap).ownBlock) (xs.getD i.toNat z) c/\∀j u,c[j]?=some u->W.cell? (ad.add (i.toNat*d.sz+j))=some u:=by
 obtain⟨g,rfl⟩:=Ql h
 obtain⟨c,hcl,hM,hcc,_⟩:=Qm h z i h0 h1
 refine⟨c,hcl,d.oq (λk hk=>⟨hk.1,λhe=>hk.2 (by simpa [Value.ownBlock] using he)⟩) hM,λj u hu=>?_⟩
 rw[P_,Nat.zero_add]
 exact hcc j u hu
theorem uf(hE:d.E=[])(h:d.R e w base ok v xs):d.R e w base (λk=>some k=v.ownBlock) v xs:=by
 obtain⟨h0,inner,ho,hr⟩:=h
 refine⟨λk hk=>hk.symm,inner,ho,hr.uH (λp c hp=>d.oq (λk hk=>?_) (d.sD hp))⟩
 obtain⟨_,_,_,q,hq,_⟩:=hk
 rw[hE] at hq
 cases hq
theorem tZ(d:Kd α)(e:Nat)(w:World)(base:Nat)(ok:Nat->Prop):S d e w base ok (.slice none 0 0) []:=⟨λ_=>0,qN _ _ _ _ _⟩
theorem pK(h:S d e w base ok v xs)(hok:∀k,ok k->ok' k):S d e w base ok' v xs:=by
 obtain⟨f,h⟩:=h
 exact⟨f,iZ h hok⟩
theorem Bq(h:S d e w base ok v xs):S d e w base (λk=>ok k/\base<=k/\k<w.heap.size/\∃q,q∈e::d.E/\∃cells,w.heap[k]?=some (.cells cells q (0,0))) v xs:=by
 obtain⟨f,h⟩:=h
 exact⟨f,wE h⟩
theorem Yh(h:S d e w base ok v xs)(hm:∀k,ok k->w1.heap[k]?=w.heap[k]?):S d e w1 base ok v xs:=by
 obtain⟨f,h⟩:=h
 exact⟨f,Dq h hm⟩
theorem Yj{base':Nat}(h:S d e w base ok v xs)(hb:base'<=base):S d e w base' ok v xs:=by
 obtain⟨f,h⟩:=h
 exact⟨f,zI h hb⟩
theorem Qg(h:S d e w base ok v xs)(hm:∀k,ok k->k<w.heap.size->w1.heap[k]?=w.heap[k]?):S d e w1 base ok v xs:=
 pK (Yh (Bq h) (λk hk=>hm k hk.1 hk.2.2.1)) (λ_ hk=>hk.1)
theorem EX(h:S d e w base ok v xs)(hb:Below w.heap.size w w1):S d e w1 base ok v xs:=Qg h (λk _ hk=>hb.block k hk)
theorem uN(h:S d e w base ok v xs)(o:Obj):S d e (w.alloc o) base ok v xs:=EX h (oZ (Below.refl _ _) o)
theorem t_(h:S d e w base ok v xs):S d e w.drew base ok v xs:=EX h (ES (Below.refl _ _))
theorem uK(h:S d e w base ok v xs)(m:Nat):S d e (w.drewN m) base ok v xs:=EX h (qL (Below.refl _ _) m)
theorem Dn(h:S d e w base ok v xs){p:Addr}(hok:∀k,ok k->k≠p.block)(u:Value):S d e (w.setCell p u) base ok v xs:=Qg h (λk ho _=>Below.heap_setCell w p u k (hok k ho))
theorem r_(h:S d e w base ok v xs):∀k,v.ownBlock=some k->∃cells,w.heap[k]?=some (.cells cells e (0,0)):=Qi (zH h)
theorem Yi(h:S d e w base ok v xs):∀k,v.ownBlock=some k->k<w.heap.size:=qZ (zH h)
theorem uM(h:S d e w base ok v xs):∀k,v.ownBlock=some k->base<=k:=pM (zH h)
theorem Yg(h:S d e W base ok u xs)(hty:∀k,v.ownBlock=some k->∃cells,W.heap[k]?=some (.cells cells e' (0,0)))(ht:∀q,q∈e::d.E->q≠e')(hg:W.grownBy w1 v.ownBlock):S d e w1 base ok u xs:=by
 obtain⟨f,h⟩:=h
 exact⟨f,vz h hty ht hg⟩
theorem GM(h:S d e W base ok u xs)(hbase:∀k,v.ownBlock=some k->W.heap.size<=k)(hb:Below W.heap.size W w1):S d e w1 base (λk=>ok k/\some k≠v.ownBlock) u xs:=by
 obtain⟨f,h⟩:=h
 exact⟨f,JJ h hbase hb⟩
theorem Qh(h:S d e w1 W.heap.size ok v xs)(hlt:∀k,u.ownBlock=some k->k<W.heap.size):S d e w1 W.heap.size (λk=>ok k/\some k≠u.ownBlock) v xs:=by
 obtain⟨f,h⟩:=h
 exact⟨f,GV h hlt⟩
theorem Ym{v1:Value}(h:S d e W base (λk=>ok k/\some k≠v.ownBlock) u xs)(hg:W.grownBy w1 v.ownBlock)(hat:v1.ownBlock=v.ownBlock\/∃b,v1.ownBlock=some b/\W.heap.size<=b):S d e w1 base (λk=>ok k/\some k≠v1.ownBlock) u xs:=by
 obtain⟨f,h⟩:=h
 exact⟨f,JK h hg hat⟩
theorem EW(h:S d e W base ok u xs)(hb:Below W.heap.size W w1):S d e w1 base (λk=>ok k/\k<W.heap.size) u xs:=
 pK (EX (Bq h) hb) (λ_ hk=>⟨hk.1,hk.2.2.1⟩)
theorem Yn{f f':Nat->Nat}{zs:List (α×Nat)}(h:(tag f d).R e w base ok v zs)(hf:∀k,ok k->k<w.heap.size->f' k=f k):(tag f' d).R e w base ok v zs:=by
 obtain⟨h0,inner,ho,hr⟩:=wE h
 exact⟨λk hk=>(h0 k hk).1,inner,ho,hr.1,λj p hj=>d.oq (λk hk=>⟨⟨hk.1.1.1,hk.1.2⟩,(hf k hk.1.1.1 hk.1.1.2.2.1).trans hk.2⟩) (hr.2 j p hj)⟩
end
section
variable{α β:Type}{d:Kd α}{d':Kd β}{e e' g:Nat}{w w1 W:World}{base b:Nat}{ok ok' Ci Nq:Nat->Prop}{u v:Value}{xs:List α}{ys:List β}
theorem Yl(h:S d e w base ok v xs)(hok:∀k,ok k->k≠g):some g≠v.ownBlock:=Yv (zH h) hok
theorem yT(h:S d e w base ok v xs):∃A c,v= .slice A xs.length c:=iD (zH h)
theorem xZ{A:Option Addr}{n c:Nat}(h:S d e w base ok (.slice A n c) xs):n=xs.length/\n<=c/\d.C w A xs.length xs:=iw (zH h)
theorem GL{ad:Addr}{n cap:Nat}(h:S d e W base ok (.slice (some ad) n cap) xs)(z:α)(i:Int)(h0:0<=i)(h1:i<n):
 ∃c,c.length=d.sz/\d.M W base (λk=>ok k/\some k≠(Value.slice (some ad) n cap).ownBlock) (xs.getD i.toNat z) c/\∀j u,c[j]?=some u->W.cell? (ad.add (i.toNat*d.sz+j))=some u:=Yt (zH h) z i h0 h1
theorem Yk(h:S d e w base ok v xs)(a:Nat)(ha:w.heap.size<=a):S d e w base (λk=>ok k/\k≠a) v xs:=pK (Bq h) (λk hk=>⟨hk.1,by have:=hk.2.2.1;omega⟩)
theorem xY{N:Nat}(h:S d e w1 base (λk=>ok k/\k<N) u xs)(hbase:∀k,v.ownBlock=some k->N<=k):S d e w1 base (λk=>(ok k/\some k≠v.ownBlock)/\k<N) u xs:=
 pK h (λk hk=>⟨⟨hk.1,λe=>Nat.lt_irrefl _ (Nat.lt_of_lt_of_le hk.2 (hbase k e.symm))⟩,hk.2⟩)
theorem QI(xs:List α)(p:α):(xs++[p]).zipIdx=xs.zipIdx++[(p,xs.length)]:=by rw[List.zipIdx_append];simp
end
section
open Classical in
theorem Yf{α:Type}{d:Kd α}{e base:Nat}{Ci:Nat->Prop}{w:World}{v:Value}{xs:List α}(h:S d e w base Ci v xs)(m:Nat)(je:Nat->Prop)(hap:∀k,je k->¬Ci k):∃f,(∀k,je k->f k=m)/\(tag f d).R e w base Ci v xs.zipIdx:=by
 obtain⟨f,h⟩:=h
 exact⟨λk=>if je k then m else f k,λk hk=>if_pos hk,Yn h (λk hk _=>if_neg (λh2=>hap k h2 hk))⟩
variable{P:Program}{ops:Array Oper}{rest:List Oper}{o:Oper}{a:Act}{Q:Exit->Act->World->Prop}{Kc:Act->World->Prop}{α:Type}
theorem EY(d:Kd α){w0 W:World}(base:Nat)(hgd:o.guard=none)(s x:Operand)(t e:TypeId)(z:Value)(bytes:Nat)
 (ho:o.op= .call {callee:= .builtin .append,args:= #[s,x],argTypes:= #[t,t]})
 (ht:P.underlying t=some (.slice e)) (hinfo:(P.info? e).map (λi=>(i.zero,i.size,i.bytes))=some (some z,d.sz,bytes)) (hz:z.cells.size=d.sz) (hs0:0<d.sz) (hb0:0<bytes)
 (v:Value) (xs:List α) (p:α) (cs:List Value) (ok je:Nat->Prop) (hs:a.eval s=v) (hx:a.eval x= .slice (some ⟨W.heap.size,0,none⟩) 1 1) (hp:d.M W base je p cs) (pW:∀k,je k->ok k/\some k≠v.ownBlock) (hfresh:∀k,W.heap.size<=k->ok k)
 (HO:S d e W base (λk=>ok k/\¬je k) v xs) (HB:Below base w0 W) (hbase:base<=W.heap.size) (hl:(xs.length+1)*bytes<=140737488355328)
 (h:∀v1 w1,S d e w1 base ok v1 (xs++[p])->Below base w0 w1->W.grownBy w1 v.ownBlock->(v1.ownBlock=v.ownBlock\/∃b,v1.ownBlock=some b/\W.heap.size<=b)->wpList P ops Q rest (a.put o.dst v1) w1):
 wpList P ops Q (o::rest) a (W.alloc (.cells cs.toArray e)):=by
 obtain⟨f,hf,hR⟩:=Yf HO xs.length je (λ_ hk h2=>h2.2 hk)
 refine yU (tag f d) base hgd s x t e z bytes ho ht hinfo hz hs0 hb0 v xs.zipIdx (p,xs.length) cs ok je hs hx (d.oq (λk hk=>⟨hk,hf k hk⟩) hp) pW hfresh (iZ hR (λ_ hk=>hk.1)) HB hbase (by rw[List.length_zipIdx];exact hl) ?_
 intro v1 w1 hr
 rw[<-QI] at hr
 exact h v1 w1 ⟨f,hr⟩
end
def gap{α:Type}(f:Nat->Nat)(d:Kd α)(i:Nat)(c:List Value):Kd (α×Nat) where
 sz:=d.sz
 E:=d.E
 K:=λw x cs=>(x.2=i->cs=c/\cs.length=d.sz/\∀u∈cs,u.oneCell'=true)/\(x.2≠i->d.K w x.1 cs)
 M:=λw base ok x cs=>(x.2=i->cs=c/\cs.length=d.sz/\∀u∈cs,u.oneCell'=true)/\(x.2≠i->d.M w base (λk=>ok k/\f k=x.2) x.1 cs)
 rU:=λ{w x cs} h=>by
  by_cases hx:x.2=i
  ·exact(h.1 hx).2.1
  ·exact d.rU (h.2 hx)
 rQ:=λ{w x cs} h=>by
  by_cases hx:x.2=i
  ·exact(h.1 hx).2.2
  ·exact d.rQ (h.2 hx)
 wG:=λhb h=>⟨h.1,λhx=>d.wG hb (h.2 hx)⟩
 qQ:=λh=>⟨h.1,λhx=>d.qQ (h.2 hx)⟩
 oq:=λhok h=>⟨h.1,λhx=>d.oq (λk hk=>⟨hok k hk.1,hk.2⟩) (h.2 hx)⟩
 sD:=λh=>⟨h.1,λhx=>d.oq (λ_ hk=>⟨⟨hk.1.1,hk.2⟩,hk.1.2⟩) (d.sD (h.2 hx))⟩
 tJ:=λhm h=>⟨h.1,λhx=>d.tJ (λk hk=>hm k hk.1) (h.2 hx)⟩
 wF:=λhb h=>⟨h.1,λhx=>d.wF hb (h.2 hx)⟩
def H{α:Type}(d:Kd α)(e:Nat)(w:World)(base:Nat)(ok:Nat->Prop)(v:Value)(xs:List α)(i:Int)(IE:Nat->Prop)(c:List Value):Prop:=
 (∀k,IE k->ok k)/\∃f,(gap f d i.toNat c).R e w base (λk=>ok k/\¬IE k) v xs.zipIdx
end Kd
end Go.Proofs.YtifkbghnmhineaaW.lJ
end
section
namespace Go.Proofs.YtifkbghnmhineaaW.lJ
open Go.RowKit
namespace Kd
structure Heap {α:Type} (d:Kd α):Prop where
 K:∀{w w1:World} {x:α} {cs:List Value},(∀k,k<w.heap.size->w1.heap[k]?=w.heap[k]?)->d.K w x cs->d.K w1 x cs
theorem Xr{w w1:World}(hb:∀k,k<w.heap.size->w1.heap[k]?=w.heap[k]?){a:Addr}{v:Value}(h:w.cell? a=some v):w1.cell? a=some v:=by
 have:=hb a.block (World.block_lt_of_cell? w a h)
 simpa [World.cell?,this] using h
theorem Heap.C{α:Type}{d:Kd α}(hd:Heap d){w w1:World}{A:Option Addr}{n:Nat}{xs:List α}(hb:∀k,k<w.heap.size->w1.heap[k]?=w.heap[k]?)(h:d.C w A n xs):d.C w1 A n xs:=
 ⟨h.1,h.2.1,λhn=>by
  obtain⟨ad,e,hc⟩:=h.2.2 hn
  refine⟨ad,e,λj p hj=>?_⟩
  obtain⟨c,hs,hr,hcell⟩:=hc j p hj
  exact⟨c,hs,hd.K hb hr,λi u hu=>Xr hb (hcell i u hu)⟩⟩
theorem oW(k:IntKind):Heap (Kd.int k):=⟨λ_ h=>h⟩
end Kd
end Go.Proofs.YtifkbghnmhineaaW.lJ
end
section
namespace Go.Proofs.YtifkbghnmhineaaW.lJ
open Go.RowKit
def Kept(w W:World)(S:Nat->Prop):Prop:=w.heap.size<=W.heap.size/\∀i,i<w.heap.size->¬S i->W.heap[i]?=w.heap[i]?
section
variable{w W W2:World}{S S2 S':Nat->Prop}
theorem Kept.refl(w:World)(S:Nat->Prop):Kept w w S:=⟨Nat.le_refl _,λ_ _ _=>rfl⟩
theorem Kept.of_below(h:Below w.heap.size w W)(S:Nat->Prop):Kept w W S:=⟨h.size,λi hi _=>h.block i hi⟩
theorem Kept.mono(h:Kept w W S)(hs:∀k,S k->S' k):Kept w W S':=⟨h.1,λi hi hn=>h.2 i hi (λhk=>hn (hs i hk))⟩
theorem Kept.Hu(h:Kept w W S)(k:Kept W W2 S2)(hs:∀k,S2 k->S k\/w.heap.size<=k):Kept w W2 S:=
 ⟨Nat.le_trans h.1 k.1,λi hi hn=>(k.2 i (Nat.lt_of_lt_of_le hi h.1) (λh2=>(hs i h2).elim hn (λh3=>by omega))).trans (h.2 i hi hn)⟩
theorem Kept.below(h:Kept w W S)(hb:Below W.heap.size W W2):Kept w W2 S:=h.Hu (Kept.of_below hb (λ_=>False)) (λ_ hk=>hk.elim)
theorem Kept.alloc(h:Kept w W S)(o:Obj):Kept w (W.alloc o) S:=h.below (oZ (Below.refl _ _) o)
theorem Kept.drew(h:Kept w W S):Kept w W.drew S:=h
theorem Kept.drewN(h:Kept w W S)(m:Nat):Kept w (W.drewN m) S:=h
theorem Kept.setCell(h:Kept w W S){p:Addr}(hp:S p.block\/w.heap.size<=p.block)(u:Value):Kept w (W.setCell p u) S:=
 h.Hu (S2:=λk=>k=p.block) ⟨by simp [World.setCell],λi _ hn=>Below.heap_setCell W p u i hn⟩ (λk hk=>by rw[hk];exact hp)
end
namespace Kd
section
variable{α:Type}{d:Kd α}{e base n c:Nat}{ok IE S S2:Nat->Prop}{w w0 W W1 W2:World}{v:Value}{A:Option Addr}{xs:List α}{i:Int}{cs:List Value}
theorem Yr(h:d.R e W base ok v xs)(hk:Kept W W2 S)(hne:∀k,ok k->¬S k):d.R e W2 base ok v xs:=EZ h (λk ho hlt=>hk.2 k hlt (hne k ho))
theorem YP(h:d.R e W base ok (.slice A n c) xs)(hok:∀k,ok k->¬S k):∀W',Kept W W' S->d.C W' A n xs:=λW' hk=>by
 have h2:=iw (Yr h hk hok)
 rw[h2.1]
 exact h2.2.2
end
end Kd
end Go.Proofs.YtifkbghnmhineaaW.lJ
end
section
namespace Go.Proofs.YtifkbghnmhineaaW.lJ
open Go.RowKit
def o5(P:World->Prop)(W:World)(ok:Nat->Prop):Prop:=∀W':World,(∀k,ok k->k<W.heap.size->W'.heap[k]?=W.heap[k]?)->P W'
theorem V3{W W1:World}{k:Nat}(h:W1.heap[k]?=W.heap[k]?)(hlt:k<W.heap.size):k<W1.heap.size:=by
 rw[Array.getElem?_eq_getElem hlt] at h
 exact(Array.getElem?_eq_some_iff.1 h).1
namespace o5
variable{P Q:World->Prop}{W W1:World}{ok ok':Nat->Prop}
theorem now(h:o5 P W ok):P W:=h W (λ_ _ _=>rfl)
theorem mono(h:o5 P W ok)(hok:∀k,ok k->ok' k):o5 P W ok':=λW' hW=>h W' (λk hk hlt=>hW k (hok k hk) hlt)
theorem bound(h:o5 P W ok):o5 P W (λk=>ok k/\k<W.heap.size):=λW' hW=>h W' (λk hk hlt=>hW k ⟨hk,hlt⟩ hlt)
theorem step(h:o5 P W ok)(hm:∀k,ok k->k<W.heap.size->W1.heap[k]?=W.heap[k]?):o5 P W1 ok:=λW' hW=>h W' (λk hk hlt=>(hW k hk (V3 (hm k hk hlt) hlt)).trans (hm k hk hlt))
theorem imp(h:o5 P W ok)(hi:∀W',P W'->Q W'):o5 Q W ok:=λW' hW=>hi W' (h W' hW)
theorem old(h:o5 P W ok)(hb:Below W.heap.size W W1):o5 P W1 (λk=>ok k/\k<W.heap.size):=(h.bound).step (λk _ hlt=>hb.block k hlt)
end o5
namespace Kd
def F{α:Type}(d:Kd α)(W:World)(ok:Nat->Prop)(A:Option Addr)(n:Nat)(xs:List α):Prop:=o5 (λW=>d.C W A n xs) W ok
def FK{α:Type}(d:Kd α)(W:World)(ok:Nat->Prop)(x:α)(c:List Value):Prop:=o5 (λW=>d.K W x c) W ok
section
variable{α β:Type}{d:Kd α}{e base n n' cc g N:Nat}{ok ok' je S:Nat->Prop}{w w0 w1 W W1:World}{A A':Option Addr}{u v v1:Value}{xs:List α}{xs':List β}{d':Kd β}{x:α}{c:List Value}
theorem QE(h:F d W ok A n xs):d.C W A n xs:=o5.now h
theorem Dx(h:F d W ok A n xs)(hok:∀k,ok k->ok' k):F d W ok' A n xs:=o5.mono h hok
theorem QF(h:F d W ok A n xs):F d W (λk=>ok k/\k<W.heap.size) A n xs:=o5.bound h
theorem QD(h:F d W ok A n xs)(hm:∀k,ok k->k<W.heap.size->W1.heap[k]?=W.heap[k]?):F d W1 ok A n xs:=o5.step h hm
theorem YE(h:F d W ok A n xs)(hi:∀W',d.C W' A n xs->d'.C W' A' n' xs'):F d' W ok A' n' xs':=o5.imp h hi
theorem nZ(h:F d W ok A n xs)(hb:Below W.heap.size W W1):F d W1 ok A n xs:=QD h (λk _ hlt=>hb.block k hlt)
theorem YM(h:F d W ok A n xs)(o:Obj):F d (W.alloc o) ok A n xs:=nZ h (oZ (Below.refl _ _) o)
theorem YK(h:F d W ok A n xs):F d W.drew ok A n xs:=nZ h (ES (Below.refl _ _))
theorem YJ(h:F d W ok A n xs)(m:Nat):F d (W.drewN m) ok A n xs:=nZ h (qL (Below.refl _ _) m)
theorem YG(h:F d W ok A n xs){p:Addr}(hok:∀k,ok k->k≠p.block)(u:Value):F d (W.setCell p u) ok A n xs:=QD h (λk hk _=>Below.heap_setCell W p u k (hok k hk))
theorem JU(d:Kd α)(W:World)(ok:Nat->Prop):F d W ok none ([]:List α).length []:=λW' _=>QH d W'
theorem YI(h:F d W ok A n xs)(hbase:∀k,v.ownBlock=some k->W.heap.size<=k)(hb:Below W.heap.size W W1):F d W1 (λk=>ok k/\some k≠v.ownBlock) A n xs:=
 Dx (o5.old h hb) (λk hk=>⟨hk.1,λhe=>by have:=hbase k he.symm;have:=hk.2;omega⟩)
theorem YH(h:F d W ok A n xs)(a:Nat)(ha:W.heap.size<=a):F d W (λk=>ok k/\k≠a) A n xs:=Dx (QF h) (λk hk=>⟨hk.1,by have:=hk.2;omega⟩)
theorem YN(h:F d W (λk=>ok k/\some k≠v.ownBlock) A n xs)(hg:W.grownBy W1 v.ownBlock)(hat:v1.ownBlock=v.ownBlock\/∃b,v1.ownBlock=some b/\W.heap.size<=b):F d W1 (λk=>ok k/\some k≠v1.ownBlock) A n xs:=by
 refine Dx (o5.step (QF h) (λk hk hlt=>hg.block k hlt hk.1.2)) (λk hk=>⟨hk.1.1,?_⟩)
 rcases hat with hat|⟨b,hb,hle⟩
 ·rw[hat];exact hk.1.2
 ·rw[hb]
  intro he
  injection he with he
  have:=hk.2
  omega
theorem YD(h:F d W ok A n xs)(hb:Below W.heap.size W W1):F d W1 (λk=>ok k/\k<W.heap.size) A n xs:=o5.old h hb
theorem YC(h:F d W1 (λk=>ok k/\k<N) A n xs)(hbase:∀k,v.ownBlock=some k->N<=k):F d W1 (λk=>(ok k/\some k≠v.ownBlock)/\k<N) A n xs:=
 Dx h (λk hk=>⟨⟨hk.1,λhe=>Nat.lt_irrefl _ (Nat.lt_of_lt_of_le hk.2 (hbase k he.symm))⟩,hk.2⟩)
theorem YL(h:F d W ok A n xs):F d W (λk=>ok k/\some k≠(Value.slice none 0 0).ownBlock) A n xs:=Dx h (λk hk=>⟨hk,by simp [Value.ownBlock]⟩)
theorem o6(hd:Heap d)(h:d.C w A n xs):F d w (λk=>k<w.heap.size) A n xs:=λ_ hW=>hd.C (λk hlt=>hW k hlt hlt) h
theorem GY(h:d.R e W base ok (.slice A n cc) xs):F d W ok A n xs:=λW' hW=>by
 have h2:=iw (EZ h hW)
 rw[h2.1]
 exact h2.2.2
theorem xH(h:FK d W ok x c):d.K W x c:=o5.now h
theorem BG(h:FK d W ok x c)(hok:∀k,ok k->ok' k):FK d W ok' x c:=o5.mono h hok
theorem JW(h:FK d W ok x c):FK d W (λk=>ok k/\k<W.heap.size) x c:=o5.bound h
theorem Fe(h:FK d W ok x c)(hm:∀k,ok k->k<W.heap.size->W1.heap[k]?=W.heap[k]?):FK d W1 ok x c:=o5.step h hm
theorem YO(h:d.M W base ok x c):FK d W ok x c:=λ_ hW=>d.qQ (Qy h hW)
theorem WM(W:World)(g:Nat):∃W':World,(∀k,k≠g->W'.heap[k]?=W.heap[k]?)/\∀a:Addr,a.block=g->W'.cell? a=none:=by
 refine⟨{W with heap:=W.heap.setIfInBounds g (.cells #[] 0)},λk hk=>by simp [Ne.symm hk],λa ha=>?_⟩
 subst ha
 by_cases hlt:a.block<W.heap.size
 ·simp [World.cell?,hlt]
 ·simp [World.cell?,hlt]
end
end Kd
end Go.Proofs.YtifkbghnmhineaaW.lJ
end
section
namespace Go.Proofs.YtifkbghnmhineaaW.lJ
open Go.RowKit
namespace Kd
def chunks(sz:Nat)(n:Nat)(inner:List Value):List (List Value):=(List.range n).map λj=>(inner.drop (j*sz)).take sz
theorem xy(sz n:Nat)(inner:List Value):(chunks sz n inner).length=n:=by simp [chunks]
theorem Xo{sz n:Nat}{inner:List Value}{j:Nat}(hj:j<n):(chunks sz n inner)[j]?=some ((inner.drop (j*sz)).take sz):=by simp [chunks,hj]
theorem Gv{sz n:Nat}{inner:List Value}{j:Nat}{c:List Value}(h:(chunks sz n inner)[j]?=some c):c=(inner.drop (j*sz)).take sz:=by
 have hj:j<n:=by have:=(List.getElem?_eq_some_iff.1 h).1;rwa [xy] at this
 rw[Xo hj] at h
 injection h with h
 exact h.symm
theorem Io{α:Type}{Rr:α->List Value->Prop}{sz:Nat}{xs:List α}{inner:List Value}(h:iY Rr sz xs inner)(hR:∀x c,Rr x c->c.length=sz/\∀u∈c,u.oneCell'=true):iY (λx cs=>cs=x/\cs.length=sz/\∀u∈cs,u.oneCell'=true) sz (chunks sz xs.length inner) inner:=by
 refine⟨by rw[xy];exact h.1,λj p hj=>?_⟩
 have hjl:j<xs.length:=by have:=(List.getElem?_eq_some_iff.1 hj).1;rwa [xy] at this
 have hp:=Gv hj
 exact⟨hp.symm,hR _ _ (h.2 j _ (List.getElem?_eq_getElem hjl))⟩
section
variable{α:Type}{d:Kd α}{e base n cc g:Nat}{ok ok' je S:Nat->Prop}{w w1 W W1:World}{A:Option Addr}{u v v1:Value}{xs:List α}{x:α}{c:List Value}
theorem YF(h:F d W ok A n xs)(z:α)(i:Int)(h0:0<=i)(h1:i<n):
 ∃ad c,A=some ad/\c.length=d.sz/\FK d W ok (xs.getD i.toNat z) c/\(∀j u,c[j]?=some u->W.cell? (ad.add (i.toNat*d.sz+j))=some u)/\(0<d.sz->ok ad.block):=by
 obtain⟨ad,c,rfl,hcl,hK,hcc⟩:=zK (QE h) z i h0 h1
 have hin:0<d.sz->ok ad.block:=by
  intro hs
  by_cases hk:ok ad.block
  ·exact hk
  ·obtain⟨W',h2,h3⟩:=WM W ad.block
   obtain⟨ad',c',he,hcl',_,Jj⟩:=zK (h W' (λk hk' _=>h2 k (λe=>hk (e ▸ hk')))) z i h0 h1
   injection he with he
   subst he
   have h4:=Jj 0 _ (List.getElem?_eq_getElem (by omega))
   rw[h3 _ (add_block _ _)] at h4
   cases h4
 refine⟨ad,c,rfl,hcl,λW' hW=>?_,hcc,hin⟩
 obtain⟨ad',c',he,hcl',hK',Jj⟩:=zK (h W' hW) z i h0 h1
 injection he with he
 subst he
 have hc:c=c':=by
  apply List.ext_getElem?
  intro j
  by_cases hj:j<d.sz
  ·have hb:W'.heap[ad.block]?=W.heap[ad.block]?:=by
    have h5:=hcc j _ (List.getElem?_eq_getElem (by omega))
    have h6:=World.block_lt_of_cell? W _ h5
    rw[add_block] at h6
    exact hW _ (hin (by omega)) h6
   have h5:=hcc j _ (List.getElem?_eq_getElem (by omega))
   have h6:=Jj j _ (List.getElem?_eq_getElem (by omega))
   have h7:W'.cell? (ad.add (i.toNat*d.sz+j))=W.cell? (ad.add (i.toNat*d.sz+j)):=by simp [World.cell?,add_block,hb]
   rw[h7,h5] at h6
   rw[List.getElem?_eq_getElem (by omega),List.getElem?_eq_getElem (by omega)]
   exact h6
  ·rw[List.getElem?_eq_none (by omega),List.getElem?_eq_none (by omega)]
 rw[hc]
 exact hK'
def N{α:Type}(d:Kd α)(e:Nat)(w:World)(base:Nat)(ok:Nat->Prop)(v:Value)(xs:List α):Prop:=
 (∀k,v.ownBlock=some k->ok k)/\∃rows:List (List Value),rows.length=xs.length/\(raw d.sz).R e w base (λk=>some k=v.ownBlock) v rows/\∀(j:Nat) (x:α) (c:List Value),xs[j]?=some x->rows[j]?=some c->FK d w (λk=>ok k/\some k≠v.ownBlock) x c
theorem Iw{sz:Nat}{rows:List (List Value)}(h:(raw sz).R e w base ok v rows):(raw sz).R e w base (λk=>some k=v.ownBlock) v rows:=uf rfl h
theorem Iy{sz:Nat}{rows:List (List Value)}(h:(raw sz).R e w base ok v rows):(raw sz).R e w base (λ_=>True) v rows:=iZ h (λ_ _=>trivial)
theorem Qo(h:d.R e w base ok v xs):N d e w base ok v xs:=by
 obtain⟨h0,inner,ho,hr⟩:=h
 refine⟨h0,chunks d.sz xs.length inner,xy _ _ _,⟨λk hk=>hk.symm,inner,by rw[xy];exact ho,Io hr (λx c hp=>⟨d.rU (d.qQ hp),d.rQ (d.qQ hp)⟩)⟩,λj x c hx hc=>?_⟩
 rw[Gv hc]
 exact YO (hr.2 j x hx)
theorem GN(h:Kd.S d e w base ok v xs):N d e w base ok v xs:=Qo (zH h)
theorem ui(d:Kd α)(e:Nat)(w:World)(base:Nat)(ok:Nat->Prop):N d e w base ok (.slice none 0 0) []:=Qo (qN _ _ _ _ _)
theorem ji(h:N d e w base ok v xs)(hok:∀k,ok k->ok' k):N d e w base ok' v xs:=by
 obtain⟨h0,rows,hl,hR,hf⟩:=h
 exact⟨λk hk=>hok k (h0 k hk),rows,hl,hR,λj x c hx hc=>BG (hf j x c hx hc) (λk hk=>⟨hok k hk.1,hk.2⟩)⟩
theorem mQ(h:N d e w base ok v xs):∀k,v.ownBlock=some k->k<w.heap.size:=by
 obtain⟨_,rows,_,hR,_⟩:=h
 exact qZ hR
theorem vC(h:N d e w base ok v xs):∀k,v.ownBlock=some k->base<=k:=by
 obtain⟨_,rows,_,hR,_⟩:=h
 exact pM hR
theorem jQ(h:N d e w base ok v xs):∀k,v.ownBlock=some k->∃cells,w.heap[k]?=some (.cells cells e (0,0)):=by
 obtain⟨_,rows,_,hR,_⟩:=h
 exact Qi hR
theorem Bz(h:N d e w base ok v xs){t:Nat}{cells:Array Value}(hb:w.heap[g]?=some (.cells cells t (0,0)))(ht:e≠t):some g≠v.ownBlock:=by
 obtain⟨_,rows,_,hR,_⟩:=h
 exact Bv hR hb ht
theorem Yz(h:N d e w base ok v xs)(hok:∀k,ok k->k≠g):some g≠v.ownBlock:=λhe=>hok g (h.1 g he.symm) rfl
theorem JM(h:N d e w base ok v xs):N d e w base (λk=>ok k/\k<w.heap.size) v xs:=by
 have hlt:=mQ h
 obtain⟨h0,rows,hl,hR,hf⟩:=h
 exact⟨λk hk=>⟨h0 k hk,hlt k hk⟩,rows,hl,hR,λj x c hx hc=>BG (JW (hf j x c hx hc)) (λk hk=>⟨⟨hk.1.1,hk.2⟩,hk.1.2⟩)⟩
theorem qf{base':Nat}(h:N d e w base ok v xs)(hb:base'<=base):N d e w base' ok v xs:=by
 obtain⟨h0,rows,hl,hR,hf⟩:=h
 exact⟨h0,rows,hl,zI hR hb,hf⟩
theorem GZ(h:N d e w base ok v xs)(hm:∀k,ok k->k<w.heap.size->w1.heap[k]?=w.heap[k]?):N d e w1 base ok v xs:=by
 obtain⟨h0,rows,hl,hR,hf⟩:=h
 exact⟨h0,rows,hl,EZ hR (λk hk hlt=>hm k (h0 k hk.symm) hlt),λj x c hx hc=>Fe (hf j x c hx hc) (λk hk hlt=>hm k hk.1 hlt)⟩
theorem vU(h:N d e w base ok v xs)(hb:Below w.heap.size w w1):N d e w1 base ok v xs:=GZ h (λk _ hk=>hb.block k hk)
theorem jK(h:N d e w base ok v xs)(o:Obj):N d e (w.alloc o) base ok v xs:=vU h (oZ (Below.refl _ _) o)
theorem jA(h:N d e w base ok v xs):N d e w.drew base ok v xs:=vU h (ES (Below.refl _ _))
theorem jJ(h:N d e w base ok v xs)(m:Nat):N d e (w.drewN m) base ok v xs:=vU h (qL (Below.refl _ _) m)
theorem qP(h:N d e w base ok v xs){p:Addr}(hok:∀k,ok k->k≠p.block)(u:Value):N d e (w.setCell p u) base ok v xs:=GZ h (λk ho _=>Below.heap_setCell w p u k (hok k ho))
theorem rf(h:N d e W base ok v xs)(hbase:∀k,u.ownBlock=some k->W.heap.size<=k)(hb:Below W.heap.size W w1):N d e w1 base (λk=>ok k/\some k≠u.ownBlock) v xs:=
 ji (vU (JM h) hb) (λk hk=>⟨hk.1,λhe=>by have:=hbase k he.symm;have:=hk.2;omega⟩)
theorem yV(h:N d e w base ok v xs)(a:Nat)(ha:w.heap.size<=a):N d e w base (λk=>ok k/\k≠a) v xs:=ji (JM h) (λk hk=>⟨hk.1,by have:=hk.2;omega⟩)
theorem YA(h:N d e W base (λk=>ok k/\some k≠u.ownBlock) v xs){u1:Value}(hg:W.grownBy w1 u.ownBlock)(hat:u1.ownBlock=u.ownBlock\/∃b,u1.ownBlock=some b/\W.heap.size<=b):N d e w1 base (λk=>ok k/\some k≠u1.ownBlock) v xs:=by
 refine ji (GZ (JM h) (λk hk hlt=>hg.block k hlt hk.1.2)) (λk hk=>⟨hk.1.1,?_⟩)
 rcases hat with hat|⟨b,hb,hle⟩
 ·rw[hat];exact hk.1.2
 ·rw[hb]
  intro he
  injection he with he
  have:=hk.2
  omega
theorem oG(h:N d e w base ok v xs):∃A c,v= .slice A xs.length c:=by
 obtain⟨_,rows,hl,hR,_⟩:=h
 obtain⟨A,c,he⟩:=iD hR
 exact⟨A,c,by rw[he,hl]⟩
theorem Qu(h:N d e w base ok v xs)(hp:0<xs.length):∃g cap,v= .slice (some ⟨g,0,none⟩) xs.length cap/\base<=g/\g<w.heap.size/\∃cells,w.heap[g]?=some (.cells cells e (0,0)):=by
 obtain⟨_,rows,hl,hR,_⟩:=h
 rw[<-hl] at hp ⊢
 exact qO hR hp
theorem jR{n c:Nat}(h:N d e w base ok (.slice A n c) xs):n=xs.length/\n<=c/\d.C w A xs.length xs:=by
 obtain⟨_,rows,hl,hR,hf⟩:=h
 obtain⟨hn,hc,hC⟩:=iw hR
 refine⟨by omega,hc,?_⟩
 rw[hl] at hC
 refine⟨rfl,hC.2.1,λhp=>?_⟩
 obtain⟨ad,he,hcell⟩:=hC.2.2 hp
 refine⟨ad,he,λj p hj=>?_⟩
 have hjl:j<rows.length:=by have:=(List.getElem?_eq_some_iff.1 hj).1;omega
 obtain⟨c',hcl,hK,hcc⟩:=hcell j _ (List.getElem?_eq_getElem hjl)
 have hk:=xH (hf j p _ hj (List.getElem?_eq_getElem hjl))
 refine⟨c',hcl,?_,hcc⟩
 rw[show c'=rows[j] from hK.1]
 exact hk
theorem JO{n:Nat}(h:N d e w base ok (.slice A n cc) xs):F d w ok A n xs:=λW' hW=>by
 have h2:=jR (GZ h hW)
 rw[h2.1]
 exact h2.2.2
theorem E_{n cap:Nat}(h:N d e W base ok (.slice (some ⟨g,0,none⟩) n cap) xs)(z:α)(i:Int)(h0:0<=i)(h1:i<n):
 ∃c,c.length=d.sz/\FK d W (λk=>ok k/\k≠g) (xs.getD i.toNat z) c/\(∀j u,c[j]?=some u->W.cell? ⟨g,i.toNat*d.sz+j,none⟩=some u)/\∀j,W.frozen? ⟨g,i.toNat*d.sz+j,none⟩=false:=by
 obtain⟨_,rows,hl,hR,hf⟩:=h
 have hn:=(iw hR).1
 obtain⟨c,hcl,hM,hcc,hfr⟩:=Qm hR [] i h0 h1
 have hil:i.toNat<rows.length:=by omega
 have Oz:i.toNat<xs.length:=by omega
 have hc:c=rows[i.toNat]:=by
  have h2:=hM.1
  rwa [List.getD_eq_getElem?_getD,List.getElem?_eq_getElem hil] at h2
 refine⟨c,hcl,?_,hcc,hfr⟩
 rw[List.getD_eq_getElem?_getD,List.getElem?_eq_getElem Oz]
 exact BG (hf _ _ _ (List.getElem?_eq_getElem Oz) (by rw[hc];exact List.getElem?_eq_getElem hil)) (λk hk=>⟨hk.1,λhe=>hk.2 (by rw[he];simp [Value.ownBlock])⟩)
theorem BA{ad:Addr}{n cap:Nat}(h:N d e W base ok (.slice (some ad) n cap) xs)(z:α)(i:Int)(h0:0<=i)(h1:i<n):
 ∃c,c.length=d.sz/\FK d W (λk=>ok k/\some k≠(Value.slice (some ad) n cap).ownBlock) (xs.getD i.toNat z) c/\∀j u,c[j]?=some u->W.cell? (ad.add (i.toNat*d.sz+j))=some u:=by
 obtain⟨g,rfl⟩:∃g,ad=⟨g,0,none⟩:=by
  obtain⟨_,rows,_,hR,_⟩:=h
  exact Ql hR
 obtain⟨c,hcl,hM,hcc,_⟩:=E_ h z i h0 h1
 refine⟨c,hcl,BG hM (λk hk=>⟨hk.1,λhe=>hk.2 (by simpa [Value.ownBlock] using he)⟩),λj u hu=>?_⟩
 rw[P_,Nat.zero_add]
 exact hcc j u hu
end
end Kd
end Go.Proofs.YtifkbghnmhineaaW.lJ
end
section
namespace Go.Proofs.YtifkbghnmhineaaW.lJ
open Go.RowKit
namespace Kd
section
variable{α:Type}{d:Kd α}{e base n cap g:Nat}{ok ok' je:Nat->Prop}{w w1 W:World}{v v1:Value}{xs ys:List α}
theorem Qv{rows news:List (List Value)}(h0:∀k,v.ownBlock=some k->ok k)(hl:rows.length=xs.length)(hf:∀(j:Nat) (x:α) (c:List Value),xs[j]?=some x->rows[j]?=some c->FK d W (λk=>ok k/\some k≠v.ownBlock) x c)
 (hl2:news.length=ys.length) (hf2:∀(j:Nat) (x:α) (c:List Value),ys[j]?=some x->news[j]?=some c->FK d W je x c) (pW:∀k,je k->ok k/\some k≠v.ownBlock) (hfresh:∀k,W.heap.size<=k->ok k)
 (hR:(raw d.sz).R e w1 base (λ_=>True) v1 (rows++news)) (hg:W.grownBy w1 v.ownBlock) (hat:v1.ownBlock=v.ownBlock\/∃b,v1.ownBlock=some b/\W.heap.size<=b):N d e w1 base ok v1 (xs++ys):=by
 have hne:∀k,some k≠v.ownBlock->k<W.heap.size->some k≠v1.ownBlock:=by
  intro k hk hlt
  rcases hat with hat|⟨b,hb,hle⟩
  ·rw[hat];exact hk
  ·rw[hb]
   intro he
   injection he with he
   omega
 have step:∀{x:α} {c:List Value} {o:Nat->Prop},FK d W o x c->(∀k,o k->ok k/\some k≠v.ownBlock)->FK d w1 (λk=>ok k/\some k≠v1.ownBlock) x c:=by
  intro x c o hq ho
  exact BG (Fe (JW hq) (λk hk hlt=>hg.block k hlt (ho k hk.1).2)) (λk hk=>⟨(ho k hk.1).1,hne k (ho k hk.1).2 hk.2⟩)
 refine⟨λk hk=>?_,rows++news,by rw[List.length_append,List.length_append,hl,hl2],Iw hR,λj x c hx hc=>?_⟩
 ·rcases hat with hat|⟨b,hb,hle⟩
  ·exact h0 k (hat ▸ hk)
  ·rw[hb] at hk
   injection hk with hk
   exact hfresh k (by omega)
 ·rcases Nat.lt_or_ge j xs.length with hlt|hge
  ·rw[List.getElem?_append_left hlt] at hx
   rw[List.getElem?_append_left (by omega)] at hc
   exact step (hf j x c hx hc) (λ_ hk=>hk)
  ·rw[List.getElem?_append_right hge] at hx
   rw[List.getElem?_append_right (by omega),hl] at hc
   exact step (hf2 _ x c hx hc) pW
theorem JV{x:α}{c:List Value}(h:FK d W ok x c):c=c/\c.length=d.sz/\∀u∈c,u.oneCell'=true:=⟨rfl,d.rU (xH h),d.rQ (xH h)⟩
theorem JL{rows:List (List Value)}(hR:(raw d.sz).R e w1 base (λk=>k=W.heap.size) v1 rows)(hg:W.grownBy w1 none)(hat:∃b,v1.ownBlock=some b/\W.heap.size<=b)(hl:rows.length=xs.length)(hf:∀(j:Nat) (x:α) (c:List Value),xs[j]?=some x->rows[j]?=some c->FK d W je x c)
 (hok:∀k,je k->ok k) (hfresh:ok W.heap.size):N d e w1 base ok v1 xs:=by
 obtain⟨b,hb,hle⟩:=hat
 refine⟨λk hk=>by rw[hR.1 k hk];exact hfresh,rows,hl,Iw hR,λj x c hx hc=>?_⟩
 refine BG (Fe (JW (hf j x c hx hc)) (λk hk hlt=>hg.block k hlt (by simp))) (λk hk=>⟨hok k hk.1,λhe=>?_⟩)
 rw[hb] at he
 injection he with he
 have:=hk.2
 omega
theorem Yy{rows:List (List Value)}{i:Int}{x':α}{c':List Value}(h0:∀k,(Value.slice (some ⟨g,0,none⟩) n cap).ownBlock=some k->ok k)(hl:rows.length=xs.length)(hf:∀(j:Nat) (x:α) (c:List Value),xs[j]?=some x->rows[j]?=some c->FK d W (λk=>ok k/\some k≠(Value.slice (some ⟨g,0,none⟩) n cap).ownBlock) x c)
 (hR:(raw d.sz).R e w1 base (λ_=>True) (.slice (some ⟨g,0,none⟩) n cap) (rows.set i.toNat c')) (hg:W.grownBy w1 (some g)) (hM:FK d W je x' c') (pW:∀k,je k->ok k/\k≠g):N d e w1 base ok (.slice (some ⟨g,0,none⟩) n cap) (xs.set i.toNat x'):=by
 have hgo:some g=(Value.slice (some ⟨g,0,none⟩) n cap).ownBlock:=by simp [Value.ownBlock]
 refine⟨h0,rows.set i.toNat c',by rw[List.length_set,List.length_set,hl],Iw hR,λj x c hx hc=>?_⟩
 have hjl:j<xs.length:=by have:=(List.getElem?_eq_some_iff.1 hx).1;rwa [List.length_set] at this
 by_cases hji:j=i.toNat
 ·subst hji
  rw[List.getElem?_set_self hjl] at hx
  rw[List.getElem?_set_self (by omega)] at hc
  injection hx with hx
  injection hc with hc
  rw[<-hx,<-hc]
  exact BG (Fe hM (λk hk hlt=>hg.block k hlt (λhe=>(pW k hk).2 (by injection he)))) (λk hk=>⟨(pW k hk).1,λhe=>(pW k hk).2 (by rw[<-hgo] at he;injection he)⟩)
 ·rw[List.getElem?_set_ne (Ne.symm hji)] at hx hc
  exact Fe (hf j x c hx hc) (λk hk hlt=>hg.block k hlt (by rw[hgo];exact hk.2))
theorem Qq(h:N d e W base ok (.slice (some ⟨g,0,none⟩) n cap) xs)(i:Int)(h0:0<=i)(h1:i<n){c lH:List Value}{j:Nat}(hcl:c.length=d.sz)(hcc:∀j u,c[j]?=some u->W.cell? ⟨g,i.toNat*d.sz+j,none⟩=some u)
 (hj:j+lH.length<=d.sz) {x':α} (hM:FK d W je x' (c.take j++lH++c.drop (j+lH.length))) (pW:∀k,je k->ok k/\k≠g):
 N d e (W.setCells g (i.toNat*d.sz+j) lH) base ok (.slice (some ⟨g,0,none⟩) n cap) (xs.set i.toNat x')/\W.grownBy (W.setCells g (i.toNat*d.sz+j) lH) (some g):=by
 obtain⟨hown,rows,hl,hR,hf⟩:=h
 obtain⟨h2,h3⟩:=Yo (Iy hR) i h0 h1 (c:=c) (lH:=lH) (j:=j) (x':=c.take j++lH++c.drop (j+lH.length)) (je:=λ_=>False) hcl hcc hj ⟨rfl,d.rU (xH hM),d.rQ (xH hM)⟩ (λ_ hk=>hk.elim)
 exact⟨Yy hown hl hf h2 h3 hM pW,h3⟩
end
section
variable{P:Program}{ops:Array Oper}{rest:List Oper}{o:Oper}{a:Act}{Q:Exit->Act->World->Prop}{Kc:Act->World->Prop}{α:Type}
theorem BB(d:Kd α){w0 W:World}(base:Nat)(hgd:o.guard=none)(s x:Operand)(t e:TypeId)(z:Value)(bytes:Nat)
 (ho:o.op= .call {callee:= .builtin .append,args:= #[s,x],argTypes:= #[t,t]})
 (ht:P.underlying t=some (.slice e)) (hinfo:(P.info? e).map (λi=>(i.zero,i.size,i.bytes))=some (some z,d.sz,bytes)) (hz:z.cells.size=d.sz) (hs0:0<d.sz) (hb0:0<bytes)
 (v:Value) (xs:List α) (p:α) (cs:List Value) (ok je:Nat->Prop) (hs:a.eval s=v) (hx:a.eval x= .slice (some ⟨W.heap.size,0,none⟩) 1 1) (hp:FK d W je p cs) (pW:∀k,je k->ok k/\some k≠v.ownBlock) (hfresh:∀k,W.heap.size<=k->ok k)
 (HO:N d e W base ok v xs) (HB:Below base w0 W) (hbase:base<=W.heap.size) (hl:(xs.length+1)*bytes<=140737488355328)
 (h:∀v1 w1,N d e w1 base ok v1 (xs++[p])->Below base w0 w1->W.grownBy w1 v.ownBlock->(v1.ownBlock=v.ownBlock\/∃b,v1.ownBlock=some b/\W.heap.size<=b)->wpList P ops Q rest (a.put o.dst v1) w1):
 wpList P ops Q (o::rest) a (W.alloc (.cells cs.toArray e)):=by
 obtain⟨h0,rows,hlr,hR,hf⟩:=HO
 refine yU (raw d.sz) base hgd s x t e z bytes ho ht hinfo hz hs0 hb0 v rows cs cs (λ_=>True) (λ_=>False) hs hx (JV hp) (λ_ hk=>hk.elim) (λ_ _=>trivial) (Iy hR) HB hbase (by rw[hlr];exact hl) ?_
 intro v1 w1 hr hb hg hat
 exact h v1 w1 (Qv h0 hlr hf (ys:=[p]) (news:=[cs]) rfl (λj y c hy hc=>by
  rcases j with _|j
  ·simp only[List.getElem?_cons_zero,Option.some.injEq] at hy hc
   rw[<-hy,<-hc];exact hp
  ·simp at hy) pW hfresh hr hg hat) hb hg hat
theorem Qw(d:Kd α){w0 W:World}(base:Nat)(hw:Region.wanted o (yielded ops a.tmps)=true)(s x:Operand)(t e:TypeId)(z:Value)(bytes:Nat)
 (ho:o.op= .call {callee:= .builtin .append,args:= #[s,x],argTypes:= #[t,t]})
 (ht:P.underlying t=some (.slice e)) (hinfo:(P.info? e).map (λi=>(i.zero,i.size,i.bytes))=some (some z,d.sz,bytes)) (hz:z.cells.size=d.sz) (hs0:0<d.sz) (hb0:0<bytes)
 (v:Value) (xs:List α) (p:α) (cs:List Value) (ok je:Nat->Prop) (hs:a.eval s=v) (hx:a.eval x= .slice (some ⟨W.heap.size,0,none⟩) 1 1) (hp:FK d W je p cs) (pW:∀k,je k->ok k/\some k≠v.ownBlock) (hfresh:∀k,W.heap.size<=k->ok k)
 (HO:N d e W base ok v xs) (HB:Below base w0 W) (hbase:base<=W.heap.size) (hl:(xs.length+1)*bytes<=140737488355328)
 (h:∀v1 w1,N d e w1 base ok v1 (xs++[p])->Below base w0 w1->W.grownBy w1 v.ownBlock->(v1.ownBlock=v.ownBlock\/∃b,v1.ownBlock=some b/\W.heap.size<=b)->Kc (a.put o.dst v1) w1):
 if Region.wanted o (yielded ops a.tmps)=true then Oper.wp P o a (W.alloc (.cells cs.toArray e)) Kc Q else Kc (a.put o.dst undef) (W.alloc (.cells cs.toArray e)):=by
 obtain⟨h0,rows,hlr,hR,hf⟩:=HO
 refine Yw (raw d.sz) base hw s x t e z bytes ho ht hinfo hz hs0 hb0 v rows cs cs (λ_=>True) (λ_=>False) hs hx (JV hp) (λ_ hk=>hk.elim) (λ_ _=>trivial) (Iy hR) HB hbase (by rw[hlr];exact hl) ?_
 intro v1 w1 hr hb hg hat
 exact h v1 w1 (Qv h0 hlr hf (ys:=[p]) (news:=[cs]) rfl (λj y c hy hc=>by
  rcases j with _|j
  ·simp only[List.getElem?_cons_zero,Option.some.injEq] at hy hc
   rw[<-hy,<-hc];exact hp
  ·simp at hy) pW hfresh hr hg hat) hb hg hat
theorem G5(d:Kd α){w0 W:World}(base e:Nat)(hgd:o.guard=none){N':Tmp}(_hd:o.dst=some N'){xs:List α}{inner:List Value}{ok je:Nat->Prop}
 (hrun:(execOp a.eval o).run P W= .ok (.value (.slice (some ⟨W.heap.size,0,none⟩) xs.length xs.length)) (W.alloc (.cells inner.toArray e)))
 (hrep:iY (FK d W je) d.sz xs inner) (hok:∀k,je k->ok k) (hfresh:ok W.heap.size) (HB:Below base w0 W) (hbase:base<=W.heap.size) (hm:xs.length<=9223372036854775807)
 (h:∀v1 w1,N d e w1 base ok v1 xs->Below base w0 w1->W.grownBy w1 none->(∃b,v1.ownBlock=some b/\W.heap.size<=b)->wpList P ops Q rest (a.put o.dst v1) w1):
 wpList P ops Q (o::rest) a W:=by
 refine qG (raw d.sz) base e hgd _hd (xs:=chunks d.sz xs.length inner) (inner:=inner) (ok:=λk=>k=W.heap.size) (je:=λ_=>False) (by rw[xy];exact hrun) (Io hrep (λy c hk=>⟨d.rU (xH hk),d.rQ (xH hk)⟩)) (λ_ hk=>hk.elim) rfl HB hbase (by rw[xy];exact hm) ?_
 intro v1 w1 hr hb hg hat
 exact h v1 w1 (JL hr hg hat (xy _ _ _) (λj y c hy hc=>by rw[Gv hc];exact hrep.2 j y hy) hok hfresh) hb hg hat
theorem Qs(d:Kd α){w0 W:World}(base e:Nat)(hw:Region.wanted o (yielded ops a.tmps)=true){N':Tmp}(_hd:o.dst=some N'){xs:List α}{inner:List Value}{ok je:Nat->Prop}
 (hrun:(execOp a.eval o).run P W= .ok (.value (.slice (some ⟨W.heap.size,0,none⟩) xs.length xs.length)) (W.alloc (.cells inner.toArray e)))
 (hrep:iY (FK d W je) d.sz xs inner) (hok:∀k,je k->ok k) (hfresh:ok W.heap.size) (HB:Below base w0 W) (hbase:base<=W.heap.size) (hm:xs.length<=9223372036854775807)
 (h:∀v1 w1,N d e w1 base ok v1 xs->Below base w0 w1->W.grownBy w1 none->(∃b,v1.ownBlock=some b/\W.heap.size<=b)->Kc (a.put o.dst v1) w1):
 if Region.wanted o (yielded ops a.tmps)=true then Oper.wp P o a W Kc Q else Kc (a.put o.dst undef) W:=by
 refine Yq (raw d.sz) base e hw _hd (xs:=chunks d.sz xs.length inner) (inner:=inner) (ok:=λk=>k=W.heap.size) (je:=λ_=>False) (by rw[xy];exact hrun) (Io hrep (λy c hk=>⟨d.rU (xH hk),d.rQ (xH hk)⟩)) (λ_ hk=>hk.elim) rfl HB hbase (by rw[xy];exact hm) ?_
 intro v1 w1 hr hb hg hat
 exact h v1 w1 (JL hr hg hat (xy _ _ _) (λj y c hy hc=>by rw[Gv hc];exact hrep.2 j y hy) hok hfresh) hb hg hat
theorem Qr(d:Kd α){w0 W:World}(base e:Nat)(hgd:o.guard=none){N':Tmp}(hd:o.dst=some N')(t:TypeId)(x y:Operand)(ho:o.op= .makeSlice t x y)(n:Int)(hx:a.eval x= .int .i64 n)(hy:a.eval y= .int .i64 n)
 (ht:P.underlying t=some (.slice e)) (z:Value) (bytes:Nat) (hinfo:(P.info? e).map (λi=>(i.zero,i.size,i.bytes))=some (some z,d.sz,bytes)) (hz:z.cells.size=d.sz) (hs0:0<d.sz) (hb0:0<bytes)
 (z0:α) {ok je:Nat->Prop} (hzero:FK d W je z0 z.cells.toList) (hok:∀k,je k->ok k) (hfresh:ok W.heap.size) (h0:0<=n) (hl:n.toNat*bytes<=281474976710656) (HB:Below base w0 W) (hbase:base<=W.heap.size)
 (h:∀v1 w1,N d e w1 base ok v1 (List.replicate n.toNat z0)->Below base w0 w1->W.grownBy w1 none->(∃b,v1.ownBlock=some b/\W.heap.size<=b)->wpList P ops Q rest (a.put o.dst v1) w1):
 wpList P ops Q (o::rest) a W:=by
 refine ug (raw d.sz) base e hgd hd t x y ho n hx hy ht z bytes hinfo hz hs0 hb0 z.cells.toList (ok:=λk=>k=W.heap.size) (je:=λ_=>False) (JV hzero) (λ_ hk=>hk.elim) rfl h0 hl HB hbase ?_
 intro v1 w1 hr hb hg hat
 refine h v1 w1 (JL hr hg hat (by rw[List.length_replicate,List.length_replicate]) (λj y c hy hc=>?_) hok hfresh) hb hg hat
 have h1:=(List.getElem?_eq_some_iff.1 hy).2
 have h2:=(List.getElem?_eq_some_iff.1 hc).2
 rw[List.getElem_replicate] at h1 h2
 rw[<-h1,<-h2]
 exact hzero
end
end Kd
end Go.Proofs.YtifkbghnmhineaaW.lJ
end
section
namespace Go.Proofs.YtifkbghnmhineaaW.uO
open Go.RowKit Go.Proofs.YtifkbghnmhineaaW.lJ
namespace Kd
open Go.Proofs.YtifkbghnmhineaaW.lJ.Kd
section
variable{α:Type}{d:Kd α}{e base g N:Nat}{ok:Nat->Prop}{W w1:World}{u v:Value}{xs:List α}
theorem Qk(hu:d.R e W base ok u xs)(hb:Below W.heap.size W w1):d.R e w1 base (λk=>ok k/\k<W.heap.size) u xs:=
 iZ (E5 (wE hu) hb) (λ_ h=>⟨h.1,h.2.2.1⟩)
theorem GR(h:d.R e w1 base (λk=>ok k/\k<N) u xs)(hbase:∀k,v.ownBlock=some k->N<=k):d.R e w1 base (λk=>(ok k/\some k≠v.ownBlock)/\k<N) u xs:=
 iZ h (λk hk=>⟨⟨hk.1,λe=>Nat.lt_irrefl _ (Nat.lt_of_lt_of_le hk.2 (hbase k e.symm))⟩,hk.2⟩)
end
end Kd
theorem Aw(k k':IntKind)(x y:Int):Builtin.max2 (.int k x) (.int k' y)=pure (.int k (if x<y then y else x)):=by simp only[Builtin.max2,gt_iff_lt]
theorem Ap(k k':IntKind)(x y:Int):Builtin.min2 (.int k x) (.int k' y)=pure (.int k (if y<x then y else x)):=by simp only[Builtin.min2]
theorem Aq(ats:Array TypeId)(ty:TypeId)(a b:Value):Builtin.max_ ats ty #[a,b]=(Builtin.max2 a b>>=λs=>pure s):=by simp only[Builtin.max_,List.foldlM_cons,List.foldlM_nil]
theorem Aj(ats:Array TypeId)(ty:TypeId)(a b:Value):Builtin.min_ ats ty #[a,b]=(Builtin.min2 a b>>=λs=>pure s):=by simp only[Builtin.min_,List.foldlM_cons,List.foldlM_nil]
theorem Ar(ats:Array TypeId)(ty:TypeId)(a b c:Value):Builtin.max_ ats ty #[a,b,c]=(Builtin.max2 a b>>=λs=>Builtin.max2 s c>>=λs=>pure s):=by simp only[Builtin.max_,List.foldlM_cons,List.foldlM_nil]
theorem Ak(ats:Array TypeId)(ty:TypeId)(a b c:Value):Builtin.min_ ats ty #[a,b,c]=(Builtin.min2 a b>>=λs=>Builtin.min2 s c>>=λs=>pure s):=by simp only[Builtin.min_,List.foldlM_cons,List.foldlM_nil]
theorem Au(ats:Array TypeId)(ty:TypeId)(a b c d:Value):Builtin.max_ ats ty #[a,b,c,d]=(Builtin.max2 a b>>=λs=>Builtin.max2 s c>>=λs=>Builtin.max2 s d>>=λs=>pure s):=by simp only[Builtin.max_,List.foldlM_cons,List.foldlM_nil]
theorem Am(ats:Array TypeId)(ty:TypeId)(a b c d:Value):Builtin.min_ ats ty #[a,b,c,d]=(Builtin.min2 a b>>=λs=>Builtin.min2 s c>>=λs=>Builtin.min2 s d>>=λs=>pure s):=by simp only[Builtin.min_,List.foldlM_cons,List.foldlM_nil]
end Go.Proofs.YtifkbghnmhineaaW.uO
namespace Go.Proofs.YtifkbghnmhineaaW.lJ
open Go.RowKit
section
variable{P:Program}{ops:Array Oper}{rest:List Oper}{o:Oper}{a:Act}{Q:Exit->Act->World->Prop}{W:World}
theorem qE{b:Builtin}{xs:Array Operand}{ts:Array TypeId}(_ho:o.op= .call {callee:= .builtin b,args:=xs,argTypes:=ts})(h:wpList P ops Q (o::rest) a W):wpList P ops Q (o::rest) a W:=h
end
def mx(a b:Int):Int:=if a<b then b else a
def mn(a b:Int):Int:=if b<a then b else a
def shl(k:IntKind)(x y:Int):Int:=k.wrap (x*2^min y.toNat k.bits)
theorem Ic{k:IntKind}{x y j:Int}(h:shl k x y=j)(hy:y<=k.bits):k.wrap (x*2^y.toNat)=j:=by rw[<-h];unfold shl;rw[Nat.min_eq_left (by omega)]
theorem AX(w:World)(n:Nat):w.drewN n=w.drewN n:=rfl
end Go.Proofs.YtifkbghnmhineaaW.lJ
namespace Go.Proofs.YtifkbghnmhineaaW.lJ
open Go.RowKit
namespace Kd
def V{α:Type}(d:Kd α)(_e:Nat)(W:World)(_base:Nat)(ok:Nat->Prop)(v:Value)(xs:List α):Prop:=∃A c,v= .slice A xs.length c/\xs.length<=c/\F d W ok A xs.length xs
section
variable{α β:Type}{d:Kd α}{e base base' n m c g N' lo hi:Nat}{ok ok' S:Nat->Prop}{w W w1:World}{A:Option Addr}{ad:Addr}{u v v1:Value}{xs:List α}
theorem w_(h:V d e W base ok v xs)(hF:∀A,F d W ok A xs.length xs->F d w1 ok' A xs.length xs):V d e w1 base' ok' v xs:=by
 obtain⟨A,c,hv,hl,hf⟩:=h
 exact⟨A,c,hv,hl,hF A hf⟩
theorem lT(hl:xs.length<=c)(hf:F d W ok A xs.length xs):V d e W base ok (.slice A xs.length c) xs:=⟨A,c,rfl,hl,hf⟩
theorem ku(h:V d e W base ok v xs):∃A c,v= .slice A xs.length c:=by
 obtain⟨A,c,hv,_⟩:=h
 exact⟨A,c,hv⟩
theorem Dk(h:V d e W base ok (.slice A n c) xs):n=xs.length/\n<=c/\F d W ok A xs.length xs:=by
 obtain⟨A',c',hv,hl,hf⟩:=h
 injection hv with ha hn hc
 subst ha;subst hc
 exact⟨hn,by rw[hn];exact hl,hf⟩
theorem jd(h:V d e W base ok (.slice A n c) xs):n=xs.length/\n<=c/\d.C W A xs.length xs:=⟨(Dk h).1,(Dk h).2.1,QE (Dk h).2.2⟩
theorem xG(h:V d e W base ok (.slice A n c) xs):F d W ok A n xs:=by
 obtain⟨hn,_,hf⟩:=Dk h
 rw[hn]
 exact hf
theorem qX(d:Kd α)(e:Nat)(W:World)(base:Nat)(ok:Nat->Prop):V d e W base ok (.slice none 0 0) []:=⟨none,0,rfl,Nat.le_refl _,JU d W ok⟩
theorem vT(h:d.R e W base ok v xs):V d e W base' ok v xs:=by
 obtain⟨A,c,rfl⟩:=iD h
 exact⟨A,c,rfl,(iw h).2.1,GY h⟩
theorem Qx(h:N d e W base ok v xs):V d e W base' ok v xs:=by
 obtain⟨A,c,rfl⟩:=oG h
 exact⟨A,c,rfl,(jR h).2.1,JO h⟩
theorem jf(h:V d e W base ok v xs)(hok:∀k,ok k->ok' k):V d e W base ok' v xs:=w_ h (λ_ hf=>Dx hf hok)
theorem qp(h:V d e W base ok v xs)(_:base'<=base):V d e W base' ok v xs:=h
theorem GK(h:V d e W base ok v xs)(hb:Below W.heap.size W w1):V d e w1 base ok v xs:=w_ h (λ_ hf=>nZ hf hb)
theorem nH(h:V d e W base ok v xs)(o:Obj):V d e (W.alloc o) base ok v xs:=w_ h (λ_ hf=>YM hf o)
theorem lV(h:V d e W base ok v xs):V d e W.drew base ok v xs:=w_ h (λ_ hf=>YK hf)
theorem nG(h:V d e W base ok v xs)(m:Nat):V d e (W.drewN m) base ok v xs:=w_ h (λ_ hf=>YJ hf m)
theorem pJ(h:V d e W base ok v xs){p:Addr}(hok:∀k,ok k->k≠p.block)(u:Value):V d e (W.setCell p u) base ok v xs:=w_ h (λ_ hf=>YG hf hok u)
theorem Ye(h:V d e W base (λk=>ok k/\some k≠u.ownBlock) v xs)(hg:W.grownBy w1 u.ownBlock)(hat:v1.ownBlock=u.ownBlock\/∃b,v1.ownBlock=some b/\W.heap.size<=b):V d e w1 base (λk=>ok k/\some k≠v1.ownBlock) v xs:=w_ h (λ_ hf=>YN hf hg hat)
theorem rJ(h:V d e W base (λk=>ok k/\some k≠v.ownBlock) u xs)(hg:W.grownBy w1 v.ownBlock)(hat:v1.ownBlock=v.ownBlock\/∃b,v1.ownBlock=some b/\W.heap.size<=b):V d e w1 base (λk=>ok k/\some k≠v1.ownBlock) u xs:=Ye h hg hat
theorem zJ(h:N d e W base (λk=>ok k/\some k≠v.ownBlock) u xs)(hg:W.grownBy w1 v.ownBlock)(hat:v1.ownBlock=v.ownBlock\/∃b,v1.ownBlock=some b/\W.heap.size<=b):N d e w1 base (λk=>ok k/\some k≠v1.ownBlock) u xs:=YA h hg hat
theorem Yd(h:V d e W base ok v xs):V d e W base (λk=>ok k/\some k≠(Value.slice none 0 0).ownBlock) v xs:=w_ h (λ_ hf=>YL hf)
theorem xE(h:V d e W base ok v xs)(hbase:∀k,u.ownBlock=some k->W.heap.size<=k)(hb:Below W.heap.size W w1):V d e w1 base (λk=>ok k/\some k≠u.ownBlock) v xs:=w_ h (λ_ hf=>YI hf hbase hb)
theorem Yc(h:V d e W base ok v xs)(a:Nat)(ha:W.heap.size<=a):V d e W base (λk=>ok k/\k≠a) v xs:=w_ h (λ_ hf=>YH hf a ha)
theorem Yb(h:V d e W base ok v xs)(hb:Below W.heap.size W w1):V d e w1 base (λk=>ok k/\k<W.heap.size) v xs:=w_ h (λ_ hf=>YD hf hb)
theorem Qb(h:V d e w1 base (λk=>ok k/\k<N') v xs)(hbase:∀k,u.ownBlock=some k->N'<=k):V d e w1 base (λk=>(ok k/\some k≠u.ownBlock)/\k<N') v xs:=w_ h (λ_ hf=>YC hf hbase)
theorem Dj(h:V d e W base ok (.slice (some ad) n c) xs)(z:α)(i:Int)(h0:0<=i)(h1:i<n):
 ∃cs,cs.length=d.sz/\FK d W ok (xs.getD i.toNat z) cs/\∀j u,cs[j]?=some u->W.cell? (ad.add (i.toNat*d.sz+j))=some u:=by
 obtain⟨ad',cs,he,hcl,hK,hcc,_⟩:=YF (xG h) z i h0 h1
 injection he with he
 subst he
 exact⟨cs,hcl,hK,hcc⟩
theorem QC(h:F d W ok A xs.length xs)(hm:m<=xs.length):F d W ok A (xs.take m).length (xs.take m):=YE h (λ_ hC=>QG hC hm)
theorem Ff{l:List α}{cs:List Value}(h:FK (Kd.slice e d) W ok l cs):∃A c,cs=[.slice A l.length c]/\l.length<=c/\F d W ok A l.length l:=by
 obtain⟨A,c,rfl,hl,_⟩:=xH h
 refine⟨A,c,rfl,hl,λW' hW=>?_⟩
 obtain⟨A',c',he,_,g'⟩:=h W' hW
 injection he with he _
 injection he with ha _ _
 rw[ha]
 exact g'
theorem yj{l:List α}(hl:l.length<=c)(hf:F d W ok A l.length l):FK (Kd.slice e d) W ok l [.slice A l.length c]:=λW' hW=>⟨A,c,rfl,hl,hf W' hW⟩
theorem oD{M:Nat->Prop}(h:d.R e w1 W.heap.size ok v xs)(hle:w.heap.size<=W.heap.size)(hM:∀k,w.heap.size<=k->M k):d.R e w1 W.heap.size (λk=>M k/\ok k) v xs:=iZ (wE h) (λk hk=>⟨hM k (Nat.le_trans hle hk.2.1),hk.1⟩)
end
end Kd
end Go.Proofs.YtifkbghnmhineaaW.lJ
end
section
namespace Mw
open Go Go.RowKit Go.Proofs.YtifkbghnmhineaaW.lJ Go.Proofs.YtifkbghnmhineaaW.rO Go.Proofs.YtifkbghnmhineaaW.uO
theorem Dy{α:Type}{d:Kd α}{e e0 base n c:Nat}{ok:Nat->Prop}{W:World}{A:Option Addr}{xs:List α}(h:d.R e0 W base ok (.slice A n c) xs):Kd.FK (Kd.slice e d) W ok xs [.slice A n c]:=by
 obtain⟨h1,h2,_⟩:=Kd.iw h
 have h3:=Kd.GY h
 subst h1
 exact Kd.yj h2 h3
end Mw
end
section
namespace Go.Proofs.YtifkbghnmhineaaW.rO
open Go.Proofs.YtifkbghnmhineaaW.lJ (dw)
def Cm(md:Region.Mode)(o:Oper):List Nat:=(o.after.toList.filter (λe=>Region.binds md e)).map (λe=>e.on)
def Jv(md:Region.Mode)(ops:Array Oper)(i:Nat)(oi:Oper):List Nat:=(List.range ops.size).filter λj=> !(j==i)&&match ops[j]? with
 |some oj=> !(oj.after.any (λe=>Region.binds md e&&e.on==i)||oi.apart ops oj)
 |none=>false
def lM(md:Region.Mode)(ops:Array Oper):Bool×List (List Nat×List Nat):=(Region.noSelect ops,(List.range ops.size).map λi=>match ops[i]? with
 |some o=>(Cm md o,Jv md ops i o)
 |none=>([],[]))
def y9(T:List (List Nat×List Nat))(l:List Bool)(i:Nat):Bool:= !l.getD i true&&match T[i]? with
 |some r=>r.1.all (λj=>l.getD j false)
 |none=>false
def Eg(T:List (List Nat×List Nat))(l:List Bool):List Nat:=(List.range T.length).filter (y9 T l)
def EE(T:List (List Nat×List Nat))(l:List Bool)(i:Nat):Bool:=match T[i]? with
 |some r=>r.2.all (λj=>l.getD j true)
 |none=>false
def Gu(T:List (List Nat×List Nat))(l:List Bool):Bool:=(List.range T.length).all λj=> !l.getD j false||match T[j]? with
 |some r=>r.1.all (λk=>l.getD k false)
 |none=>true
def B_(T:List (List Nat×List Nat))(i:Nat):Nat->Nat->Bool
 |0,_=>false
 |fuel+1,d=>match T[d]? with
  |some r=>r.1.any λj=>j==i||B_ T i fuel j
  |none=>false
def lastT(T:List (List Nat×List Nat))(l:List Bool)(ds:List Nat)(i:Nat):Bool:=ds.all λd=>l.getD d true||B_ T i T.length d
section
variable{md:Region.Mode}{ops:Array Oper}{T:Bool×List (List Nat×List Nat)}{l l' li lj lk:Array Bool}{ds:List Nat}{i j k:Nat}
theorem gd(l:Array Bool)(j:Nat)(b:Bool):l.getD j b=l.toList.getD j b:=by simp [Array.getD_eq_getD_getElem?,List.getD_eq_getElem?_getD]
theorem NG(o:Oper)(p:Nat->Bool):o.after.all (λe=> !Region.binds md e||p e.on)=(Cm md o).all p:=by
 unfold Cm
 rw[<-Array.all_toList]
 induction o.after.toList with
 |nil=>rfl
 |cons e r ih=>
  rw[List.all_cons,ih,List.filter_cons]
  cases h:Region.binds md e<;>simp
theorem U6(o:Oper)(p:Nat->Bool):o.after.any (λe=>Region.binds md e&&p e.on)=(Cm md o).any p:=by
 unfold Cm
 rw[<-Array.any_toList]
 induction o.after.toList with
 |nil=>rfl
 |cons e r ih=>
  rw[List.any_cons,ih,List.filter_cons]
  cases h:Region.binds md e<;>simp
theorem FQ:(lM md ops).2.length=ops.size:=by simp [lM]
theorem FO{o:Oper}(h:ops[i]?=some o):(lM md ops).2[i]?=some (Cm md o,Jv md ops i o):=by
 have hi:=(Array.getElem?_eq_some_iff.1 h).1
 unfold lM
 rw[List.getElem?_map,List.getElem?_range hi,Option.map_some,h]
theorem FP(h:ops[i]?=none):(lM md ops).2[i]?=none:=by
 have hi:ops.size<=i:=Array.getElem?_eq_none_iff.1 h
 exact List.getElem?_eq_none (by rw[FQ];exact hi)
theorem Ub:y9 (lM md ops).2 l.toList i=(!l.getD i true&&((ops[i]?).map (·.after.all λe=> !Region.binds md e||l.getD e.on false)).getD false):=by
 unfold y9
 rw[gd]
 cases h:ops[i]? with
 |none=>rw[FP h];rfl
 |some o=>
  rw[FO h]
  simp only[Option.map_some,Option.getD_some]
  rw[<-NG]
  simp only[gd]
theorem ready_eq:Region.ready md ops l=Eg (lM md ops).2 l.toList:=by
 unfold Region.ready Eg
 rw[FQ]
 refine List.filter_congr (λi _=>?_)
 rw[Ub]
theorem free_eq:Region.free md ops l i=EE (lM md ops).2 l.toList i:=by
 unfold Region.free EE
 cases h:ops[i]? with
 |none=>rw[FP h]
 |some oi=>
  rw[FO h]
  simp only[Jv]
  rw[List.all_filter]
  congr 1
  funext j
  rw[gd]
  cases hj:ops[j]? with
  |none=>cases (j==i)<;>cases (l.toList.getD j true)<;>simp
  |some oj=>
   cases (j==i)<;>cases (l.toList.getD j true)<;>cases (oj.after.any (λe=>Region.binds md e&&e.on==i)||oi.apart ops oj)<;>simp_all
theorem Xm:Region.EI md ops l=Gu (lM md ops).2 l.toList:=by
 unfold Region.EI Gu
 rw[FQ]
 congr 1
 funext j
 rw[gd]
 cases h:ops[j]? with
 |none=>rw[FP h]
 |some o=>
  rw[FO h]
  simp only
  rw[<-NG]
  simp only[gd]
theorem reach_eq:∀(fuel d:Nat),Region.wQ md ops i fuel d=B_ (lM md ops).2 i fuel d
 |0,_=>rfl
 |fuel+1,d=>by
  unfold Region.wQ B_
  cases h:ops[d]? with
  |none=>rw[FP h]
  |some o=>
   rw[FO h]
   simp only
   rw[<-U6]
   congr 1
   funext e
   rw[reach_eq fuel]
theorem Vu:Region.lastB md ops l ds i=lastT (lM md ops).2 l.toList ds i:=by
 unfold Region.lastB lastT
 rw[FQ]
 congr 1
 funext d
 rw[gd,reach_eq]
theorem MC(h:y9 T.2 l.toList i=true)(hT:lM md ops=T):(Region.ready md ops l).contains i=true:=by
 subst hT
 rw[ready_eq]
 unfold Eg
 rw[List.contains_iff_mem,List.mem_filter,List.mem_range]
 refine⟨?_,h⟩
 unfold y9 at h
 rw[Bool.and_eq_true] at h
 cases hq:(lM md ops).2[i]? with
 |none=>rw[hq] at h;simp at h
 |some r=>exact(List.getElem?_eq_some_iff.1 hq).1
theorem Ie(h:(l.toList.set i true==l'.toList)=true):(l.setIfInBounds i true==l')=true:=by
 rw[beq_iff_eq] at h ⊢
 apply Array.ext'
 rw[Array.toList_setIfInBounds]
 exact h
def P6(T:Bool×List (List Nat×List Nat))(l l':List Bool)(i:Nat):Bool:=T.1&&EE T.2 l i&&y9 T.2 l i&&(l.set i true==l')
theorem wZ(hT:lM md ops=T)(h:P6 T l.toList l'.toList i=true):ET md ops l l' i=true:=by
 simp only[P6,Bool.and_eq_true] at h
 obtain⟨⟨⟨h1,h2⟩,h3⟩,h4⟩:=h
 have h5:=MC h3 hT
 have h6:=Ie h4
 subst hT
 simp only[ET,Bool.and_eq_true]
 exact⟨⟨⟨h1,by rw[free_eq];exact h2⟩,h5⟩,h6⟩
def Hz(T:Bool×List (List Nat×List Nat))(ds:List Nat)(l l':List Bool)(i:Nat):Bool:=T.1&&EE T.2 l i&&y9 T.2 l i&&Gu T.2 l&&lastT T.2 l ds i&&(l.set i true==l')
theorem Rx(hT:lM md ops=T)(h:Hz T ds l.toList l'.toList i=true):takeB md ops ds l l' i=true:=by
 simp only[Hz,Bool.and_eq_true] at h
 obtain⟨⟨⟨⟨⟨h1,h2⟩,h3⟩,h4⟩,h5⟩,h6⟩:=h
 have h7:=MC h3 hT
 have h8:=Ie h6
 subst hT
 simp only[takeB,Bool.and_eq_true]
 exact⟨⟨⟨⟨⟨h1,by rw[free_eq];exact h2⟩,h7⟩,by rw[Xm];exact h4⟩,by rw[Vu];exact h5⟩,h8⟩
theorem kH(hT:lM md ops=T)(h:(Eg T.2 l.toList==[i]&&l.toList.set i true==l'.toList)=true):BZ md ops l l' i=true:=by
 simp only[Bool.and_eq_true] at h
 obtain⟨h1,h2⟩:=h
 subst hT
 simp only[BZ,Bool.and_eq_true]
 exact⟨by rw[ready_eq];exact h1,Ie h2⟩
theorem qF(hT:lM md ops=T)(h:(Eg T.2 l.toList==[])=true):(Region.ready md ops l==[])=true:=by
 subst hT
 rw[ready_eq]
 exact h
def zQ(B:List Nat)(d:Nat):List Nat->Nat
 | []=>0
 |n::r=>(2^n|||(if n<d then B.getD n 0 else 0))|||zQ B d r
def qh(T:List (List Nat×List Nat))(B:List Nat):Bool:=(List.range T.length).all λd=>match T[d]? with
 |some r=>(B.getD d 0|||zQ B d r.1)==zQ B d r.1
 |none=>false
theorem KR{B:List Nat}{d i:Nat}:∀{ns:List Nat},(zQ B d ns).testBit i=true->∃n∈ns,n=i\/(n<d/\(B.getD n 0).testBit i=true)
 | [],h=>by simp [zQ] at h
 |n::r,h=>by
  unfold zQ at h
  rw[Nat.testBit_or,Nat.testBit_or,Bool.or_eq_true,Bool.or_eq_true] at h
  rcases h with(h|h)|h
  ·rw[Nat.testBit_two_pow] at h
   exact⟨n,List.mem_cons_self, .inl (by simpa using h)⟩
  ·by_cases hn:n<d
   ·rw[if_pos hn] at h
    exact⟨n,List.mem_cons_self, .inr ⟨hn,h⟩⟩
   ·rw[if_neg hn] at h
    simp at h
  ·obtain⟨m,hm,h2⟩:=KR h
   exact⟨m,List.mem_cons_of_mem _ hm,h2⟩
theorem MG{T:List (List Nat×List Nat)}{B:List Nat}(hB:qh T B=true):∀(fuel d:Nat),d<fuel->d<T.length->(B.getD d 0).testBit i=true->B_ T i fuel d=true
 |0,d,h,_,_=>by omega
 |fuel+1,d,h,hd,hb=>by
  have h1:=List.all_eq_true.1 hB d (List.mem_range.2 hd)
  cases hr:T[d]? with
  |none=>rw[hr] at h1;simp at h1
  |some r=>
   rw[hr] at h1
   simp only[beq_iff_eq] at h1
   have h2:(zQ B d r.1).testBit i=true:=by rw[<-h1,Nat.testBit_or,hb,Bool.true_or]
   obtain⟨n,hn,h3⟩:=KR h2
   unfold B_
   rw[hr]
   simp only
   rw[List.any_eq_true]
   refine⟨n,hn,?_⟩
   rcases h3 with rfl|⟨h4,h5⟩
   ·simp
   ·rw[MG hB fuel n (by omega) (by omega) h5,Bool.or_true]
def Oe(T:List (List Nat×List Nat))(B:List Nat)(l:List Bool)(ds:List Nat)(i:Nat):Bool:=ds.all λd=>l.getD d true||(decide (d<T.length)&&(B.getD d 0).testBit i)
def KZ(T:Bool×List (List Nat×List Nat))(B:List Nat)(ds:List Nat)(l l':List Bool)(i:Nat):Bool:=T.1&&EE T.2 l i&&y9 T.2 l i&&Gu T.2 l&&Oe T.2 B l ds i&&(l.set i true==l')
theorem jO{B:List Nat}(hT:lM md ops=T)(hB:qh T.2 B=true)(h:KZ T B ds l.toList l'.toList i=true):takeB md ops ds l l' i=true:=by
 refine Rx hT ?_
 simp only[KZ,Hz,Bool.and_eq_true] at h ⊢
 obtain⟨⟨⟨⟨⟨h1,h2⟩,h3⟩,h4⟩,h5⟩,h6⟩:=h
 refine⟨⟨⟨⟨⟨h1,h2⟩,h3⟩,h4⟩,?_⟩,h6⟩
 unfold Oe at h5
 unfold lastT
 rw[List.all_eq_true] at h5 ⊢
 intro d hd
 have h7:=h5 d hd
 rw[Bool.or_eq_true,Bool.and_eq_true,decide_eq_true_eq] at h7
 rcases h7 with h7|⟨h8,h9⟩
 ·rw[h7,Bool.true_or]
 ·rw[MG hB _ d h8 h8 h9,Bool.or_true]
theorem qx{P:Program}{Q:Exit->Act->World->Prop}{S:World->Prop}{n:Nat}{a:Act}{w:World}{B:List Nat}(hT:lM md ops=T)(hB:qh T.2 B=true)(h:dw (lM md ops=T)->dw (qh T.2 B=true)->nR P md ops Q S ds n l a w):nR P md ops Q S ds n l a w:=h ⟨hT⟩ ⟨hB⟩
end
def xO:Code->Nat->Option (Array Oper)
 | .region id ops _,k=>if id==k then some ops else none
 | .seq a b,k=>match xO a k with
  |some o=>some o
  |none=>xO b k
 | .cond _ a b,k=>match xO a k with
  |some o=>some o
  |none=>xO b k
 | .block _ c,k=>xO c k
 | .loop c,k=>xO c k
 | .scope c,k=>xO c k
 | .rangeFunc _ _ a b,k=>match xO a k with
  |some o=>some o
  |none=>xO b k
 |_,_=>none
def opsOf(f:Func)(k:Nat):Array Oper:=((f.body.bind λc=>xO c k)).getD #[]
end Go.Proofs.YtifkbghnmhineaaW.rO
end
section
namespace Go.Proofs.YtifkbghnmhineaaW.lJ
open Go.RowKit
section
variable{w w' u:World}{m B g:Nat}{o:Obj}{row:Option Nat}{S:Nat->Prop}{a:Addr}{v:Value}
theorem Di(hq:w.drewN m=w')(h:Below B u w):Below B u w':=by subst hq;exact qL h m
end
namespace Kd
section
variable{α:Type}{d:Kd α}{e base n m:Nat}{ok:Nat->Prop}{w w':World}{v:Value}{A:Option Addr}{xs:List α}
theorem Dt(hq:w.drewN m=w')(h:d.R e w base ok v xs):d.R e w' base ok v xs:=by subst hq;exact iU h m
end
end Kd
end Go.Proofs.YtifkbghnmhineaaW.lJ
end
section
namespace Go.Proofs.YtifkbghnmhineaaW.lJ
theorem iY.one{α:Type}{R:α->List Value->Prop}{ps:List α}{cs:List Value}{p:α}{v:Value}(hp:R p [v])(h:iY R 1 ps cs):iY R 1 (p::ps) (v::cs):=by
 refine⟨by simp [h.1],λj q hq=>?_⟩
 cases j with
 |zero=>
  simp only[List.getElem?_cons_zero,Option.some.injEq] at hq
  subst hq
  simpa using hp
 |succ j=>
  simp only[List.getElem?_cons_succ] at hq
  have h1:=h.2 j q hq
  simpa [Nat.mul_one] using h1
theorem iY.front{α:Type}{R:α->List Value->Prop}{size:Nat}{ps:List α}{cs c all:List Value}{p:α}(hp:R p c)(hc:c.length=size)(h:iY R size ps cs)(ha:c++cs=all):iY R size (p::ps) all:=by
 subst ha
 refine⟨by rw[List.length_append,hc,h.1,List.length_cons,Nat.succ_mul,Nat.add_comm],λj q hq=>?_⟩
 cases j with
 |zero=>
  simp only[List.getElem?_cons_zero,Option.some.injEq] at hq
  subst hq
  rw[Nat.zero_mul,List.drop_zero,List.take_append_of_le_length (by omega),List.take_of_length_le (by omega)]
  exact hp
 |succ j=>
  simp only[List.getElem?_cons_succ] at hq
  have h1:=h.2 j q hq
  rw[Nat.succ_mul,List.drop_append,List.drop_of_length_le (by rw[hc];exact Nat.le_add_left _ _),List.nil_append,hc,Nat.add_sub_cancel]
  exact h1
theorem iY.c2{α:Type}{R:α->List Value->Prop}{ps:List α}{cs:List Value}{p:α}{va vb:Value}(hp:R p [va,vb])(h:iY R 2 ps cs):iY R 2 (p::ps) (va::vb::cs):=iY.front hp rfl h rfl
theorem iY.c3{α:Type}{R:α->List Value->Prop}{ps:List α}{cs:List Value}{p:α}{va vb vc:Value}(hp:R p [va,vb,vc])(h:iY R 3 ps cs):iY R 3 (p::ps) (va::vb::vc::cs):=iY.front hp rfl h rfl
theorem iY.c4{α:Type}{R:α->List Value->Prop}{ps:List α}{cs:List Value}{p:α}{va vb vc vd:Value}(hp:R p [va,vb,vc,vd])(h:iY R 4 ps cs):iY R 4 (p::ps) (va::vb::vc::vd::cs):=iY.front hp rfl h rfl
theorem iY.c5{α:Type}{R:α->List Value->Prop}{ps:List α}{cs:List Value}{p:α}{va vb vc vd ve:Value}(hp:R p [va,vb,vc,vd,ve])(h:iY R 5 ps cs):iY R 5 (p::ps) (va::vb::vc::vd::ve::cs):=iY.front hp rfl h rfl
theorem iY.c6{α:Type}{R:α->List Value->Prop}{ps:List α}{cs:List Value}{p:α}{va vb vc vd ve vf:Value}(hp:R p [va,vb,vc,vd,ve,vf])(h:iY R 6 ps cs):iY R 6 (p::ps) (va::vb::vc::vd::ve::vf::cs):=iY.front hp rfl h rfl
theorem iY.c7{α:Type}{R:α->List Value->Prop}{ps:List α}{cs:List Value}{p:α}{va vb vc vd ve vf vg:Value}(hp:R p [va,vb,vc,vd,ve,vf,vg])(h:iY R 7 ps cs):iY R 7 (p::ps) (va::vb::vc::vd::ve::vf::vg::cs):=iY.front hp rfl h rfl
theorem iY.c8{α:Type}{R:α->List Value->Prop}{ps:List α}{cs:List Value}{p:α}{va vb vc vd ve vf vg vh:Value}(hp:R p [va,vb,vc,vd,ve,vf,vg,vh])(h:iY R 8 ps cs):iY R 8 (p::ps) (va::vb::vc::vd::ve::vf::vg::vh::cs):=iY.front hp rfl h rfl
theorem iY.c9{α:Type}{R:α->List Value->Prop}{ps:List α}{cs:List Value}{p:α}{va vb vc vd ve vf vg vh vi:Value}(hp:R p [va,vb,vc,vd,ve,vf,vg,vh,vi])(h:iY R 9 ps cs):iY R 9 (p::ps) (va::vb::vc::vd::ve::vf::vg::vh::vi::cs):=iY.front hp rfl h rfl
theorem iY.c10{α:Type}{R:α->List Value->Prop}{ps:List α}{cs:List Value}{p:α}{va vb vc vd ve vf vg vh vi vj:Value}(hp:R p [va,vb,vc,vd,ve,vf,vg,vh,vi,vj])(h:iY R 10 ps cs):iY R 10 (p::ps) (va::vb::vc::vd::ve::vf::vg::vh::vi::vj::cs):=iY.front hp rfl h rfl
end Go.Proofs.YtifkbghnmhineaaW.lJ
end
section
namespace Go.Proofs.YtifkbghnmhineaaW.rO
def up(b:Nat->Bool)(i:Nat):Nat->Bool:=λj=>if j=i then true else b j
end Go.Proofs.YtifkbghnmhineaaW.rO
end
section
namespace Go.Proofs.YtifkbghnmhineaaW.lJ
open Go.RowKit
section
variable{P:Program}{ops:Array Oper}{rest:List Oper}{o:Oper}{a:Act}{Q:Exit->Act->World->Prop}{W:World}
theorem vN(hw:Region.wanted o (yielded ops a.tmps)=true)(h:wpList P ops Q ({o with guard:=none}::rest) a W):wpList P ops Q (o::rest) a W:=by
 have h1:Region.wanted {o with guard:=none} (yielded ops a.tmps)=true:=rfl
 unfold wpList at h ⊢
 rw[if_pos h1] at h
 rw[if_pos hw]
 exact h
end
end Go.Proofs.YtifkbghnmhineaaW.lJ
end
namespace Go.Proofs.Ytifkbghnmhineaa.qc
open Go.RowKit Go.Proofs.YtifkbghnmhineaaW.lJ Go.Proofs.YtifkbghnmhineaaW.rO Go.Proofs.YtifkbghnmhineaaW.uO
attribute [local go_sem] Aw Ap Aq Aj Ar Ak Au Am
set_option linter.unusedVariables false
set_option linter.unusedSimpArgs false
def OG:Option Int->Value
 |none=> .nilIface
 |some c=> .iface 0 (.int .i64 c)
theorem kV:OG none= .nilIface:=rfl
theorem kU(c:Int):OG (some c)= .iface 0 (.int .i64 c):=rfl
theorem info3:(Try.prog.info? 3).map (λi=>(i.zero,i.size,i.bytes))=some (some (.int .i64 0),1,8):=by kernel_rfl
theorem info22:(Try.prog.info? 22).map (λi=>(i.zero,i.size,i.bytes))=some (some (.slice none 0 0),1,24):=by kernel_rfl
theorem Gf:(Try.prog.info? 29).map (λi=>(i.zero,i.size,i.bytes))=some (some (.slice none 0 0),1,24):=by kernel_rfl
theorem Ou:(Try.prog.info? 60).map (λi=>(i.zero,i.size,i.bytes))=some (some (.agg #[(.bool false),(.slice none 0 0),(.slice none 0 0)]),3,56):=by kernel_rfl
theorem rZ:(Try.prog.info? 97).map (λi=>(i.zero,i.size,i.bytes))=some (some (.int .u32 0),1,4):=by kernel_rfl
theorem Gg:(Try.prog.info? 113).map (λi=>(i.zero,i.size,i.bytes))=some (some (.agg #[(.bool false),(.slice none 0 0)]),2,32):=by kernel_rfl
theorem VM:(Try.prog.info? 114).map (λi=>(i.zero,i.size,i.bytes))=some (some (.slice none 0 0),1,24):=by kernel_rfl
def jD(xs:List (List Int))(i:Int):(List Int):=xs.getD i.toNat ([]:List Int)
theorem rH{w:World}{A:Option Addr}{n:Nat}{xs:List (List Int)}(h:Kd.C (Kd.slice 3 (Kd.int .i64)) w A n xs)(i:Int)(h0:0<=i)(h1:i<n):∃ad A0 c0,A=some ad/\w.cell? (ad.add i.toNat)=some (.slice A0 (jD xs i).length c0)/\(jD xs i).length<=c0/\(Kd.int .i64).C w A0 (jD xs i).length (jD xs i):=by
 obtain⟨ad,c,e,_,hK,hc0⟩:=Kd.zK h ([]:List Int) i h0 h1
 have hc:∀j u,c[j]?=some u->w.cell? (ad.add (i.toNat*1+j))=some u:=hc0
 obtain⟨A0,c0,rfl,l0,g0⟩:=hK
 exact⟨ad,A0,c0,e,by have hq:=hc 0 _ rfl;rwa [Nat.mul_one,Nat.add_zero] at hq,l0,g0⟩
def kD(xs:List (List Int))(i:Int):(List Int):=xs.getD i.toNat ([]:List Int)
theorem wo{w:World}{A:Option Addr}{n:Nat}{xs:List (List Int)}(h:Kd.C (Kd.slice 97 (Kd.int .u32)) w A n xs)(i:Int)(h0:0<=i)(h1:i<n):∃ad A0 c0,A=some ad/\w.cell? (ad.add i.toNat)=some (.slice A0 (kD xs i).length c0)/\(kD xs i).length<=c0/\(Kd.int .u32).C w A0 (kD xs i).length (kD xs i):=by
 obtain⟨ad,c,e,_,hK,hc0⟩:=Kd.zK h ([]:List Int) i h0 h1
 have hc:∀j u,c[j]?=some u->w.cell? (ad.add (i.toNat*1+j))=some u:=hc0
 obtain⟨A0,c0,rfl,l0,g0⟩:=hK
 exact⟨ad,A0,c0,e,by have hq:=hc 0 _ rfl;rwa [Nat.mul_one,Nat.add_zero] at hq,l0,g0⟩
structure jb where
 f0:Bool
 f1:(List Int)
def oN:jb:=⟨false,([]:List Int)⟩
def lq:Kd jb:=Kd.Oo (Kd.pair Kd.bool (Kd.slice 97 (Kd.int .u32))) (λx:jb=>(x.f0,x.f1))
theorem IY{w:World}{x:jb}{cs:List Value}(h:lq.K w x cs):∃A1 c1,cs=[.bool x.f0, .slice A1 x.f1.length c1]/\x.f1.length<=c1/\(Kd.int .u32).C w A1 x.f1.length x.f1:=by
 obtain⟨_,_,rfl,rfl,⟨A1,c1,rfl,l1,g1⟩⟩:=h
 exact⟨A1,c1,rfl,l1,g1⟩
theorem VD(w:World)(x:jb){A1:Option Addr}{c1:Nat}(l1:x.f1.length<=c1)(g1:(Kd.int .u32).C w A1 x.f1.length x.f1):lq.K w x [.bool x.f0, .slice A1 x.f1.length c1]:=⟨[.bool x.f0],[.slice A1 x.f1.length c1],rfl,rfl,⟨A1,c1,rfl,l1,g1⟩⟩
theorem wX{W:World}{ok:Nat->Prop}{x:jb}{cs:List Value}(h:Kd.FK lq W ok x cs):∃A1 c1,cs=[.bool x.f0, .slice A1 x.f1.length c1]/\x.f1.length<=c1/\Kd.F (Kd.int .u32) W ok A1 x.f1.length x.f1:=by
 obtain⟨A1,c1,rfl,l1,_⟩:=IY (Kd.xH h)
 exact⟨A1,c1,rfl,l1,(λW' hW=>by obtain⟨YU,Xz,he,Y6,Wv⟩:=IY (h W' hW);injection (Option.some.inj (show some (Value.slice A1 x.f1.length c1)=some (Value.slice YU x.f1.length Xz) from congrArg (λl=>l[1]?) he)) with We _ _;rw[We];exact Wv)⟩
theorem AL(W:World)(ok:Nat->Prop)(x:jb){A1:Option Addr}{c1:Nat}(l1:x.f1.length<=c1)(g1:Kd.F (Kd.int .u32) W ok A1 x.f1.length x.f1):Kd.FK lq W ok x [.bool x.f0, .slice A1 x.f1.length c1]:=λW2 hW=>VD W2 x l1 (g1 W2 hW)
def iK(xs:List jb)(i:Int):jb:=xs.getD i.toNat oN
theorem xW{w:World}{A:Option Addr}{n:Nat}{xs:List jb}(h:Kd.C lq w A n xs)(i:Int)(h0:0<=i)(h1:i<n):∃ad A1 c1,A=some ad/\w.cell? (ad.add (i.toNat*2))=some (.bool (iK xs i).f0)/\w.cell? ⟨(ad.add (i.toNat*2)).block,(ad.add (i.toNat*2)).off+1,none⟩=some (.slice A1 (iK xs i).f1.length c1)/\(iK xs i).f1.length<=c1/\(Kd.int .u32).C w A1 (iK xs i).f1.length (iK xs i).f1:=by
 obtain⟨ad,c,e,_,hK,hc0⟩:=Kd.zK h oN i h0 h1
 have hc:∀j u,c[j]?=some u->w.cell? (ad.add (i.toNat*2+j))=some u:=hc0
 obtain⟨A1,c1,rfl,l1,g1⟩:=IY hK
 exact⟨ad,A1,c1,e,hc 0 _ rfl,by rw[<-wz _ _ 1 (by omega)];exact hc 1 _ rfl,l1,g1⟩
def jT(xs:List (List jb))(i:Int):(List jb):=xs.getD i.toNat ([]:List jb)
theorem P5{w:World}{A:Option Addr}{n:Nat}{xs:List (List jb)}(h:Kd.C (Kd.slice 113 lq) w A n xs)(i:Int)(h0:0<=i)(h1:i<n):∃ad A0 c0,A=some ad/\w.cell? (ad.add i.toNat)=some (.slice A0 (jT xs i).length c0)/\(jT xs i).length<=c0/\lq.C w A0 (jT xs i).length (jT xs i):=by
 obtain⟨ad,c,e,_,hK,hc0⟩:=Kd.zK h ([]:List jb) i h0 h1
 have hc:∀j u,c[j]?=some u->w.cell? (ad.add (i.toNat*1+j))=some u:=hc0
 obtain⟨A0,c0,rfl,l0,g0⟩:=hK
 exact⟨ad,A0,c0,e,by have hq:=hc 0 _ rfl;rwa [Nat.mul_one,Nat.add_zero] at hq,l0,g0⟩
structure lC where
 f0:Bool
 f1:(List Int)
 f2:(List Int)
def z60:lC:=⟨false,([]:List Int),([]:List Int)⟩
def wW:Kd lC:=Kd.Oo (Kd.pair Kd.bool (Kd.pair (Kd.slice 97 (Kd.int .u32)) (Kd.slice 97 (Kd.int .u32)))) (λx:lC=>(x.f0,x.f1,x.f2))
theorem VC{w:World}{x:lC}{cs:List Value}(h:wW.K w x cs):∃A1 c1 A2 c2,cs=[.bool x.f0, .slice A1 x.f1.length c1, .slice A2 x.f2.length c2]/\x.f1.length<=c1/\(Kd.int .u32).C w A1 x.f1.length x.f1/\x.f2.length<=c2/\(Kd.int .u32).C w A2 x.f2.length x.f2:=by
 obtain⟨_,_,rfl,rfl,⟨_,_,rfl,⟨A1,c1,rfl,l1,g1⟩,⟨A2,c2,rfl,l2,g2⟩⟩⟩:=h
 exact⟨A1,c1,A2,c2,rfl,l1,g1,l2,g2⟩
theorem VB{w:World}{base:Nat}{ok:Nat->Prop}{x:lC}{cs:List Value}(h:wW.M w base ok x cs):∃v1 v2,cs=[.bool x.f0,v1,v2]/\(Kd.int .u32).R 97 w base ok v1 x.f1/\(Kd.int .u32).R 97 w base ok v2 x.f2:=by
 obtain⟨_,_,rfl,rfl,⟨_,_,rfl,⟨v1,rfl,g1⟩,⟨v2,rfl,g2⟩⟩⟩:=h
 exact⟨v1,v2,rfl,g1,g2⟩
theorem Om(w:World)(base:Nat)(ok:Nat->Prop)(x:lC){v1:Value}(g1:(Kd.int .u32).R 97 w base ok v1 x.f1){v2:Value}(g2:(Kd.int .u32).R 97 w base ok v2 x.f2):wW.M w base ok x [.bool x.f0,v1,v2]:=⟨[.bool x.f0],[v1,v2],rfl,rfl,⟨[v1],[v2],rfl,⟨v1,rfl,g1⟩,⟨v2,rfl,g2⟩⟩⟩
def mf(xs:List lC)(i:Int):lC:=xs.getD i.toNat z60
theorem PZ{w:World}{A:Option Addr}{n:Nat}{xs:List lC}(h:Kd.C wW w A n xs)(i:Int)(h0:0<=i)(h1:i<n):∃ad A1 c1 A2 c2,A=some ad/\w.cell? (ad.add (i.toNat*3))=some (.bool (mf xs i).f0)/\w.cell? ⟨(ad.add (i.toNat*3)).block,(ad.add (i.toNat*3)).off+1,none⟩=some (.slice A1 (mf xs i).f1.length c1)/\w.cell? ⟨(ad.add (i.toNat*3)).block,(ad.add (i.toNat*3)).off+2,none⟩=some (.slice A2 (mf xs i).f2.length c2)/\(mf xs i).f1.length<=c1/\(Kd.int .u32).C w A1 (mf xs i).f1.length (mf xs i).f1/\(mf xs i).f2.length<=c2/\(Kd.int .u32).C w A2 (mf xs i).f2.length (mf xs i).f2:=by
 obtain⟨ad,c,e,_,hK,hc0⟩:=Kd.zK h z60 i h0 h1
 have hc:∀j u,c[j]?=some u->w.cell? (ad.add (i.toNat*3+j))=some u:=hc0
 obtain⟨A1,c1,A2,c2,rfl,l1,g1,l2,g2⟩:=VC hK
 exact⟨ad,A1,c1,A2,c2,e,hc 0 _ rfl,by rw[<-wz _ _ 1 (by omega)];exact hc 1 _ rfl,by rw[<-wz _ _ 2 (by omega)];exact hc 2 _ rfl,l1,g1,l2,g2⟩
end Go.Proofs.Ytifkbghnmhineaa.qc
section
set_option linter.unusedVariables false
set_option maxRecDepth 100000
namespace Go.Proofs.Ytifkbghnmhineaa.qc
open Go Go.RowKit Go.Proofs.YtifkbghnmhineaaW.lJ Go.Proofs.YtifkbghnmhineaaW.rO Go.Proofs.YtifkbghnmhineaaW.uO
theorem zk{p:Prop}(h:p):dw p:=⟨h⟩
theorem zR{P Q:Prop}(h:P)(f:P->Q:=by intro h;(with_reducible repeat(first|apply Kd.iT|apply Kd.iU|apply Kd.iJ));exact h):Q:=f h
theorem zV{P Q:Prop}(h:P)(f:P->Q:=by intro h;(with_reducible repeat(first|apply Kd.nH|apply Kd.nG|apply Kd.lV));exact h):Q:=f h
theorem zN{P Q:Prop}(h:P)(f:P->Q:=by intro h;(with_reducible repeat(first|apply Kd.jK|apply Kd.jJ|apply Kd.jA));exact h):Q:=f h
theorem zS{P Q:Prop}(h:P)(f:P->Q:=by intro h;(with_reducible repeat(first|apply Kd.uN|apply Kd.uK|apply Kd.t_));exact h):Q:=f h
theorem zB{P Q:Prop}(h:P)(f:P->Q:=by intro h;repeat(first|(with_reducible first|exact h|apply oZ|apply qL|apply l9)|exact h)):Q:=f h
theorem iH{P Q P1:Prop}(h:P)(h1:P1)(f:P->P1->Q:=by intro h h1;repeat(first|(with_reducible first|exact h|apply oZ|apply qL|apply l9|refine lS ?_ h1)|exact h)):Q:=f h h1
theorem yu{P Q P1 P2:Prop}(h:P)(h1:P1)(h2:P2)(f:P->P1->P2->Q:=by intro h h1 h2;repeat(first|(with_reducible first|exact h|apply oZ|apply qL|apply l9|refine lS ?_ h1|refine lS ?_ h2)|exact h)):Q:=f h h1 h2
theorem nI{P Q P1 P2 P3:Prop}(h:P)(h1:P1)(h2:P2)(h3:P3)(f:P->P1->P2->P3->Q:=by intro h h1 h2 h3;repeat(first|(with_reducible first|exact h|apply oZ|apply qL|apply l9|refine lS ?_ h1|refine lS ?_ h2|refine lS ?_ h3)|exact h)):Q:=f h h1 h2 h3
theorem zC{P Q:Prop}(h:P)(f:P->Q:=by intro h;repeat(first|exact h|(with_reducible refine Kd.uT ?_ _)|(with_reducible refine Kd.uQ ?_ _)|(with_reducible refine Kd.uS ?_))):Q:=f h
theorem yY{P Q:Prop}(h:P)(f:P->Q:=by intro h;repeat(first|(with_reducible exact h)|(with_reducible refine Kd.uT ?_ _)|(with_reducible refine Kd.uQ ?_ _)|(with_reducible refine Kd.uS ?_)|exact h)):Q:=f h
theorem zE{Q:Prop}(f:Q:=by first|rfl|(simp [kV,kU]<;>rfl)|(simp [*,kV,kU]<;>rfl)):Q:=f
theorem zF{Q:Prop}(f:Q:=by first|rfl|(simp;done)|(simp [*];done)):Q:=f
theorem zO{Q:Prop}(f:Q:=by first|omega|exact Nat.le_refl _):Q:=f
theorem z0{Q:Prop}(f:Q:=by first|exact Kd.qN _ _ _ _ _|exact Kd.ui _ _ _ _ _|exact Kd.qX _ _ _ _ _|exact Kd.uh _ _ _ _ _|exact Kd.tZ _ _ _ _ _):Q:=f
theorem kP{P Q:Prop}(h:dw P)(f:P->Q:=by intro h;omega):Q:=f h.out
theorem lW{P P1 Q:Prop}(h:dw P)(h1:dw P1)(f:P->P1->Q:=by intro h h1;omega):Q:=f h.out h1.out
theorem zY{α β:Type}{y l:α}{x r:Option β}{Q:Prop}(hy:y=l)(H:x=r)(f:y=l->x=r->Q:=by intro hy H;first|(rw[hy];with_reducible exact H)|(have JS:=(Option.bind_some _ _).symm.trans H;rw[hy];with_reducible exact JS)|(have JS:=(Option.bind_some _ _).symm.trans H;with_reducible exact JS)|with_reducible exact H|(rw[hy];exact H)|exact H):Q:=f hy H
theorem zb{α β:Type}{x:Option α}{f:α->Option β}{r:β}(h:x.bind f=some r):∃t,dw (x=some t)/\f t=some r:=by
 obtain⟨t,h1,h2⟩:=Option.bind_eq_some_iff.mp h
 exact⟨t,⟨h1⟩,h2⟩
theorem zi{α:Type}{c:Prop}[Decidable c]{a b r:α}(h:(if c then a else b)=r):(c/\a=r)\/(¬c/\b=r):=by
 by_cases hc:c
 ·rw[if_pos hc] at h;exact .inl ⟨hc,h⟩
 ·rw[if_neg hc] at h;exact .inr ⟨hc,h⟩
theorem zg{α:Type}{c:Prop}[Decidable c]{a:Option α}{r:α}(h:(if c then a else none)=some r):c/\a=some r:=by
 by_cases hc:c
 ·rw[if_pos hc] at h;exact⟨hc,h⟩
 ·rw[if_neg hc] at h;cases h
theorem zh{α:Type}{c:Prop}[Decidable c]{a:Option α}{r:α}(h:(if c then none else a)=some r):¬c/\a=some r:=by
 by_cases hc:c
 ·rw[if_pos hc] at h;cases h
 ·rw[if_neg hc] at h;exact⟨hc,h⟩
theorem jB{α:Type}{c:Prop}[Decidable c]{a b r:α}(h:(if c then a else b)=r):(decide c=true/\a=r)\/(decide c=false/\b=r):=by
 rcases zi h with⟨hc,h⟩|⟨hc,h⟩
 ·exact .inl ⟨decide_eq_true hc,h⟩
 ·exact .inr ⟨decide_eq_false hc,h⟩
theorem iV{α:Type}{c:Prop}[Decidable c]{a:Option α}{r:α}(h:(if c then a else none)=some r):decide c=true/\a=some r:=⟨decide_eq_true (zg h).1,(zg h).2⟩
theorem zd{p:Prop}[Decidable p](f:decide p=true:=by first|(with_reducible assumption)|assumption):p:=of_decide_eq_true f
theorem gC{P:Program}{ops:Array Oper}{Q:Exit->Act->World->Prop}{rest:List Oper}{o:Oper}{a:Act}{W:World}(f:FuncId){xs:Array Operand}{ts:Array TypeId}(h:wpList P ops Q (o::rest) a W)(_ho:o.op= .call {callee:= .value (.func f),args:=xs,argTypes:=ts}:=by exact rfl):wpList P ops Q (o::rest) a W:=h
section
variable{P:Prop}{α β:Type}{d:Kd α}{d':Kd β}{w W w1:World}{e e' base base' n:Nat}{ok ok':Nat->Prop}{v u u':Value}{xs:List α}{ys:List β}
theorem yS(h:dw P)(k:Below W.heap.size W w1)(f:P->Below w.heap.size w W:=by intro h;repeat(first|(with_reducible first|exact h|apply oZ|apply qL|apply l9)|exact h)):dw (Below w.heap.size w w1):=⟨GI (f h.out) k⟩
theorem iG(h:dw P)(h0:d'.R e' w1 W.heap.size ok' v ys)(hb:Below W.heap.size W w1)(f:P->d.R e W base ok u xs:=by intro h;(with_reducible repeat(first|apply Kd.iT|apply Kd.iU|apply Kd.iJ));exact h):dw (d.R e w1 base (λk=>ok k/\some k≠v.ownBlock) u xs):=⟨Kd.JJ (f h.out) (Kd.pM h0) hb⟩
theorem o7(h:dw P)(h0:d'.R e' w1 W.heap.size ok' v ys)(hb:Below W.heap.size W w1)(f:P->d.N e W base ok u xs:=by intro h;(with_reducible repeat(first|apply Kd.jK|apply Kd.jJ|apply Kd.jA));exact h):dw (d.N e w1 base (λk=>ok k/\some k≠v.ownBlock) u xs):=⟨Kd.rf (f h.out) (Kd.pM h0) hb⟩
theorem mO(h:dw P)(h0:d'.R e' w1 W.heap.size ok' v ys)(hb:Below W.heap.size W w1)(f:P->d.V e W base ok u xs:=by intro h;(with_reducible repeat(first|apply Kd.nH|apply Kd.nG|apply Kd.lV));exact h):dw (d.V e w1 base (λk=>ok k/\some k≠v.ownBlock) u xs):=⟨Kd.xE (f h.out) (Kd.pM h0) hb⟩
theorem jl(h:dw P)(hb:Below W.heap.size W w1)(f:P->d.R e W base ok u xs:=by intro h;(with_reducible repeat(first|apply Kd.iT|apply Kd.iU|apply Kd.iJ));exact h):dw (d.R e w1 base ok u xs):=⟨Kd.E5 (f h.out) hb⟩
theorem jy(h:dw P)(hb:Below W.heap.size W w1)(f:P->d.V e W base ok u xs:=by intro h;(with_reducible repeat(first|apply Kd.nH|apply Kd.nG|apply Kd.lV));exact h):dw (d.V e w1 base ok u xs):=⟨Kd.GK (f h.out) hb⟩
theorem kG(h:dw P)(hb:Below W.heap.size W w1)(f:P->d.N e W base ok u xs:=by intro h;(with_reducible repeat(first|apply Kd.jK|apply Kd.jJ|apply Kd.jA));exact h):dw (d.N e w1 base ok u xs):=⟨Kd.vU (f h.out) hb⟩
theorem oO(h:dw P)(hb:Below W.heap.size W w1){A:Option Addr}(f:P->d.C W A n xs:=by intro h;repeat(first|(with_reducible exact h)|(with_reducible refine Kd.uT ?_ _)|(with_reducible refine Kd.uQ ?_ _)|(with_reducible refine Kd.uS ?_)|exact h)):dw (d.C w1 A n xs):=⟨Kd.iR (f h.out) hb⟩
theorem jm(h:d.R e w1 W.heap.size ok v xs)(hb:dw P)(f:P->Below w.heap.size w W:=by intro h;repeat(first|(with_reducible first|exact h|apply oZ|apply qL|apply l9)|exact h)):dw (d.R e w1 w.heap.size ok v xs):=⟨Kd.zI h (iQ (f hb.out))⟩
theorem ou(h:d.V e w1 W.heap.size ok v xs)(hb:dw P)(f:P->Below w.heap.size w W:=by intro h;repeat(first|(with_reducible first|exact h|apply oZ|apply qL|apply l9)|exact h)):dw (d.V e w1 w.heap.size (λ_=>True) v xs):=⟨Kd.qp (Kd.jf h (λ_ _=>trivial)) (iQ (f hb.out))⟩
theorem yn(h:d.R e w1 W.heap.size ok v xs)(hb:dw P)(f:P->d'.R e' W base ok' u ys:=by intro h;(with_reducible repeat(first|apply Kd.iT|apply Kd.iU|apply Kd.iJ));exact h):d.R e w1 W.heap.size (λk=>ok k/\some k≠u.ownBlock) v xs:=Kd.GV h (Kd.qZ (f hb.out))
end
section
variable{P:Prop}{α β:Type}{d:Kd α}{d':Kd β}{w W w1:World}{e e' base base' n:Nat}{ok ok':Nat->Prop}{v u u':Value}{xs:List α}{ys:List β}
theorem yt(h:d.R e w base ok v xs):d.R e w base (λ_=>True) v xs:=Kd.iZ h (λ_ _=>trivial)
end
section
variable{P Q Q1:Prop}{w W W0 w1:World}{g g':Nat}{o:Obj}
theorem yK(h:dw (W0.heap[g]?=some o))(hb:Below W.heap.size W w1)(f:W0.heap[g]?=some o->W.heap[g]?=some o:=by intro h;(with_reducible repeat(first|refine iM ?_ _|refine iC ?_|refine iL ?_ _));exact h):dw (w1.heap[g]?=some o):=⟨Df (f h.out) hb⟩
theorem mZ(hg:g'=W.heap.size)(h:dw (W0.heap[g]?=some o))(f:W0.heap[g]?=some o->W.heap[g]?=some o:=by intro h;(with_reducible repeat(first|refine iM ?_ _|refine iC ?_|refine iL ?_ _));exact h):dw (g≠g'):=⟨by rw[hg];exact Nat.ne_of_lt (Bj (f h.out))⟩
theorem ng(hg:g'=W.heap.size)(h:dw (W0.heap[g]?=some o))(f:W0.heap[g]?=some o->W.heap[g]?=some o:=by intro h;(with_reducible repeat(first|refine iM ?_ _|refine iC ?_|refine iL ?_ _));exact h):dw (g'≠g):=⟨by rw[hg];exact Nat.ne_of_gt (Bj (f h.out))⟩
theorem yg(hg:g'=W.heap.size)(h:dw P)(f:P->Below w.heap.size w W:=by intro h;repeat(first|(with_reducible first|exact h|apply oZ|apply qL|apply l9)|exact h)):dw (w.heap.size<=g'):=⟨by rw[hg];exact iQ (f h.out)⟩
theorem qg(hg:g'=W.heap.size)(h:dw P){P1:Prop}(h1:dw P1)(f:P->P1->Below w.heap.size w W:=by intro h h1;repeat(first|(with_reducible first|exact h|apply oZ|apply qL|apply l9|refine lS ?_ h1)|exact h)):dw (w.heap.size<=g'):=⟨by rw[hg];exact iQ (f h.out h1.out)⟩
theorem jg(h:dw P){P1:Prop}(h1:dw P1)(k:Below W.heap.size W w1)(f:P->P1->Below w.heap.size w W:=by intro h h1;repeat(first|(with_reducible first|exact h|apply oZ|apply qL|apply l9|refine lS ?_ h1)|exact h)):dw (Below w.heap.size w w1):=⟨GI (f h.out h1.out) k⟩
theorem qH(hg:g'=W.heap.size)(h:dw P){P1:Prop}(h1:dw P1){P2:Prop}(h2:dw P2)(f:P->P1->P2->Below w.heap.size w W:=by intro h h1 h2;repeat(first|(with_reducible first|exact h|apply oZ|apply qL|apply l9|refine lS ?_ h1|refine lS ?_ h2)|exact h)):dw (w.heap.size<=g'):=⟨by rw[hg];exact iQ (f h.out h1.out h2.out)⟩
theorem oH(h:dw P){P1:Prop}(h1:dw P1){P2:Prop}(h2:dw P2)(k:Below W.heap.size W w1)(f:P->P1->P2->Below w.heap.size w W:=by intro h h1 h2;repeat(first|(with_reducible first|exact h|apply oZ|apply qL|apply l9|refine lS ?_ h1|refine lS ?_ h2)|exact h)):dw (Below w.heap.size w w1):=⟨GI (f h.out h1.out h2.out) k⟩
theorem lX(h:dw P){P1:Prop}(h1:dw P1){P2:Prop}(h2:dw P2){P3:Prop}(h3:dw P3)(k:Below W.heap.size W w1)(f:P->P1->P2->P3->Below w.heap.size w W:=by intro h h1 h2 h3;repeat(first|(with_reducible first|exact h|apply oZ|apply qL|apply l9|refine lS ?_ h1|refine lS ?_ h2|refine lS ?_ h3)|exact h)):dw (Below w.heap.size w w1):=⟨GI (f h.out h1.out h2.out h3.out) k⟩
end
theorem zG{P:Program}{ops:Array Oper}{Q:Exit->Act->World->Prop}{rest:List Oper}{oi:Oper}{a:Act}{w:World}(N:Option Tmp){f:FuncId}{fn:Func}{xs:Array Operand}{ts:Array TypeId}(hf:P.funcs[f]?=some fn)(args:Array Value)
 (h:Calls P f args w λe w'=>∃v,e= .returned v/\wpList P ops Q rest (a.put N v) w')
 (hd:oi.dst=N:=by exact rfl) (hg:oi.guard=none:=by exact rfl) (hname:(fn.name== "runtime.NumGoroutine")=false:=by kernel_rfl) (hb:fn.body.isSome=true:=by exact rfl)
 (hop:oi.op= .call {callee:= .value (.func f),args:=xs,argTypes:=ts}:=by exact rfl)
 (hargs:xs.map a.eval=args:=by(try simp only[List.map_toArray,List.map_cons,List.map_nil]);first|done|rfl|(simp only[List.length_drop,List.length_take];rfl)):wpList P ops Q (oi::rest) a w:=
 Jl N hd hg hf hname hb args hop hargs h
theorem zp{P:Program}{md:Region.Mode}{ops:Array Oper}{Q:Exit->Act->World->Prop}{S:World->Prop}{ds:List Nat}{T:Bool×List (List Nat×List Nat)}{i:Nat}{N:Option Tmp}{oi:Oper}{v:Value}{fuel:Nat}{l:Array Bool}{a:Act}{w:World}{a':Act}
 (hT:dw (lM md ops=T)) (h:nR P md ops Q S ds fuel (l.setIfInBounds i true) a' w)
 (hi:ops[i]?=some oi:=by exact rfl) (hN:oi.dst=N:=by exact rfl) (hc:lM md ops=T->ET md ops l (l.setIfInBounds i true) i=true:=by intro h;exact wZ h (by kernel_rfl))
 (hQ:∀c a w,Q (.panic c) (a.put oi.dst v) w->Q (.panic c) a w:=by exact λ_ _ _ h=>h) (hy:Region.wanted oi (yielded ops a.tmps)=true:=by exact(by rfl))
 (hv:∀w',(execOp a.eval oi).run P w'= .ok (.value v) w':=by intro w';go_simp;with_reducible rfl)
 (ha:a.put N v=a':=by simp only[Act.put,List.setIfInBounds_toArray,List.set_cons_zero,List.set_cons_succ,iI,iP];rfl):nR P md ops Q S ds (fuel+1) l a w:=
 uB _ hi hN (hc hT.out) hQ (.inl ⟨hy,hv⟩) ha h
section
variable{P:Prop}{α β γ:Type}{d:Kd α}{d':Kd β}{d2:Kd γ}{w W w1:World}{e e' e2 base base' n g:Nat}{ok ok' ok2:Nat->Prop}{v u v2:Value}{xs:List α}{ys:List β}{zs:List γ}
theorem J4(h:dw P)(hb:Below W.heap.size W w1)(h1:d'.R e' w1 W.heap.size ok' v ys)(h2:d2.R e2 w1 W.heap.size ok2 v2 zs)(f:P->d.V e W base ok u xs:=by intro h;(with_reducible repeat(first|apply Kd.nH|apply Kd.nG|apply Kd.lV));exact h):dw (d.V e w1 base (λk=>(ok k/\some k≠v.ownBlock)/\some k≠v2.ownBlock) u xs):=⟨Kd.jf (Kd.Qb (Kd.Qb (Kd.Yb (f h.out) hb) (Kd.pM h1)) (Kd.pM h2)) (λ_ h_=>h_.1)⟩
theorem jS(h:dw P)(hb:Below W.heap.size W w1)(h1:d'.R e' w1 W.heap.size ok' v ys)(h2:d2.R e2 w1 W.heap.size ok2 v2 zs)(f:P->d.R e W base ok u xs:=by intro h;(with_reducible repeat(first|apply Kd.iT|apply Kd.iU|apply Kd.iJ));exact h):dw (d.R e w1 base (λk=>(ok k/\some k≠v.ownBlock)/\some k≠v2.ownBlock) u xs):=⟨Kd.iZ (Kd.GR (Kd.GR (Kd.Qk (f h.out) hb) (Kd.pM h1)) (Kd.pM h2)) (λ_ h_=>h_.1)⟩
theorem nJ(h:dw P)(hg:g=W.heap.size)(hb:Below W.heap.size W w1)(f:P->d.V e W base ok u xs:=by intro h;(with_reducible repeat(first|apply Kd.nH|apply Kd.nG|apply Kd.lV));exact h):dw (d.V e w1 base (λk=>ok k/\k≠g) u xs):=⟨Kd.GK (Kd.Yc (f h.out) g (Nat.le_of_eq hg.symm)) hb⟩
theorem kY(h0:d.R e w1 W.heap.size ok v xs)(h:dw P){P1:Prop}(h1:dw P1)(f:P->P1->Below w.heap.size w W:=by intro h h1;repeat(first|(with_reducible first|exact h|apply oZ|apply qL|apply l9|refine lS ?_ h1)|exact h)):dw (d.R e w1 w.heap.size ok v xs):=⟨Kd.zI h0 (iQ (f h.out h1.out))⟩
theorem qI(h0:d.R e w1 W.heap.size ok v xs)(h:dw P){P1:Prop}(h1:dw P1){P2:Prop}(h2:dw P2)(f:P->P1->P2->Below w.heap.size w W:=by intro h h1 h2;repeat(first|(with_reducible first|exact h|apply oZ|apply qL|apply l9|refine lS ?_ h1|refine lS ?_ h2)|exact h)):dw (d.R e w1 w.heap.size ok v xs):=⟨Kd.zI h0 (iQ (f h.out h1.out h2.out))⟩
theorem kX(h0:d.R e w1 W.heap.size ok v xs)(h:dw P){P1:Prop}(h1:dw P1){P2:Prop}(h2:dw P2){P3:Prop}(h3:dw P3)(f:P->P1->P2->P3->Below w.heap.size w W:=by intro h h1 h2 h3;repeat(first|(with_reducible first|exact h|apply oZ|apply qL|apply l9|refine lS ?_ h1|refine lS ?_ h2|refine lS ?_ h3)|exact h)):dw (d.R e w1 w.heap.size ok v xs):=⟨Kd.zI h0 (iQ (f h.out h1.out h2.out h3.out))⟩
theorem yf{cells:Array Value}{t:TypeId}{u0 u1 u2:Value}(h:d.R e W base ok v xs)(hb:W.heap[g]?=some (.cells cells t (0,0)))(hok:∀k,ok k/\k≠g->ok' k)(ht:∀q,q∈e::d.E->q≠t:=by decide):d.R e (((W.setCell ⟨g,0,none⟩ u0).setCell ⟨g,1,none⟩ u1).setCell ⟨g,2,none⟩ u2) base ok' v xs:=
 Kd.iZ (Kd.rM (p:=⟨g,2,none⟩) (Kd.rM (p:=⟨g,1,none⟩) (Kd.rM (p:=⟨g,0,none⟩) (Kd.mM h hb ht) (λ_ hk=>hk.2) u0) (λ_ hk=>hk.2) u1) (λ_ hk=>hk.2) u2) hok
end
section
variable{P K Q:Prop}{X W W0 w1:World}{g g':Nat}{t:TypeId}{a b c v0 v1 v2:Value}{o:Obj}{cs:Array Value}
theorem PN(h:X.heap[g]?=some (.cells #[a,b,c] t (0,0))):(((X.setCell ⟨g,0,none⟩ v0).setCell ⟨g,1,none⟩ v1).setCell ⟨g,2,none⟩ v2).heap[g]?=some (.cells #[v0,v1,v2] t (0,0)):=
 vw (vw (vw h 0 v0 rfl) 1 v1 rfl) 2 v2 rfl
theorem XJ(h:X.heap[g]?=some (.cells #[a,b] t (0,0))):((X.setCell ⟨g,0,none⟩ v0).setCell ⟨g,1,none⟩ v1).heap[g]?=some (.cells #[v0,v1] t (0,0)):=
 vw (vw h 0 v0 rfl) 1 v1 rfl
theorem PL(h:X.heap[g]?=some (.cells cs t (0,0)))(hp:g≠g'):(((X.setCell ⟨g',0,none⟩ v0).setCell ⟨g',1,none⟩ v1).setCell ⟨g',2,none⟩ v2).heap[g]?=some (.cells cs t (0,0)):=qo (qo (qo h hp v0) hp v1) hp v2
theorem sG(h:P)(f:P->Q:=by intro h;(with_reducible repeat(first|refine iM ?_ _|refine iC ?_|refine iL ?_ _));apply PN;(with_reducible repeat(first|refine iM ?_ _|refine iC ?_|refine iL ?_ _));exact h):Q:=f h
theorem yl(h:P)(f:P->Q:=by intro h;(with_reducible repeat(first|refine iM ?_ _|refine iC ?_|refine iL ?_ _));apply XJ;(with_reducible repeat(first|refine iM ?_ _|refine iC ?_|refine iL ?_ _));exact h):Q:=f h
theorem Dz(h:P)(k:K)(f:P->K->Q:=by intro h k;(with_reducible repeat(first|refine iM ?_ _|refine iC ?_|refine iL ?_ _));refine PL ?_ k;(with_reducible repeat(first|refine iM ?_ _|refine iC ?_|refine iL ?_ _));exact h):Q:=f h k
theorem wI(h:dw P)(hb:Below W.heap.size W w1)(f:P->W.heap[g]?=some (.cells #[a,b,c] t (0,0)):=by intro h;(with_reducible repeat(first|refine iM ?_ _|refine iC ?_|refine iL ?_ _));apply PN;(with_reducible repeat(first|refine iM ?_ _|refine iC ?_|refine iL ?_ _));exact h):dw (w1.heap[g]?=some (.cells #[a,b,c] t (0,0))):=⟨Df (f h.out) hb⟩
theorem qR(h:dw (W0.heap[g]?=some o))(k:dw K)(hb:Below W.heap.size W w1)(f:W0.heap[g]?=some o->K->W.heap[g]?=some o:=by intro h k;(with_reducible repeat(first|refine iM ?_ _|refine iC ?_|refine iL ?_ _));refine PL ?_ k;(with_reducible repeat(first|refine iM ?_ _|refine iC ?_|refine iL ?_ _));exact h):dw (w1.heap[g]?=some o):=⟨Df (f h.out k.out) hb⟩
theorem J3{l:List Value}(h:dw (W.heap[g]?=some (.cells (a::l).toArray t (0,0)))):W.cell? ⟨g,0,none⟩=some a:=(iy h.out 0).trans rfl
theorem JZ{l:List Value}(h:dw (W.heap[g]?=some (.cells (a::b::l).toArray t (0,0)))):W.cell? ⟨g,1,none⟩=some b:=(iy h.out 1).trans rfl
theorem QK{l:List Value}(h:dw (W.heap[g]?=some (.cells (a::b::c::l).toArray t (0,0)))):W.cell? ⟨g,2,none⟩=some c:=(iy h.out 2).trans rfl
theorem ja(h:dw (W.heap[g]?=some (.cells #[a,b,c] t (0,0)))):W.cell? ⟨g,0,none⟩=some a/\W.cell? ⟨g,1,none⟩=some b/\W.cell? ⟨g,2,none⟩=some c/\W.frozen? ⟨g,0,none⟩=false/\W.frozen? ⟨g,1,none⟩=false/\W.frozen? ⟨g,2,none⟩=false:=⟨J3 h,JZ h,QK h,pY h.out 0,pY h.out 1,pY h.out 2⟩
theorem oM(h:dw (W.heap[g]?=some (.cells #[a,b] t (0,0)))):W.cell? ⟨g,0,none⟩=some a/\W.cell? ⟨g,1,none⟩=some b/\W.frozen? ⟨g,0,none⟩=false/\W.frozen? ⟨g,1,none⟩=false:=⟨J3 h,JZ h,pY h.out 0,pY h.out 1⟩
end
section
variable{P K:Prop}{α β γ:Type}{d:Kd α}{d':Kd β}{d2:Kd γ}{w W w1:World}{e e' e2 base base' g:Nat}{ok ok' ok2:Nat->Prop}{v u v2:Value}{xs:List α}{ys:List β}{zs:List γ}
theorem zf{Q:Prop}(h:P)(k:K)(f:P->K->Q:=by intro h k;(with_reducible repeat(first|apply Kd.iT|apply Kd.iU|apply Kd.iJ));exact yf h k (λ_ h_=>h_.1)):Q:=f h k
theorem jk(h:d.R e w1 W.heap.size ok v xs)(hb:dw P)(hk:dw K)(f:P->K->d'.R e' W base ok' u ys:=by intro h k;(with_reducible repeat(first|apply Kd.iT|apply Kd.iU|apply Kd.iJ));exact yf h k (λ_ h_=>h_.1)):d.R e w1 W.heap.size (λk=>ok k/\some k≠u.ownBlock) v xs:=Kd.GV h (Kd.qZ (f hb.out hk.out))
theorem lL(h:dw P)(hk:dw K)(hb:Below W.heap.size W w1)(h1:d'.R e' w1 W.heap.size ok' v ys)(h2:d2.R e2 w1 W.heap.size ok2 v2 zs)(f:P->K->d.R e W base ok u xs:=by intro h k;(with_reducible repeat(first|apply Kd.iT|apply Kd.iU|apply Kd.iJ));exact yf h k (λ_ h_=>h_.1)):dw (d.R e w1 base (λk=>(ok k/\some k≠v.ownBlock)/\some k≠v2.ownBlock) u xs):=⟨Kd.iZ (Kd.GR (Kd.GR (Kd.Qk (f h.out hk.out) hb) (Kd.pM h1)) (Kd.pM h2)) (λ_ h_=>h_.1)⟩
theorem vF(h:dw P)(hk:dw K)(h0:d'.R e' w1 W.heap.size ok' v ys)(hb:Below W.heap.size W w1)(f:P->K->d.R e W base ok u xs:=by intro h k;(with_reducible repeat(first|apply Kd.iT|apply Kd.iU|apply Kd.iJ));exact yf h k (λ_ h_=>h_.1)):dw (d.R e w1 base (λk=>ok k/\some k≠v.ownBlock) u xs):=⟨Kd.JJ (f h.out hk.out) (Kd.pM h0) hb⟩
end
end Go.Proofs.Ytifkbghnmhineaa.qc
end
namespace Go.Proofs.Ytifkbghnmhineaa.qc
open Go.RowKit Go.Proofs.YtifkbghnmhineaaW.lJ Go.Proofs.YtifkbghnmhineaaW.rO Go.Proofs.YtifkbghnmhineaaW.uO
set_option linter.unusedVariables false
set_option linter.unusedSimpArgs false
set_option maxHeartbeats 8000000 in
set_option maxRecDepth 100000 in
def bits_Len32.f(a0:Int):Option (Int):=if 0<=a0 then(if a0<=4294967295 then(some ((Lib.bitLen a0.toNat:Nat):Int)) else none) else none
mutual
def kQ.j0:Nat->Bool->Int->Int->List Int->Option (Int)
 |0,_,_,_,_=>none
 |k+1,x17,jC,jr,jE=>if x17=true then(some 0) else(kQ.l0 k 1 0 jC jr jE)
def kQ.l0:Nat->Int->Int->Int->Int->List Int->Option (Int)
 |0,_,_,_,_,_=>none
 |k+1,x3,x4,jC,jr,jE=>if x4<jr then(if jC=0 then(none) else(if x3>(wrap64 (Int.tdiv (256:Int) jC)) then(some 0) else(kQ.l0 k (wrap64 (x3*jC)) (wrap64 (x4+1)) jC jr jE))) else(some x3)
end
def kQ.f(k:Nat)(jW:Int)(kW:Int)(kJ:List Int):Option (Int):=if jW<2 then(kQ.j0 k true jW kW kJ) else(if kW<1 then(kQ.j0 k true jW kW kJ) else(kQ.j0 k (decide (kW>8)) jW kW kJ))
def rV.l0:Nat->Int->Int->Int->List Int->Int->Option (List Int)
 |0,_,_,_,_,_=>none
 |k+1,x0,x1,x2,x7,x8=>if x8<x2 then(if x1=0 then(none) else(if 0<=x8 then(if x8<(x7.length:Int) then(rV.l0 k (wrap64 (Int.tdiv x0 x1)) x1 x2 (x7.set (x8:Int).toNat (Int.tmod x0 x1)) (wrap64 (x8+1))) else(none)) else(none))) else(some x7)
def rV.f(k:Nat)(a0:Int)(a1:Int)(a2:Int):Option (List Int):=if 0<=a2 then(if(a2:Int).toNat<=35184372088832 then(rV.l0 k a0 a1 a2 (List.replicate (a2:Int).toNat 0) 0) else(none)) else(none)
mutual
def kN.l0:Nat->List Int->Int->Int->List Int->Int->Option (Bool)
 |0,_,_,_,_,_=>none
 |k+1,x0,x2,x7,x8,x9=>if x9>=x7 then(if 0<=x9 then(if x9<(x8.length:Int) then(kN.l1 k x0 x2 x7 x8 x9 (rd x8 x9) 0) else(none)) else(none)) else(kN.l2 k x8 0)
def kN.l1:Nat->List Int->Int->Int->List Int->Int->Int->Int->Option (Bool)
 |0,_,_,_,_,_,_,_=>none
 |k+1,x0,x2,x7,x8,x9,x10,x11=>if x11<x7 then(if 0<=(wrap64 ((wrap64 (x9-x7))+x11)) then(if(wrap64 ((wrap64 (x9-x7))+x11))<(x8.length:Int) then(if 0<=x11 then(if x11<(x0.length:Int) then(if x2=0 then(none) else(kN.l1 k x0 x2 x7 (x8.set ((wrap64 ((wrap64 (x9-x7))+x11)):Int).toNat (Int.tmod (wrap64 ((rd x8 (wrap64 ((wrap64 (x9-x7))+x11)))+(wrap64 ((wrap64 (x2-x10))*(rd x0 x11))))) x2)) x9 x10 (wrap64 (x11+1)))) else(none)) else(none)) else(none)) else(none)) else(if 0<=x9 then(if x9<(x8.length:Int) then(kN.l0 k x0 x2 x7 (x8.set (x9:Int).toNat 0) (wrap64 (x9-1))) else(none)) else(none))
def kN.l2:Nat->List Int->Int->Option (Bool)
 |0,_,_=>none
 |k+1,x8,x12=>if x12<(x8.length:Int) then(if 0<=x12 then(if(rd x8 x12)=0 then(kN.l2 k x8 (wrap64 (x12+1))) else(some false)) else(none)) else(some true)
end
def kN.f(k:Nat)(l0:List Int)(l1:List Int)(a2:Int):Option (Bool):=(some (([]:List Int):List Int)).bind λy101=>(if y101.length+l1.length<17592186044416 then((some (y101++l1:List Int)).bind λy104=>(if y104.length<17592186044416 then((some (y104++[1]:List Int)).bind λJ6=>(kN.l0 k l0 a2 (l0.length:Int) J6 (wrap64 ((J6.length:Int)-1)))) else(none))) else(none))
mutual
def nV.l0:Nat->List Int->Int->Int->Int->Option (Bool)
 |0,_,_,_,_=>none
 |k+1,x0,x1,x5,x6=>if(wrap64 (2*x6))<=(x0.length:Int) then(nV.l1 k x0 x1 (wrap64 (x5*x1)) x6 0) else(some true)
def nV.l1:Nat->List Int->Int->Int->Int->Int->Option (Bool)
 |0,_,_,_,_,_=>none
 |k+1,x0,x1,x5,x6,x7=>if x7<x5 then((rV.f k x7 x1 x6).bind λt101=>((kN.f k t101 x0 x1).bind λt104=>(if t104=true then(some false) else(nV.l1 k x0 x1 x5 x6 (wrap64 (x7+1)))))) else(nV.l0 k x0 x1 x5 (wrap64 (x6+1)))
end
def nV.f(k:Nat)(l0:List Int)(a1:Int):Option (Bool):=nV.l0 k l0 a1 1 1
def sJ.l0:Nat->Int->Int->Option (Bool)
 |0,_,_=>none
 |k+1,x0,x3=>if x3<x0 then(if x3=0 then(none) else(if(Int.tmod x0 x3)=0 then(some false) else(sJ.l0 k x0 (wrap64 (x3+1))))) else(some true)
def sJ.f(k:Nat)(a0:Int):Option (Bool):=sJ.l0 k a0 2
mutual
def o9.j0:Nat->Bool->Int->Int->List Int->Option (Int)
 |0,_,_,_,_=>none
 |k+1,x12,jC,jr,jE=>if x12=true then(some 1) else(if jr=1 then(if(jE.length:Int)=0 then(some 0) else(some 1)) else(if(jE.length:Int)=jr then(o9.l0 k 0 jC jr jE) else(some 1)))
def o9.l0:Nat->Int->Int->Int->List Int->Option (Int)
 |0,_,_,_,_=>none
 |k+1,x3,jC,jr,jE=>if x3<jr then(if 0<=x3 then(if x3<(jE.length:Int) then(if(rd jE x3)<0 then(some 1) else(if(rd jE x3)>=jC then(some 1) else(o9.l0 k (wrap64 (x3+1)) jC jr jE))) else(none)) else(none)) else((nV.f k jE jC).bind λt106=>(if t106=true then(some 0) else(some 1)))
end
def o9.f(k:Nat)(jW:Int)(kW:Int)(kJ:List Int):Option (Int):=(kQ.f k jW kW kJ).bind λt102=>(if t102=0 then(o9.j0 k true jW kW kJ) else((sJ.f k jW).bind λt103=>(o9.j0 k (!t103) jW kW kJ)))
def Aa.f(k:Nat)(jW:Int)(kW:Int)(kJ:List Int)(a1:Int):Option (Bool):=if a1>=0 then((kQ.f k jW kW kJ).bind λt102=>(some (decide (a1<t102)))) else(some false)
def yE.f(k:Nat)(jW:Int)(kW:Int)(kJ:List Int)(a1:Int):Option (Int):=(Aa.f k jW kW kJ a1).bind λt102=>(if t102=true then(some a1) else(some 0))
def qK.f(k:Nat)(jW:Int)(kW:Int)(kJ:List Int)(a1:Int):Option (List Int):=(yE.f k jW kW kJ a1).bind λt102=>((rV.f k t102 jW kW).bind λt103=>(some t103))
def rW.l0:Nat->List Int->Int->Int->Int->Int->List Int->Option (Int)
 |0,_,_,_,_,_,_=>none
 |k+1,x1,x5,x6,jC,jr,jE=>if x6>=0 then(if 0<=x6 then(if x6<(x1.length:Int) then(rW.l0 k x1 (wrap64 ((wrap64 (x5*jC))+(rd x1 x6))) (wrap64 (x6-1)) jC jr jE) else(none)) else(none)) else(some x5)
def rW.f(k:Nat)(jW:Int)(kW:Int)(kJ:List Int)(l1:List Int):Option (Int):=rW.l0 k l1 0 (wrap64 ((l1.length:Int)-1)) jW kW kJ
def og.l0:Nat->List Int->List Int->Int->Int->Int->List Int->Option (Int)
 |0,_,_,_,_,_,_=>none
 |k+1,x7,x8,x9,jC,jr,jE=>if x9<(x7.length:Int) then(if 0<=x9 then(if x9<(x8.length:Int) then(if jC=0 then(none) else(og.l0 k (x7.set (x9:Int).toNat (Int.tmod (wrap64 ((rd x7 x9)+(rd x8 x9))) jC)) x8 (wrap64 (x9+1)) jC jr jE)) else(none)) else(none)) else((rW.f k jC jr jE x7).bind λt111=>(some t111))
def og.f(k:Nat)(jW:Int)(kW:Int)(kJ:List Int)(a1:Int)(a2:Int):Option (Int):=(qK.f k jW kW kJ a1).bind λt102=>((qK.f k jW kW kJ a2).bind λt105=>(og.l0 k t102 t105 0 jW kW kJ))
mutual
def jU.l0:Nat->List Int->List Int->List Int->Int->Int->Int->List Int->Option (Int)
 |0,_,_,_,_,_,_,_=>none
 |k+1,x7,x8,x9,x10,jC,jr,jE=>if x10<jr then(jU.l1 k x7 x8 x9 x10 0 jC jr jE) else(jU.l2 k x9 (wrap64 ((wrap64 (2*jr))-2)) jC jr jE)
def jU.l1:Nat->List Int->List Int->List Int->Int->Int->Int->Int->List Int->Option (Int)
 |0,_,_,_,_,_,_,_,_=>none
 |k+1,x7,x8,x9,x10,x11,jC,jr,jE=>if x11<jr then(if 0<=(wrap64 (x10+x11)) then(if(wrap64 (x10+x11))<(x9.length:Int) then(if 0<=x10 then(if x10<(x7.length:Int) then(if 0<=x11 then(if x11<(x8.length:Int) then(if jC=0 then(none) else(jU.l1 k x7 x8 (x9.set ((wrap64 (x10+x11)):Int).toNat (Int.tmod (wrap64 ((rd x9 (wrap64 (x10+x11)))+(wrap64 ((rd x7 x10)*(rd x8 x11))))) jC)) x10 (wrap64 (x11+1)) jC jr jE)) else(none)) else(none)) else(none)) else(none)) else(none)) else(none)) else(jU.l0 k x7 x8 x9 (wrap64 (x10+1)) jC jr jE)
def jU.l2:Nat->List Int->Int->Int->Int->List Int->Option (Int)
 |0,_,_,_,_,_=>none
 |k+1,x9,x12,jC,jr,jE=>if x12>=jr then(jU.l3 k x9 x12 0 jC jr jE) else(if 0<=jr then(if jr<=(x9.length:Int) then((rW.f k jC jr jE (x9.take (jr:Int).toNat)).bind λt119=>(some t119)) else(none)) else(none))
def jU.l3:Nat->List Int->Int->Int->Int->Int->List Int->Option (Int)
 |0,_,_,_,_,_,_=>none
 |k+1,x9,x12,nK,jC,jr,jE=>if nK<jr then(if 0<=(wrap64 ((wrap64 (x12-jr))+nK)) then(if(wrap64 ((wrap64 (x12-jr))+nK))<(x9.length:Int) then(if 0<=x12 then(if x12<(x9.length:Int) then(if 0<=nK then(if nK<(jE.length:Int) then(if jC=0 then(none) else(jU.l3 k (x9.set ((wrap64 ((wrap64 (x12-jr))+nK)):Int).toNat (Int.tmod (wrap64 ((rd x9 (wrap64 ((wrap64 (x12-jr))+nK)))+(wrap64 ((wrap64 (jC-(rd x9 x12)))*(rd jE nK))))) jC)) x12 (wrap64 (nK+1)) jC jr jE)) else(none)) else(none)) else(none)) else(none)) else(none)) else(none)) else(jU.l2 k x9 (wrap64 (x12-1)) jC jr jE)
end
def jU.f(k:Nat)(jW:Int)(kW:Int)(kJ:List Int)(a1:Int)(a2:Int):Option (Int):=(qK.f k jW kW kJ a1).bind λt102=>((qK.f k jW kW kJ a2).bind λt105=>(if 0<=(wrap64 ((wrap64 (2*kW))-1)) then(if(wrap64 ((wrap64 (2*kW))-1):Int).toNat<=35184372088832 then(jU.l0 k t102 t105 (List.replicate (wrap64 ((wrap64 (2*kW))-1):Int).toNat 0) 0 jW kW kJ) else(none)) else(none)))
def oC.l0:Nat->Int->List Int->List Int->Int->Int->Int->List Int->Option (List Int)
 |0,_,_,_,_,_,_,_=>none
 |k+1,x1,x2,x7,x8,jC,jr,jE=>if x8<x1 then(if x8<(x2.length:Int) then(if 0<=x8 then((yE.f k jC jr jE (rd x2 x8)).bind λt106=>(if x8<(x7.length:Int) then(oC.l0 k x1 x2 (x7.set (x8:Int).toNat t106) (wrap64 (x8+1)) jC jr jE) else(none))) else(none)) else(some x7)) else(some x7)
def oC.f(k:Nat)(jW:Int)(kW:Int)(kJ:List Int)(a1:Int)(l2:List Int):Option (List Int):=if 0<=a1 then(if(a1:Int).toNat<=35184372088832 then(oC.l0 k a1 l2 (List.replicate (a1:Int).toNat 0) 0 jW kW kJ) else(none)) else(none)
def ru.l0:Nat->List Int->List Int->Int->Int->Option (Int)
 |0,_,_,_,_=>none
 |k+1,x0,x1,x5,x6=>if x6<(x0.length:Int) then(if 0<=x6 then(if x6<(x1.length:Int) then(if(rd x0 x6)=(rd x1 x6) then(ru.l0 k x0 x1 x5 (wrap64 (x6+1))) else(ru.l0 k x0 x1 (wrap64 (x5+1)) (wrap64 (x6+1)))) else(none)) else(none)) else(some x5)
def ru.f(k:Nat)(l0:List Int)(l1:List Int):Option (Int):=ru.l0 k l0 l1 0 0
def sN.l0:Nat->List (List Int)->List Int->Int->Option (Bool)
 |0,_,_,_=>none
 |k+1,x0,x1,x5=>if x5<(x0.length:Int) then(if 0<=x5 then((ru.f k (jD x0 x5) x1).bind λt102=>(if t102=0 then(some true) else(sN.l0 k x0 x1 (wrap64 (x5+1))))) else(none)) else(some false)
def sN.f(k:Nat)(l0:List (List Int))(l1:List Int):Option (Bool):=sN.l0 k l0 l1 0
mutual
def jP.l0:Nat->Int->List (List Int)->Int->List (List Int)->Int->Int->Int->List Int->Option ((List (List Int)))
 |0,_,_,_,_,_,_,_,_=>none
 |k+1,x1,x2,x3,x9,x10,jC,jr,jE=>if x10<(x2.length:Int) then(if 0<=x10 then((oC.f k jC jr jE x1 (jD x2 x10)).bind λt109=>((sN.f k x9 t109).bind λt112=>(if t112=true then(jP.l0 k x1 x2 x3 x9 (wrap64 (x10+1)) jC jr jE) else((kQ.f k jC jr jE).bind λt113=>(if t113=0 then(none) else(if(x9.length:Int)>(wrap64 (Int.tdiv x3 t113)) then(some ([]:List (List Int))) else(jP.l1 k x1 x2 x3 x9 x10 t109 ([]:List (List Int)) 0 jC jr jE))))))) else(none)) else(some x9)
def jP.l1:Nat->Int->List (List Int)->Int->List (List Int)->Int->List Int->List (List Int)->Int->Int->Int->List Int->Option ((List (List Int)))
 |0,_,_,_,_,_,_,_,_,_,_,_=>none
 |k+1,x1,x2,x3,x9,x10,x11,x12,nK,jC,jr,jE=>(kQ.f k jC jr jE).bind λt114=>(if nK<t114 then(jP.l2 k x1 x2 x3 x9 x10 x11 x12 nK 0 jC jr jE) else(jP.l0 k x1 x2 x3 x12 (wrap64 (x10+1)) jC jr jE))
def jP.l2:Nat->Int->List (List Int)->Int->List (List Int)->Int->List Int->List (List Int)->Int->Int->Int->Int->List Int->Option ((List (List Int)))
 |0,_,_,_,_,_,_,_,_,_,_,_,_=>none
 |k+1,x1,x2,x3,x9,x10,x11,x12,nK,x14,jC,jr,jE=>if x14<(x9.length:Int) then(if 0<=x1 then(if(x1:Int).toNat<=35184372088832 then(jP.l3 k x1 x2 x3 x9 x10 x11 x12 nK x14 (List.replicate (x1:Int).toNat 0) 0 jC jr jE) else(none)) else(none)) else(jP.l1 k x1 x2 x3 x9 x10 x11 x12 (wrap64 (nK+1)) jC jr jE)
def jP.l3:Nat->Int->List (List Int)->Int->List (List Int)->Int->List Int->List (List Int)->Int->Int->List Int->Int->Int->Int->List Int->Option ((List (List Int)))
 |0,_,_,_,_,_,_,_,_,_,_,_,_,_,_=>none
 |k+1,x1,x2,x3,x9,x10,x11,x12,nK,x14,x15,x16,jC,jr,jE=>if x16<x1 then(if 0<=x14 then(if x14<(x9.length:Int) then(if 0<=x16 then(if x16<((jD x9 x14).length:Int) then(if x16<(x11.length:Int) then((jU.f k jC jr jE nK (rd x11 x16)).bind λt121=>((og.f k jC jr jE (rd (jD x9 x14) x16) t121).bind λt122=>(if x16<(x15.length:Int) then(jP.l3 k x1 x2 x3 x9 x10 x11 x12 nK x14 (x15.set (x16:Int).toNat t122) (wrap64 (x16+1)) jC jr jE) else(none)))) else(none)) else(none)) else(none)) else(none)) else(none)) else(if x12.length<5864062014805 then(jP.l2 k x1 x2 x3 x9 x10 x11 (x12++[x15]) nK (wrap64 (x14+1)) jC jr jE) else(none))
end
def jP.f(k:Nat)(jW:Int)(kW:Int)(kJ:List Int)(a1:Int)(l2:List (List Int))(a3:Int):Option ((List (List Int))):=if 0<=a1 then(if(a1:Int).toNat<=35184372088832 then(jP.l0 k a1 l2 a3 (([(List.replicate (a1:Int).toNat 0)]:List (List Int))) 0 jW kW kJ) else(none)) else(none)
def uu.l0:Nat->Int->Int->List (List Int)->Int->Int->Int->List Int->Option ((List (List Int)))
 |0,_,_,_,_,_,_,_=>none
 |k+1,x1,x2,x7,x8,jC,jr,jE=>if x8<x1 then(if 0<=x1 then(if(x1:Int).toNat<=35184372088832 then((some (List.replicate (x1:Int).toNat 0:List Int)).bind λy102=>(if 0<=x8 then(if x8<(y102.length:Int) then(if x7.length<5864062014805 then(uu.l0 k x1 x2 (x7++[(y102.set (x8:Int).toNat 1)]) (wrap64 (x8+1)) jC jr jE) else(none)) else(none)) else(none))) else(none)) else(none)) else((jP.f k jC jr jE x1 x7 x2).bind λt109=>(some t109))
def uu.f(k:Nat)(jW:Int)(kW:Int)(kJ:List Int)(a1:Int)(a2:Int):Option ((List (List Int))):=uu.l0 k a1 a2 ([]:List (List Int)) 0 jW kW kJ
mutual
def nM.l0:Nat->List Int->List Int->Int->Int->Int->Int->List Int->Option (Int)
 |0,_,_,_,_,_,_,_=>none
 |k+1,x1,x2,x7,x8,jC,jr,jE=>if x8<(x1.length:Int) then(nM.j1 k x1 x2 x7 x8 (decide (x8<(x2.length:Int))) jC jr jE) else(nM.j1 k x1 x2 x7 x8 false jC jr jE)
def nM.j1:Nat->List Int->List Int->Int->Int->Bool->Int->Int->List Int->Option (Int)
 |0,_,_,_,_,_,_,_,_=>none
 |k+1,x1,x2,x7,x8,x18,jC,jr,jE=>if x18=true then(if 0<=x8 then(if x8<(x1.length:Int) then(if x8<(x2.length:Int) then((jU.f k jC jr jE (rd x1 x8) (rd x2 x8)).bind λt104=>((og.f k jC jr jE x7 t104).bind λt105=>(nM.l0 k x1 x2 t105 (wrap64 (x8+1)) jC jr jE))) else(none)) else(none)) else(none)) else(some x7)
end
def nM.f(k:Nat)(jW:Int)(kW:Int)(kJ:List Int)(l1:List Int)(l2:List Int):Option (Int):=nM.l0 k l1 l2 0 0 jW kW kJ
mutual
def mg.l0:Nat->List (List Int)->List (List Int)->List (List Int)->Int->Int->Int->List Int->Option ((List (List Int)))
 |0,_,_,_,_,_,_,_=>none
 |k+1,x1,x2,x7,x8,jC,jr,jE=>if x8<(x1.length:Int) then(mg.l1 k x1 x2 x7 x8 true 0 jC jr jE) else(some x7)
def mg.l1:Nat->List (List Int)->List (List Int)->List (List Int)->Int->Bool->Int->Int->Int->List Int->Option ((List (List Int)))
 |0,_,_,_,_,_,_,_,_,_=>none
 |k+1,x1,x2,x7,x8,x9,x10,jC,jr,jE=>if x10<(x2.length:Int) then(if x9=true then(if 0<=x8 then(if x8<(x1.length:Int) then(if 0<=x10 then((nM.f k jC jr jE (jD x1 x8) (jD x2 x10)).bind λt104=>(mg.l1 k x1 x2 x7 x8 (t104==0) (wrap64 (x10+1)) jC jr jE)) else(none)) else(none)) else(none)) else(mg.l1 k x1 x2 x7 x8 false (wrap64 (x10+1)) jC jr jE)) else(if x9=true then(if 0<=x8 then(if x8<(x1.length:Int) then(if x7.length<5864062014805 then(mg.l0 k x1 x2 (x7++[jD x1 x8]) (wrap64 (x8+1)) jC jr jE) else(none)) else(none)) else(none)) else(mg.l0 k x1 x2 x7 (wrap64 (x8+1)) jC jr jE))
end
def mg.f(k:Nat)(jW:Int)(kW:Int)(kJ:List Int)(l1:List (List Int))(l2:List (List Int)):Option ((List (List Int))):=mg.l0 k l1 l2 ([]:List (List Int)) 0 jW kW kJ
mutual
def kZ.j0:Nat->List (List Int)->Int->Bool->Int->Int->List Int->Option (Int×(List (List Int))×(List (List Int))×(List (List Int))×Bool)
 |0,_,_,_,_,_,_=>none
 |k+1,x2,x6,x24,jC,jr,jE=>if x24=true then(some (0,([]:List (List Int)),([]:List (List Int)),([]:List (List Int)),false)) else((jP.f k jC jr jE x6 x2 4096).bind λt103=>((uu.f k jC jr jE x6 4096).bind λt106=>(if(t103.length:Int)=0 then(kZ.j1 k x2 x6 t103 t106 true jC jr jE) else(kZ.j1 k x2 x6 t103 t106 ((t106.length:Int)==0) jC jr jE))))
def kZ.j1:Nat->List (List Int)->Int->List (List Int)->List (List Int)->Bool->Int->Int->List Int->Option (Int×(List (List Int))×(List (List Int))×(List (List Int))×Bool)
 |0,_,_,_,_,_,_,_,_=>none
 |k+1,x2,x6,x7,x9,x39,jC,jr,jE=>if x39=true then(some (0,([]:List (List Int)),([]:List (List Int)),([]:List (List Int)),false)) else(kZ.l0 k x2 x6 x7 x9 ([]:List (List Int)) 0 jC jr jE)
def kZ.l0:Nat->List (List Int)->Int->List (List Int)->List (List Int)->List (List Int)->Int->Int->Int->List Int->Option (Int×(List (List Int))×(List (List Int))×(List (List Int))×Bool)
 |0,_,_,_,_,_,_,_,_,_=>none
 |k+1,x2,x6,x7,x9,x11,x12,jC,jr,jE=>if x12<(x2.length:Int) then(if 0<=x12 then((oC.f k jC jr jE x6 (jD x2 x12)).bind λt110=>(if x11.length<5864062014805 then(kZ.l0 k x2 x6 x7 x9 (x11++[t110]) (wrap64 (x12+1)) jC jr jE) else(none))) else(none)) else((mg.f k jC jr jE x9 x11).bind λt116=>(some (x6,x7,t116,x9,true)))
end
def kZ.f(k:Nat)(jW:Int)(kW:Int)(kJ:List Int)(a1:Int)(l2:List (List Int)):Option (Int×(List (List Int))×(List (List Int))×(List (List Int))×Bool):=(o9.f k jW kW kJ).bind λt102=>(if t102=0 then(kZ.j0 k l2 (wrap64 ((Int.tmod (wrap64 (a1)) 12)+1)) (decide ((l2.length:Int)>12)) jW kW kJ) else(kZ.j0 k l2 (wrap64 ((Int.tmod (wrap64 (a1)) 12)+1)) true jW kW kJ))
def lF.l0:Nat->List Int->Int->Option (List Int)
 |0,_,_=>none
 |k+1,x0,x3=>if x3>0 then(if 0<=(wrap64 (x3-1)) then(if(wrap64 (x3-1))<(x0.length:Int) then(if(rd x0 (wrap64 (x3-1)))=0 then(lF.l0 k x0 (wrap64 (x3-1))) else((some (([]:List Int):List Int)).bind λy102=>(if 0<=x3 then(if x3<=(x0.length:Int) then(if y102.length+(x0.take (x3:Int).toNat).length<35184372088832 then(some (y102++(x0.take (x3:Int).toNat))) else(none)) else(none)) else(none)))) else(none)) else(none)) else((some (([]:List Int):List Int)).bind λJ5=>(if 0<=x3 then(if x3<=(x0.length:Int) then(if J5.length+(x0.take (x3:Int).toNat).length<35184372088832 then(some (J5++(x0.take (x3:Int).toNat))) else(none)) else(none)) else(none)))
def lF.f(k:Nat)(l0:List Int):Option (List Int):=lF.l0 k l0 (l0.length:Int)
def qB.f(k:Nat)(l0:List Int):Option (Bool):=(lF.f k l0).bind λt101=>(some ((t101.length:Int)==0))
def sK.l0:Nat->List (List Int)->Int->Int->Int->Option (Int)
 |0,_,_,_,_=>none
 |k+1,x0,x1,x5,x6=>if x6<=x1 then(if 0<=x6 then(if x6<(x0.length:Int) then((qB.f k (kD x0 x6)).bind λt102=>(if t102=true then(sK.l0 k x0 x1 x5 (wrap64 (x6+1))) else(sK.l0 k x0 x1 (wrap64 (x5+1)) (wrap64 (x6+1))))) else(none)) else(none)) else(some x5)
def sK.f(k:Nat)(l0:List (List Int))(a1:Int):Option (Int):=sK.l0 k l0 a1 0 1
def uA.f(k:Nat)(a0:Int):Option (List Int):=(lF.f k (([(Int.tmod a0 4294967296) % 4294967296,(IntKind.u64.wrap (Int.tdiv a0 4294967296)) % 4294967296]:List Int))).bind λt104=>(some t104)
mutual
def oQ.l0:Nat->Int->List (List Int)->List Int->List Int->Int->Option ((List (List Int)))
 |0,_,_,_,_,_=>none
 |k+1,x0,x1,x5,x6,x7=>if x7<(x1.length:Int) then(if 0<=x7 then((ru.f k (jD x1 x7) x6).bind λt108=>(if 0<=t108 then(if t108<(x5.length:Int) then(oQ.l0 k x0 x1 (x5.set (t108:Int).toNat (wrap64 ((rd x5 t108)+1))) x6 (wrap64 (x7+1))) else(none)) else(none))) else(none)) else(oQ.l1 k x0 x5 ([]:List (List Int)) 0)
def oQ.l1:Nat->Int->List Int->List (List Int)->Int->Option ((List (List Int)))
 |0,_,_,_,_=>none
 |k+1,x0,x5,x8,x9=>if x9<=x0 then(if 0<=x9 then(if x9<(x5.length:Int) then((uA.f k (IntKind.u64.wrap (rd x5 x9))).bind λt112=>(if x8.length<5864062014805 then(oQ.l1 k x0 x5 (x8++[t112]) (wrap64 (x9+1))) else(none))) else(none)) else(none)) else(some x8)
end
def oQ.f(k:Nat)(a0:Int)(l1:List (List Int)):Option ((List (List Int))):=if 0<=(wrap64 (a0+1)) then(if(wrap64 (a0+1):Int).toNat<=35184372088832 then(if 0<=a0 then(if(a0:Int).toNat<=35184372088832 then(oQ.l0 k a0 l1 (List.replicate (wrap64 (a0+1):Int).toNat 0) (List.replicate (a0:Int).toNat 0) 0) else(none)) else(none)) else(none)) else(none)
def jX.l0:Nat->List Int->Int->Option (List Int)
 |0,_,_=>none
 |k+1,x0,x3=>if x3>0 then(if 0<=(wrap64 (x3-1)) then(if(wrap64 (x3-1))<(x0.length:Int) then(if(rd x0 (wrap64 (x3-1)))=0 then(jX.l0 k x0 (wrap64 (x3-1))) else(if 0<=x3 then(if x3<=(x0.length:Int) then(some (x0.take (x3:Int).toNat)) else(none)) else(none))) else(none)) else(none)) else(if 0<=x3 then(if x3<=(x0.length:Int) then(some (x0.take (x3:Int).toNat)) else(none)) else(none))
def jX.f(k:Nat)(l0:List Int):Option (List Int):=jX.l0 k l0 (l0.length:Int)
def pU.f(k:Nat)(l0:List Int):Option (List Int):=(jX.f k l0).bind λt101=>(if([]:List Int).length+t101.length<35184372088832 then(some (([]:List Int)++t101)) else(none))
mutual
def oV.j0:Nat->List Int->List Int->Option (List Int)
 |0,_,_=>none
 |k+1,x0,x1=>if 0<=(wrap64 ((x0.length:Int)+1)) then(if(wrap64 ((x0.length:Int)+1):Int).toNat<=70368744177664 then(oV.l0 k x0 x1 (List.replicate (wrap64 ((x0.length:Int)+1):Int).toNat 0) 0 (x0.length:Int) 0) else(none)) else(none)
def oV.l0:Nat->List Int->List Int->List Int->Int->Int->Int->Option (List Int)
 |0,_,_,_,_,_,_=>none
 |k+1,x0,x1,x5,x6,xh,sH=>if sH<xh then(if 0<=sH then(if sH<(x0.length:Int) then(if sH<(x1.length:Int) then(if sH<(x5.length:Int) then(oV.l0 k x0 x1 (x5.set (sH:Int).toNat ((IntKind.u64.wrap ((IntKind.u64.wrap ((IntKind.u64.wrap (rd x0 sH))+x6))+(IntKind.u64.wrap (rd x1 sH)))) % 4294967296)) ((IntKind.u64.wrap ((IntKind.u64.wrap ((IntKind.u64.wrap (rd x0 sH))+x6))+(IntKind.u64.wrap (rd x1 sH)))) / 4294967296) xh (wrap64 (sH+1))) else(none)) else(if sH<(x5.length:Int) then(oV.l0 k x0 x1 (x5.set (sH:Int).toNat ((IntKind.u64.wrap ((IntKind.u64.wrap (rd x0 sH))+x6)) % 4294967296)) ((IntKind.u64.wrap ((IntKind.u64.wrap (rd x0 sH))+x6)) / 4294967296) xh (wrap64 (sH+1))) else(none))) else(none)) else(none)) else(if 0<=(x0.length:Int) then(if(x0.length:Int)<(x5.length:Int) then((jX.f k (x5.set ((x0.length:Int):Int).toNat ((x6) % 4294967296))).bind λt109=>(some t109)) else(none)) else(none))
end
def oV.f(k:Nat)(l0:List Int)(l1:List Int):Option (List Int):=if(l0.length:Int)<(l1.length:Int) then(oV.j0 k l1 l0) else(oV.j0 k l0 l1)
def rY.l0:Nat->List Int->List (List Int)->Int->Int->Option (List Int)
 |0,_,_,_,_=>none
 |k+1,x3,x6,x7,x8=>if x8<x7 then(if 0<=x8 then(if x8<(x6.length:Int) then((jX.f k (kD x6 x8)).bind λt102=>((oV.f k x3 t102).bind λt105=>(rY.l0 k t105 x6 x7 (wrap64 (x8+1))))) else(none)) else(none)) else((pU.f k x3).bind λt108=>(some t108))
def rY.f(k:Nat)(l0:List (List Int)):Option (List Int):=rY.l0 k ([]:List Int) l0 (l0.length:Int) 0
def pG.l0:Nat->List Int->List Int->Int->Option (Int)
 |0,_,_,_=>none
 |k+1,x0,x1,x5=>if x5>=0 then(if 0<=x5 then(if x5<(x0.length:Int) then(if x5<(x1.length:Int) then(if(rd x0 x5)<(rd x1 x5) then(some (-1)) else(if(rd x0 x5)>(rd x1 x5) then(some 1) else(pG.l0 k x0 x1 (wrap64 (x5-1))))) else(none)) else(none)) else(none)) else(some 0)
def pG.f(k:Nat)(l0:List Int)(l1:List Int):Option (Int):=(jX.f k l0).bind λt101=>((jX.f k l1).bind λt104=>(if(t101.length:Int)=(t104.length:Int) then(pG.l0 k t101 t104 (wrap64 ((t101.length:Int)-1))) else(if(t101.length:Int)<(t104.length:Int) then(some (-1)) else(some 1))))
def qU.l0:Nat->List Int->List Int->Int->Int->Int->Option (List Int×Int)
 |0,_,_,_,_,_=>none
 |k+1,x1,x6,x7,x17,x18=>if x18<x17 then(if 0<=x18 then(if x18<(x6.length:Int) then(if x18<(x1.length:Int) then(qU.l0 k x1 (x6.set (x18:Int).toNat ((IntKind.u64.wrap ((IntKind.u64.wrap ((IntKind.u64.wrap (rd x6 x18))-x7))-(IntKind.u64.wrap (rd x1 x18)))) % 4294967296)) ((IntKind.u64.wrap ((IntKind.u64.wrap ((IntKind.u64.wrap (rd x6 x18))-x7))-(IntKind.u64.wrap (rd x1 x18)))) / 9223372036854775808) x17 (wrap64 (x18+1))) else(qU.l0 k x1 (x6.set (x18:Int).toNat ((IntKind.u64.wrap ((IntKind.u64.wrap (rd x6 x18))-x7)) % 4294967296)) ((IntKind.u64.wrap ((IntKind.u64.wrap (rd x6 x18))-x7)) / 9223372036854775808) x17 (wrap64 (x18+1)))) else(none)) else(none)) else((jX.f k x6).bind λt109=>(some (t109,0)))
def qU.f(k:Nat)(l0:List Int)(l1:List Int):Option (List Int×Int):=(pG.f k l0 l1).bind λt101=>(if t101<0 then(none) else((pU.f k l0).bind λt102=>(qU.l0 k l1 t102 0 (t102.length:Int) 0)))
def rE.f(k:Nat)(jW:Bool)(tu:List Int)(xX:Bool)(wV:List Int):Option (Bool×List Int):=if(jW==xX)=true then((rY.f k (([tu,wV]:List (List Int)))).bind λt107=>(some (jW,t107))) else((pG.f k tu wV).bind λt110=>(if t110<0 then((qU.f k wV tu).bind λv_=>(some (xX,v_.1))) else((qU.f k tu wV).bind λXF=>(some (jW,XF.1)))))
def yH.f(k:Nat)(jW:Bool)(tu:List Int)(xX:Bool)(wV:List Int):Option (Bool×List Int):=(rE.f k jW tu (!xX) wV).bind λvk=>(some (vk.1,vk.2))
def uZ.f(k:Nat)(a0:Int):Option (List Int):=(pU.f k (([(a0) % 4294967296,(a0 / 4294967296) % 4294967296]:List Int))).bind λt104=>(some t104)
def CE.f(k:Nat)(a0:Int):Option (Bool×List Int):=(uZ.f k (IntKind.u64.wrap (a0))).bind λt102=>(some (false,t102))
mutual
def mG.l0:Nat->List Int->List Int->List Int->Int->Int->Option (List Int)
 |0,_,_,_,_,_=>none
 |k+1,x1,x5,x18,x19,x20=>if x20<x19 then(if 0<=x20 then(if x20<(x18.length:Int) then(mG.l1 k x1 x5 x20 (rd x18 x20) 0 x18 x19 x20 x1 (x1.length:Int) 0) else(none)) else(none)) else((jX.f k x5).bind λt104=>(some t104))
def mG.l1:Nat->List Int->List Int->Int->Int->Int->List Int->Int->Int->List Int->Int->Int->Option (List Int)
 |0,_,_,_,_,_,_,_,_,_,_,_=>none
 |k+1,x1,x5,x6,x7,x8,x18,x19,x20,x25,xg,x27=>if x27<xg then(if 0<=x27 then(if x27<(x25.length:Int) then(if 0<=(wrap64 (x6+x27)) then(if(wrap64 (x6+x27))<(x5.length:Int) then(mG.l1 k x1 (x5.set ((wrap64 (x6+x27)):Int).toNat ((IntKind.u64.wrap ((IntKind.u64.wrap ((IntKind.u64.wrap ((IntKind.u64.wrap (x7))*(IntKind.u64.wrap (rd x25 x27))))+(IntKind.u64.wrap (rd x5 (wrap64 (x6+x27))))))+x8)) % 4294967296)) x6 x7 ((IntKind.u64.wrap ((IntKind.u64.wrap ((IntKind.u64.wrap ((IntKind.u64.wrap (x7))*(IntKind.u64.wrap (rd x25 x27))))+(IntKind.u64.wrap (rd x5 (wrap64 (x6+x27))))))+x8)) / 4294967296) x18 x19 x20 x25 xg (wrap64 (x27+1))) else(none)) else(none)) else(none)) else(none)) else(if 0<=(wrap64 (x6+(x1.length:Int))) then(if(wrap64 (x6+(x1.length:Int)))<(x5.length:Int) then(mG.l0 k x1 (x5.set ((wrap64 (x6+(x1.length:Int))):Int).toNat ((x8) % 4294967296)) x18 x19 (wrap64 (x20+1))) else(none)) else(none))
end
def mG.f(k:Nat)(l0:List Int)(l1:List Int):Option (List Int):=if 0<=(wrap64 ((l0.length:Int)+(l1.length:Int))) then(if(wrap64 ((l0.length:Int)+(l1.length:Int)):Int).toNat<=70368744177664 then(mG.l0 k l1 (List.replicate (wrap64 ((l0.length:Int)+(l1.length:Int)):Int).toNat 0) l0 (l0.length:Int) 0) else(none)) else(none)
def sW.l0:Nat->List Int->List (List Int)->Int->Int->Option (List Int)
 |0,_,_,_,_=>none
 |k+1,x3,x7,x8,x9=>if x9<x8 then(if 0<=x9 then(if x9<(x7.length:Int) then((jX.f k (kD x7 x9)).bind λt105=>((mG.f k x3 t105).bind λt108=>(sW.l0 k t108 x7 x8 (wrap64 (x9+1))))) else(none)) else(none)) else((pU.f k x3).bind λt111=>(some t111))
def sW.f(k:Nat)(l0:List (List Int)):Option (List Int):=sW.l0 k (([1]:List Int)) l0 (l0.length:Int) 0
def sZ.f(k:Nat)(jW:Bool)(tu:List Int)(xX:Bool)(wV:List Int):Option (Bool×List Int):=(sW.f k (([tu,wV]:List (List Int)))).bind λt107=>(some ((jW != xX),t107))
def sV.l0:Nat->List Int->Int->List Int->Int->Int->Option (List Int×Int)
 |0,_,_,_,_,_=>none
 |k+1,x0,x1,x6,x7,x8=>if x8>=0 then(if 0<=x8 then(if x8<(x0.length:Int) then(if(IntKind.u64.wrap (x1))=0 then(none) else(if x8<(x6.length:Int) then(sV.l0 k x0 x1 (x6.set (x8:Int).toNat ((IntKind.u64.wrap (Int.tdiv (Go.bits .or .u64 (IntKind.u64.wrap (x7*4294967296)) (IntKind.u64.wrap (rd x0 x8))) (IntKind.u64.wrap (x1)))) % 4294967296)) (Int.tmod (Go.bits .or .u64 (IntKind.u64.wrap (x7*4294967296)) (IntKind.u64.wrap (rd x0 x8))) (IntKind.u64.wrap (x1))) (wrap64 (x8-1))) else(none))) else(none)) else(none)) else((jX.f k x6).bind λt106=>(some (t106,(x7) % 4294967296)))
def sV.f(k:Nat)(l0:List Int)(a1:Int):Option (List Int×Int):=if 0<=(l0.length:Int) then(if((l0.length:Int):Int).toNat<=70368744177664 then(sV.l0 k l0 a1 (List.replicate ((l0.length:Int):Int).toNat 0) 0 (wrap64 ((l0.length:Int)-1))) else(none)) else(none)
mutual
def nC.j0:Nat->Int->Int->Bool->Option (List Int×Int)
 |0,_,_,_=>none
 |k+1,x0,x1,nK=>if nK=true then(none) else(if x1<0 then(nC.j1 k x0 x1 true) else(nC.j1 k x0 x1 (decide (x1>x0))))
def nC.j1:Nat->Int->Int->Bool->Option (List Int×Int)
 |0,_,_,_=>none
 |k+1,x0,x1,x20=>if x20=true then(none) else(nC.l0 k x0 (([1]:List Int)) (mn x1 (wrap64 (x0-x1))) 0)
def nC.l0:Nat->Int->List Int->Int->Int->Option (List Int×Int)
 |0,_,_,_,_=>none
 |k+1,x0,x6,xg,x27=>if x27<xg then((mG.f k x6 (([(wrap64 (x0-x27)) % 4294967296]:List Int))).bind λt107=>((sV.f k t107 ((wrap64 (x27+1)) % 4294967296)).bind λyR=>(nC.l0 k x0 yR.1 xg (wrap64 (x27+1))))) else((pU.f k x6).bind λt114=>(some (t114,0)))
end
def nC.f(k:Nat)(a0:Int)(a1:Int):Option (List Int×Int):=if a0<0 then(nC.j0 k a0 a1 true) else(nC.j0 k a0 a1 (decide (a0>4096)))
def u_.f(k:Nat)(l0:List Int):Option (Int):=(jX.f k l0).bind λt101=>(if(t101.length:Int)=0 then(some 0) else(if 0<=(wrap64 ((t101.length:Int)-1)) then(if(wrap64 ((t101.length:Int)-1))<(t101.length:Int) then((bits_Len32.f (rd t101 (wrap64 ((t101.length:Int)-1)))).bind λt105=>(some (wrap64 ((wrap64 (32*(wrap64 ((t101.length:Int)-1))))+t105)))) else(none)) else(none)))
mutual
def pF.j0:Nat->List Int->Int->Int->Bool->Option (List Int×Int)
 |0,_,_,_,_=>none
 |k+1,x0,x1,x6,nK=>if nK=true then(some ((([1]:List Int)),0)) else(if x6=0 then(some (([]:List Int),0)) else(if x1>131072 then(some (([]:List Int),8)) else(if(wrap64 ((wrap64 (x6-1))*x1))>=131072 then(none) else((jX.f k x0).bind λt108=>(pF.l0 k x1 (([1]:List Int)) t108)))))
def pF.l0:Nat->Int->List Int->List Int->Option (List Int×Int)
 |0,_,_,_=>none
 |k+1,x1,x7,x8=>if(Go.bits .and .i64 x1 1)=1 then((mG.f k x7 x8).bind λt111=>(if(x1 / 2)=0 then(if(t111.length:Int)>4096 then(none) else((pU.f k t111).bind λt114=>(some (t114,0)))) else((mG.f k x8 x8).bind λt117=>(pF.l0 k (x1 / 2) t111 t117)))) else(if(x1 / 2)=0 then(if(x7.length:Int)>4096 then(none) else((pU.f k x7).bind λt120=>(some (t120,0)))) else((mG.f k x8 x8).bind λt123=>(pF.l0 k (x1 / 2) x7 t123)))
end
def pF.f(k:Nat)(l0:List Int)(a1:Int):Option (List Int×Int):=if a1<0 then(none) else((u_.f k l0).bind λt101=>(if a1=0 then(pF.j0 k l0 a1 t101 true) else(pF.j0 k l0 a1 t101 (t101==1))))
mutual
def lI.l0:Nat->Int->Int->List (jb)->Int->Int->Option ((List (List (jb))))
 |0,_,_,_,_,_=>none
 |k+1,x0,x1,x5,x20,xh=>if xh<x20 then((nC.f k x1 xh).bind λvk=>((uZ.f k (IntKind.u64.wrap (wrap64 (x0-1)))).bind λt108=>((pF.f k t108 xh).bind λv_=>((sW.f k (([vk.1,v_.1]:List (List Int)))).bind λt118=>(if 0<=xh then(if xh<(x5.length:Int) then(lI.l0 k x0 x1 (x5.set (xh:Int).toNat (⟨false,t118⟩:jb)) x20 (wrap64 (xh+1))) else(none)) else(none)))))) else((CE.f k (wrap64 (x0-1))).bind λPH=>(lI.l1 k x1 (([x5]:List (List (jb)))) x1 0 PH.1 PH.2))
def lI.l1:Nat->Int->List (List (jb))->Int->Int->Bool->List Int->Option ((List (List (jb))))
 |0,_,_,_,_,_,_=>none
 |k+1,x1,x11,DD,x54,DI,DF=>if x54<DD then(if 0<=(wrap64 ((x11.length:Int)-1)) then(if(wrap64 ((x11.length:Int)-1))<(x11.length:Int) then(if 0<((jT x11 (wrap64 ((x11.length:Int)-1))).length:Int) then(lI.l2 k x1 x11 (jT x11 (wrap64 ((x11.length:Int)-1))) (([(⟨(iK (jT x11 (wrap64 ((x11.length:Int)-1))) 0).f0,(iK (jT x11 (wrap64 ((x11.length:Int)-1))) 0).f1⟩:jb)]:List (jb))) 1 DD x54 DI DF) else(none)) else(none)) else(none)) else(some x11)
def lI.l2:Nat->Int->List (List (jb))->List (jb)->List (jb)->Int->Int->Int->Bool->List Int->Option ((List (List (jb))))
 |0,_,_,_,_,_,_,_,_,_=>none
 |k+1,x1,x11,nK,x14,x15,DD,x54,DI,DF=>if x15<=x1 then(if 0<=x15 then(if x15<(nK.length:Int) then(if 0<=(wrap64 (x15-1)) then(if(wrap64 (x15-1))<(nK.length:Int) then((yH.f k ((iK nK x15).f0) ((iK nK x15).f1) ((iK nK (wrap64 (x15-1))).f0) ((iK nK (wrap64 (x15-1))).f1)).bind λC9=>(if(wrap64 (x15-1))<(x14.length:Int) then((sZ.f k DI DF ((iK x14 (wrap64 (x15-1))).f0) ((iK x14 (wrap64 (x15-1))).f1)).bind λPG=>((yH.f k C9.1 C9.2 PG.1 PG.2).bind λPE=>(if x14.length<4398046511104 then(lI.l2 k x1 x11 nK (x14++[(⟨PE.1,PE.2⟩:jb)]) (wrap64 (x15+1)) DD x54 DI DF) else(none)))) else(none))) else(none)) else(none)) else(none)) else(none)) else(if x11.length<5864062014805 then(lI.l1 k x1 (x11++[x14]) DD (wrap64 (x54+1)) DI DF) else(none))
end
def lI.f(k:Nat)(a0:Int)(a1:Int):Option ((List (List (jb)))):=if 0<=(wrap64 (a1+1)) then(if(wrap64 (a1+1):Int).toNat<=8796093022208 then((some (List.replicate (wrap64 (a1+1):Int).toNat oN:List (jb))).bind λy101=>(lI.l0 k a0 a1 y101 (y101.length:Int) 0)) else(none)) else(none)
mutual
def mW.l0:Nat->List (jb)->List (List (jb))->List (jb)->Int->Int->Option ((List (jb)))
 |0,_,_,_,_,_=>none
 |k+1,x1,x5,x6,x19,x20=>if x20<x19 then(mW.l1 k x1 x5 x6 x20 x19 x20 x1 (x1.length:Int) 0) else(some x6)
def mW.l1:Nat->List (jb)->List (List (jb))->List (jb)->Int->Int->Int->List (jb)->Int->Int->Option ((List (jb)))
 |0,_,_,_,_,_,_,_,_,_=>none
 |k+1,x1,x5,x6,x7,x19,x20,BJ,x24,x25=>if x25<x24 then(if 0<=x25 then(if x25<(BJ.length:Int) then(if(((iK BJ x25).f1).length:Int)>0 then(if 0<=x7 then(if x7<(x6.length:Int) then(if x25<(x5.length:Int) then(if x7<((jT x5 x25).length:Int) then((sZ.f k ((iK BJ x25).f0) ((iK BJ x25).f1) ((iK (jT x5 x25) x7).f0) ((iK (jT x5 x25) x7).f1)).bind λEM=>((rE.f k ((iK x6 x7).f0) ((iK x6 x7).f1) EM.1 EM.2).bind λPK=>(mW.l1 k x1 x5 (x6.set (x7:Int).toNat (⟨PK.1,PK.2⟩:jb)) x7 x19 x20 BJ x24 (wrap64 (x25+1))))) else(none)) else(none)) else(none)) else(none)) else(mW.l1 k x1 x5 x6 x7 x19 x20 BJ x24 (wrap64 (x25+1)))) else(none)) else(none)) else(mW.l0 k x1 x5 x6 x19 (wrap64 (x20+1)))
end
def mW.f(k:Nat)(a0:Int)(l1:List (jb)):Option ((List (jb))):=(lI.f k a0 (wrap64 ((l1.length:Int)-1))).bind λt101=>(if 0<=(l1.length:Int) then(if((l1.length:Int):Int).toNat<=8796093022208 then((some (List.replicate ((l1.length:Int):Int).toNat oN:List (jb))).bind λy104=>(mW.l0 k l1 t101 y104 (y104.length:Int) 0)) else(none)) else(none))
def CG.f(a0:Int):Option (Int):=if a0<1 then(some 3) else(if a0>65 then(some 3) else(some 0))
def Ai.f(a0:Int)(a1:Int):Option (Int):=if a0<2 then(some 6) else(if a0>256 then(some 6) else((CG.f a1).bind λt101=>(some t101)))
def zn.f(k:Nat)(l0:List Int)(l1:List Int):Option (List Int×List Int×Int):=(jX.f k l0).bind λt101=>((jX.f k l1).bind λt104=>(if(t104.length:Int)=0 then(none) else((pG.f k t101 t104).bind λt107=>(if t107<0 then((pU.f k t101).bind λt108=>(some (([]:List Int),t108,0))) else(if(t104.length:Int)=1 then(if 0<(t104.length:Int) then((sV.f k t101 (rd t104 0)).bind λEM=>((uZ.f k (IntKind.u64.wrap (EM.2))).bind λt116=>(some (EM.1,t116,0)))) else(none)) else(none))))))
mutual
def oh.l0:Nat->Int->List Int->List (jb)->List (List Int)->Int->Int->Option ((List (List Int))×Int)
 |0,_,_,_,_,_,_=>none
 |k+1,x0,x7,x8,x29,x30,x31=>if x31<x30 then(if 0<=x31 then(if x31<(x29.length:Int) then((pU.f k (kD x29 x31)).bind λt106=>(if x8.length<4398046511104 then(oh.l0 k x0 x7 (x8++[(⟨false,t106⟩:jb)]) x29 x30 (wrap64 (x31+1))) else(none))) else(none)) else(none)) else((mW.f k x0 x8).bind λt112=>(oh.l1 k x7 ([]:List (List Int)) t112 (t112.length:Int) 0))
def oh.l1:Nat->List Int->List (List Int)->List (jb)->Int->Int->Option ((List (List Int))×Int)
 |0,_,_,_,_,_=>none
 |k+1,x7,x11,BI,G_,yZ=>if yZ<G_ then(if 0<=yZ then(if yZ<(BI.length:Int) then((zn.f k ((iK BI yZ).f1) x7).bind λBe=>(if(Be.2.1.length:Int)>0 then(none) else(if(iK BI yZ).f0=true then(if(((iK BI yZ).f1).length:Int)>0 then(none) else(if x11.length<5864062014805 then(oh.l1 k x7 (x11++[Be.1]) BI G_ (wrap64 (yZ+1))) else(none))) else(if x11.length<5864062014805 then(oh.l1 k x7 (x11++[Be.1]) BI G_ (wrap64 (yZ+1))) else(none))))) else(none)) else(none)) else(some (x11,0))
end
def oh.f(k:Nat)(a0:Int)(l1:List (List Int)):Option ((List (List Int))×Int):=(Ai.f a0 (l1.length:Int)).bind λt101=>(if t101=0 then((rY.f k l1).bind λt102=>(if(t102.length:Int)=0 then(none) else(oh.l0 k a0 t102 ([]:List (jb)) l1 (l1.length:Int) 0))) else(none))
def tq.l0:Nat->List (List Int)->Int->Int->Int->Option (Int)
 |0,_,_,_,_=>none
 |k+1,x0,x1,x5,x6=>if x6<=x1 then(if 0<=x6 then(if x6<(x0.length:Int) then((u_.f k (kD x0 x6)).bind λt102=>(if t102>0 then(tq.l0 k x0 x1 (wrap64 (x5+1)) (wrap64 (x6+1))) else(tq.l0 k x0 x1 x5 (wrap64 (x6+1))))) else(none)) else(none)) else(some x5)
def tq.f(k:Nat)(l0:List (List Int))(a1:Int):Option (Int):=tq.l0 k l0 a1 0 1
def oU.f(l0:List Int)(a1:Int):Option (Int):=if a1<(l0.length:Int) then(if 0<=a1 then(some (IntKind.u64.wrap (rd l0 a1))) else(none)) else(some 0)
mutual
def ny.l0:Nat->List Int->List Int->List Int->Int->Int->Option (List Int)
 |0,_,_,_,_,_=>none
 |k+1,x0,x1,x5,x6,x7=>if x7<(x0.length:Int) then(ny.j1 k x0 x1 x5 x6 x7 true) else(if x7<(x1.length:Int) then(ny.j1 k x0 x1 x5 x6 x7 true) else(ny.j1 k x0 x1 x5 x6 x7 (decide (x6>0))))
def ny.j1:Nat->List Int->List Int->List Int->Int->Int->Bool->Option (List Int)
 |0,_,_,_,_,_,_=>none
 |k+1,x0,x1,x5,x6,x7,sH=>if sH=true then((oU.f x0 x7).bind λt101=>((oU.f x1 x7).bind λt102=>(if x5.length<35184372088832 then(ny.l0 k x0 x1 (x5++[(Int.tmod (IntKind.u64.wrap ((IntKind.u64.wrap (t101+t102))+x6)) 4294967296) % 4294967296]) (IntKind.u64.wrap (Int.tdiv (IntKind.u64.wrap ((IntKind.u64.wrap (t101+t102))+x6)) 4294967296)) (wrap64 (x7+1))) else(none)))) else((lF.f k x5).bind λt106=>(some t106))
end
def ny.f(k:Nat)(l0:List Int)(l1:List Int):Option (List Int):=ny.l0 k l0 l1 ([]:List Int) 0 0
def qC.l0:Nat->Int->Int->Option (Int)
 |0,_,_=>none
 |k+1,x3,x4=>if x4>0 then(qC.l0 k (wrap64 (x3+1)) ((Int.tdiv x4 2) % 4294967296)) else(some x3)
def qC.f(k:Nat)(l0:List Int):Option (Int):=(lF.f k l0).bind λt101=>(if(t101.length:Int)=0 then(some 0) else(if 0<=(wrap64 ((t101.length:Int)-1)) then(if(wrap64 ((t101.length:Int)-1))<(t101.length:Int) then(qC.l0 k (wrap64 (32*(wrap64 ((t101.length:Int)-1)))) (rd t101 (wrap64 ((t101.length:Int)-1)))) else(none)) else(none)))
def rC.l0:Nat->List Int->List Int->Int->Option (Int)
 |0,_,_,_=>none
 |k+1,x0,x1,x5=>if x5>=0 then((oU.f x0 x5).bind λt101=>((oU.f x1 x5).bind λt102=>(if t101<t102 then(some (-1)) else((oU.f x0 x5).bind λt103=>((oU.f x1 x5).bind λt104=>(if t103>t104 then(some 1) else(rC.l0 k x0 x1 (wrap64 (x5-1))))))))) else(some 0)
def rC.f(k:Nat)(l0:List Int)(l1:List Int):Option (Int):=rC.l0 k l0 l1 (wrap64 ((mx (l0.length:Int) (l1.length:Int))-1))
def ry.l0:Nat->List Int->List Int->List Int->Int->Int->Option (List Int)
 |0,_,_,_,_,_=>none
 |k+1,x0,x1,x5,x6,x7=>if x7<(x0.length:Int) then((oU.f x0 x7).bind λt101=>((oU.f x1 x7).bind λt102=>(if x5.length<35184372088832 then(ry.l0 k x0 x1 (x5++[(Int.tmod (IntKind.u64.wrap ((IntKind.u64.wrap ((IntKind.u64.wrap (t101+4294967296))-t102))-x6)) 4294967296) % 4294967296]) (IntKind.u64.wrap (1-(IntKind.u64.wrap (Int.tdiv (IntKind.u64.wrap ((IntKind.u64.wrap ((IntKind.u64.wrap (t101+4294967296))-t102))-x6)) 4294967296)))) (wrap64 (x7+1))) else(none)))) else((lF.f k x5).bind λt106=>(some t106))
def ry.f(k:Nat)(l0:List Int)(l1:List Int):Option (List Int):=ry.l0 k l0 l1 ([]:List Int) 0 0
def rX.l0:Nat->List Int->Int->List Int->Int->Int->Option (List Int)
 |0,_,_,_,_,_=>none
 |k+1,x0,x1,x5,x6,x7=>if x7<(x0.length:Int) then(if 0<=x7 then(if 0<=(Int.tmod x1 32) then(if x5.length<35184372088832 then(rX.l0 k x0 x1 (x5++[(Int.tmod (IntKind.u64.wrap ((shl .u64 (IntKind.u64.wrap (rd x0 x7)) (Int.tmod x1 32))+x6)) 4294967296) % 4294967296]) (IntKind.u64.wrap (Int.tdiv (IntKind.u64.wrap ((shl .u64 (IntKind.u64.wrap (rd x0 x7)) (Int.tmod x1 32))+x6)) 4294967296)) (wrap64 (x7+1))) else(none)) else(none)) else(none)) else(if x5.length<35184372088832 then((lF.f k (x5++[(x6) % 4294967296])).bind λt111=>(some t111)) else(none))
def rX.f(k:Nat)(l0:List Int)(a1:Int):Option (List Int):=if 0<=(wrap64 (Int.tdiv a1 32)) then(if(wrap64 (Int.tdiv a1 32):Int).toNat<=70368744177664 then(rX.l0 k l0 a1 (List.replicate (wrap64 (Int.tdiv a1 32):Int).toNat 0) 0 0) else(none)) else(none)
def qj.l0:Nat->List Int->List Int->List Int->Int->Option (List Int×List Int)
 |0,_,_,_,_=>none
 |k+1,x1,x4,x5,x7=>if x7>=0 then((rX.f k x1 x7).bind λt109=>((rC.f k x5 t109).bind λt112=>(if t112>=0 then((ry.f k x5 t109).bind λt113=>((rX.f k (([1]:List Int)) x7).bind λt119=>((ny.f k x4 t119).bind λt122=>(qj.l0 k x1 t122 t113 (wrap64 (x7-1)))))) else(qj.l0 k x1 x4 x5 (wrap64 (x7-1)))))) else((lF.f k x4).bind λt106=>(some (t106,x5)))
def qj.f(k:Nat)(l0:List Int)(l1:List Int):Option (List Int×List Int):=(lF.f k l0).bind λt101=>((qC.f k l0).bind λt104=>((qC.f k l1).bind λt105=>(qj.l0 k l1 ([]:List Int) t101 (wrap64 (t104-t105)))))
def sS.l0:Nat->List Int->List Int->Option (List Int)
 |0,_,_=>none
 |k+1,x0,x1=>(qB.f k x1).bind λt101=>(if t101=true then((lF.f k x0).bind λt102=>(some t102)) else((qj.f k x0 x1).bind λEN=>(sS.l0 k x1 EN.2)))
def sS.f(k:Nat)(l0:List Int)(l1:List Int):Option (List Int):=sS.l0 k l0 l1
def mP.j0:Nat->Bool->List Int->List Int->Bool->Option (Bool×List Int×List Int)
 |0,_,_,_,_=>none
 |k+1,x0,x1,x2,x17=>if x17=true then(some (false,(([]:List Int)),(([1]:List Int)))) else((sS.f k x1 x2).bind λt110=>((qj.f k x1 t110).bind λJC=>((qj.f k x2 t110).bind λXE=>(some (x0,JC.1,XE.1)))))
def mP.f(k:Nat)(a0:Bool)(l1:List Int)(l2:List Int):Option (Bool×List Int×List Int):=(qB.f k l1).bind λt102=>(if t102=true then(mP.j0 k a0 l1 l2 true) else((qB.f k l2).bind λt103=>(mP.j0 k a0 l1 l2 t103)))
def uz.l0:Nat->List Int->List Int->Int->Option (Bool)
 |0,_,_,_=>none
 |k+1,x0,x1,x5=>if x5<(x0.length:Int) then(if 0<=x5 then(if x5<(x1.length:Int) then(if(rd x0 x5)=(rd x1 x5) then(uz.l0 k x0 x1 (wrap64 (x5+1))) else(some false)) else(none)) else(none)) else(some true)
def uz.f(k:Nat)(l0:List Int)(l1:List Int):Option (Bool):=if(l0.length:Int)=(l1.length:Int) then(uz.l0 k l0 l1 0) else(some false)
def qA.f(k:Nat)(jW:Bool)(tu:List Int)(kJ:List Int):Option (Bool×List Int×List Int):=(mP.f k jW tu kJ).bind λBg=>(some (Bg.1,Bg.2.1,Bg.2.2))
def Ac.f(k:Nat)(jW:Bool)(tu:List Int)(kJ:List Int):Option (List Int×Bool):=(qA.f k jW tu kJ).bind λxA=>(if xA.1=true then(none) else((uz.f k xA.2.2 (([1]:List Int))).bind λt112=>(if t112=true then(some (xA.2.1,true)) else(none))))
def Af.f(a0:Int):Option (Int):=if a0<2 then(some 6) else(if a0>256 then(some 6) else(some 0))
def Ae.f(a0:Int):Option (Int):=if a0<1 then(some 3) else(if a0>65 then(some 3) else(some 0))
def uo.l0:Nat->List (List Int)->List Int->Int->Option (List Int)
 |0,_,_,_=>none
 |k+1,x0,x3,x4=>if x4<(x0.length:Int) then(if 0<=x4 then((ny.f k x3 (kD x0 x4)).bind λt105=>(uo.l0 k x0 t105 (wrap64 (x4+1)))) else(none)) else(some x3)
def uo.f(k:Nat)(l0:List (List Int)):Option (List Int):=uo.l0 k l0 (([]:List Int)) 0
mutual
def kC.l0:Nat->List Int->List Int->List Int->Int->Option (List Int)
 |0,_,_,_,_=>none
 |k+1,x0,x1,x5,x6=>if x6<(x0.length:Int) then(kC.l1 k x0 x1 x5 x6 0 0) else((lF.f k x5).bind λt104=>(some t104))
def kC.l1:Nat->List Int->List Int->List Int->Int->Int->Int->Option (List Int)
 |0,_,_,_,_,_,_=>none
 |k+1,x0,x1,x5,x6,x7,x8=>if x8<(x1.length:Int) then(if 0<=x6 then(if x6<(x0.length:Int) then(if 0<=x8 then(if 0<=(wrap64 (x6+x8)) then(if(wrap64 (x6+x8))<(x5.length:Int) then(kC.l1 k x0 x1 (x5.set ((wrap64 (x6+x8)):Int).toNat ((Int.tmod (IntKind.u64.wrap ((IntKind.u64.wrap ((IntKind.u64.wrap ((IntKind.u64.wrap (rd x0 x6))*(IntKind.u64.wrap (rd x1 x8))))+(IntKind.u64.wrap (rd x5 (wrap64 (x6+x8))))))+x7)) 4294967296) % 4294967296)) x6 (IntKind.u64.wrap (Int.tdiv (IntKind.u64.wrap ((IntKind.u64.wrap ((IntKind.u64.wrap ((IntKind.u64.wrap (rd x0 x6))*(IntKind.u64.wrap (rd x1 x8))))+(IntKind.u64.wrap (rd x5 (wrap64 (x6+x8))))))+x7)) 4294967296)) (wrap64 (x8+1))) else(none)) else(none)) else(none)) else(none)) else(none)) else(if 0<=(wrap64 (x6+(x1.length:Int))) then(if(wrap64 (x6+(x1.length:Int)))<(x5.length:Int) then(kC.l0 k x0 x1 (x5.set ((wrap64 (x6+(x1.length:Int))):Int).toNat ((x7) % 4294967296)) (wrap64 (x6+1))) else(none)) else(none))
end
def kC.f(k:Nat)(l0:List Int)(l1:List Int):Option (List Int):=if 0<=(wrap64 ((l0.length:Int)+(l1.length:Int))) then(if(wrap64 ((l0.length:Int)+(l1.length:Int)):Int).toNat<=70368744177664 then(kC.l0 k l0 l1 (List.replicate (wrap64 ((l0.length:Int)+(l1.length:Int)):Int).toNat 0) 0) else(none)) else(none)
def lY.f(k:Nat)(jW:Bool)(tu:List Int)(kJ:List Int)(xX:Bool)(wV:List Int)(IW:List Int):Option (Bool×List Int×List Int):=(qA.f k jW tu kJ).bind λvk=>((qA.f k xX wV IW).bind λv_=>((kC.f k vk.2.1 v_.2.2).bind λt118=>((kC.f k v_.2.1 vk.2.2).bind λt121=>((kC.f k vk.2.2 v_.2.2).bind λt124=>(if(vk.1==v_.1)=true then((ny.f k t118 t121).bind λt127=>((mP.f k vk.1 t127 t124).bind λJB=>(some (JB.1,JB.2.1,JB.2.2)))) else((rC.f k t118 t121).bind λt137=>(if t137>=0 then((ry.f k t118 t121).bind λt138=>((mP.f k vk.1 t138 t124).bind λJA=>(some (JA.1,JA.2.1,JA.2.2)))) else((ry.f k t121 t118).bind λt148=>((mP.f k v_.1 t148 t124).bind λBa=>(some (Ba.1,Ba.2.1,Ba.2.2)))))))))))
def yF.f(k:Nat)(a0:Int):Option (List Int):=if a0<0 then((uA.f k (IntKind.u64.wrap (wrap64 (-(wrap64 (a0+1)))))).bind λt101=>((ny.f k t101 (([1]:List Int))).bind λt107=>(some t107))) else((uA.f k (IntKind.u64.wrap (a0))).bind λt110=>(some t110))
def Cc.f(k:Nat)(a0:Int)(a1:Int):Option (Bool×List Int×List Int):=(yF.f k a0).bind λt102=>((yF.f k a1).bind λt105=>((mP.f k ((decide (a0<0)) != (decide (a1<0))) t102 t105).bind λBf=>(some (Bf.1,Bf.2.1,Bf.2.2))))
def yG.f(k:Nat)(a0:Int):Option (Bool×List Int×List Int):=(Cc.f k a0 1).bind λxA=>(some (xA.1,xA.2.1,xA.2.2))
def um.f(k:Nat)(jW:Bool)(tu:List Int)(kJ:List Int)(xX:Bool)(wV:List Int)(IW:List Int):Option (Bool×List Int×List Int):=(qA.f k jW tu kJ).bind λvk=>((qA.f k xX wV IW).bind λv_=>((kC.f k vk.2.1 v_.2.1).bind λt118=>((kC.f k vk.2.2 v_.2.2).bind λt121=>((mP.f k (vk.1 != v_.1) t118 t121).bind λBd=>(some (Bd.1,Bd.2.1,Bd.2.2))))))
def uy.l0:Nat->List Int->Int->List Int->Int->Int->Option (List Int)
 |0,_,_,_,_,_=>none
 |k+1,x0,x2,x7,x8,x9=>if x9>=0 then(if 0<=x9 then(if x9<(x0.length:Int) then(if(IntKind.u64.wrap (x2))=0 then(none) else(if x9<(x7.length:Int) then(uy.l0 k x0 x2 (x7.set (x9:Int).toNat ((IntKind.u64.wrap (Int.tdiv (IntKind.u64.wrap ((IntKind.u64.wrap (x8*4294967296))+(IntKind.u64.wrap (rd x0 x9)))) (IntKind.u64.wrap (x2)))) % 4294967296)) (Int.tmod (IntKind.u64.wrap ((IntKind.u64.wrap (x8*4294967296))+(IntKind.u64.wrap (rd x0 x9)))) (IntKind.u64.wrap (x2))) (wrap64 (x9-1))) else(none))) else(none)) else(none)) else((lF.f k x7).bind λt112=>(some t112))
def uy.f(k:Nat)(l0:List Int)(a1:Int)(a2:Int):Option (List Int):=(uA.f k (IntKind.u64.wrap (a1))).bind λt101=>((kC.f k l0 t101).bind λt104=>(if 0<=(t104.length:Int) then(if((t104.length:Int):Int).toNat<=70368744177664 then(uy.l0 k t104 a2 (List.replicate ((t104.length:Int):Int).toNat 0) 0 (wrap64 ((t104.length:Int)-1))) else(none)) else(none)))
mutual
def oJ.j0:Nat->Int->Int->Bool->Option (List Int)
 |0,_,_,_=>none
 |k+1,x0,x1,nK=>if nK=true then(some (([]:List Int))) else(oJ.l0 k x0 x1 (([1]:List Int)) 0)
def oJ.l0:Nat->Int->Int->List Int->Int->Option (List Int)
 |0,_,_,_,_=>none
 |k+1,x0,x1,x5,x6=>if x6<x1 then((uy.f k x5 (wrap64 (x0-x6)) (wrap64 (x6+1))).bind λt107=>(oJ.l0 k x0 x1 t107 (wrap64 (x6+1)))) else(some x5)
end
def oJ.f(k:Nat)(a0:Int)(a1:Int):Option (List Int):=if a1<0 then(oJ.j0 k a0 a1 true) else(oJ.j0 k a0 a1 (decide (a1>a0)))
def sQ.l0:Nat->List Int->Int->List Int->Int->Option (List Int×Int)
 |0,_,_,_,_=>none
 |k+1,x0,x1,x6,x7=>if x7>0 then((kC.f k x6 x6).bind λt111=>(if x7=0 then(none) else(if(Int.tmod (wrap64 (Int.tdiv x1 x7)) 2)=1 then((kC.f k t111 x0).bind λt114=>(if(t114.length:Int)>4096 then(none) else(sQ.l0 k x0 x1 t114 (wrap64 (Int.tdiv x7 2))))) else(if(t111.length:Int)>4096 then(none) else(sQ.l0 k x0 x1 t111 (wrap64 (Int.tdiv x7 2))))))) else(some (x6,0))
def sQ.f(k:Nat)(l0:List Int)(a1:Int):Option (List Int×Int):=if a1<0 then(none) else((lF.f k l0).bind λt101=>(if a1=0 then(some ((([1]:List Int)),0)) else((qC.f k t101).bind λt107=>(if t107<=1 then(some (t101,0)) else(if a1>131072 then(none) else(sQ.l0 k t101 a1 (([1]:List Int)) 262144))))))
def zl.f(k:Nat)(l0:List Int):Option (Bool×List Int×List Int):=(mP.f k false l0 (([1]:List Int))).bind λEN=>(some (EN.1,EN.2.1,EN.2.2))
def Ad.f(k:Nat)(jW:Bool)(tu:List Int)(kJ:List Int):Option (Bool×List Int×List Int):=(qA.f k jW tu kJ).bind λBg=>((mP.f k (!Bg.1) Bg.2.1 Bg.2.2).bind λyR=>(some (yR.1,yR.2.1,yR.2.2)))
def tK.l0:Nat->Int->Int->Int->Int->Int->Bool->List Int->List Int->Option (Bool×List Int×List Int)
 |0,_,_,_,_,_,_,_,_=>none
 |k+1,x0,x1,x2,x3,x10,Hf,He,Ha=>if x10<=x2 then((uA.f k (IntKind.u64.wrap (wrap64 (x0-1)))).bind λt110=>((sQ.f k t110 (wrap64 (x2-x10))).bind λJC=>((oJ.f k x3 x10).bind λt117=>((oJ.f k (wrap64 (x1-x3)) (wrap64 (x2-x10))).bind λt120=>((kC.f k t117 t120).bind λt123=>((kC.f k JC.1 t123).bind λt126=>((zl.f k t126).bind λC_=>(if(Int.tmod x10 2)=1 then((Ad.f k C_.1 C_.2.1 C_.2.2).bind λC9=>((lY.f k Hf He Ha C9.1 C9.2.1 C9.2.2).bind λJz=>(tK.l0 k x0 x1 x2 x3 (wrap64 (x10+1)) Jz.1 Jz.2.1 Jz.2.2))) else((lY.f k Hf He Ha C_.1 C_.2.1 C_.2.2).bind λBa=>(tK.l0 k x0 x1 x2 x3 (wrap64 (x10+1)) Ba.1 Ba.2.1 Ba.2.2)))))))))) else(some (Hf,He,Ha))
def tK.f(k:Nat)(a0:Int)(a1:Int)(a2:Int)(a3:Int):Option (Bool×List Int×List Int):=(yG.f k 0).bind λxA=>(tK.l0 k a0 a1 a2 a3 0 xA.1 xA.2.1 xA.2.2)
mutual
def nN.l0:Nat->Int->List (lC)->List (lC)->Int->Option ((List (lC)))
 |0,_,_,_,_=>none
 |k+1,x0,x1,x5,x6=>if x6<(x1.length:Int) then((yG.f k 0).bind λDc=>(nN.l1 k x0 x1 x5 x6 0 Dc.1 Dc.2.1 Dc.2.2)) else(some x5)
def nN.l1:Nat->Int->List (lC)->List (lC)->Int->Int->Bool->List Int->List Int->Option ((List (lC)))
 |0,_,_,_,_,_,_,_,_=>none
 |k+1,x0,x1,x5,x6,x8,J9,J8,J7=>if x8<(x1.length:Int) then(if 0<=x8 then((tK.f k x0 (wrap64 ((x1.length:Int)-1)) x6 x8).bind λyR=>((um.f k ((mf x1 x8).f0) ((mf x1 x8).f1) ((mf x1 x8).f2) yR.1 yR.2.1 yR.2.2).bind λBe=>((lY.f k J9 J8 J7 Be.1 Be.2.1 Be.2.2).bind λBd=>(nN.l1 k x0 x1 x5 x6 (wrap64 (x8+1)) Bd.1 Bd.2.1 Bd.2.2)))) else(none)) else(if x5.length<2513169434916 then(nN.l0 k x0 x1 (x5++[(⟨J9,J8,J7⟩:lC)]) (wrap64 (x6+1))) else(none))
end
def nN.f(k:Nat)(a0:Int)(l1:List (lC)):Option ((List (lC))):=nN.l0 k a0 l1 ([]:List (lC)) 0
mutual
def pq.l0:Nat->Int->List (List Int)->List Int->List (lC)->Int->Option ((List (List Int))×Int)
 |0,_,_,_,_,_=>none
 |k+1,x0,x1,x6,x7,x8=>if x8<(x1.length:Int) then(if 0<=x8 then((mP.f k false (kD x1 x8) x6).bind λBf=>(if x7.length<2513169434916 then(pq.l0 k x0 x1 x6 (x7++[(⟨Bf.1,Bf.2.1,Bf.2.2⟩:lC)]) (wrap64 (x8+1))) else(none))) else(none)) else((nN.f k x0 x7).bind λt118=>(pq.l1 k t118 ([]:List (List Int)) 0))
def pq.l1:Nat->List (lC)->List (List Int)->Int->Option ((List (List Int))×Int)
 |0,_,_,_=>none
 |k+1,x9,x10,x11=>if x11<(x9.length:Int) then(if 0<=x11 then((Ac.f k ((mf x9 x11).f0) ((mf x9 x11).f1) ((mf x9 x11).f2)).bind λPI=>(if PI.2=true then(if x10.length<5864062014805 then(pq.l1 k x9 (x10++[PI.1]) (wrap64 (x11+1))) else(none)) else(none))) else(none)) else(some (x10,0))
end
def pq.f(k:Nat)(a0:Int)(l1:List (List Int)):Option ((List (List Int))×Int):=(Af.f a0).bind λt101=>(if t101=0 then((Ae.f (l1.length:Int)).bind λt102=>(if t102=0 then((uo.f k l1).bind λt103=>((qB.f k t103).bind λt106=>(if t106=true then(none) else(pq.l0 k a0 l1 t103 ([]:List (lC)) 0)))) else(none))) else(none))
def sO.l0:Nat->List (List Int)->Int->Option (Int)
 |0,_,_=>none
 |k+1,x0,x3=>if x3<(x0.length:Int) then(if 0<=x3 then((qB.f k (kD x0 x3)).bind λt102=>(if t102=true then(sO.l0 k x0 (wrap64 (x3+1))) else(some x3))) else(none)) else(some 0)
def sO.f(k:Nat)(l0:List (List Int)):Option (Int):=sO.l0 k l0 1
def uq.l0:Nat->Int->List (List Int)->Int->Int->Option (Int)
 |0,_,_,_,_=>none
 |k+1,x0,x1,x5,x6=>if x6<x0 then((sK.f k x1 (wrap64 ((wrap64 ((x1.length:Int)-1))-x6))).bind λt101=>(if t101<=(wrap64 (x0-x6)) then(uq.l0 k x0 x1 x6 (wrap64 (x6+1))) else(uq.l0 k x0 x1 x5 (wrap64 (x6+1))))) else(some x5)
def uq.f(k:Nat)(a0:Int)(l1:List (List Int)):Option (Int):=uq.l0 k a0 l1 0 1
mutual
def l7.j1:Nat->List (List Int)->Int->Int->Option (Int×Int)
 |0,_,_,_=>none
 |k+1,x6,x8,x9=>if x9>x8 then(some (0,11)) else(l7.l1 k x6 x8 x9 (wrap64 (x9-1)))
def l7.l1:Nat->List (List Int)->Int->Int->Int->Option (Int×Int)
 |0,_,_,_,_=>none
 |k+1,x6,x8,x9,x10=>if x10>=1 then((tq.f k x6 (wrap64 (x8-x10))).bind λt107=>(if t107<=(wrap64 (x9-x10)) then(some (x10,0)) else(l7.l1 k x6 x8 x9 (wrap64 (x10-1))))) else(some (0,0))
def l7.l0:Nat->List (List Int)->List (List Int)->Int->Int->Option (Int×Int)
 |0,_,_,_,_=>none
 |k+1,x1,x6,x8,x9=>if x9<=x8 then(if 0<=x9 then(if x9<(x1.length:Int) then((u_.f k (kD x1 x9)).bind λt106=>(if t106=0 then(l7.l0 k x1 x6 x8 (wrap64 (x9+1))) else(l7.j1 k x6 x8 x9))) else(none)) else(none)) else(l7.j1 k x6 x8 x9)
end
def l7.f(k:Nat)(a0:Int)(l1:List (List Int)):Option (Int×Int):=(oh.f k a0 l1).bind λDc=>(if Dc.2=0 then(l7.l0 k l1 Dc.1 (wrap64 ((l1.length:Int)-1)) 1) else(none))
mutual
def o_.l0:Nat->List Int->List Int->Int->Option (Bool)
 |0,_,_,_=>none
 |k+1,x0,x1,x5=>if x5<(x0.length:Int) then(o_.l1 k x0 x1 x5 false 0) else(some true)
def o_.l1:Nat->List Int->List Int->Int->Bool->Int->Option (Bool)
 |0,_,_,_,_,_=>none
 |k+1,x0,x1,x5,x6,x7=>if x7<(x1.length:Int) then(if x6=true then(o_.l1 k x0 x1 x5 true (wrap64 (x7+1))) else(if 0<=x7 then(if 0<=x5 then(if x5<(x0.length:Int) then(o_.l1 k x0 x1 x5 ((rd x1 x7)==(rd x0 x5)) (wrap64 (x7+1))) else(none)) else(none)) else(none))) else(if x6=true then(o_.l0 k x0 x1 (wrap64 (x5+1))) else(some false))
end
def o_.f(k:Nat)(l0:List Int)(l1:List Int):Option (Bool):=o_.l0 k l0 l1 0
mutual
def lZ.l0:Nat->List (List Int)->Int->List (List Int)->Int->Option ((List (List Int)))
 |0,_,_,_,_=>none
 |k+1,x0,x1,x5,x6=>if x6<(x0.length:Int) then(lZ.l1 k x0 x1 x5 x6 ([]:List Int) 0) else(some x5)
def lZ.l1:Nat->List (List Int)->Int->List (List Int)->Int->List Int->Int->Option ((List (List Int)))
 |0,_,_,_,_,_,_=>none
 |k+1,x0,x1,x5,x6,x7,x8=>if 0<=x6 then(if x6<(x0.length:Int) then(if x8<((jD x0 x6).length:Int) then(if 0<=x8 then(if(rd (jD x0 x6) x8)=0 then(lZ.l1 k x0 x1 x5 x6 x7 (wrap64 (x8+1))) else(if x7.length<17592186044416 then(lZ.l1 k x0 x1 x5 x6 (x7++[x8]) (wrap64 (x8+1))) else(none))) else(none)) else(lZ.l2 k x0 x1 x5 x6 x7 false 0)) else(none)) else(none)
def lZ.l2:Nat->List (List Int)->Int->List (List Int)->Int->List Int->Bool->Int->Option ((List (List Int)))
 |0,_,_,_,_,_,_,_=>none
 |k+1,x0,x1,x5,x6,x7,x9,x10=>if x10<(x5.length:Int) then(if x9=true then(lZ.l2 k x0 x1 x5 x6 x7 true (wrap64 (x10+1))) else(if 0<=x10 then(if((jD x5 x10).length:Int)=(x7.length:Int) then((o_.f k x7 (jD x5 x10)).bind λt109=>(lZ.l2 k x0 x1 x5 x6 x7 t109 (wrap64 (x10+1)))) else(lZ.l2 k x0 x1 x5 x6 x7 false (wrap64 (x10+1)))) else(none))) else(if(x7.length:Int)=x1 then(if x9=true then(lZ.l0 k x0 x1 x5 (wrap64 (x6+1))) else(if x5.length<5864062014805 then(lZ.l0 k x0 x1 (x5++[x7]) (wrap64 (x6+1))) else(none))) else(lZ.l0 k x0 x1 x5 (wrap64 (x6+1))))
end
def lZ.f(k:Nat)(l0:List (List Int))(a1:Int):Option ((List (List Int))):=lZ.l0 k l0 a1 ([]:List (List Int)) 0
end Go.Proofs.Ytifkbghnmhineaa.qc
namespace Go.Proofs.Ytifkbghnmhineaa.qc
set_option maxHeartbeats 8000000
set_option maxRecDepth 100000
open Go.RowKit Go.Proofs.YtifkbghnmhineaaW.lJ Go.Proofs.YtifkbghnmhineaaW.rO Go.Proofs.YtifkbghnmhineaaW.uO
attribute [local go_sem] Aw Ap Aq Aj Ar Ak Au Am
set_option linter.unusedVariables false
set_option linter.unusedSimpArgs false
theorem kQ.calls(k:Nat)(b:Int)(d:Int)(o:Option Addr)(m:Nat)(c:List Int)(r:Int)(w:World)(s:Kd.C (Kd.int .i64) w o c.length c)(u:c.length<=m)(h:kQ.f k b d c=some r):
 Calls Try.prog 24 #[.agg #[.int .i64 b, .int .i64 d, .slice o c.length m]] w λe w'=>e= .returned (.int .i64 r)/\Below w.heap.size w w':=by
 have av:=Try.underlying24
 have aj:=zk s
 have ak:=zk u
 clear s u
 have HB:=zk (Below.refl w.heap.size w)
 have H:=h
 clear h
 unfold kQ.f at H
 have Z:=zk H
 clear H
 go_enter Try.func24,Try.ntmps24
 go_upto_region 1 with(first|((with_reducible refine jc (N:=1) rfl ?_);refine jM ?hg (N:=1) ?hd (cs:= #[.int .i64 b, .int .i64 d, .slice o c.length m]) (t:=24) ?hr ?_;(case hd=>rfl);(case hg=>rfl);(case hr=>first|(go_simp;done)|(go_simp;rfl));intro q hg w3 hbox hb;have a:=zk (hbox);have ao:=yg hg HB;have g:=yg hg HB;replace HB:=yS HB hb;clear hb hbox hg))
 (try simp only[Act.put,List.setIfInBounds_toArray,List.set_cons_zero,List.set_cons_succ])
 go_cut [17] (λau wc=>∃(kq:Nat) (j:Bool),au= .bool j/\dw (kQ.j0 kq j b d c=some r)/\dw (kq<=k)/\dw (wc.heap[q]?=some (.cells #[.int .i64 b, .int .i64 d,(.slice o c.length m)] 24 (0,0)))/\dw (Below w.heap.size w wc))
 case first=>
  have H:=Z.out
  clear Z
  replace H:=jB H
  rcases H with⟨n,H⟩|⟨n,H⟩
  ·(first|rw[n]|(simp only[iI,iP];rw[n])|rw[yQ]|skip)
   have H':=zk H
   clear H
   obtain⟨ah,a8,ad,ae,aa,a5⟩:=ja a
   go_wp2
   go_meet
   case rel=>exact⟨_,(true),zF,H',⟨zO⟩,⟨by(with_reducible repeat(first|refine iM ?_ _|refine iC ?_|refine iL ?_ _));exact a.out⟩,⟨iH HB.out g.out⟩⟩
  (first|rw[n]|(simp only[iI,iP];rw[n])|rw[yQ]|skip)
  replace H:=jB H
  rcases H with⟨ab,H⟩|⟨ab,H⟩
  ·have H':=zk H
   clear H
   obtain⟨a9,a4,a1,ag,a7,af⟩:=ja a
   go_wp2
   go_meet
   case rel=>exact⟨_,(true),zF,H',⟨zO⟩,⟨by(with_reducible repeat(first|refine iM ?_ _|refine iC ?_|refine iL ?_ _));exact a.out⟩,⟨iH HB.out g.out⟩⟩
  have H':=zk H
  clear H
  obtain⟨a0,a6,ai,a2,a3,ac⟩:=ja a
  go_wp2
  go_meet
  case rel=>exact⟨_,(decide (d>8)),zF,H',⟨zO⟩,⟨by(with_reducible repeat(first|refine iM ?_ _|refine iC ?_|refine iL ?_ _));exact a.out⟩,⟨iH HB.out g.out⟩⟩
 clear Z
 obtain⟨kq,j,rfl,HA,al,a,HB⟩:=hcut
 cases kq with|zero=>exact absurd HA.out (by simp [kQ.j0])|succ ar=>?_
 have H:=HA.out
 clear HA
 simp only[kQ.j0] at H
 by_cases c9:j=true
 ·subst c9
  rw[if_pos rfl] at H
  obtain rfl:=Option.some.inj H
  go_wp2
  go_ret
  exact⟨zE,iH HB.out g.out⟩
 replace c9:=Bool.eq_false_iff.mpr c9
 subst c9
 rw[if_neg Bool.false_ne_true] at H
 have H':=zk H
 clear H
 go_wp2
 go_loopg [3,4] ar (λkq v3 v4 w'=>∃(l:Int) (p:Int),v3= .int .i64 l/\v4= .int .i64 p/\dw (kQ.l0 kq l p b d c=some r)/\dw (kq<=ar)/\dw (w'.heap[q]?=some (.cells #[.int .i64 b, .int .i64 d,(.slice o c.length m)] 24 (0,0)))/\dw (Below w.heap.size w w'))
 case atStart=>exact⟨(1),(0),zF,zF,H',⟨Nat.le_refl _⟩,⟨by(with_reducible repeat(first|refine iM ?_ _|refine iC ?_|refine iL ?_ _));exact a.out⟩,⟨iH HB.out g.out⟩⟩
 clear H'
 (try clear c9)
 obtain⟨l,p,rfl,rfl,HA,ap,a,HB⟩:=hrel
 cases gk with|zero=>exact absurd HA.out (by simp [kQ.l0])|succ k2=>?_
 have H:=HA.out
 clear HA
 simp only[kQ.l0] at H
 replace H:=jB H
 rcases H with⟨v,H⟩|⟨v,H⟩
 ·replace H:=zh H
  obtain⟨an,H⟩:=H
  have am:=beq_eq_false_iff_ne.mpr an
  have aq:=bne_iff_ne.mpr an
  replace H:=zi H
  rcases H with⟨x,H⟩|⟨x,H⟩
  ·have y:decide ((wrap64 (Int.tdiv (256:Int) b))<l)=true:=decide_eq_true x
   clear x
   obtain rfl:=Option.some.inj H
   obtain⟨K,W,z,X,I,U⟩:=ja a
   go_wp2
   go_ret
   exact⟨zE,iH HB.out g.out⟩
  have y:decide ((wrap64 (Int.tdiv (256:Int) b))<l)=false:=decide_eq_false x
  clear x
  have H':=zk H
  clear H
  obtain⟨M,E,G,Y,L,J⟩:=ja a
  go_wp2
  go_roundg k2
  case measure=>have:=al.out;have:=ap.out;omega
  case rel=>exact⟨(wrap64 (l*b)),(wrap64 (p+1)),zF,zF,H',⟨lW al ap⟩,⟨by(with_reducible repeat(first|refine iM ?_ _|refine iC ?_|refine iL ?_ _));exact a.out⟩,⟨iH HB.out g.out⟩⟩
 obtain rfl:=Option.some.inj H
 obtain⟨T,P,A,O,D,B⟩:=ja a
 go_wp2
 go_ret
 exact⟨zE,iH HB.out g.out⟩
theorem Aa.calls(k:Nat)(d:Int)(g:Int)(l:Option Addr)(j:Nat)(a:List Int)(a1:Int)(r:Bool)(w:World)(n:Kd.C (Kd.int .i64) w l a.length a)(m:a.length<=j)(h:Aa.f k d g a a1=some r):
 Calls Try.prog 130 #[.agg #[.int .i64 d, .int .i64 g, .slice l a.length j], .int .i64 a1] w λe w'=>e= .returned (.bool r)/\Below w.heap.size w w':=by
 have E:=Try.underlying24
 have s:=zk n
 have u:=zk m
 clear n m
 have HB:=zk (Below.refl w.heap.size w)
 have H:=h
 clear h
 unfold Aa.f at H
 replace H:=zi H
 rcases H with⟨c3,H⟩|⟨c3,H⟩
 ·have D:decide (0<=a1)=true:=decide_eq_true c3
  clear c3
  replace H:=zb H
  obtain⟨o,A4,H⟩:=H
  obtain rfl:=Option.some.inj H
  go_enter Try.func130,Try.ntmps130
  go_wp2_with (first|((with_reducible refine jc (N:=2) rfl ?_);refine jM ?hg (N:=2) ?hd (cs:= #[.int .i64 d, .int .i64 g, .slice l a.length j]) (t:=24) ?hr ?_;(case hd=>rfl);(case hg=>rfl);(case hr=>first|(go_simp;done)|(go_simp;rfl));intro q hg w5 hbox hb;have c:=zk (hbox);have p:=yg hg HB;have b:=yg hg HB;replace HB:=yS HB hb;clear hb hbox hg;obtain⟨B,x,A,v,y,z⟩:=ja c)|(go_at_call 24;(with_reducible refine(kQ.calls k d g _ _ a o _ ?ig ?ik A4.out).mono ?_);(case ig=>exact zC (Kd.iR s.out HB.out));(case ik=>exact u.out);rintro e w7 ⟨rfl,hb⟩;replace c:=yK c hb;replace HB:=jg HB b hb;(try clear hb)))
  go_ret
  exact⟨zE,iH HB.out b.out⟩
 have D:decide (0<=a1)=false:=decide_eq_false c3
 clear c3
 obtain rfl:=Option.some.inj H
 go_enter Try.func130,Try.ntmps130
 go_wp2_with (first|((with_reducible refine jc (N:=2) rfl ?_);refine jM ?hg (N:=2) ?hd (cs:= #[.int .i64 d, .int .i64 g, .slice l a.length j]) (t:=24) ?hr ?_;(case hd=>rfl);(case hg=>rfl);(case hr=>first|(go_simp;done)|(go_simp;rfl));intro q hg w8 hbox hb;have c:=zk (hbox);have p:=yg hg HB;have b:=yg hg HB;replace HB:=yS HB hb;clear hb hbox hg))
 go_ret
 exact⟨zE,iH HB.out b.out⟩
theorem yE.calls(k:Nat)(c:Int)(d:Int)(l:Option Addr)(j:Nat)(a:List Int)(a1:Int)(r:Int)(w:World)(p:Kd.C (Kd.int .i64) w l a.length a)(m:a.length<=j)(h:yE.f k c d a a1=some r):
 Calls Try.prog 106 #[.agg #[.int .i64 c, .int .i64 d, .slice l a.length j], .int .i64 a1] w λe w'=>e= .returned (.int .i64 r)/\Below w.heap.size w w':=by
 have L:=Try.underlying24
 have n:=zk p
 have o:=zk m
 clear p m
 have HB:=zk (Below.refl w.heap.size w)
 have H:=h
 clear h
 unfold yE.f at H
 replace H:=zb H
 obtain⟨q,A3,H⟩:=H
 by_cases c4:q=true
 ·subst c4
  rw[if_pos rfl] at H
  obtain rfl:=Option.some.inj H
  go_enter Try.func106,Try.ntmps106
  go_wp2_with (first|((with_reducible refine jc (N:=2) rfl ?_);refine jM ?hg (N:=2) ?hd (cs:= #[.int .i64 c, .int .i64 d, .slice l a.length j]) (t:=24) ?hr ?_;(case hd=>rfl);(case hg=>rfl);(case hr=>first|(go_simp;done)|(go_simp;rfl));intro u hg w5 hbox hb;have b:=zk (hbox);have s:=yg hg HB;have g:=yg hg HB;replace HB:=yS HB hb;clear hb hbox hg;obtain⟨J,x,I,v,D,E⟩:=ja b)|((with_reducible refine gC 130 ?_);refine zG (some 7) Try.func130 #[.agg #[.int .i64 c, .int .i64 d, .slice l a.length j], .int .i64 a1] ?_;(with_reducible refine(Aa.calls k c d _ _ a a1 true _ ?ig ?ik A3.out).mono ?_);(case ig=>exact zC (Kd.iR n.out HB.out));(case ik=>exact o.out);rintro e w7 ⟨rfl,hb⟩;refine⟨_,rfl,?_⟩;replace b:=yK b hb;replace HB:=jg HB g hb;(try clear hb)))
  go_ret
  exact⟨zE,iH HB.out g.out⟩
 replace c4:=Bool.eq_false_iff.mpr c4
 subst c4
 rw[if_neg Bool.false_ne_true] at H
 obtain rfl:=Option.some.inj H
 go_enter Try.func106,Try.ntmps106
 go_wp2_with (first|((with_reducible refine jc (N:=2) rfl ?_);refine jM ?hg (N:=2) ?hd (cs:= #[.int .i64 c, .int .i64 d, .slice l a.length j]) (t:=24) ?hr ?_;(case hd=>rfl);(case hg=>rfl);(case hr=>first|(go_simp;done)|(go_simp;rfl));intro u hg w8 hbox hb;have b:=zk (hbox);have s:=yg hg HB;have g:=yg hg HB;replace HB:=yS HB hb;clear hb hbox hg;obtain⟨A,B,z,K,y,G⟩:=ja b)|((with_reducible refine gC 130 ?_);refine zG (some 7) Try.func130 #[.agg #[.int .i64 c, .int .i64 d, .slice l a.length j], .int .i64 a1] ?_;(with_reducible refine(Aa.calls k c d _ _ a a1 false _ ?ig ?ik A3.out).mono ?_);(case ig=>exact zC (Kd.iR n.out HB.out));(case ik=>exact o.out);rintro e M ⟨rfl,hb⟩;refine⟨_,rfl,?_⟩;replace b:=yK b hb;replace HB:=jg HB g hb;(try clear hb)))
 go_ret
 exact⟨zE,iH HB.out g.out⟩
end Go.Proofs.Ytifkbghnmhineaa.qc
