/- What functions of the program do and come to, for the statement MacwilliamsDelsarte, part 0. Conditions: as each theorem says. -/
import Derived.Below
import Derived.Laws.Slices
import Derived.WalkKit
import Derived.KernelRfl
import Derived.RowKit3
import Derived.Deep.Draws
import Derived.Deep.AppendLies
import Derived.Maps.AppendAt
import Derived.OwnWalk
import Derived.Laws.BytesArg
import Derived.Laws.MakeOwn
import Derived.Laws.OwnMore
import Derived.Deep.OwnRows
import Derived.Tactics
import Derived.Lib.ConvBytes
import Derived.Deep.LoopGhost
import Derived.Deep.QuietTactic
import Derived.BigQuiet
import Derived.WideLaws
import Derived.Deep.DeepCutAuto
import Derived.Deep.CutBlock
import Derived.Deep.RegionHeld3
import Derived.Laws.Rows
import Derived.Lib.AppendStr
import Derived.ArgAppend
import Derived.Laws.IdiomCopy
import Derived.RowKit
import Derived.OrdersHeld
import Derived.Laws.BitsLemmas
import Derived.Laws.StructEq
import Derived.Test.YtifkbghnmhineaaProg
import Derived.Lib.BitFns
import Derived.Lib.Tables
import Derived.Deep.Matrix
import Derived.OpenShut
import Derived.Carry
import Derived.ShutString
import Derived.Deep.Strs
import Derived.Test.YtifkbghnmhineaaRows
import Derived.ProofKit
import Derived.JoinedOf
import Derived.ChangeOld
import Derived.SizedLaws

section
namespace Mw
open Go Go.RowKit
theorem cut_to_max {P:Program} (t e:TypeId) (kh:IntKind) {i:TypeInfo} (ht:P.underlying t=some (.slice e)) (hi:P.info? e=some i) (A:Option Addr) (n c:Nat) (j:Int) (h0:0≤j) (hm:j≤n) (hc:n≤c):
 ∀W:World,(Instr.slice t (.slice A n c) none (some (.int kh j)) (some (.int kh j))).run P W= .ok (.slice A j.toNat j.toNat) W:=by
 intro W
 have hel:P.elem t=e:=by simp [Program.elem,ht]
 have hu:P.underlying t=some (.slice (P.elem t)):=by rw[hel];exact ht
 have ha:(A.map fun x=>x.add 0)=A:=by cases A<;>simp [Addr.add]
 rw[run_slice_hm W t A n c hu kh kh j j h0 (Int.le_refl j) (by omega),hel]
 simp [Go.sizeOf,Go.typeInfo,hi,sliced,Result.andThen,ha]
end Mw
end
section
set_option linter.unusedVariables false
set_option linter.unusedSimpArgs false
namespace Go.Proofs.YtifkbghnmhineaaW.PrintWords
open Go.RowKit
structure Aside0 (p:Prop):Prop where mk::(out:p)
structure Drawn0 (w w':World):Prop where mk::(out:∃n,w'=w.drewN n)
theorem Drawn0.refl (w:World):Drawn0 w w:=⟨⟨0,rfl⟩⟩
theorem Drawn0.step {w w':World} (h:Drawn0 w w') (n:Nat):Drawn0 w (w'.drewN n):=by
 obtain⟨m,rfl⟩:=h
 exact⟨⟨m+n,World.drewN_drewN ..⟩⟩
theorem Drawn0.grown {w w':World} (h:Drawn0 w w'):Grown w w':=by
 obtain⟨n,rfl⟩:=h
 induction n with
 |zero=>exact Grown.refl _
 |succ n ih=>rw[←World.drew_drewN];exact Grown.drew ih
theorem Drawn0.below {w w':World} (h:Drawn0 w w'):Below w.heap.size w w':=by
 obtain⟨n,rfl⟩:=h
 induction n with
 |zero=>exact Below.refl _ _
 |succ n ih=>rw[←World.drew_drewN];exact ih.drew
def rd (xs:List Int) (i:Int):Int:=xs.getD i.toNat 0
theorem below_alloc {w W:World} (h:Below w.heap.size w W) (o:Obj):Below w.heap.size w (W.alloc o):=h.alloc h.size o
theorem below_drew {B:Nat} {w W:World} (h:Below B w W):Below B w W.drew:=⟨h.os,h.tape,h.output,h.size,h.block⟩
theorem pw_below_drewN {B:Nat} {w W:World} (h:Below B w W) (n:Nat):Below B w (W.drewN n):=⟨h.os,h.tape,h.output,h.size,h.block⟩
theorem below_then {B:Nat} {w w1 w2:World} (h:Below B w w1) (hB:B≤w1.heap.size) (k:Below w1.heap.size w1 w2):Below B w w2:=
 h.trans ⟨k.os,k.tape,k.output,k.size,fun i hi=>k.block i (Nat.lt_of_lt_of_le hi hB)⟩
theorem grown_of_below {w w1:World} (h:Below w.heap.size w w1) (row:Option Nat):w.grownBy w1 row:=⟨h.os,h.tape,h.output,h.size,fun i hi _=>h.block i hi⟩
theorem pw_cell_below {w w1:World} (h:Below w.heap.size w w1) {a:Addr} {v:Value} (hc:w.cell? a=some v):w1.cell? a=some v:=(h.cell (World.block_lt_of_cell? w a hc)).trans hc
theorem add_plain (g j:Nat):(⟨g,0,none⟩:Addr).add j=⟨g,j,none⟩:=by unfold Addr.add;split<;>simp_all
def ReadsInt (w:World) (k:IntKind) (A:Option Addr) (n:Nat) (xs:List Int):Prop:=
 xs.length=n∧n≤9223372036854775807∧(0<n→∃ad,A=some ad∧∀j,j<n→w.cell? (ad.add j)=some (.int k (xs.getD j 0)))
theorem ReadsInt.at_ {w:World} {k:IntKind} {A:Option Addr} {n:Nat} {xs:List Int} (h:ReadsInt w k A n xs) (i:Int) (h0:0≤i) (h1:i<n):∃ad,A=some ad∧w.cell? (ad.add i.toNat)=some (.int k (rd xs i)):=by
 obtain⟨ad,e,hc⟩:=h.2.2 (by omega)
 exact⟨ad,e,hc _ (by omega)⟩
theorem ReadsInt.below {w w1:World} {k:IntKind} {A:Option Addr} {n:Nat} {xs:List Int} (h:ReadsInt w k A n xs) (hb:Below w.heap.size w w1):ReadsInt w1 k A n xs:=
 ⟨h.1,h.2.1,fun hn=>by
  obtain⟨ad,e,hc⟩:=h.2.2 hn
  exact⟨ad,e,fun j hj=>pw_cell_below hb (hc j hj)⟩⟩
theorem own_nil (W:World) (base:Nat) (e:TypeId) (size:Nat):W.ownsRow base e size (.slice none 0 0) 0 []:=⟨by simp, .inl ⟨rfl,rfl⟩⟩
theorem own_base {w:World} {base:Nat} {e:TypeId} {size n:Nat} {v:Value} {xs:List Value} (h:w.ownsRow base e size v n xs) (k:Nat) (hk:v.ownBlock=some k):base≤k:=by
 rcases h.2 with⟨rfl,_⟩|⟨g,cap,cur,rfl,hb,_⟩
 ·simp [Value.ownBlock] at hk
 ·have:g=k:=by simpa [Value.ownBlock] using hk
  omega
theorem own_lt {w:World} {base:Nat} {e:TypeId} {size n:Nat} {v:Value} {xs:List Value} (h:w.ownsRow base e size v n xs) (k:Nat) (hk:v.ownBlock=some k):k<w.heap.size:=by
 rcases h.2 with⟨rfl,_⟩|⟨g,cap,cur,rfl,hb,hh,_⟩
 ·simp [Value.ownBlock] at hk
 ·have:g=k:=by simpa [Value.ownBlock] using hk
  subst this
  exact(Array.getElem?_eq_some_iff.1 hh).1
theorem pw_own_below {w w1:World} {base:Nat} {e:TypeId} {size n:Nat} {v:Value} {xs:List Value} (h:w.ownsRow base e size v n xs) (hb:Below w.heap.size w w1):w1.ownsRow base e size v n xs:=
 h.kept (grown_of_below hb none) (by cases v.ownBlock<;>simp)
theorem ReadsInt.take_ {w:World} {k:IntKind} {A:Option Addr} {n:Nat} {xs:List Int} (h:ReadsInt w k A n xs) (i:Nat) (hi:i≤n):ReadsInt w k A i (xs.take i):=by
 refine⟨by rw[List.length_take,h.1];omega,by have:=h.2.1;omega,fun hp=>?_⟩
 obtain⟨ad,e,hc⟩:=h.2.2 (by omega)
 refine⟨ad,e,fun j hj=>?_⟩
 rw[hc j (by omega)]
 simp [List.getD_eq_getElem?_getD,hj]
def LeO {α:Type} (a b:Option α):Prop:=∀r,a=some r→b=some r
theorem LeO.refl {α:Type} (a:Option α):LeO a a:=fun _ h=>h
theorem LeO.none {α:Type} (b:Option α):LeO Option.none b:=fun _ h=>by cases h
theorem LeO.trans {α:Type} {a b c:Option α} (h:LeO a b) (k:LeO b c):LeO a c:=fun r hr=>k r (h r hr)
theorem LeO.bind {α β:Type} {a a':Option α} {f f':α→Option β} (h:LeO a a') (k:∀x,LeO (f x) (f' x)):LeO (a.bind f) (a'.bind f'):=by
 intro r hr
 obtain⟨x,hx,hf⟩:=Option.bind_eq_some_iff.1 hr
 exact Option.bind_eq_some_iff.2 ⟨x,h x hx,k x r hf⟩
theorem LeO.map {α β:Type} {a a':Option α} (f:α→β) (h:LeO a a'):LeO (a.map f) (a'.map f):=by
 intro r hr
 obtain⟨x,hx,hf⟩:=Option.map_eq_some_iff.1 hr
 exact Option.map_eq_some_iff.2 ⟨x,h x hx,hf⟩
theorem more_rounds {α:Type} {g:Nat→Option α} (h:∀k,LeO (g k) (g (k+1))) (k:Nat):∀j,LeO (g k) (g (k+j))
 |0=>LeO.refl _
 |j+1=>(more_rounds h k j).trans (h (k+j))
theorem at_rounds {α:Type} {g:Nat→Option α} (h:∀k,LeO (g k) (g (k+1))) {k k':Nat} (hk:k≤k') {r:α} (hr:g k=some r):g k'=some r:=by
 have:=more_rounds h k (k'-k) r hr
 rwa [Nat.add_sub_cancel' hk] at this
def Reps {α:Type} (R:α→List Value→Prop) (size:Nat) (ps:List α) (cs:List Value):Prop:=
 cs.length=ps.length*size∧∀j p,ps[j]?=some p→R p ((cs.drop (j*size)).take size)
theorem Reps.none {α:Type} (R:α→List Value→Prop) (size:Nat):Reps R size [] []:=⟨by simp,fun j p h=>by simp at h⟩
theorem Reps.snoc {α:Type} {R:α→List Value→Prop} {size:Nat} {ps:List α} {cs c:List Value} {p:α} (h:Reps R size ps cs) (hp:R p c) (hc:c.length=size):Reps R size (ps++[p]) (cs++c):=by
 refine⟨by rw[List.length_append,h.1,hc,List.length_append,List.length_singleton,Nat.add_mul,Nat.one_mul],fun j q hq=>?_⟩
 rcases Nat.lt_or_ge j ps.length with hj|hj
 ·rw[List.getElem?_append_left hj] at hq
  have h1:j*size+size≤cs.length:=by rw[h.1,←Nat.succ_mul];exact Nat.mul_le_mul_right _ hj
  have h2:=h.2 j q hq
  rw[List.drop_append_of_le_length (by omega),List.take_append_of_le_length (by rw[List.length_drop];omega)]
  exact h2
 ·have hj':j=ps.length:=by
   have:=(List.getElem?_eq_some_iff.1 hq).1
   rw[List.length_append,List.length_singleton] at this
   omega
  subst hj'
  have hq':p=q:=by simpa using hq
  subst hq'
  rw[←h.1,List.drop_left,←hc,List.take_length]
  exact hp
theorem Reps.imp_ {α:Type} {R R':α→List Value→Prop} {size:Nat} {ps:List α} {cs:List Value} (h:Reps R size ps cs) (hR:∀p c,R p c→R' p c):Reps R' size ps cs:=⟨h.1,fun j p hj=>hR _ _ (h.2 j p hj)⟩
def ReadsRow {α:Type} (R:α→List Value→Prop) (size:Nat) (w:World) (A:Option Addr) (n:Nat) (ps:List α):Prop:=
 ps.length=n∧n≤9223372036854775807∧(0<n→∃ad,A=some ad∧∀j p,ps[j]?=some p→∃c,c.length=size∧R p c∧∀i u,c[i]?=some u→w.cell? (ad.add (j*size+i))=some u)
theorem ReadsRow.get_ {α:Type} {R:α→List Value→Prop} {size:Nat} {w:World} {A:Option Addr} {n:Nat} {ps:List α} (h:ReadsRow R size w A n ps) (d:α) (i:Int) (h0:0≤i) (h1:i<n):
 ∃ad c,A=some ad∧c.length=size∧R (ps.getD i.toNat d) c∧∀j u,c[j]?=some u→w.cell? (ad.add (i.toNat*size+j))=some u:=by
 obtain⟨ad,e,hc⟩:=h.2.2 (by omega)
 have hl:i.toNat<ps.length:=by have:=h.1;omega
 obtain⟨c,hs,hr,hcell⟩:=hc i.toNat _ (List.getElem?_eq_getElem hl)
 refine⟨ad,c,e,hs,?_,hcell⟩
 rw[List.getD_eq_getElem?_getD,List.getElem?_eq_getElem hl]
 exact hr
theorem ReadsRow.imp_ {α:Type} {R R':α→List Value→Prop} {size:Nat} {w w1:World} {A:Option Addr} {n:Nat} {ps:List α} (h:ReadsRow R size w A n ps) (hb:Below w.heap.size w w1) (hR:∀p c,R p c→R' p c):ReadsRow R' size w1 A n ps:=
 ⟨h.1,h.2.1,fun hn=>by
  obtain⟨ad,e,hc⟩:=h.2.2 hn
  refine⟨ad,e,fun j p hj=>?_⟩
  obtain⟨c,hs,hr,hcell⟩:=hc j p hj
  exact⟨c,hs,hR _ _ hr,fun i u hu=>pw_cell_below hb (hcell i u hu)⟩⟩
theorem own_reads_row {α:Type} {R:α→List Value→Prop} {w:World} {base n size:Nat} {e:TypeId} {v:Value} {ps:List α} {cs:List Value} (h:w.ownsRow base e size v n cs) (hR:Reps R size ps cs) (hn:ps.length=n):
 ∃A c,v= .slice A n c∧ReadsRow R size w A n ps:=by
 rcases Nat.eq_zero_or_pos n with h0|h0
 ·rcases h.2 with⟨rfl,rfl⟩|⟨g,cap,cur,rfl,_⟩
  ·exact⟨none,0,rfl,hn,by omega,fun hp=>absurd hp (by omega)⟩
  ·exact⟨_,cap,rfl,hn,by omega,fun hp=>absurd hp (by omega)⟩
 ·obtain⟨g,cap,rfl,_,_⟩:=h.form h0
  have hm:n≤9223372036854775807:=by
   rcases h.2 with⟨_,h1⟩|⟨g',cap',cur,he,_,_,h1,h2,_⟩
   ·omega
   ·simp only[maxLen] at h2
    omega
  refine⟨_,cap,rfl,hn,hm,fun _=>⟨_,rfl,fun j p hj=>⟨(cs.drop (j*size)).take size,?_,hR.2 j p hj,fun i u hu=>?_⟩⟩⟩
  ·have hjl:=(List.getElem?_eq_some_iff.1 hj).1
   have h1:j*size+size≤cs.length:=by rw[hR.1,←Nat.succ_mul];exact Nat.mul_le_mul_right _ hjl
   rw[List.length_take,List.length_drop]
   omega
  ·refine h.cells (g:=g) rfl _ u ?_
   rw[List.getElem?_take] at hu
   split at hu
   ·rw[List.getElem?_drop] at hu
    exact hu
   ·cases hu
theorem add_field (ad:Addr) (m j:Nat) (hj:0<j):ad.add (m+j)=⟨(ad.add m).block,(ad.add m).off+j,none⟩:=by
 unfold Addr.add
 by_cases hm:m=0
 ·subst hm
  simp [Nat.ne_of_gt hj]
 ·simp [hm,Nat.add_assoc]
section
variable {P:Program} {ops:Array Oper} {rest:List Oper} {o:Oper} {a:Act} {Q:Exit→Act→World→Prop}
theorem print_append_cells {w0 W:World} (base:Nat) (hgd:o.guard=none) (s x:Operand) (t e:TypeId) (z:Value) (size bytes:Nat)
 (ho:o.op= .call {callee:= .builtin .append,args:= #[s,x],argTypes:= #[t,t]})
 (ht:P.underlying t=some (.slice e)) (hinfo:(P.info? e).map (fun i=>(i.zero,i.size,i.bytes))=some (some z,size,bytes)) (hz:z.cells.size=size) (hs0:0<size) (hb0:0<bytes)
 (v:Value) (n:Nat) (xs ys:List Value) (hs:a.eval s=v) (hx:a.eval x= .slice (some ⟨W.heap.size,0,none⟩) 1 1) (hys:ys.length=size) (h1:∀u∈ys,u.oneCell'=true)
 (HO:W.ownsRow base e size v n xs) (HB:Below base w0 W) (hbase:base≤W.heap.size) (hl:(n+1)*bytes≤140737488355328)
 (h:∀v1 w1,w1.ownsRow base e size v1 (n+1) (xs++ys)→Below base w0 w1→W.grownBy w1 v.ownBlock→(v1.ownBlock=v.ownBlock∨∃b,v1.ownBlock=some b∧W.heap.size≤b)→wpList P ops Q rest (a.put o.dst v1) w1):
 wpList P ops Q (o::rest) a (W.alloc (.cells ys.toArray e)):=by
 obtain⟨i0,hi,hzz⟩:=Option.map_eq_some_iff.1 hinfo
 simp only[Prod.mk.injEq] at hzz
 obtain⟨hz0,hz1,hz2⟩:=hzz
 have hlen:n+1≤140737488355328:=Nat.le_trans (Nat.le_mul_of_pos_right _ hb0) hl
 refine wpList_append_own_at (W.alloc (.cells ys.toArray e)) hgd s x t ho base e i0 z size bytes ht hi hz0 hz1 hz2 hz hs0 v n xs hs (HO.alloc _) ⟨W.heap.size,0,none⟩ 1 1 ys hx (by rw[hys];simp)
  (by simpa using World.news_of_block (cs:=ys.toArray) (t:=e) (fr:=(0,0)) (heap_alloc_new W (.cells ys.toArray e))) h1 (by simp only[maxLen];omega) hl (by simp;omega) ?_
 intro v1 w1 hown hg _ hat
 refine h v1 w1 hown ((HB.alloc hbase _).grown hg (by simp;omega) (own_base HO)) (World.grownBy.trans (World.grownBy_alloc W _ _) hg) ?_
 rcases hat with hat|hat
 ·exact .inl hat
 ·exact .inr ⟨_,hat,by simp⟩
end
theorem own_ne {w:World} {base:Nat} {e t:TypeId} {size n g:Nat} {v:Value} {xs:List Value} {cs:Array Value} (h:w.ownsRow base e size v n xs) (hg:w.heap[g]?=some (.cells cs t (0,0))) (hne:e≠t):some g≠v.ownBlock:=by
 rcases h.2 with⟨rfl,_⟩|⟨g',cap,cur,rfl,_,hh,_⟩
 ·simp [Value.ownBlock]
 ·intro he
  have:g=g':=by simpa [Value.ownBlock] using he
  subst this
  rw[hg] at hh
  injection hh with hh
  injection hh with _ ht
  exact hne ht.symm
theorem blk_set {w:World} {g:Nat} {t:TypeId} {cs:Array Value} (h:w.heap[g]?=some (.cells cs t (0,0))) (i:Nat) (u:Value):(w.setCell ⟨g,i,none⟩ u).heap[g]?=some (.cells (cs.setIfInBounds i u) t (0,0)):=by
 simp [World.setCell,Array.getElem?_modify,h]
theorem blk_far {w:World} {g:Nat} {t:TypeId} {cs:Array Value} (h:w.heap[g]?=some (.cells cs t (0,0))) {p:Addr} (hp:g≠p.block) (u:Value):(w.setCell p u).heap[g]?=some (.cells cs t (0,0)):=(Below.heap_setCell w p u g hp).trans h
theorem blk_lt {w:World} {g:Nat} {o:Obj} (h:w.heap[g]?=some o):g<w.heap.size:=(Array.getElem?_eq_some_iff.1 h).1
theorem blk_cell {w:World} {g:Nat} {t:TypeId} {cs:Array Value} (h:w.heap[g]?=some (.cells cs t (0,0))) (i:Nat):w.cell? ⟨g,i,none⟩=cs[i]?:=cell_of_row w g i cs t (0,0) h
theorem blk_frozen {w:World} {g:Nat} {t:TypeId} {cs:Array Value} (h:w.heap[g]?=some (.cells cs t (0,0))) (i:Nat):w.frozen? ⟨g,i,none⟩=false:=by simp [World.frozen?,h]
theorem blk_grown {w w1:World} {g:Nat} {o:Obj} {row:Option Nat} (h:w.heap[g]?=some o) (hg:w.grownBy w1 row) (hne:some g≠row):w1.heap[g]?=some o:=(hg.block g (blk_lt h) hne).trans h
def KeepBut (w w':World) (g:Nat) (row:Option Nat):Prop:=w.heap.size≤w'.heap.size∧∀i,i<w.heap.size→i≠g→some i≠row→w'.heap[i]?=w.heap[i]?
theorem KeepBut.refl (w:World) (g:Nat) (row:Option Nat):KeepBut w w g row:=⟨Nat.le_refl _,fun _ _ _ _=>rfl⟩
theorem KeepBut.of_grown {w w1:World} {row:Option Nat} (h:w.grownBy w1 row) (g:Nat):KeepBut w w1 g row:=⟨h.size,fun i hi _ hr=>h.block i hi hr⟩
theorem KeepBut.of_below {w w1:World} (h:Below w.heap.size w w1) (g:Nat) (row:Option Nat):KeepBut w w1 g row:=⟨h.size,fun i hi _ _=>h.block i hi⟩
theorem KeepBut.trans {w w1 w2:World} {g:Nat} {row row1:Option Nat} (h:KeepBut w w1 g row) (k:KeepBut w1 w2 g row1) (hr:row1=row∨∃b,row1=some b∧w.heap.size≤b):KeepBut w w2 g row:=
 ⟨Nat.le_trans h.1 k.1,fun i hi hg hn=>by
  refine(k.2 i (Nat.lt_of_lt_of_le hi h.1) hg ?_).trans (h.2 i hi hg hn)
  rcases hr with rfl|⟨b,rfl,hb⟩
  ·exact hn
  ·intro e
   injection e with e
   omega⟩
theorem KeepBut.blk {w w1:World} {g g':Nat} {row:Option Nat} {o:Obj} (h:KeepBut w w1 g row) (hb:w.heap[g']?=some o) (hg:g'≠g) (hr:some g'≠row):w1.heap[g']?=some o:=(h.2 g' (blk_lt hb) hg hr).trans hb
theorem KeepBut.own {w w1:World} {g:Nat} {row:Option Nat} {base:Nat} {e:TypeId} {size n:Nat} {v:Value} {xs:List Value} (h:KeepBut w w1 g row) (ho:w.ownsRow base e size v n xs) (hg:v.ownBlock≠some g) (hr:v.ownBlock=none∨v.ownBlock≠row):w1.ownsRow base e size v n xs:=by
 obtain⟨h1,h2⟩:=ho
 refine⟨h1,?_⟩
 rcases h2 with h2|⟨b,cap,cur,rfl,hb,hh,r⟩
 ·exact .inl h2
 ·refine .inr ⟨b,cap,cur,rfl,hb,h.blk hh ?_ ?_,r⟩
  ·intro e
   exact hg (by rw[←e];rfl)
  ·rcases hr with hr|hr
   ·simp [Value.ownBlock] at hr
   ·exact hr
def Ev {α:Type} (g:Nat→Option α) (r:α):Prop:=∃K,∀k,K≤k→g k=some r
theorem Ev.of {α:Type} {g:Nat→Option α} {r:α} (hg:∀k,LeO (g k) (g (k+1))) {k:Nat} (h:g k=some r):Ev g r:=⟨k,fun _ hk=>at_rounds hg hk h⟩
theorem Ev.now {α:Type} (r:α):Ev (fun _=>some r) r:=⟨0,fun _ _=>rfl⟩
theorem Ev.bind {α β:Type} {g:Nat→Option α} {f:Nat→α→Option β} {a:α} {r:β} (h:Ev g a) (k:Ev (fun n=>f n a) r):Ev (fun n=>(g n).bind (f n)) r:=by
 obtain⟨K,h⟩:=h
 obtain⟨K',k⟩:=k
 refine⟨max K K',fun n hn=>?_⟩
 have h1:=h n (by omega)
 have h2:=k n (by omega)
 simp only[h1,Option.bind_some]
 exact h2
theorem Ev.step {α:Type} {g f:Nat→Option α} {r:α} (h:∀k,g (k+1)=f k) (k:Ev f r):Ev g r:=by
 obtain⟨K,k⟩:=k
 refine⟨K+1,fun n hn=>?_⟩
 obtain⟨m,rfl⟩:∃m,n=m+1:=⟨n-1,by omega⟩
 rw[h]
 exact k m (by omega)
theorem Ev.congr {α:Type} {g f:Nat→Option α} {r:α} (h:∀k,g k=f k) (k:Ev f r):Ev g r:=by
 obtain⟨K,k⟩:=k
 exact⟨K,fun n hn=>(h n).trans (k n hn)⟩
section
variable {P:Program} {ops:Array Oper} {o:Oper} {a:Act} {Q:Exit→Act→World→Prop} {K:Act→World→Prop}
theorem step_append_cells {w0 W:World} (base:Nat) (hw:Region.wanted o (yielded ops a.tmps)=true) (s x:Operand) (t e:TypeId) (z:Value) (size bytes:Nat)
 (ho:o.op= .call {callee:= .builtin .append,args:= #[s,x],argTypes:= #[t,t]})
 (ht:P.underlying t=some (.slice e)) (hinfo:(P.info? e).map (fun i=>(i.zero,i.size,i.bytes))=some (some z,size,bytes)) (hz:z.cells.size=size) (hs0:0<size) (hb0:0<bytes)
 (v:Value) (n:Nat) (xs ys:List Value) (hs:a.eval s=v) (hx:a.eval x= .slice (some ⟨W.heap.size,0,none⟩) 1 1) (hys:ys.length=size) (h1:∀u∈ys,u.oneCell'=true)
 (HO:W.ownsRow base e size v n xs) (HB:Below base w0 W) (hbase:base≤W.heap.size) (hl:(n+1)*bytes≤140737488355328)
 (h:∀v1 w1,w1.ownsRow base e size v1 (n+1) (xs++ys)→Below base w0 w1→W.grownBy w1 v.ownBlock→(v1.ownBlock=v.ownBlock∨∃b,v1.ownBlock=some b∧W.heap.size≤b)→K (a.put o.dst v1) w1):
 if Region.wanted o (yielded ops a.tmps)=true then Oper.wp P o a (W.alloc (.cells ys.toArray e)) K Q else K (a.put o.dst undef) (W.alloc (.cells ys.toArray e)):=by
 obtain⟨i0,hi,hzz⟩:=Option.map_eq_some_iff.1 hinfo
 simp only[Prod.mk.injEq] at hzz
 obtain⟨hz0,hz1,hz2⟩:=hzz
 have hlen:n+1≤140737488355328:=Nat.le_trans (Nat.le_mul_of_pos_right _ hb0) hl
 rw[if_pos hw]
 obtain⟨v1,w1,hr,hown,hg,_,hat⟩:=run_append_own_at (P:=P) (W.alloc (.cells ys.toArray e)) base t o.type e i0 z size bytes ht hi hz0 hz1 hz2 hz hs0 v n xs (HO.alloc _) ⟨W.heap.size,0,none⟩ 1 1 ys (by rw[hys];simp)
  (by simpa using World.news_of_block (cs:=ys.toArray) (t:=e) (fr:=(0,0)) (heap_alloc_new W (.cells ys.toArray e))) h1 (by simp only[maxLen];omega) hl (by simp;omega)
 unfold Oper.wp execOp
 simp only[ho,resolve,invoke,builtin,Sem.run_bind,Sem.run_pure,Result.andThen_ok,List.map_toArray,List.map_cons,List.map_nil,hs,hx,hr]
 refine h v1 w1 hown ((HB.alloc hbase _).grown hg (by simp;omega) (own_base HO)) (World.grownBy.trans (World.grownBy_alloc W _ _) hg) ?_
 rcases hat with hat|hat
 ·exact .inl hat
 ·exact .inr ⟨_,hat,by simp⟩
end
theorem own_weaken {w:World} {base base':Nat} {e:TypeId} {size n:Nat} {v:Value} {xs:List Value} (h:w.ownsRow base e size v n xs) (hb:base'≤base):w.ownsRow base' e size v n xs:=by
 obtain⟨h1,h2⟩:=h
 refine⟨h1,?_⟩
 rcases h2 with h2|⟨g,cap,cur,rfl,hg,r⟩
 ·exact .inl h2
 ·exact .inr ⟨g,cap,cur,rfl,Nat.le_trans hb hg,r⟩
section
variable {α:Type} {enc:α→Value} {d:α}
def encs (enc:α→Value) (xs:List α):List Value:=xs.map enc
def rdOf (d:α) (xs:List α) (i:Int):α:=xs.getD i.toNat d
theorem encs_length (xs:List α):(encs enc xs).length=xs.length:=by simp [encs]
theorem encs_get (xs:List α) (j:Nat) (h:j<xs.length):(encs enc xs)[j]?=some (enc (xs.getD j d)):=by
 simp [encs,List.getElem?_eq_getElem h,List.getD_eq_getElem?_getD]
def ReadsOf (enc:α→Value) (d:α) (w:World) (A:Option Addr) (n:Nat) (xs:List α):Prop:=
 xs.length=n∧n≤9223372036854775807∧(0<n→∃ad,A=some ad∧∀j,j<n→w.cell? (ad.add j)=some (enc (xs.getD j d)))
theorem ReadsOf.at_ {w:World} {A:Option Addr} {n:Nat} {xs:List α} (h:ReadsOf enc d w A n xs) (i:Int) (h0:0≤i) (h1:i<n):∃ad,A=some ad∧w.cell? (ad.add i.toNat)=some (enc (rdOf d xs i)):=by
 obtain⟨ad,e,hc⟩:=h.2.2 (by omega)
 exact⟨ad,e,hc _ (by omega)⟩
theorem ReadsOf.below {w w1:World} {A:Option Addr} {n:Nat} {xs:List α} (h:ReadsOf enc d w A n xs) (hb:Below w.heap.size w w1):ReadsOf enc d w1 A n xs:=
 ⟨h.1,h.2.1,fun hn=>by
  obtain⟨ad,e,hc⟩:=h.2.2 hn
  exact⟨ad,e,fun j hj=>pw_cell_below hb (hc j hj)⟩⟩
theorem ReadsOf.take_ {w:World} {A:Option Addr} {n:Nat} {xs:List α} (h:ReadsOf enc d w A n xs) (i:Nat) (hi:i≤n):ReadsOf enc d w A i (xs.take i):=by
 refine⟨by rw[List.length_take,h.1];omega,by have:=h.2.1;omega,fun hp=>?_⟩
 obtain⟨ad,e,hc⟩:=h.2.2 (by omega)
 refine⟨ad,e,fun j hj=>?_⟩
 rw[hc j (by omega)]
 simp [List.getD_eq_getElem?_getD,hj]
theorem own_at_of {W:World} {base g n cap:Nat} {e:TypeId} {xs:List α} (h:W.ownsRow base e 1 (.slice (some ⟨g,0,none⟩) n cap) n (encs enc xs)) (i:Int) (h0:0≤i) (h1:i<n):
 W.cell? ⟨g,i.toNat,none⟩=some (enc (rdOf d xs i))∧W.frozen? ⟨g,i.toNat,none⟩=false:=by
 have hl:xs.length=n:=by have:=h.1;simp [encs] at this;exact this
 constructor
 ·have hc:=h.cells (g:=g) rfl i.toNat _ (encs_get (d:=d) xs i.toNat (by omega))
  rwa [add_plain] at hc
 ·rcases h.2 with⟨h',_⟩|⟨g',cap',cur,h',_,hh,_⟩
  ·cases h'
  ·have:g=g':=by injection h' with h';injection h' with h';injection h' with h'
   subst this
   simp [World.frozen?,hh]
theorem own_store_of {W:World} {base g n cap:Nat} {e:TypeId} {xs:List α} (h:W.ownsRow base e 1 (.slice (some ⟨g,0,none⟩) n cap) n (encs enc xs)) (i:Int) (x:α):
 (W.setCell ⟨g,i.toNat,none⟩ (enc x)).ownsRow base e 1 (.slice (some ⟨g,0,none⟩) n cap) n (encs enc (xs.set i.toNat x))∧W.grownBy (W.setCell ⟨g,i.toNat,none⟩ (enc x)) (some g):=by
 have hs:=h.stored i.toNat (enc x)
 have he:(encs enc xs).set i.toNat (enc x)=encs enc (xs.set i.toNat x):=by simp [encs,List.map_set]
 rwa [he] at hs
end
theorem blk_alloc {w:World} {g:Nat} {o:Obj} (h:w.heap[g]?=some o) (o':Obj):(w.alloc o').heap[g]?=some o:=(Below.heap_alloc w o' g (blk_lt h)).trans h
theorem blk_drew {w:World} {g:Nat} {o:Obj} (h:w.heap[g]?=some o):w.drew.heap[g]?=some o:=h
theorem blk_drewN {w:World} {g:Nat} {o:Obj} (h:w.heap[g]?=some o) (n:Nat):(w.drewN n).heap[g]?=some o:=h
theorem blk_below {w w1:World} {g:Nat} {o:Obj} (h:w.heap[g]?=some o) (hb:Below w.heap.size w w1):w1.heap[g]?=some o:=(hb.block g (blk_lt h)).trans h
theorem blk_new (w:World) (o:Obj):(w.alloc o).heap[w.heap.size]?=some o:=heap_alloc_new w o
theorem own_le {w:World} {base n m c size:Nat} {e:TypeId} {A:Option Addr} {xs:List Value} (h:w.ownsRow base e size (.slice A m c) n xs):m≤c:=by
 rcases h.2 with⟨he,_⟩|⟨g,cap,cur,he,_,_,hnc,_⟩
 ·injection he with _ h2 h3
  omega
 ·injection he with _ h2 h3
  omega
def OwnRow {α:Type} (R:α→List Value→Prop) (e:TypeId) (size:Nat) (w:World) (base:Nat) (v:Value) (ps:List α):Prop:=
 ∃inner,w.ownsRow base e size v ps.length inner∧Reps R size ps inner
section
variable {α:Type} {R R':α→List Value→Prop} {e:TypeId} {size:Nat} {w w1:World} {base:Nat} {v:Value} {ps:List α}
theorem OwnRow.none_ (R:α→List Value→Prop) (e:TypeId) (size:Nat) (w:World) (base:Nat):OwnRow R e size w base (.slice none 0 0) []:=⟨[],own_nil _ _ _ _,Reps.none _ _⟩
theorem OwnRow.imp_ (h:OwnRow R e size w base v ps) (hR:∀p c,R p c→R' p c):OwnRow R' e size w base v ps:=by
 obtain⟨inner,ho,hr⟩:=h
 exact⟨inner,ho,hr.imp_ hR⟩
theorem OwnRow.below (h:OwnRow R e size w base v ps) (hb:Below w.heap.size w w1):OwnRow R e size w1 base v ps:=by
 obtain⟨inner,ho,hr⟩:=h
 exact⟨inner,pw_own_below ho hb,hr⟩
theorem OwnRow.reads (h:OwnRow R e size w base v ps):∃A c,v= .slice A ps.length c∧ps.length≤c∧ReadsRow R size w A ps.length ps:=by
 obtain⟨inner,ho,hr⟩:=h
 obtain⟨A,c,rfl,hrow⟩:=own_reads_row ho hr rfl
 exact⟨A,c,rfl,own_le ho,hrow⟩
theorem OwnRow.ne_block (h:OwnRow R e size w base v ps) {g:Nat} {t:TypeId} {cells:Array Value} (hb:w.heap[g]?=some (.cells cells t (0,0))) (ht:e≠t):some g≠v.ownBlock:=by
 obtain⟨inner,ho,hr⟩:=h
 exact own_ne ho hb ht
end
section
variable {P:Program} {ops:Array Oper} {rest:List Oper} {o:Oper} {a:Act} {Q:Exit→Act→World→Prop} {α:Type} {R:α→List Value→Prop}
theorem OwnRow.append {w0 W:World} (base:Nat) (hgd:o.guard=none) (s x:Operand) (t e:TypeId) (z:Value) (size bytes:Nat)
 (ho:o.op= .call {callee:= .builtin .append,args:= #[s,x],argTypes:= #[t,t]})
 (ht:P.underlying t=some (.slice e)) (hinfo:(P.info? e).map (fun i=>(i.zero,i.size,i.bytes))=some (some z,size,bytes)) (hz:z.cells.size=size) (hs0:0<size) (hb0:0<bytes)
 (v:Value) (ps:List α) (p:α) (cs:List Value) (hs:a.eval s=v) (hx:a.eval x= .slice (some ⟨W.heap.size,0,none⟩) 1 1) (hp:R p cs) (hcs:cs.length=size) (h1:∀u∈cs,u.oneCell'=true)
 (HO:OwnRow R e size W base v ps) (HB:Below base w0 W) (hbase:base≤W.heap.size) (hl:(ps.length+1)*bytes≤140737488355328)
 (h:∀v1 w1,OwnRow R e size w1 base v1 (ps++[p])→Below base w0 w1→W.grownBy w1 v.ownBlock→(v1.ownBlock=v.ownBlock∨∃b,v1.ownBlock=some b∧W.heap.size≤b)→wpList P ops Q rest (a.put o.dst v1) w1):
 wpList P ops Q (o::rest) a (W.alloc (.cells cs.toArray e)):=by
 obtain⟨inner,hown,hr⟩:=HO
 refine print_append_cells base hgd s x t e z size bytes ho ht hinfo hz hs0 hb0 v ps.length inner cs hs hx hcs h1 hown HB hbase hl ?_
 intro v1 w1 hown1 hb1 hg1 hat1
 exact h v1 w1 ⟨inner++cs,by rw[List.length_append,List.length_singleton];exact hown1,hr.snoc hp hcs⟩ hb1 hg1 hat1
end
theorem ReadsRow.inner_ {α:Type} {R:α→List Value→Prop} {size:Nat} {w:World} {ad:Addr} {n:Nat} {ps:List α} (h:ReadsRow R size w (some ad) n ps):
 ∃inner,Reps R size ps inner∧∀j u,inner[j]?=some u→w.cell? (ad.add j)=some u:=by
 have key:∀m,m≤ps.length→∃inner,Reps R size (ps.take m) inner∧∀j u,inner[j]?=some u→w.cell? (ad.add j)=some u:=by
  intro m
  induction m with
  |zero=>exact fun _=>⟨[],Reps.none _ _,fun j u hu=>by simp at hu⟩
  |succ m ih=>
   intro hm
   obtain⟨inner,hr,hc⟩:=ih (by omega)
   obtain⟨ad',he,hcell⟩:=h.2.2 (by have:=h.1;omega)
   injection he with he
   subst he
   obtain⟨c,hcl,hp,hcc⟩:=hcell m _ (List.getElem?_eq_getElem (show m<ps.length by omega))
   refine⟨inner++c,?_,fun j u hu=>?_⟩
   ·rw[List.take_succ_eq_append_getElem (show m<ps.length by omega)]
    exact hr.snoc hp hcl
   ·have hil:inner.length=m*size:=by rw[hr.1,List.length_take,Nat.min_eq_left (by omega)]
    rcases Nat.lt_or_ge j inner.length with hj|hj
    ·rw[List.getElem?_append_left hj] at hu
     exact hc j u hu
    ·rw[List.getElem?_append_right hj] at hu
     have:=hcc (j-inner.length) u hu
     rwa [hil,Nat.add_sub_cancel' (by omega)] at this
 obtain⟨inner,hr,hc⟩:=key ps.length (Nat.le_refl _)
 rw[List.take_length] at hr
 exact⟨inner,hr,hc⟩
section
variable {α:Type} {P:Program}
theorem print_take_of (enc:α→Value) (d:α) (t e:TypeId) (kl:IntKind) {i:TypeInfo} (ht:P.underlying t=some (.slice e)) (hi:P.info? e=some i) (hsz:i.size=1) (A:Option Addr) (c:Nat) (xs:List α) (j:Int) (h0:0≤j) (hm:j≤xs.length) (hc:xs.length≤c):
 (∀W:World,(Instr.slice t (.slice A xs.length c) none (some (.int kl j)) none).run P W= .ok (.slice A (xs.take j.toNat).length c) W)∧
  (∀w:World,ReadsOf enc d w A xs.length xs→ReadsOf enc d w A (xs.take j.toNat).length (xs.take j.toNat))∧(xs.take j.toNat).length≤c:=by
 have hl:(xs.take j.toNat).length=j.toNat:=by rw[List.length_take];omega
 refine⟨fun W=>?_,fun w h=>by rw[hl];exact h.take_ j.toNat (by omega),by rw[hl];omega⟩
 have hel:P.elem t=e:=by simp [Program.elem,ht]
 have hu:P.underlying t=some (.slice (P.elem t)):=by rw[hel];exact ht
 have ha:(A.map fun x=>x.add 0)=A:=by cases A<;>simp [Addr.add]
 rw[run_slice_h W t A xs.length c hu kl j h0 (by omega),hel,hl]
 simp [sizeOf,typeInfo,hi,hsz,sliced,Result.andThen,ha]
end
structure Kd (α:Type) where
 sz:Nat
 E:List Nat
 K:World→α→List Value→Prop
 M:World→Nat→(Nat→Prop)→α→List Value→Prop
 K_len:∀{w x cs},K w x cs→cs.length=sz
 K_one:∀{w x cs},K w x cs→∀u∈cs,u.oneCell'=true
 K_below:∀{w w1:World} {x cs},Below w.heap.size w w1→K w x cs→K w1 x cs
 K_of_M:∀{w base ok x cs},M w base ok x cs→K w x cs
 M_mono:∀{w base ok ok' x cs},(∀k,ok k→ok' k)→M w base ok x cs→M w base ok' x cs
 M_bound:∀{w:World} {base ok x cs},M w base ok x cs→M w base (fun k=>ok k∧base≤k∧k<w.heap.size∧∃q,q∈E∧∃cells,w.heap[k]?=some (.cells cells q (0,0))) x cs
 M_move:∀{w w1:World} {base ok x cs},(∀k,ok k→w1.heap[k]?=w.heap[k]?)→M w base ok x cs→M w1 base ok x cs
 M_lower:∀{w base base' ok x cs},base'≤base→M w base ok x cs→M w base' ok x cs
theorem own_move {w w1:World} {base:Nat} {e:TypeId} {size n:Nat} {v:Value} {xs:List Value} (h:w.ownsRow base e size v n xs) (hm:∀k,v.ownBlock=some k→w1.heap[k]?=w.heap[k]?):w1.ownsRow base e size v n xs:=by
 obtain⟨h1,h2⟩:=h
 refine⟨h1,?_⟩
 rcases h2 with h2|⟨g,cap,cur,rfl,hg,hh,r⟩
 ·exact .inl h2
 ·exact .inr ⟨g,cap,cur,rfl,hg,(hm g (by simp [Value.ownBlock])).trans hh,r⟩
theorem own_typed {w:World} {base:Nat} {e:TypeId} {size n:Nat} {v:Value} {xs:List Value} (h:w.ownsRow base e size v n xs) (k:Nat) (hk:v.ownBlock=some k):∃cells,w.heap[k]?=some (.cells cells e (0,0)):=by
 rcases h.2 with⟨rfl,_⟩|⟨g,cap,cur,rfl,hg,hh,r⟩
 ·simp [Value.ownBlock] at hk
 ·have:g=k:=by simpa [Value.ownBlock] using hk
  subst this
  exact⟨cur,hh⟩
namespace Kd
def C {α:Type} (d:Kd α) (w:World) (A:Option Addr) (n:Nat) (xs:List α):Prop:=ReadsRow (d.K w) d.sz w A n xs
def R {α:Type} (d:Kd α) (e:Nat) (w:World) (base:Nat) (ok:Nat→Prop) (v:Value) (xs:List α):Prop:=
 (∀k,v.ownBlock=some k→ok k)∧OwnRow (d.M w base (fun k=>ok k∧some k≠v.ownBlock)) e d.sz w base v xs
section
variable {α:Type} {d:Kd α} {e:Nat} {w w1:World} {base:Nat} {ok ok':Nat→Prop} {v:Value} {xs:List α}
theorem C_below {A:Option Addr} {n:Nat} (h:d.C w A n xs) (hb:Below w.heap.size w w1):d.C w1 A n xs:=ReadsRow.imp_ h hb (fun _ _ hp=>d.K_below hb hp)
theorem R_nil (d:Kd α) (e:Nat) (w:World) (base:Nat) (ok:Nat→Prop):d.R e w base ok (.slice none 0 0) []:=⟨fun k hk=>by simp [Value.ownBlock] at hk,OwnRow.none_ _ _ _ _ _⟩
theorem R_mono (h:d.R e w base ok v xs) (hok:∀k,ok k→ok' k):d.R e w base ok' v xs:=⟨fun k hk=>hok k (h.1 k hk),h.2.imp_ (fun _ _ hp=>d.M_mono (fun k hk=>⟨hok k hk.1,hk.2⟩) hp)⟩
theorem R_bound (h:d.R e w base ok v xs):d.R e w base (fun k=>ok k∧base≤k∧k<w.heap.size∧∃q,q∈e::d.E∧∃cells,w.heap[k]?=some (.cells cells q (0,0))) v xs:=by
 obtain⟨h0,inner,ho,hr⟩:=h
 refine⟨fun k hk=>?_,inner,ho,hr.imp_ (fun _ _ hp=>d.M_mono (fun k hk=>?_) (d.M_bound hp))⟩
 ·obtain⟨cells,hc⟩:=own_typed ho k hk
  exact⟨h0 k hk,own_base ho k hk,own_lt ho k hk,e,List.mem_cons_self,cells,hc⟩
 ·obtain⟨⟨h1,h2⟩,h3,h4,q,hq,hc⟩:=hk
  exact⟨⟨h1,h3,h4,q,List.mem_cons_of_mem _ hq,hc⟩,h2⟩
theorem R_move (h:d.R e w base ok v xs) (hm:∀k,ok k→w1.heap[k]?=w.heap[k]?):d.R e w1 base ok v xs:=by
 obtain⟨h0,inner,ho,hr⟩:=h
 exact⟨h0,inner,own_move ho (fun k hk=>hm k (h0 k hk)),hr.imp_ (fun _ _ hp=>d.M_move (fun k hk=>hm k hk.1) hp)⟩
theorem R_lower {base':Nat} (h:d.R e w base ok v xs) (hb:base'≤base):d.R e w base' ok v xs:=by
 obtain⟨h0,inner,ho,hr⟩:=h
 exact⟨h0,inner,own_weaken ho hb,hr.imp_ (fun _ _ hp=>d.M_lower hb hp)⟩
theorem R_step (h:d.R e w base ok v xs) (hm:∀k,ok k→k<w.heap.size→w1.heap[k]?=w.heap[k]?):d.R e w1 base ok v xs:=
 R_mono (R_move (R_bound h) (fun k hk=>hm k hk.1 hk.2.2.1)) (fun _ hk=>hk.1)
theorem M_step {x:α} {cs:List Value} (h:d.M w base ok x cs) (hm:∀k,ok k→k<w.heap.size→w1.heap[k]?=w.heap[k]?):d.M w1 base ok x cs:=
 d.M_mono (fun _ hk=>hk.1) (d.M_move (fun k hk=>hm k hk.1 hk.2.2.1) (d.M_bound h))
theorem R_below (h:d.R e w base ok v xs) (hb:Below w.heap.size w w1):d.R e w1 base ok v xs:=R_step h (fun k _ hk=>hb.block k hk)
theorem M_below {x:α} {cs:List Value} (h:d.M w base ok x cs) (hb:Below w.heap.size w w1):d.M w1 base ok x cs:=M_step h (fun k _ hk=>hb.block k hk)
theorem R_far (h:d.R e w base ok v xs) {p:Addr} (hok:∀k,ok k→k≠p.block) (u:Value):d.R e (w.setCell p u) base ok v xs:=R_step h (fun k ho _=>Below.heap_setCell w p u k (hok k ho))
theorem R_types (h:d.R e w base ok v xs) {g t:Nat} {cells:Array Value} (hb:w.heap[g]?=some (.cells cells t (0,0))) (ht:∀q,q∈e::d.E→q≠t):d.R e w base (fun k=>ok k∧k≠g) v xs:=
 R_mono (R_bound h) (fun k hk=>⟨hk.1,by
  obtain⟨_,_,_,q,hq,cells',hc⟩:=hk
  rintro rfl
  rw[hc] at hb
  injection hb with hb
  injection hb with _ hb
  exact ht q hq hb⟩)
theorem R_reads (h:d.R e w base ok v xs):∃A c,v= .slice A xs.length c∧xs.length≤c∧d.C w A xs.length xs:=by
 obtain⟨A,c,he,hl,hr⟩:=OwnRow.reads h.2
 exact⟨A,c,he,hl,hr.imp_ (Below.refl _ _) (fun _ _ hp=>d.K_of_M hp)⟩
theorem R_slice (h:d.R e w base ok v xs):∃A c,v= .slice A xs.length c:=by
 obtain⟨A,c,he,_⟩:=R_reads h
 exact⟨A,c,he⟩
theorem R_own (h:d.R e w base ok v xs):∃inner,w.ownsRow base e d.sz v xs.length inner:=by
 obtain⟨_,inner,ho,_⟩:=h
 exact⟨inner,ho⟩
theorem R_ne (h:d.R e w base ok v xs) {g t:Nat} {cells:Array Value} (hb:w.heap[g]?=some (.cells cells t (0,0))) (ht:e≠t):some g≠v.ownBlock:=OwnRow.ne_block h.2 hb ht
end
def scalar {α:Type} (enc:α→Value) (h1:∀x,(enc x).oneCell'=true):Kd α where
 sz:=1
 E:=[]
 K:=fun _ x cs=>cs=[enc x]
 M:=fun _ _ _ x cs=>cs=[enc x]
 K_len:=fun h=>by rw[h];rfl
 K_one:=fun h u hu=>by
  rw[h] at hu
  rw[List.mem_singleton.1 hu]
  exact h1 _
 K_below:=fun _ h=>h
 K_of_M:=fun h=>h
 M_mono:=fun _ h=>h
 M_bound:=fun h=>h
 M_move:=fun _ h=>h
 M_lower:=fun _ h=>h
def int (k:IntKind):Kd Int:=scalar (Value.int k) (fun _=>rfl)
def bool:Kd Bool:=scalar Value.bool (fun _=>rfl)
def slice {α:Type} (e:Nat) (d:Kd α):Kd (List α) where
 sz:=1
 E:=e::d.E
 K:=fun w xs cs=>∃A c,cs=[.slice A xs.length c]∧xs.length≤c∧d.C w A xs.length xs
 M:=fun w base ok xs cs=>∃v,cs=[v]∧d.R e w base ok v xs
 K_len:=by
  rintro w x cs ⟨A,c,rfl,_⟩
  rfl
 K_one:=by
  rintro w x cs ⟨A,c,rfl,_⟩ u hu
  rw[List.mem_singleton.1 hu]
  rfl
 K_below:=by
  rintro w w1 x cs hb ⟨A,c,rfl,hl,hr⟩
  exact⟨A,c,rfl,hl,C_below hr hb⟩
 K_of_M:=by
  rintro w base ok x cs ⟨v,rfl,h⟩
  obtain⟨A,c,rfl,hl,hr⟩:=R_reads h
  exact⟨A,c,rfl,hl,hr⟩
 M_mono:=by
  rintro w base ok ok' x cs hok ⟨v,rfl,h⟩
  exact⟨v,rfl,R_mono h hok⟩
 M_bound:=by
  rintro w base ok x cs ⟨v,rfl,h⟩
  exact⟨v,rfl,R_bound h⟩
 M_move:=by
  rintro w w1 base ok x cs hm ⟨v,rfl,h⟩
  exact⟨v,rfl,R_move h hm⟩
 M_lower:=by
  rintro w base base' ok x cs hb ⟨v,rfl,h⟩
  exact⟨v,rfl,R_lower h hb⟩
def pair {α β:Type} (a:Kd α) (b:Kd β):Kd (α×β) where
 sz:=a.sz+b.sz
 E:=a.E++b.E
 K:=fun w x cs=>∃c0 c1,cs=c0++c1∧a.K w x.1 c0∧b.K w x.2 c1
 M:=fun w base ok x cs=>∃c0 c1,cs=c0++c1∧a.M w base ok x.1 c0∧b.M w base ok x.2 c1
 K_len:=by
  rintro w x cs ⟨c0,c1,rfl,h0,h1⟩
  rw[List.length_append,a.K_len h0,b.K_len h1]
 K_one:=by
  rintro w x cs ⟨c0,c1,rfl,h0,h1⟩ u hu
  rcases List.mem_append.1 hu with hu|hu
  ·exact a.K_one h0 u hu
  ·exact b.K_one h1 u hu
 K_below:=by
  rintro w w1 x cs hb ⟨c0,c1,rfl,h0,h1⟩
  exact⟨c0,c1,rfl,a.K_below hb h0,b.K_below hb h1⟩
 K_of_M:=by
  rintro w base ok x cs ⟨c0,c1,rfl,h0,h1⟩
  exact⟨c0,c1,rfl,a.K_of_M h0,b.K_of_M h1⟩
 M_mono:=by
  rintro w base ok ok' x cs hok ⟨c0,c1,rfl,h0,h1⟩
  exact⟨c0,c1,rfl,a.M_mono hok h0,b.M_mono hok h1⟩
 M_bound:=by
  rintro w base ok x cs ⟨c0,c1,rfl,h0,h1⟩
  refine⟨c0,c1,rfl,a.M_mono ?_ (a.M_bound h0),b.M_mono ?_ (b.M_bound h1)⟩
  ·rintro k ⟨h2,h3,h4,q,hq,hc⟩
   exact⟨h2,h3,h4,q,List.mem_append_left _ hq,hc⟩
  ·rintro k ⟨h2,h3,h4,q,hq,hc⟩
   exact⟨h2,h3,h4,q,List.mem_append_right _ hq,hc⟩
 M_move:=by
  rintro w w1 base ok x cs hm ⟨c0,c1,rfl,h0,h1⟩
  exact⟨c0,c1,rfl,a.M_move hm h0,b.M_move hm h1⟩
 M_lower:=by
  rintro w base base' ok x cs hb ⟨c0,c1,rfl,h0,h1⟩
  exact⟨c0,c1,rfl,a.M_lower hb h0,b.M_lower hb h1⟩
def iso {α β:Type} (d:Kd α) (f:β→α):Kd β where
 sz:=d.sz
 E:=d.E
 K:=fun w x cs=>d.K w (f x) cs
 M:=fun w base ok x cs=>d.M w base ok (f x) cs
 K_len:=d.K_len
 K_one:=d.K_one
 K_below:=d.K_below
 K_of_M:=d.K_of_M
 M_mono:=d.M_mono
 M_bound:=d.M_bound
 M_move:=d.M_move
 M_lower:=d.M_lower
theorem C_get {α:Type} {d:Kd α} {w:World} {A:Option Addr} {n:Nat} {xs:List α} (h:d.C w A n xs) (z:α) (i:Int) (h0:0≤i) (h1:i<n):
 ∃ad c,A=some ad∧c.length=d.sz∧d.K w (xs.getD i.toNat z) c∧∀j u,c[j]?=some u→w.cell? (ad.add (i.toNat*d.sz+j))=some u:=ReadsRow.get_ h z i h0 h1
theorem R_appended {α:Type} {d:Kd α} {e base:Nat} {ok okp:Nat→Prop} {W w1:World} {v v1:Value} {xs:List α} {p:α} {inner cs:List Value} (h0:∀k,v.ownBlock=some k→ok k) (hr:Reps (d.M W base (fun k=>ok k∧some k≠v.ownBlock)) d.sz xs inner) (hp:d.M W base okp p cs) (hokp:∀k,okp k→ok k∧some k≠v.ownBlock) (hfresh:∀k,W.heap.size≤k→ok k)
 (hown:w1.ownsRow base e d.sz v1 (xs.length+1) (inner++cs)) (hg:W.grownBy w1 v.ownBlock) (hat:v1.ownBlock=v.ownBlock∨∃b,v1.ownBlock=some b∧W.heap.size≤b):d.R e w1 base ok v1 (xs++[p]):=by
 have hne:∀k,some k≠v.ownBlock→k<W.heap.size→some k≠v1.ownBlock:=by
  intro k hk hlt
  rcases hat with hat|⟨b,hb,hle⟩
  ·rw[hat];exact hk
  ·rw[hb]
   intro he
   injection he with he
   omega
 have step:∀{q:α} {c:List Value} {o:Nat→Prop},d.M W base o q c→(∀k,o k→ok k∧some k≠v.ownBlock)→d.M w1 base (fun k=>ok k∧some k≠v1.ownBlock) q c:=by
  intro q c o hq ho
  have h1:=d.M_move (w1:=w1) (fun k hk=>hg.block k hk.2.2.1 (ho k hk.1).2) (d.M_bound hq)
  exact d.M_mono (fun k hk=>⟨(ho k hk.1).1,hne k (ho k hk.1).2 hk.2.2.1⟩) h1
 refine⟨fun k hk=>?_,inner++cs,by rw[List.length_append,List.length_singleton];exact hown,?_⟩
 ·rcases hat with hat|⟨b,hb,hle⟩
  ·exact h0 k (hat ▸ hk)
  ·rw[hb] at hk
   injection hk with hk
   exact hfresh k (by omega)
 ·exact(hr.imp_ (fun _ _ hq=>step hq (fun _ hk=>hk))).snoc (step hp hokp) (d.K_len (d.K_of_M hp))
section
variable {P:Program} {ops:Array Oper} {rest:List Oper} {o:Oper} {a:Act} {Q:Exit→Act→World→Prop} {α:Type}
theorem R_append (d:Kd α) {w0 W:World} (base:Nat) (hgd:o.guard=none) (s x:Operand) (t e:TypeId) (z:Value) (bytes:Nat)
 (ho:o.op= .call {callee:= .builtin .append,args:= #[s,x],argTypes:= #[t,t]})
 (ht:P.underlying t=some (.slice e)) (hinfo:(P.info? e).map (fun i=>(i.zero,i.size,i.bytes))=some (some z,d.sz,bytes)) (hz:z.cells.size=d.sz) (hs0:0<d.sz) (hb0:0<bytes)
 (v:Value) (xs:List α) (p:α) (cs:List Value) (ok okp:Nat→Prop) (hs:a.eval s=v) (hx:a.eval x= .slice (some ⟨W.heap.size,0,none⟩) 1 1) (hp:d.M W base okp p cs) (hokp:∀k,okp k→ok k∧some k≠v.ownBlock) (hfresh:∀k,W.heap.size≤k→ok k)
 (HO:d.R e W base ok v xs) (HB:Below base w0 W) (hbase:base≤W.heap.size) (hl:(xs.length+1)*bytes≤140737488355328)
 (h:∀v1 w1,d.R e w1 base ok v1 (xs++[p])→Below base w0 w1→W.grownBy w1 v.ownBlock→(v1.ownBlock=v.ownBlock∨∃b,v1.ownBlock=some b∧W.heap.size≤b)→wpList P ops Q rest (a.put o.dst v1) w1):
 wpList P ops Q (o::rest) a (W.alloc (.cells cs.toArray e)):=by
 obtain⟨h0,inner,hown,hr⟩:=HO
 refine print_append_cells base hgd s x t e z d.sz bytes ho ht hinfo hz hs0 hb0 v xs.length inner cs hs hx (d.K_len (d.K_of_M hp)) (d.K_one (d.K_of_M hp)) hown HB hbase hl ?_
 intro v1 w1 hown1 hb1 hg1 hat1
 exact h v1 w1 (R_appended h0 hr hp hokp hfresh hown1 hg1 hat1) hb1 hg1 hat1
end
section
variable {P:Program} {ops:Array Oper} {o:Oper} {a:Act} {Q:Exit→Act→World→Prop} {Kc:Act→World→Prop} {α:Type}
theorem R_append_step (d:Kd α) {w0 W:World} (base:Nat) (hw:Region.wanted o (yielded ops a.tmps)=true) (s x:Operand) (t e:TypeId) (z:Value) (bytes:Nat)
 (ho:o.op= .call {callee:= .builtin .append,args:= #[s,x],argTypes:= #[t,t]})
 (ht:P.underlying t=some (.slice e)) (hinfo:(P.info? e).map (fun i=>(i.zero,i.size,i.bytes))=some (some z,d.sz,bytes)) (hz:z.cells.size=d.sz) (hs0:0<d.sz) (hb0:0<bytes)
 (v:Value) (xs:List α) (p:α) (cs:List Value) (ok okp:Nat→Prop) (hs:a.eval s=v) (hx:a.eval x= .slice (some ⟨W.heap.size,0,none⟩) 1 1) (hp:d.M W base okp p cs) (hokp:∀k,okp k→ok k∧some k≠v.ownBlock) (hfresh:∀k,W.heap.size≤k→ok k)
 (HO:d.R e W base ok v xs) (HB:Below base w0 W) (hbase:base≤W.heap.size) (hl:(xs.length+1)*bytes≤140737488355328)
 (h:∀v1 w1,d.R e w1 base ok v1 (xs++[p])→Below base w0 w1→W.grownBy w1 v.ownBlock→(v1.ownBlock=v.ownBlock∨∃b,v1.ownBlock=some b∧W.heap.size≤b)→Kc (a.put o.dst v1) w1):
 if Region.wanted o (yielded ops a.tmps)=true then Oper.wp P o a (W.alloc (.cells cs.toArray e)) Kc Q else Kc (a.put o.dst undef) (W.alloc (.cells cs.toArray e)):=by
 obtain⟨h0,inner,hown,hr⟩:=HO
 refine step_append_cells base hw s x t e z d.sz bytes ho ht hinfo hz hs0 hb0 v xs.length inner cs hs hx (d.K_len (d.K_of_M hp)) (d.K_one (d.K_of_M hp)) hown HB hbase hl ?_
 intro v1 w1 hown1 hb1 hg1 hat1
 exact h v1 w1 (R_appended h0 hr hp hokp hfresh hown1 hg1 hat1) hb1 hg1 hat1
end
theorem reps_scalar {α:Type} {enc:α→Value} (xs:List α):Reps (fun(x:α) (cs:List Value)=>cs=[enc x]) 1 xs (encs enc xs):=by
 refine⟨by simp [encs],fun j p hj=>?_⟩
 obtain⟨hl,hp⟩:=List.getElem?_eq_some_iff.1 hj
 have hl':j<(encs enc xs).length:=by rw[encs_length];exact hl
 rw[Nat.mul_one,List.drop_eq_getElem_cons hl']
 simp [encs,hp]
theorem R_of_own {α:Type} {enc:α→Value} {h1:∀x,(enc x).oneCell'=true} {e:Nat} {w:World} {base:Nat} {ok:Nat→Prop} {v:Value} {xs:List α} (ho:w.ownsRow base e 1 v xs.length (encs enc xs)) (hok:∀k,v.ownBlock=some k→ok k):(scalar enc h1).R e w base ok v xs:=⟨hok,encs enc xs,ho,reps_scalar xs⟩
theorem own_of_R {α:Type} {enc:α→Value} {h1:∀x,(enc x).oneCell'=true} {e:Nat} {w:World} {base:Nat} {ok:Nat→Prop} {v:Value} {xs:List α} (h:(scalar enc h1).R e w base ok v xs):w.ownsRow base e 1 v xs.length (encs enc xs):=by
 obtain⟨_,inner,ho,hr⟩:=h
 have:inner=encs enc xs:=by
  apply List.ext_getElem?
  intro j
  rcases Nat.lt_or_ge j xs.length with hj|hj
  ·have h2:=hr.2 j _ (List.getElem?_eq_getElem hj)
   have hl:j<inner.length:=by have:=hr.1;simp [scalar] at this;omega
   have h3:(inner.drop (j*1)).take 1=[enc xs[j]]:=h2
   rw[Nat.mul_one,List.drop_eq_getElem_cons hl] at h3
   have h4:inner[j]=enc xs[j]:=by
    have h5:=congrArg List.head? h3
    rw[List.take_succ_cons] at h5
    exact Option.some.inj h5
   rw[List.getElem?_eq_getElem hl,h4]
   simp [encs,List.getElem?_eq_getElem hj]
  ·have h3:inner.length=xs.length:=by have:=hr.1;simp [scalar] at this;omega
   rw[List.getElem?_eq_none (by omega),List.getElem?_eq_none (by rw[encs_length];omega)]
 rw[←this]
 exact ho
theorem C_of_reads {α:Type} {enc:α→Value} {d:α} {h1:∀x,(enc x).oneCell'=true} {w:World} {A:Option Addr} {n:Nat} {xs:List α} (h:ReadsOf enc d w A n xs):(scalar enc h1).C w A n xs:=by
 refine⟨h.1,h.2.1,fun hn=>?_⟩
 obtain⟨ad,e,hc⟩:=h.2.2 hn
 refine⟨ad,e,fun j p hj=>⟨[enc p],rfl,rfl,fun i u hu=>?_⟩⟩
 obtain⟨hl,hp⟩:=List.getElem?_eq_some_iff.1 hj
 have h2:=hc j (by have:=h.1;omega)
 rw[List.getD_eq_getElem?_getD,hj] at h2
 cases i with
 |zero=>
  have:enc p=u:=by simpa using hu
  subst this
  simpa [scalar] using h2
 |succ i=>simp at hu
theorem reads_of_C {α:Type} {enc:α→Value} {d:α} {h1:∀x,(enc x).oneCell'=true} {w:World} {A:Option Addr} {n:Nat} {xs:List α} (h:(scalar enc h1).C w A n xs):ReadsOf enc d w A n xs:=by
 refine⟨h.1,h.2.1,fun hn=>?_⟩
 obtain⟨ad,e,hc⟩:=h.2.2 hn
 refine⟨ad,e,fun j hj=>?_⟩
 have hl:j<xs.length:=by have:=h.1;omega
 obtain⟨c,_,hK,hcell⟩:=hc j _ (List.getElem?_eq_getElem hl)
 have hK':c=[enc xs[j]]:=hK
 subst hK'
 have:=hcell 0 _ rfl
 simpa [scalar,List.getD_eq_getElem?_getD,List.getElem?_eq_getElem hl] using this
end Kd
namespace Kd
theorem R_after {α:Type} {d:Kd α} {e base:Nat} {ok:Nat→Prop} {W w1:World} {u v v1:Value} {xs:List α} (h:d.R e W base (fun k=>ok k∧some k≠v.ownBlock) u xs) (hg:W.grownBy w1 v.ownBlock) (hat:v1.ownBlock=v.ownBlock∨∃b,v1.ownBlock=some b∧W.heap.size≤b):d.R e w1 base (fun k=>ok k∧some k≠v1.ownBlock) u xs:=by
 refine R_mono (R_move (R_bound h) (fun k hk=>hg.block k hk.2.2.1 hk.1.2)) (fun k hk=>⟨hk.1.1,?_⟩)
 rcases hat with hat|⟨b,hb,hle⟩
 ·rw[hat];exact hk.1.2
 ·rw[hb]
  intro he
  injection he with he
  have:=hk.2.2.1
  omega
theorem M_row {α:Type} {d:Kd α} {e base:Nat} {ok:Nat→Prop} {w:World} {v:Value} {xs:List α} (h:d.R e w base ok v xs):(slice e d).M w base ok xs [v]:=⟨v,rfl,h⟩
end Kd
namespace Kd
section
variable {α β:Type} {d:Kd α} {d':Kd β} {e e':Nat} {w w1 W:World} {base b b':Nat} {ok ok' okv oku:Nat→Prop} {v u:Value} {xs:List α} {ys:List β}
theorem R_alloc (h:d.R e w base ok v xs) (o:Obj):d.R e (w.alloc o) base ok v xs:=R_below h (below_alloc (Below.refl _ _) o)
theorem R_drew (h:d.R e w base ok v xs):d.R e w.drew base ok v xs:=R_below h (below_drew (Below.refl _ _))
theorem R_drewN (h:d.R e w base ok v xs) (m:Nat):d.R e (w.drewN m) base ok v xs:=R_below h (pw_below_drewN (Below.refl _ _) m)
theorem C_alloc {A:Option Addr} {n:Nat} (h:d.C w A n xs) (o:Obj):d.C (w.alloc o) A n xs:=C_below h (below_alloc (Below.refl _ _) o)
theorem C_drew {A:Option Addr} {n:Nat} (h:d.C w A n xs):d.C w.drew A n xs:=C_below h (below_drew (Below.refl _ _))
theorem C_drewN {A:Option Addr} {n:Nat} (h:d.C w A n xs) (m:Nat):d.C (w.drewN m) A n xs:=C_below h (pw_below_drewN (Below.refl _ _) m)
theorem C_nil (d:Kd α) (w:World):d.C w none ([]:List α).length []:=⟨rfl,by simp,fun h=>absurd h (Nat.lt_irrefl 0)⟩
theorem R_reads' {A:Option Addr} {n c:Nat} (h:d.R e w base ok (.slice A n c) xs):n=xs.length∧n≤c∧d.C w A xs.length xs:=by
 obtain⟨A',c',he,hl,hr⟩:=R_reads h
 injection he with h1 h2 h3
 subst h1
 exact⟨h2,by omega,hr⟩
theorem R_lt (h:d.R e w base ok v xs):∀k,v.ownBlock=some k→k<w.heap.size:=by
 obtain⟨inner,ho⟩:=R_own h
 exact own_lt ho
theorem R_base (h:d.R e w base ok v xs):∀k,v.ownBlock=some k→base≤k:=by
 obtain⟨inner,ho⟩:=R_own h
 exact own_base ho
theorem R_form (h:d.R e w base ok v xs) (hp:0<xs.length):∃g cap,v= .slice (some ⟨g,0,none⟩) xs.length cap∧base≤g∧g<w.heap.size∧∃cells,w.heap[g]?=some (.cells cells e (0,0)):=by
 obtain⟨inner,ho⟩:=R_own h
 obtain⟨g,cap,he,hb,hl⟩:=ho.form hp
 obtain⟨cells,hc⟩:=own_typed ho g (by rw[he];simp [Value.ownBlock])
 exact⟨g,cap,he,hb,hl,cells,hc⟩
end
section
variable {w W:World} {A:Option Addr} {n:Nat}
theorem at_int {k:IntKind} {xs:List Int} (h:(Kd.int k).C w A n xs) (i:Int) (h0:0≤i) (h1:i<n):∃ad,A=some ad∧w.cell? (ad.add i.toNat)=some (.int k (rd xs i)):=
 ReadsOf.at_ (reads_of_C (enc:=Value.int k) (d:=(0:Int)) (h1:=fun _=>rfl) h) i h0 h1
variable {α:Type} {enc:α→Value} {h1:∀x,(enc x).oneCell'=true} {e base g cap:Nat} {ok:Nat→Prop} {xs:List α}
theorem R_cell (d:α) (h:(scalar enc h1).R e W base ok (.slice (some ⟨g,0,none⟩) xs.length cap) xs) (i:Int) (h0:0≤i) (hi:i<xs.length):W.cell? ⟨g,i.toNat,none⟩=some (enc (rdOf d xs i))∧W.frozen? ⟨g,i.toNat,none⟩=false:=own_at_of (own_of_R h) i h0 hi
theorem R_put (h:(scalar enc h1).R e W base ok (.slice (some ⟨g,0,none⟩) xs.length cap) xs) (i:Int) (x:α):(scalar enc h1).R e (W.setCell ⟨g,i.toNat,none⟩ (enc x)) base ok (.slice (some ⟨g,0,none⟩) xs.length cap) (xs.set i.toNat x)∧W.grownBy (W.setCell ⟨g,i.toNat,none⟩ (enc x)) (some g):=by
 obtain⟨ho,hg⟩:=own_store_of (own_of_R h) i x
 exact⟨R_of_own (by rw[List.length_set];exact ho) h.1,hg⟩
end
section
variable {P:Program} {ops:Array Oper} {rest:List Oper} {o:Oper} {a:Act} {Q:Exit→Act→World→Prop}
theorem event_run {W w1:World} {v:Value} (hgd:o.guard=none) (hrun:(execOp a.eval o).run P W= .ok (.value v) w1) (h:wpList P ops Q rest (a.put o.dst v) w1):wpList P ops Q (o::rest) a W:=by
 refine wpList_plain hgd fun K hK=>?_
 unfold Oper.wp
 rw[hrun]
 exact hK _ _ h
variable {α:Type}
theorem R_lit (d:Kd α) {w0 W:World} (base e:Nat) (hgd:o.guard=none) {N:Tmp} (_hd:o.dst=some N) {xs:List α} {inner:List Value} {ok okp:Nat→Prop}
 (hrun:(execOp a.eval o).run P W= .ok (.value (.slice (some ⟨W.heap.size,0,none⟩) xs.length xs.length)) (W.alloc (.cells inner.toArray e)))
 (hrep:Reps (d.M W base okp) d.sz xs inner) (hok:∀k,okp k→ok k) (hfresh:ok W.heap.size) (HB:Below base w0 W) (hbase:base≤W.heap.size) (hm:xs.length≤9223372036854775807)
 (h:∀v1 w1,d.R e w1 base ok v1 xs→Below base w0 w1→W.grownBy w1 none→(∃b,v1.ownBlock=some b∧W.heap.size≤b)→wpList P ops Q rest (a.put o.dst v1) w1):wpList P ops Q (o::rest) a W:=by
 refine event_run hgd hrun (h _ _ ⟨fun k hk=>?_,inner,?_,?_⟩ (HB.alloc hbase _) (World.grownBy_alloc W _ none) ⟨W.heap.size,by simp [Value.ownBlock],Nat.le_refl _⟩)
 ·have:W.heap.size=k:=by simpa [Value.ownBlock] using hk
  subst this
  exact hfresh
 ·have h2:=World.ownsRow_lit (base:=base) (e:=e) (size:=d.sz) W inner.toArray xs.length hbase (by simpa [maxLen] using hm) (by simpa using hrep.1)
  simpa using h2
 ·refine hrep.imp_ (fun p c hp=>d.M_mono (fun k hk=>⟨hok k hk.1,fun he=>?_⟩) (M_below (d.M_bound hp) (below_alloc (Below.refl _ _) _)))
  have h3:k=W.heap.size:=by simpa [Value.ownBlock] using he
  have:=hk.2.2.1
  omega
theorem reps_made {α:Type} {R:α→List Value→Prop} {z:Value} {size:Nat} {z0:α} (hz:z.cells.size=size) (hs:0<size) (h0:R z0 z.cells.toList) (m:Nat):Reps R size (List.replicate m z0) (madeCells z.cells (m*size)).toList:=by
 refine⟨by simp [size_madeCells],fun j p hj=>?_⟩
 obtain⟨hjl,hp⟩:=List.getElem?_eq_some_iff.1 hj
 have hjm:j<m:=by simpa using hjl
 have hp':z0=p:=by simpa using hp
 subst hp'
 have hle:j*size+size≤m*size:=by rw[←Nat.succ_mul];exact Nat.mul_le_mul_right _ hjm
 have:((madeCells z.cells (m*size)).toList.drop (j*size)).take size=z.cells.toList:=by
  apply List.ext_getElem
  ·simp [size_madeCells,hz]
   omega
  ·intro i h1 h2
   have hi:i<size:=by rw[Array.length_toList,hz] at h2;exact h2
   have hmod:(j*size+i) % size=i:=by
    rw[Nat.mul_comm,Nat.mul_add_mod]
    exact Nat.mod_eq_of_lt hi
   simp [madeCells,hz,hmod]
   rw[getElem!_pos z.cells i (by omega)]
 rw[this]
 exact h0
theorem R_make (d:Kd α) {w0 W:World} (base e:Nat) (hgd:o.guard=none) {N:Tmp} (hd:o.dst=some N) (t:TypeId) (x y:Operand) (ho:o.op= .makeSlice t x y) (n:Int) (hx:a.eval x= .int .i64 n) (hy:a.eval y= .int .i64 n)
 (ht:P.underlying t=some (.slice e)) (z:Value) (bytes:Nat) (hinfo:(P.info? e).map (fun i=>(i.zero,i.size,i.bytes))=some (some z,d.sz,bytes)) (hz:z.cells.size=d.sz) (hs0:0<d.sz) (hb0:0<bytes)
 (z0:α) {ok okp:Nat→Prop} (hzero:d.M W base okp z0 z.cells.toList) (hok:∀k,okp k→ok k) (hfresh:ok W.heap.size) (h0:0≤n) (hl:n.toNat*bytes≤281474976710656) (HB:Below base w0 W) (hbase:base≤W.heap.size)
 (h:∀v1 w1,d.R e w1 base ok v1 (List.replicate n.toNat z0)→Below base w0 w1→W.grownBy w1 none→(∃b,v1.ownBlock=some b∧W.heap.size≤b)→wpList P ops Q rest (a.put o.dst v1) w1):wpList P ops Q (o::rest) a W:=by
 obtain⟨m,rfl⟩:=Int.eq_ofNat_of_zero_le h0
 simp only[Int.toNat_natCast] at hl h
 obtain⟨i0,hi,hzz⟩:=Option.map_eq_some_iff.1 hinfo
 simp only[Prod.mk.injEq] at hzz
 obtain⟨hz0,hz1,hz2⟩:=hzz
 have hm:m≤281474976710656:=Nat.le_trans (Nat.le_mul_of_pos_right _ hb0) hl
 have hr:=run_make (P:=P) W t e i0 z ht hi hz0 .i64 .i64 (m:Int) (m:Int) (by omega) (by omega)
  (by
   have h3:((i0.bytes*m:Nat):Int)≤281474976710656:=by rw[hz2,Nat.mul_comm];omega
   rwa [Int.natCast_mul] at h3) (by omega)
 simp only[Int.toNat_natCast] at hr
 rw[hz1] at hr
 refine R_lit d base e hgd hd (xs:=List.replicate m z0) (inner:=(madeCells z.cells (m*d.sz)).toList) (okp:=okp) (ok:=ok) ?_ (reps_made hz hs0 hzero m) hok hfresh HB hbase (by simp;omega) h
 simp [execOp,ho,hx,hy,hr]
end
end Kd
section
variable {P:Program}
theorem cut_to (t e:TypeId) (kh:IntKind) {i:TypeInfo} (ht:P.underlying t=some (.slice e)) (hi:P.info? e=some i) (A:Option Addr) (n c:Nat) (j:Int) (h0:0≤j) (hm:j≤n) (hc:n≤c):
 ∀W:World,(Instr.slice t (.slice A n c) none (some (.int kh j)) none).run P W= .ok (.slice A j.toNat c) W:=by
 intro W
 have hel:P.elem t=e:=by simp [Program.elem,ht]
 have hu:P.underlying t=some (.slice (P.elem t)):=by rw[hel];exact ht
 have ha:(A.map fun x=>x.add 0)=A:=by cases A<;>simp [Addr.add]
 rw[run_slice_h W t A n c hu kh j h0 (by omega),hel]
 simp [sizeOf,typeInfo,hi,sliced,Result.andThen,ha]
end
def QRow (w:World) (base:Nat) (e:TypeId) (size:Nat) (v:Value) (n:Nat) (xs:List Value):Prop:=
 xs.length=n*size∧
 (
  (n=0∧∃A,v= .slice A 0 0∧∀a,A=some a→base≤a.block∧∃cur,w.heap[a.block]?=some (.cells cur e (0,0)))∨
  ∃g off cap cur,v= .slice (some ⟨g,off*size,none⟩) n cap∧base≤g∧w.heap[g]?=some (.cells cur e (0,0))∧n≤cap∧off+cap≤maxLen∧cur.size=(off+cap)*size∧(cur.toList.drop (off*size)).take (n*size)=xs)
section
variable {w w1:World} {base n size:Nat} {e:TypeId} {v:Value} {xs:List Value}
theorem q_of_own (h:w.ownsRow base e size v n xs):QRow w base e size v n xs:=by
 obtain⟨h1,h2⟩:=h
 refine⟨h1,?_⟩
 rcases h2 with⟨rfl,h0⟩|⟨g,cap,cur,rfl,hb,hh,hnc,hcm,hcs,ht⟩
 ·exact .inl ⟨h0,none,rfl,fun a ha=>by cases ha⟩
 ·exact .inr ⟨g,0,cap,cur,by rw[Nat.zero_mul],hb,hh,hnc,by rw[Nat.zero_add];exact hcm,by rw[Nat.zero_add];exact hcs,by rw[Nat.zero_mul,List.drop_zero];exact ht⟩
theorem add_at (g o j:Nat):(⟨g,o,none⟩:Addr).add j=⟨g,o+j,none⟩:=by unfold Addr.add;split<;>simp_all
theorem setCells_far {g:Nat}:∀(vs:List Value) (o:Nat) {w:World} (k:Nat),k≠g→(w.setCells g o vs).heap[k]?=w.heap[k]?
 | [],_,_,_,_=>rfl
 |v::r,o,w,k,hk=>by
  rw[World.setCells,setCells_far r (o+1) k hk]
  exact Below.heap_setCell w ⟨g,o,none⟩ v k hk
theorem setCells_same (g:Nat):∀(vs:List Value) (o:Nat) (w:World),(w.setCells g o vs).os=w.os∧(w.setCells g o vs).tape=w.tape∧(w.setCells g o vs).output=w.output∧(w.setCells g o vs).heap.size=w.heap.size
 | [],_,_=>⟨rfl,rfl,rfl,rfl⟩
 |v::r,o,w=>by
  obtain⟨h1,h2,h3,h4⟩:=setCells_same g r (o+1) (w.setCell ⟨g,o,none⟩ v)
  rw[World.setCells]
  exact⟨h1,h2,h3,by rw[h4];simp [World.setCell]⟩
theorem setCells_row {g:Nat} {e:TypeId}:∀(vs:List Value) (o:Nat) (w:World) (cur:Array Value),w.heap[g]?=some (.cells cur e (0,0))→o+vs.length≤cur.size→
 ∃cur',(w.setCells g o vs).heap[g]?=some (.cells cur' e (0,0))∧cur'.size=cur.size∧cur'.toList=cur.toList.take o++vs++cur.toList.drop (o+vs.length)
 | [],o,w,cur,h,_=>⟨cur,h,rfl,by simp⟩
 |v::r,o,w,cur,h,hl=>by
  have h2:=blk_set h o v
  simp only[List.length_cons] at hl
  obtain⟨cur',h3,h4,h5⟩:=setCells_row r (o+1) (w.setCell ⟨g,o,none⟩ v) _ h2 (by simp;omega)
  refine⟨cur',h3,by rw[h4];simp,?_⟩
  rw[h5,Array.toList_setIfInBounds]
  have ho:o<cur.toList.length:=by rw[Array.length_toList];omega
  rw[List.take_set,List.drop_set_of_lt (by omega)]
  simp only[List.length_cons]
  rw[show o+1+r.length=o+(r.length+1) by omega]
  congr 1
  rw[List.take_succ_eq_append_getElem ho,List.set_append_right _ _ (by rw[List.length_take];omega)]
  have ho':o<cur.size:=by omega
  simp [Nat.min_eq_left (Nat.le_of_lt ho')]
end
namespace Kd
def Q {α:Type} (d:Kd α) (e:Nat) (w:World) (base:Nat) (ok:Nat→Prop) (v:Value) (xs:List α):Prop:=
 (∀k,v.ownBlock=some k→ok k)∧∃inner,QRow w base e d.sz v xs.length inner∧Reps (d.M w base (fun k=>ok k∧some k≠v.ownBlock)) d.sz xs inner
section
variable {α:Type} {d:Kd α} {e:Nat} {w w1 W:World} {base:Nat} {ok ok':Nat→Prop} {v:Value} {xs:List α}
theorem Q_of_R (h:d.R e w base ok v xs):d.Q e w base ok v xs:=by
 obtain⟨h0,inner,ho,hr⟩:=h
 exact⟨h0,inner,q_of_own ho,hr⟩
theorem Q_nil (d:Kd α) (e:Nat) (w:World) (base:Nat) (ok:Nat→Prop):d.Q e w base ok (.slice none 0 0) []:=Q_of_R (R_nil d e w base ok)
end
end Kd
namespace Kd
section
variable {α:Type} {d:Kd α} {e e':Nat} {w w1 W:World} {base:Nat} {ok:Nat→Prop} {u v:Value} {xs:List α}
theorem R_typed (h:d.R e w base ok v xs):∀k,v.ownBlock=some k→∃cells,w.heap[k]?=some (.cells cells e (0,0)):=by
 obtain⟨inner,ho⟩:=R_own h
 exact fun k hk=>own_typed ho k hk
theorem R_over' (h:d.R e W base ok u xs) (hty:∀k,v.ownBlock=some k→∃cells,W.heap[k]?=some (.cells cells e' (0,0))) (ht:∀q,q∈e::d.E→q≠e') (hg:W.grownBy w1 v.ownBlock):d.R e w1 base ok u xs:=by
 refine R_mono (R_move (R_bound h) (fun k hk=>hg.block k hk.2.2.1 (fun he=>?_))) (fun _ hk=>hk.1)
 obtain⟨_,_,_,q,hq,cells,hc⟩:=hk
 obtain⟨cells',hc'⟩:=hty k he.symm
 rw[hc] at hc'
 injection hc' with hc'
 injection hc' with _ hc'
 exact ht q hq hc'
theorem R_apart' (h:d.R e W base ok u xs) (hty:∀k,v.ownBlock=some k→∃cells,W.heap[k]?=some (.cells cells e' (0,0))) (ht:∀q,q∈e::d.E→q≠e'):d.R e W base (fun k=>ok k∧some k≠v.ownBlock) u xs:=by
 refine R_mono (R_bound h) (fun k hk=>⟨hk.1,fun he=>?_⟩)
 obtain⟨_,_,_,q,hq,cells,hc⟩:=hk
 obtain⟨cells',hc'⟩:=hty k he.symm
 rw[hc] at hc'
 injection hc' with hc'
 injection hc' with _ hc'
 exact ht q hq hc'
theorem R_elder' (hu:d.R e W base ok u xs) (hbase:∀k,v.ownBlock=some k→W.heap.size≤k) (hb:Below W.heap.size W w1):d.R e w1 base (fun k=>ok k∧some k≠v.ownBlock) u xs:=
 R_mono (R_move (R_bound hu) (fun k hk=>hb.block k hk.2.2.1)) (fun k hk=>⟨hk.1,fun he=>by have:=hbase k he.symm;have:=hk.2.2.1;omega⟩)
theorem R_new' (h:d.R e w1 W.heap.size ok v xs) (hlt:∀k,u.ownBlock=some k→k<W.heap.size):d.R e w1 W.heap.size (fun k=>ok k∧some k≠u.ownBlock) v xs:=
 R_mono (R_bound h) (fun k hk=>⟨hk.1,fun he=>by have:=hlt k he.symm;have:=hk.2.1;omega⟩)
theorem fresh' (hlt:∀k,u.ownBlock=some k→k<W.heap.size):∀k,W.heap.size≤k→some k≠u.ownBlock:=fun k hk he=>by have:=hlt k he.symm;omega
end
end Kd
theorem seg_get {α:Type} (a seg:List α) (o:Nat) (h:o+seg.length≤a.length) (q:Nat):
 (a.take o++seg++a.drop (o+seg.length))[q]?=if q<o then a[q]? else if q<o+seg.length then seg[q-o]? else a[q]?:=by
 have hl:(a.take o).length=o:=by rw[List.length_take];omega
 rw[List.append_assoc]
 by_cases h1:q<o
 ·rw[if_pos h1,List.getElem?_append_left (by omega),List.getElem?_take,if_pos h1]
 ·rw[if_neg h1,List.getElem?_append_right (by omega),hl]
  by_cases h2:q<o+seg.length
  ·rw[if_pos h2,List.getElem?_append_left (by omega)]
  ·rw[if_neg h2,List.getElem?_append_right (by omega),List.getElem?_drop]
   congr 1
   omega
namespace Kd
section
variable {α:Type} {d:Kd α} {e base g n cap:Nat} {ok okp:Nat→Prop} {W:World} {xs:List α}
theorem R_elem (h:d.R e W base ok (.slice (some ⟨g,0,none⟩) n cap) xs) (z:α) (i:Int) (h0:0≤i) (h1:i<n):
 ∃c,c.length=d.sz∧d.M W base (fun k=>ok k∧k≠g) (xs.getD i.toNat z) c∧(∀j u,c[j]?=some u→W.cell? ⟨g,i.toNat*d.sz+j,none⟩=some u)∧∀j,W.frozen? ⟨g,i.toNat*d.sz+j,none⟩=false:=by
 obtain⟨hn,hnc,hC⟩:=R_reads' h
 obtain⟨_,inner,ho,hr⟩:=h
 have hil:i.toNat<xs.length:=by omega
 have hseg:i.toNat*d.sz+d.sz≤inner.length:=by rw[hr.1,←Nat.succ_mul];exact Nat.mul_le_mul_right _ hil
 have hM:=hr.2 i.toNat _ (List.getElem?_eq_getElem hil)
 refine⟨(inner.drop (i.toNat*d.sz)).take d.sz,by rw[List.length_take,List.length_drop];omega,?_,fun j u hu=>?_,fun j=>?_⟩
 ·rw[List.getD_eq_getElem?_getD,List.getElem?_eq_getElem hil]
  exact d.M_mono (fun k hk=>⟨hk.1,fun he=>hk.2 (by rw[he];simp [Value.ownBlock])⟩) hM
 ·rw[List.getElem?_take] at hu
  split at hu
  ·rw[List.getElem?_drop] at hu
   have:=ho.cells (g:=g) (by simp [Value.ownBlock]) _ u hu
   rwa [add_plain] at this
  ·cases hu
 ·obtain⟨cells,hc⟩:=own_typed ho g (by simp [Value.ownBlock])
  exact blk_frozen hc _
theorem R_seg (h:d.R e W base ok (.slice (some ⟨g,0,none⟩) n cap) xs) (i:Int) (h0:0≤i) (h1:i<n) {c seg:List Value} {j:Nat} (hcl:c.length=d.sz) (hcc:∀j u,c[j]?=some u→W.cell? ⟨g,i.toNat*d.sz+j,none⟩=some u)
 (hj:j+seg.length≤d.sz) {x':α} (hM:d.M W base okp x' (c.take j++seg++c.drop (j+seg.length))) (hokp:∀k,okp k→ok k∧k≠g):
 d.R e (W.setCells g (i.toNat*d.sz+j) seg) base ok (.slice (some ⟨g,0,none⟩) n cap) (xs.set i.toNat x')∧W.grownBy (W.setCells g (i.toNat*d.sz+j) seg) (some g):=by
 obtain⟨hn,hnc,_⟩:=R_reads' h
 obtain⟨hok,inner,ho,hr⟩:=h
 have hil:i.toNat<xs.length:=by omega
 have hseg:i.toNat*d.sz+d.sz≤inner.length:=by rw[hr.1,←Nat.succ_mul];exact Nat.mul_le_mul_right _ hil
 have hin:inner.length=n*d.sz:=by rw[hr.1,hn]
 obtain⟨ho1,ho2⟩:=ho
 rcases ho2 with⟨hv,_⟩|⟨g',cap',cur,hv,hb,hh,hnc',hcm,hcs,ht⟩
 ·cases hv
 injection hv with ha _ hc
 injection ha with ha
 injection ha with hg
 subst hg;subst hc
 have hfit:i.toNat*d.sz+j+seg.length≤cur.size:=by
  have:n*d.sz≤cap*d.sz:=Nat.mul_le_mul_right _ hnc
  omega
 obtain⟨cur',h3,h4,h5⟩:=setCells_row seg (i.toNat*d.sz+j) W cur hh hfit
 obtain⟨s1,s2,s3,s4⟩:=setCells_same g seg (i.toNat*d.sz+j) W
 have hfar:∀k,k≠g→(W.setCells g (i.toNat*d.sz+j) seg).heap[k]?=W.heap[k]?:=fun k hk=>setCells_far seg _ k hk
 have hcin:∀q,q<d.sz→c[q]?=inner[i.toNat*d.sz+q]?:=by
  intro q hq
  have hq':q<c.length:=by omega
  have h6:=hcc q _ (List.getElem?_eq_getElem hq')
  rw[cell_of_row W g _ cur e (0,0) hh] at h6
  rw[List.getElem?_eq_getElem hq',←h6,←ht,List.getElem?_take,if_pos (by rw[←hn];omega),Array.getElem?_toList]
 refine⟨⟨hok,inner.take (i.toNat*d.sz+j)++seg++inner.drop (i.toNat*d.sz+j+seg.length),⟨?_, .inr ⟨g,cap,cur',by rw[List.length_set,hn],hb,h3,by rw[List.length_set,←hn];exact hnc,hcm,by rw[h4,hcs],?_⟩⟩,?_⟩,
  ⟨s1,s2,s3,by rw[s4];exact Nat.le_refl _,fun k _ hk=>hfar k (fun he=>hk (by rw[he]))⟩⟩
 ·rw[List.length_set]
  simp only[List.length_append,List.length_take,List.length_drop]
  rw[hr.1] at hseg ⊢
  omega
 ·rw[List.length_set,←hn]
  apply List.ext_getElem?
  intro q
  rw[List.getElem?_take,h5]
  rw[seg_get cur.toList seg (i.toNat*d.sz+j) (by rw[Array.length_toList];omega) q,seg_get inner seg (i.toNat*d.sz+j) (by omega) q]
  have hcur:∀q,q<n*d.sz→cur.toList[q]?=inner[q]?:=by
   intro q hq
   rw[←ht,List.getElem?_take,if_pos (by rw[←hn];exact hq)]
  by_cases hq:q<n*d.sz
  ·rw[if_pos hq,hcur q hq]
  ·rw[if_neg hq,if_neg (by omega),if_neg (by omega),List.getElem?_eq_none (by omega)]
 ·refine⟨?_,fun m p hm=>?_⟩
  ·rw[List.length_set]
   simp only[List.length_append,List.length_take,List.length_drop]
   rw[hr.1] at hseg ⊢
   omega
  ·have hml:m<xs.length:=by
    have:=(List.getElem?_eq_some_iff.1 hm).1
    rwa [List.length_set] at this
   have hmfit:m*d.sz+d.sz≤inner.length:=by rw[hr.1,←Nat.succ_mul];exact Nat.mul_le_mul_right _ hml
   have hgo:some g=(Value.slice (some ⟨g,0,none⟩) n cap).ownBlock:=by simp [Value.ownBlock]
   by_cases hmi:m=i.toNat
   ·subst hmi
    rw[List.getElem?_set_self (by omega)] at hm
    injection hm with hm
    subst hm
    have hcells:((inner.take (i.toNat*d.sz+j)++seg++inner.drop (i.toNat*d.sz+j+seg.length)).drop (i.toNat*d.sz)).take d.sz=c.take j++seg++c.drop (j+seg.length):=by
     apply List.ext_getElem?
     intro q
     rw[List.getElem?_take,List.getElem?_drop,seg_get inner seg _ (by omega),seg_get c seg j (by omega) q]
     by_cases hq:q<d.sz
     ·rw[if_pos hq,hcin q hq]
      by_cases hq1:q<j
      ·rw[if_pos (by omega),if_pos hq1]
      ·rw[if_neg (by omega),if_neg hq1]
       by_cases hq2:q<j+seg.length
       ·rw[if_pos (by omega),if_pos hq2]
        congr 1
        omega
       ·rw[if_neg (by omega),if_neg hq2]
     ·rw[if_neg hq,if_neg (by omega),if_neg (by omega),List.getElem?_eq_none (by omega)]
    rw[hcells]
    refine d.M_mono (fun k hk=>?_) (d.M_move (w1:=W.setCells g (i.toNat*d.sz+j) seg) (fun k hk=>hfar k (hokp k hk).2) hM)
    exact⟨(hokp k hk).1,fun he=>(hokp k hk).2 (by rw[←hgo] at he;injection he)⟩
   ·rw[List.getElem?_set_ne (by omega)] at hm
    have hold:=hr.2 m p hm
    have hcells:((inner.take (i.toNat*d.sz+j)++seg++inner.drop (i.toNat*d.sz+j+seg.length)).drop (m*d.sz)).take d.sz=(inner.drop (m*d.sz)).take d.sz:=by
     apply List.ext_getElem?
     intro q
     rw[List.getElem?_take,List.getElem?_take,List.getElem?_drop,List.getElem?_drop,seg_get inner seg _ (by omega)]
     by_cases hq:q<d.sz
     ·rw[if_pos hq,if_pos hq]
      rcases Nat.lt_or_gt_of_ne hmi with hlt|hgt
      ·have:m*d.sz+d.sz≤i.toNat*d.sz:=by rw[←Nat.succ_mul];exact Nat.mul_le_mul_right _ hlt
       rw[if_pos (by omega)]
      ·have:i.toNat*d.sz+d.sz≤m*d.sz:=by rw[←Nat.succ_mul];exact Nat.mul_le_mul_right _ hgt
       rw[if_neg (by omega),if_neg (by omega)]
     ·rw[if_neg hq,if_neg hq]
    rw[hcells]
    refine d.M_move (fun k hk=>hfar k (fun he=>hk.2 (by rw[he];exact hgo))) hold
end
end Kd
namespace Kd
theorem reps_append {α:Type} {R:α→List Value→Prop} {size:Nat} {ps qs:List α} {cs ds:List Value} (h:Reps R size ps cs) (h':Reps R size qs ds):Reps R size (ps++qs) (cs++ds):=by
 refine⟨by rw[List.length_append,List.length_append,h.1,h'.1,Nat.add_mul],fun j p hj=>?_⟩
 rcases Nat.lt_or_ge j ps.length with hlt|hge
 ·rw[List.getElem?_append_left hlt] at hj
  have hle:j*size+size≤cs.length:=by rw[h.1,←Nat.succ_mul];exact Nat.mul_le_mul_right _ hlt
  rw[List.drop_append_of_le_length (by omega),List.take_append_of_le_length (by rw[List.length_drop];omega)]
  exact h.2 j p hj
 ·rw[List.getElem?_append_right hge] at hj
  have h2:=h'.2 (j-ps.length) p hj
  have hle:ps.length*size≤j*size:=Nat.mul_le_mul_right _ hge
  rw[List.drop_append,List.drop_eq_nil_of_le (by rw[h.1];exact hle),List.nil_append,h.1,←Nat.sub_mul]
  exact h2
section
variable {P:Program} {ops:Array Oper} {rest:List Oper} {o:Oper} {a:Act} {Q:Exit→Act→World→Prop} {α:Type}
theorem R_append_rows (d:Kd α) {Rr:α→List Value→Prop} {w0 W:World} (base:Nat) (hgd:o.guard=none) (s x:Operand) (t e:TypeId) (z:Value) (bytes:Nat)
 (ho:o.op= .call {callee:= .builtin .append,args:= #[s,x],argTypes:= #[t,t]})
 (ht:P.underlying t=some (.slice e)) (hinfo:(P.info? e).map (fun i=>(i.zero,i.size,i.bytes))=some (some z,d.sz,bytes)) (hz:z.cells.size=d.sz) (hs0:0<d.sz) (hb0:0<bytes)
 (v:Value) (xs ys:List α) (A:Option Addr) (m c:Nat) (ok okp:Nat→Prop) (hs:a.eval s=v) (hx:a.eval x= .slice A m c)
 (HO:d.R e W base ok v xs) (HR:ReadsRow Rr d.sz W A m ys) (hKM:∀x cs,Rr x cs→d.M W base okp x cs) (hokp:∀k,okp k→ok k∧some k≠v.ownBlock) (hfresh:∀k,W.heap.size≤k→ok k)
 (HB:Below base w0 W) (hbase:base≤W.heap.size) (hl:(xs.length+m)*bytes≤140737488355328)
 (h:∀v1 w1,d.R e w1 base ok v1 (xs++ys)→Below base w0 w1→W.grownBy w1 v.ownBlock→(v1.ownBlock=v.ownBlock∨∃b,v1.ownBlock=some b∧W.heap.size≤b)→wpList P ops Q rest (a.put o.dst v1) w1):
 wpList P ops Q (o::rest) a W:=by
 obtain⟨i0,hi,hzz⟩:=Option.map_eq_some_iff.1 hinfo
 simp only[Prod.mk.injEq] at hzz
 obtain⟨hz0,hz1,hz2⟩:=hzz
 have hm:ys.length=m:=HR.1
 have hlen:xs.length+m≤140737488355328:=Nat.le_trans (Nat.le_mul_of_pos_right _ hb0) hl
 obtain⟨hok,inner,hown,hr⟩:=HO
 have hrun:∃v1 w1,(Builtin.append_ #[t,t] o.type #[v, .slice A m c]).run P W= .ok v1 w1∧d.R e w1 base ok v1 (xs++ys)∧W.grownBy w1 v.ownBlock∧(v1.ownBlock=v.ownBlock∨∃b,v1.ownBlock=some b∧W.heap.size≤b):=by
  rcases A with _|ad
  ·have h0:m=0:=by
    rcases Nat.eq_zero_or_pos m with h0|h0
    ·exact h0
    ·obtain⟨ad,h,_⟩:=HR.2.2 h0
     cases h
   subst h0
   obtain rfl:ys=[]:=List.eq_nil_of_length_eq_zero hm
   refine⟨v,W,?_,by rw[List.append_nil];exact⟨hok,inner,hown,hr⟩,World.grownBy.refl W _, .inl rfl⟩
   rcases hown.2 with⟨rfl,hn⟩|⟨g,cap,cur,rfl,_,_,hnc,_⟩
   ·simp [Builtin.append_,run_underlying ht,sizeOf,typeInfo,hi,Builtin.lenOf,Builtin.firstCells]
   ·simp [Builtin.append_,run_underlying ht,sizeOf,typeInfo,hi,Builtin.lenOf,Builtin.firstCells,hnc,storeCells]
  ·obtain⟨news,hnr,hnc⟩:=ReadsRow.inner_ HR
   have hnM:Reps (d.M W base okp) d.sz ys news:=hnr.imp_ (fun p c hp=>hKM p c hp)
   have hone:∀u∈news,u.oneCell'=true:=by
    intro u hu
    obtain⟨q,hq,rfl⟩:=List.mem_iff_getElem.1 hu
    have hql:q / d.sz<ys.length:=by
     rw[Nat.div_lt_iff_lt_mul hs0]
     rw[←hnM.1]
     exact hq
    have hc:=hnM.2 (q / d.sz) _ (List.getElem?_eq_getElem hql)
    refine d.K_one (d.K_of_M hc) _ ?_
    rw[List.mem_iff_getElem?]
    refine⟨q % d.sz,?_⟩
    rw[List.getElem?_take,if_pos (Nat.mod_lt _ hs0),List.getElem?_drop,Nat.mul_comm,Nat.div_add_mod,List.getElem?_eq_getElem hq]
   obtain⟨v1,w1,hrun,h2,hg,_,hat⟩:=run_append_own_at (P:=P) W base t o.type e i0 z d.sz bytes ht hi hz0 hz1 hz2 hz hs0 v xs.length inner hown ad m c news (by rw[hnM.1,hm]) hnc hone (by simp only[maxLen];omega) hl hbase
   have hat':v1.ownBlock=v.ownBlock∨∃b,v1.ownBlock=some b∧W.heap.size≤b:=by
    rcases hat with hat|hat
    ·exact .inl hat
    ·exact .inr ⟨_,hat,Nat.le_refl _⟩
   have hne:∀k,some k≠v.ownBlock→k<W.heap.size→some k≠v1.ownBlock:=by
    intro k hk hlt
    rcases hat' with hat|⟨b,hb,hle⟩
    ·rw[hat];exact hk
    ·rw[hb]
     intro he
     injection he with he
     omega
   have step:∀{q:α} {c:List Value} {o:Nat→Prop},d.M W base o q c→(∀k,o k→ok k∧some k≠v.ownBlock)→d.M w1 base (fun k=>ok k∧some k≠v1.ownBlock) q c:=by
    intro q c o hq ho
    have h1:=d.M_move (w1:=w1) (fun k hk=>hg.block k hk.2.2.1 (ho k hk.1).2) (d.M_bound hq)
    exact d.M_mono (fun k hk=>⟨(ho k hk.1).1,hne k (ho k hk.1).2 hk.2.2.1⟩) h1
   refine⟨v1,w1,hrun,⟨fun k hk=>?_,inner++news,by rw[List.length_append,hm];exact h2,reps_append (hr.imp_ (fun _ _ hq=>step hq (fun _ hk=>hk))) (hnM.imp_ (fun _ _ hq=>step hq hokp))⟩,hg,hat'⟩
   rcases hat' with hat|⟨b,hb,hle⟩
   ·exact hok k (hat ▸ hk)
   ·rw[hb] at hk
    injection hk with hk
    exact hfresh k (by omega)
 obtain⟨v1,w1,hr1,h1,hg,hat⟩:=hrun
 refine wpList_plain hgd fun K hK=>?_
 unfold Oper.wp execOp
 simp only[ho,resolve,invoke,builtin,Sem.run_bind,Sem.run_pure,Result.andThen_ok,List.map_toArray,List.map_cons,List.map_nil,hs,hx,hr1]
 exact hK _ _ (h v1 w1 h1 (HB.grown hg hbase (own_base hown)) hg hat)
end
end Kd
theorem add_add (a:Addr) (i j:Nat):(a.add i).add j=a.add (i+j):=by
 unfold Addr.add
 by_cases h1:i=0<;>by_cases h2:j=0<;>simp [h1,h2,Nat.add_assoc]
namespace Kd
section
variable {α:Type} {k:Kd α} {w:World} {A:Option Addr} {xs:List α} {m c:Nat}
theorem C_take (h:k.C w A xs.length xs) (hm:m≤xs.length):k.C w A (xs.take m).length (xs.take m):=by
 have hl:(xs.take m).length=m:=by rw[List.length_take];omega
 refine⟨rfl,by rw[hl];have:=h.2.1;omega,fun hp=>?_⟩
 obtain⟨ad,e,hc⟩:=h.2.2 (by omega)
 refine⟨ad,e,fun j p hj=>hc j p ?_⟩
 rw[List.getElem?_take] at hj
 split at hj
 ·exact hj
 ·cases hj
theorem C_drop (h:k.C w A xs.length xs) (hm:m≤xs.length) (hc:xs.length≤c):k.C w (if c=m then A else A.map (·.add (m*k.sz))) (xs.drop m).length (xs.drop m):=by
 have hl:(xs.drop m).length=xs.length-m:=List.length_drop
 refine⟨rfl,by rw[hl];have:=h.2.1;omega,fun hp=>?_⟩
 rw[hl] at hp
 obtain⟨ad,rfl,hcell⟩:=h.2.2 (by omega)
 rw[if_neg (by omega)]
 refine⟨ad.add (m*k.sz),rfl,fun j p hj=>?_⟩
 rw[List.getElem?_drop] at hj
 obtain⟨cs,h1,h2,h3⟩:=hcell (m+j) p hj
 refine⟨cs,h1,h2,fun i u hu=>?_⟩
 rw[add_add,show m*k.sz+(j*k.sz+i)=(m+j)*k.sz+i by rw[Nat.add_mul];omega]
 exact h3 i u hu
theorem C_mid {lo hi:Nat} (h:k.C w A xs.length xs) (h1:lo≤hi) (h2:hi≤xs.length) (hc:xs.length≤c):k.C w (if c=lo then A else A.map (·.add (lo*k.sz))) ((xs.take hi).drop lo).length ((xs.take hi).drop lo):=by
 have hl:(xs.take hi).length=hi:=by rw[List.length_take];omega
 exact C_drop (C_take h h2) (by omega) (by omega)
end
end Kd
section
variable {P:Program}
theorem cut_mid (t e:TypeId) (kl kh:IntKind) {i:TypeInfo} (ht:P.underlying t=some (.slice e)) (hi:P.info? e=some i) (size:Nat) (hsz:i.size=size) (A:Option Addr) (n c:Nat) (lo hi':Int) (h0:0≤lo) (h1:lo≤hi') (h2:hi'≤n) (hc:n≤c):
 ∀W:World,(Instr.slice t (.slice A n c) (some (.int kl lo)) (some (.int kh hi')) none).run P W= .ok (.slice (if c=lo.toNat then A else A.map (·.add (lo.toNat*size))) (hi'.toNat-lo.toNat) (c-lo.toNat)) W:=by
 intro W
 have hel:P.elem t=e:=by simp [Program.elem,ht]
 have hu:P.underlying t=some (.slice (P.elem t)):=by rw[hel];exact ht
 rw[run_slice_lh W t A n c hu kl kh lo hi' h0 h1 (by omega),hel]
 simp [sizeOf,typeInfo,hi,hsz,sliced,Result.andThen]
end
theorem below_size {w W:World} (h:Below w.heap.size w W):w.heap.size≤W.heap.size:=h.size
theorem below_step {w W w2:World} (h:Below w.heap.size w W) (k:Below W.heap.size W w2):Below w.heap.size w w2:=below_then h h.size k
theorem ReadsInt.nil (W:World) (k:IntKind):ReadsInt W k none ([]:List Int).length []:=⟨rfl,by simp,fun h=>absurd h (Nat.lt_irrefl 0)⟩
theorem ReadsInt.drewN {W:World} {k:IntKind} {A:Option Addr} {n:Nat} {xs:List Int} (h:ReadsInt W k A n xs) (m:Nat):ReadsInt (W.drewN m) k A n xs:=h
theorem below_set {w W:World} {g j:Nat} {v:Value} (h:Below w.heap.size w W) (hg:w.heap.size≤g):Below w.heap.size w (W.setCell ⟨g,j,none⟩ v):=h.setCell hg _
theorem add_block (a:Addr) (i:Nat):(a.add i).block=a.block:=by unfold Addr.add;split<;>rfl
theorem ReadsOf.nil {α:Type} (enc:α→Value) (d:α) (W:World):ReadsOf enc d W none ([]:List α).length []:=⟨rfl,by simp,fun h=>absurd h (Nat.lt_irrefl 0)⟩
theorem ReadsOf.drewN {α:Type} {enc:α→Value} {d:α} {W:World} {A:Option Addr} {n:Nat} {xs:List α} (h:ReadsOf enc d W A n xs) (m:Nat):ReadsOf enc d (W.drewN m) A n xs:=h
theorem cell_far {W:World} {p a:Addr} (h:a.block≠p.block) (u:Value):(W.setCell p u).cell? a=W.cell? a:=by
 have:=Below.heap_setCell W p u a.block h
 simp [World.cell?,this]
theorem blk_put {w:World} {g:Nat} {t:TypeId} {cs cs':Array Value} (h:w.heap[g]?=some (.cells cs t (0,0))) (i:Nat) (u:Value) (e:cs.setIfInBounds i u=cs'):(w.setCell ⟨g,i,none⟩ u).heap[g]?=some (.cells cs' t (0,0)):=e ▸ blk_set h i u
theorem below_drew1 {base:Nat} {w W:World} (h:Below base w W):Below base w W.drew:=h.drew
namespace Kd
section
variable {α:Type} {d:Kd α} {e base g:Nat} {ok:Nat→Prop} {w w1:World} {v:Value} {xs:List α} {o:Obj}
theorem freshB (hb:w.heap[g]?=some o):∀k,w.heap.size≤k→k≠g:=fun k hk=>by have:=blk_lt hb;omega
end
end Kd
section
variable {P:Program} {ops:Array Oper} {rest:List Oper} {o:Oper} {a:Act} {Q:Exit→Act→World→Prop}
theorem box_event {W:World} (hgd:o.guard=none) {N:Tmp} (_hd:o.dst=some N) {cs:Array Value} {t:TypeId}
 (hrun:(execOp a.eval o).run P W= .ok (.value (.pointer (some ⟨W.heap.size,0,none⟩))) (W.alloc (.cells cs t (0,0))))
 (h:∀g,g=W.heap.size→∀w1,w1.heap[g]?=some (.cells cs t (0,0))→Below W.heap.size W w1→wpList P ops Q rest (a.put o.dst (.pointer (some ⟨g,0,none⟩))) w1):wpList P ops Q (o::rest) a W:=
 Kd.event_run hgd hrun (h _ rfl _ (blk_new W _) (below_alloc (Below.refl _ _) _))
end
namespace Kd
section
variable {α:Type} {enc:α→Value} {h1:∀x,(enc x).oneCell'=true} {e base g n cap:Nat} {ok:Nat→Prop} {W:World} {xs:List α}
theorem R_celln (d:α) (h:(scalar enc h1).R e W base ok (.slice (some ⟨g,0,none⟩) n cap) xs) (i:Int) (h0:0≤i) (hi:i<n):W.cell? ⟨g,i.toNat,none⟩=some (enc (rdOf d xs i))∧W.frozen? ⟨g,i.toNat,none⟩=false:=by
 obtain⟨rfl,_⟩:=R_reads' h
 exact R_cell d h i h0 hi
theorem R_putn (h:(scalar enc h1).R e W base ok (.slice (some ⟨g,0,none⟩) n cap) xs) (i:Int) (x:α):(scalar enc h1).R e (W.setCell ⟨g,i.toNat,none⟩ (enc x)) base ok (.slice (some ⟨g,0,none⟩) n cap) (xs.set i.toNat x):=by
 obtain⟨rfl,_⟩:=R_reads' h
 exact(R_put h i x).1
end
end Kd
section
variable {P:Program} {ops:Array Oper} {rest:List Oper} {o:Oper} {a:Act} {Q:Exit→Act→World→Prop}
theorem store_event {W w1:World} (hgd:o.guard=none) {t:TypeId} {p:Tmp} {v:Operand} (_ho:o.op= .store t (.tmp p) v) (hN:o.dst=none)
 (hrun:(execOp a.eval o).run P W= .ok .skip w1) (h:∀w',w'=w1→wpList P ops Q rest a w'):wpList P ops Q (o::rest) a W:=by
 refine wpList_plain hgd fun K hK=>?_
 unfold Oper.wp
 rw[hrun]
 show K (a.put o.dst undef) w1
 rw[hN]
 exact hK _ _ (h _ rfl)
end
namespace Kd
section
variable {α:Type} {enc:α→Value} {h1:∀x,(enc x).oneCell'=true} {e base g n cap:Nat} {ok:Nat→Prop} {W:World} {xs:List α}
theorem R_putg (h:(scalar enc h1).R e W base ok (.slice (some ⟨g,0,none⟩) n cap) xs) (i:Int) (x:α):(scalar enc h1).R e (W.setCell ⟨g,i.toNat,none⟩ (enc x)) base ok (.slice (some ⟨g,0,none⟩) n cap) (xs.set i.toNat x)∧W.grownBy (W.setCell ⟨g,i.toNat,none⟩ (enc x)) (some g):=by
 obtain⟨rfl,_⟩:=R_reads' h
 exact R_put h i x
end
end Kd
section
variable {P:Program} {ops:Array Oper} {rest:List Oper} {o:Oper} {a:Act} {Q:Exit→Act→World→Prop} {W:World}
theorem gate_dst {N:Tmp} (_hN:o.dst=some N) (h:wpList P ops Q (o::rest) a W):wpList P ops Q (o::rest) a W:=h
theorem gate_store {t:TypeId} {p:Tmp} {v:Operand} (_ho:o.op= .store t (.tmp p) v) (h:wpList P ops Q (o::rest) a W):wpList P ops Q (o::rest) a W:=h
end
section
variable {P:Program} {ops:Array Oper} {o:Oper} {a:Act} {Q:Exit→Act→World→Prop} {Kc:Act→World→Prop}
theorem event_step {W w1:World} {v:Value} (hw:Region.wanted o (yielded ops a.tmps)=true) (hrun:(execOp a.eval o).run P W= .ok (.value v) w1) (h:Kc (a.put o.dst v) w1):if Region.wanted o (yielded ops a.tmps)=true then Oper.wp P o a W Kc Q else Kc (a.put o.dst undef) W:=by
 rw[if_pos hw]
 unfold Oper.wp
 rw[hrun]
 exact h
namespace Kd
variable {α:Type}
theorem R_lit_step (d:Kd α) {w0 W:World} (base e:Nat) (hw:Region.wanted o (yielded ops a.tmps)=true) {N:Tmp} (_hd:o.dst=some N) {xs:List α} {inner:List Value} {ok okp:Nat→Prop}
 (hrun:(execOp a.eval o).run P W= .ok (.value (.slice (some ⟨W.heap.size,0,none⟩) xs.length xs.length)) (W.alloc (.cells inner.toArray e)))
 (hrep:Reps (d.M W base okp) d.sz xs inner) (hok:∀k,okp k→ok k) (hfresh:ok W.heap.size) (HB:Below base w0 W) (hbase:base≤W.heap.size) (hm:xs.length≤9223372036854775807)
 (h:∀v1 w1,d.R e w1 base ok v1 xs→Below base w0 w1→W.grownBy w1 none→(∃b,v1.ownBlock=some b∧W.heap.size≤b)→Kc (a.put o.dst v1) w1):if Region.wanted o (yielded ops a.tmps)=true then Oper.wp P o a W Kc Q else Kc (a.put o.dst undef) W:=by
 refine event_step hw hrun (h _ _ ⟨fun k hk=>?_,inner,?_,?_⟩ (HB.alloc hbase _) (World.grownBy_alloc W _ none) ⟨W.heap.size,by simp [Value.ownBlock],Nat.le_refl _⟩)
 ·have:W.heap.size=k:=by simpa [Value.ownBlock] using hk
  subst this
  exact hfresh
 ·have h2:=World.ownsRow_lit (base:=base) (e:=e) (size:=d.sz) W inner.toArray xs.length hbase (by simpa [maxLen] using hm) (by simpa using hrep.1)
  simpa using h2
 ·refine hrep.imp_ (fun p c hp=>d.M_mono (fun k hk=>⟨hok k hk.1,fun he=>?_⟩) (M_below (d.M_bound hp) (below_alloc (Below.refl _ _) _)))
  have h3:k=W.heap.size:=by simpa [Value.ownBlock] using he
  have:=hk.2.2.1
  omega
end Kd
end
inductive Vals (P:Program) (tmps:Array Value) (w:World):List ResultVar→List Value→Prop where
 |nil:Vals P tmps w [] []
 |tmp {u:Tmp} {rs:List ResultVar} {vs:List Value} (h:Vals P tmps w rs vs):Vals P tmps w (.tmp u::rs) (tmps.getD u undef::vs)
 |cell {p:Tmp} {ty:TypeId} {rs:List ResultVar} {vs:List Value} (g:Nat) (t:TypeId) (cs:Array Value) (fr:Nat×Nat) (d:TypeDesc)
  (hp:tmps.getD p undef= .pointer (some ⟨g,0,none⟩)) (hg:w.heap[g]?=some (.cells cs t fr))
  (hu:P.underlying ty=some d) (hd:(match d with| .struct _| .array _ _=>true|_=>false)=true) (hi:(P.info? ty).map (·.size)=some cs.size)
  (h:Vals P tmps w rs vs):Vals P tmps w (.cell p ty::rs) (.agg cs::vs)
section
variable {P:Program} {tmps:Array Value} {w:World}
theorem vals_run {rs:List ResultVar} {vs:List Value} (hv:Vals P tmps w rs vs) (f:ResultVar→Sem Value) (hf:∀u,f (.tmp u)=pure (tmps.getD u undef)) (hc:∀a t,f (.cell a t)=(do loadVar t (←asAddr (tmps.getD a undef)))):
 (rs.mapM f).run P w= .ok vs w:=by
 induction hv with
 |nil=>simp
 |tmp h ih=>simp [List.mapM_cons,hf,ih]
 |cell g t cs fr d hp hg hu hd hi h ih=>
  rw[List.mapM_cons,hc,hp]
  simp [asAddr,run_loadVar_row w g t _ cs fr d hg hu hd hi,ih]
theorem results_list {fn:Func} {rs:List ResultVar} {vs:List Value} (h:fn.results=rs.toArray) (hl:vs.length≠1) (hv:Vals P tmps w rs vs):(results fn tmps).run P w= .ok (.tuple vs.toArray) w:=by
 unfold results
 rw[h,List.mapM_toArray]
 simp only[Sem.run_bind,Sem.run_map]
 rw[vals_run hv]
 ·simp [hl]
 ·intro u
  rfl
 ·intro a t
  rfl
end
end Go.Proofs.YtifkbghnmhineaaW.PrintWords
end
section
namespace Go.Proofs.YtifkbghnmhineaaW.PrintLast
section
variable {P:Program} {ops:Array Oper} {Q:Exit→Act→World→Prop} {md:Region.Mode} {S:World→Prop} {ds:List Nat}
def Region.reachB (md:Region.Mode) (ops:Array Oper) (i:Nat):Nat→Nat→Bool
 |0,_=>false
 |fuel+1,d=>match ops[d]? with
  |some o=>o.after.any fun e=>Region.binds md e&&(e.on==i||Region.reachB md ops i fuel e.on)
  |none=>false
def Region.closedB (md:Region.Mode) (ops:Array Oper) (listed:Array Bool):Bool:=
 (List.range ops.size).all fun j=> !listed.getD j false||match ops[j]? with
  |some o=>o.after.all fun e=> !Region.binds md e||listed.getD e.on false
  |none=>true
def Region.lastB (md:Region.Mode) (ops:Array Oper) (listed:Array Bool) (ds:List Nat) (i:Nat):Bool:=
 ds.all fun d=>listed.getD d true||Region.reachB md ops i ops.size d
def ListedClosed (md:Region.Mode) (ops:Array Oper) (listed:Array Bool):Prop:=
 ∀j oj,ops[j]?=some oj→listed.getD j false=true→∀e∈oj.after,Region.binds md e=true→listed.getD e.on false=true
theorem Region.closedB_spec {listed:Array Bool} (h:Region.closedB md ops listed=true):ListedClosed md ops listed:=by
 intro j oj hj hl e he hb
 have hlt:j<ops.size:=(Array.getElem?_eq_some_iff.1 hj).1
 have h1:=List.all_eq_true.1 h j (List.mem_range.2 hlt)
 simp only[hl,hj,Bool.not_true,Bool.false_or] at h1
 have h2:=Array.all_eq_true_iff_forall_mem.1 h1 e he
 simpa [hb] using h2
theorem ListedClosed.set {listed:Array Bool} {i:Nat} (h:ListedClosed md ops listed) (hi:i∈Region.ready md ops listed):ListedClosed md ops (listed.setIfInBounds i true):=by
 obtain⟨_,oi,hoi,hall⟩:=mem_ready.1 hi
 intro j oj hj hl e he hb
 by_cases hij:i=j
 ·subst hij
  have:oj=oi:=Option.some.inj (hj.symm.trans hoi)
  subst this
  exact getD_set_true (hall e he hb)
 ·rw[getD_set_ne false hij] at hl
  exact getD_set_true (h j oj hj hl e he hb)
theorem Region.reach_listed {listed:Array Bool} {i:Nat} (hc:ListedClosed md ops listed):∀(fuel d:Nat),Region.reachB md ops i fuel d=true→listed.getD d false=true→listed.getD i false=true
 |0,_,h,_=>by simp [Region.reachB] at h
 |fuel+1,d,h,hl=>by
  unfold Region.reachB at h
  cases ho:ops[d]? with
  |none=>rw[ho] at h;simp at h
  |some o=>
   rw[ho] at h
   obtain⟨e,he,h1⟩:=Array.any_eq_true'.1 h
   simp only[Bool.and_eq_true,Bool.or_eq_true,beq_iff_eq] at h1
   have hle:=hc d o ho hl e he h1.1
   rcases h1.2 with h2|h2
   ·rw[←h2];exact hle
   ·exact Region.reach_listed hc fuel e.on h2 hle
theorem Region.reach_not_ready {listed:Array Bool} {i d fuel:Nat} (hc:ListedClosed md ops listed) (hr:Region.reachB md ops i fuel d=true) (hun:listed.getD i true=false):d∉Region.ready md ops listed:=by
 intro hd
 obtain⟨_,o,ho,hall⟩:=mem_ready.1 hd
 have hi:listed.getD i false=true:=by
  cases fuel with
  |zero=>simp [Region.reachB] at hr
  |succ n=>
   unfold Region.reachB at hr
   rw[ho] at hr
   obtain⟨e,he,h1⟩:=Array.any_eq_true'.1 hr
   simp only[Bool.and_eq_true,Bool.or_eq_true,beq_iff_eq] at h1
   have hle:=hall e he h1.1
   rcases h1.2 with h2|h2
   ·rw[←h2];exact hle
   ·exact Region.reach_listed hc n e.on h2 hle
 rcases Nat.lt_or_ge i listed.size with h'|h'
 ·simp [h'] at hun hi
  rw[hun] at hi
  cases hi
 ·simp [Array.getElem?_eq_none h'] at hun
def wpAnyLast (P:Program) (md:Region.Mode) (ops:Array Oper) (Q:Exit→Act→World→Prop) (S:World→Prop) (ds:List Nat):Nat→Array Bool→Act→World→Prop
 |0,listed,a,w=>Region.ready md ops listed=[]∧Q .normal a w
 |fuel+1,listed,a,w=>
  (Region.ready md ops listed=[]→Q .normal a w)∧
  ∀i∈Region.ready md ops listed,wpOp P ops Q i (fun a' w'=>(i∉ds→S w→S w')∧wpAnyLast P md ops Q S ds fuel (listed.setIfInBounds i true) a' w') a w
theorem wpAny_of_last:∀(fuel:Nat) (listed:Array Bool) (a:Act) (w:World),wpAnyLast P md ops Q S ds fuel listed a w→wpAny P md ops Q fuel listed a w
 |0,_,_,_,h=>h
 |fuel+1,_,_,_,h=>⟨h.1,fun i hi=>wpOp_mono (fun a' w' h'=>wpAny_of_last fuel _ a' w' h'.2) (h.2 i hi)⟩
theorem wpAnyLast_first {i:Nat} {oi:Oper} {v:Value} (hi:ops[i]?=some oi) (hsel:∀(j:Nat) (o:Oper) cs b,ops[j]?=some o→o.op≠ .select cs b)
 (hQ:∀c a w,Q (.panic c) (a.put oi.dst v) w→Q (.panic c) a w) (n:Nat):
 ∀(fuel:Nat) (listed:Array Bool) (a:Act) (w:World),
  (∀j oj,ops[j]?=some oj→j≠i→listed.getD j true=false→(∀e∈oj.after,Region.binds md e=true→e.on≠i)→oi.apart ops oj=true)→
  ListedClosed md ops listed→(∀d∈ds,listed.getD d true=false→Region.reachB md ops i n d=true)→
  i∈Region.ready md ops listed→YieldsIf P ops S oi v a→S w→
  wpAnyLast P md ops Q S ds fuel (listed.setIfInBounds i true) (a.put oi.dst v) w→wpAnyLast P md ops Q S ds (fuel+1) listed a w:=by
 intro fuel
 induction fuel with
 |zero=>
  intro listed a w _ _ _ hr hy hS H
  refine⟨fun h=>(by rw[h] at hr;cases hr),fun j hj=>?_⟩
  by_cases hji:j=i
  ·subst hji;exact hy.wpOp hi hS ⟨fun _ h=>h,H⟩
  ·have:=ready_mono hj hji
   rw[H.1] at this
   cases this
 |succ fuel ih=>
  intro listed a w hfree hc hd hr hy hS H
  refine⟨fun h=>(by rw[h] at hr;cases hr),fun j hj=>?_⟩
  by_cases hji:j=i
  ·subst hji;exact hy.wpOp hi hS ⟨fun _ h=>h,H⟩
  ·have h1:=H.2 j (ready_mono hj hji)
   obtain⟨hjun,oj,hoj,hall⟩:=mem_ready.1 hj
   have hiun:=(mem_ready.1 hr).1
   have hnot:∀e∈oj.after,Region.binds md e=true→e.on≠i:=fun e he hb heq=>by
    have h1:=hall e he hb
    rw[heq] at h1
    rcases Nat.lt_or_ge i listed.size with h'|h'
    ·simp [h'] at hiun h1;rw[hiun] at h1;cases h1
    ·simp [Array.getElem?_eq_none h'] at h1
   have hjd:j∉ds:=fun hm=>Region.reach_not_ready hc (hd j hm hjun) hiun hj
   have h2:=wpOp_putIf hoj (hfree j oj hoj hji hjun hnot) (fun cs b=>hsel i oi cs b hi) (fun cs b=>hsel j oj cs b hoj) hQ hy h1
   have hfree':∀k ok,ops[k]?=some ok→k≠i→(listed.setIfInBounds j true).getD k true=false→
    (∀e∈ok.after,Region.binds md e=true→e.on≠i)→oi.apart ops ok=true:=fun k ok hk hki hun hno=>by
    refine hfree k ok hk hki ?_ hno
    by_cases hjk:j=k
    ·subst hjk;exact hjun
    ·rw[getD_set_ne true hjk] at hun;exact hun
   have hd':∀d∈ds,(listed.setIfInBounds j true).getD d true=false→Region.reachB md ops i n d=true:=fun d hm hun=>by
    refine hd d hm ?_
    by_cases hjk:j=d
    ·subst hjk;exact hjun
    ·rw[getD_set_ne true hjk] at hun;exact hun
   refine wpOp_mono (fun a' w' h3=>⟨h3.2.1,ih (listed.setIfInBounds j true) a' w' hfree' (hc.set hj) hd' (ready_mono hr (Ne.symm hji)) h3.1 (h3.2.1 hjd hS) ?_⟩) h2
   rw[Array.setIfInBounds_comm _ _ hji]
   exact h3.2.2
theorem wpAnyLast_any {i:Nat} {oi:Oper} {v:Value} (hi:ops[i]?=some oi) (hsel:∀(j:Nat) (o:Oper) cs b,ops[j]?=some o→o.op≠ .select cs b)
 (hQ:∀c a w,Q (.panic c) (a.put oi.dst v) w→Q (.panic c) a w):
 ∀(fuel:Nat) (listed:Array Bool) (a:Act) (w:World),
  (∀j oj,ops[j]?=some oj→j≠i→listed.getD j true=false→(∀e∈oj.after,Region.binds md e=true→e.on≠i)→oi.apart ops oj=true)→
  i∈Region.ready md ops listed→Yields P ops oi v a→
  wpAnyLast P md ops Q S ds fuel (listed.setIfInBounds i true) (a.put oi.dst v) w→wpAnyLast P md ops Q S ds (fuel+1) listed a w:=by
 intro fuel
 induction fuel with
 |zero=>
  intro listed a w _ hr hy H
  refine⟨fun h=>(by rw[h] at hr;cases hr),fun j hj=>?_⟩
  by_cases hji:j=i
  ·subst hji;exact(hy.yieldsIf (S:=fun _=>True)).wpOp hi trivial ⟨fun _ h=>h,H⟩
  ·have:=ready_mono hj hji
   rw[H.1] at this
   cases this
 |succ fuel ih=>
  intro listed a w hfree hr hy H
  refine⟨fun h=>(by rw[h] at hr;cases hr),fun j hj=>?_⟩
  by_cases hji:j=i
  ·subst hji;exact(hy.yieldsIf (S:=fun _=>True)).wpOp hi trivial ⟨fun _ h=>h,H⟩
  ·have h1:=H.2 j (ready_mono hj hji)
   obtain⟨hjun,oj,hoj,hall⟩:=mem_ready.1 hj
   have hiun:=(mem_ready.1 hr).1
   have hnot:∀e∈oj.after,Region.binds md e=true→e.on≠i:=fun e he hb heq=>by
    have h1:=hall e he hb
    rw[heq] at h1
    rcases Nat.lt_or_ge i listed.size with h'|h'
    ·simp [h'] at hiun h1;rw[hiun] at h1;cases h1
    ·simp [Array.getElem?_eq_none h'] at h1
   have h2:=wpOp_put hoj (hfree j oj hoj hji hjun hnot) (fun cs b=>hsel i oi cs b hi) (fun cs b=>hsel j oj cs b hoj) hQ hy h1
   have hfree':∀k ok,ops[k]?=some ok→k≠i→(listed.setIfInBounds j true).getD k true=false→
    (∀e∈ok.after,Region.binds md e=true→e.on≠i)→oi.apart ops ok=true:=fun k ok hk hki hun hno=>by
    refine hfree k ok hk hki ?_ hno
    by_cases hjk:j=k
    ·subst hjk;exact hjun
    ·rw[getD_set_ne true hjk] at hun;exact hun
   refine wpOp_mono (fun a' w' h3=>⟨h3.2.1,ih (listed.setIfInBounds j true) a' w' hfree' (ready_mono hr (Ne.symm hji)) h3.1 ?_⟩) h2
   rw[Array.setIfInBounds_comm _ _ hji]
   exact h3.2.2
theorem wpAnyLast_take {i:Nat} {oi:Oper} {v:Value} {fuel:Nat} {listed:Array Bool} {a:Act} {w:World} (hi:ops[i]?=some oi)
 (hs:Region.noSelect ops=true) (hf:Region.free md ops listed i=true) (hr:(Region.ready md ops listed).contains i=true)
 (hc:Region.closedB md ops listed=true) (hl:Region.lastB md ops listed ds i=true)
 (hQ:∀c a w,Q (.panic c) (a.put oi.dst v) w→Q (.panic c) a w) (hy:YieldsIf P ops S oi v a) (hS:S w)
 (h:wpAnyLast P md ops Q S ds fuel (listed.setIfInBounds i true) (a.put oi.dst v) w):wpAnyLast P md ops Q S ds (fuel+1) listed a w:=
 wpAnyLast_first hi (Region.noSelect_spec hs) hQ ops.size fuel listed a w (Region.free_spec hi hf) (Region.closedB_spec hc)
  (fun d hm hun=>by have:=List.all_eq_true.1 hl d hm;rw[hun] at this;simpa using this) (by simpa using hr) hy hS h
theorem wpAnyLast_all {rs:List Nat} {fuel:Nat} {listed:Array Bool} {a:Act} {w:World} (hr:Region.ready md ops listed=rs) (hne:rs≠[])
 (h:∀i∈rs,wpOp P ops Q i (fun a' w'=>(i∉ds→S w→S w')∧wpAnyLast P md ops Q S ds fuel (listed.setIfInBounds i true) a' w') a w):wpAnyLast P md ops Q S ds (fuel+1) listed a w:=
 ⟨fun h0=>absurd (hr ▸ h0) hne,hr ▸ h⟩
theorem wpAnyLast_done {listed:Array Bool} {a:Act} {w:World} (hr:Region.ready md ops listed=[]) (h:Q .normal a w):
 ∀fuel,wpAnyLast P md ops Q S ds fuel listed a w
 |0=>⟨hr,h⟩
 |_+1=>⟨fun _=>h,by rw[hr];simp⟩
theorem wp_region_last {id:Nat} {a:Act} {w:World} (hm:P.follows .mixedOrders=true)
 (h:wpAnyLast P .any ops Q S ds ops.size (Array.replicate ops.size false) a {w with drawn:=w.drawn+1}):(Code.region id ops true).wp P Q a w:=
 wp_region_any hm (wpAny_of_last _ _ _ _ h)
end
section
variable {P:Program} {ops:Array Oper} {Q:Exit→Act→World→Prop} {md:Region.Mode} {S:World→Prop} {ds:List Nat}
def AllReadyL (P:Program) (md:Region.Mode) (ops:Array Oper) (Q:Exit→Act→World→Prop) (S:World→Prop) (ds:List Nat) (fuel:Nat) (listed:Array Bool) (a:Act) (w:World) (rs:List Nat):Prop:=
 ∀i∈rs,wpOp P ops Q i (fun a' w'=>(i∉ds→S w→S w')∧wpAnyLast P md ops Q S ds fuel (listed.setIfInBounds i true) a' w') a w
theorem AllReadyL.nil {fuel:Nat} {listed:Array Bool} {a:Act} {w:World}:AllReadyL P md ops Q S ds fuel listed a w []:=fun _ h=>by cases h
theorem AllReadyL.cons {fuel:Nat} {listed:Array Bool} {a:Act} {w:World} {i:Nat} {o:Oper} {rs:List Nat} (ho:ops[i]?=some o) (hd:i∉ds)
 (h:∀K':Act→World→Prop,Shut (∀a w,S w→(S w→wpAnyLast P md ops Q S ds fuel (listed.setIfInBounds i true) a w)→K' a w)→if Region.wanted o (yielded ops a.tmps)=true then Oper.wp P o a w K' Q else K' (a.put o.dst undef) w)
 (hs:AllReadyL P md ops Q S ds fuel listed a w rs):AllReadyL P md ops Q S ds fuel listed a w (i::rs):=fun j hj=>by
 rcases List.mem_cons.1 hj with rfl|hj
 ·exact wpOp_step ho (fun K' hK=>h K' (fun a w hS hW=>hK a w ⟨fun _ _=>hS,hW hS⟩))
 ·exact hs j hj
theorem AllReadyL.cons_last {fuel:Nat} {listed:Array Bool} {a:Act} {w:World} {i:Nat} {o:Oper} {rs:List Nat} (ho:ops[i]?=some o) (hd:i∈ds)
 (h:∀K':Act→World→Prop,Shut (∀a w,wpAnyLast P md ops Q S ds fuel (listed.setIfInBounds i true) a w→K' a w)→if Region.wanted o (yielded ops a.tmps)=true then Oper.wp P o a w K' Q else K' (a.put o.dst undef) w)
 (hs:AllReadyL P md ops Q S ds fuel listed a w rs):AllReadyL P md ops Q S ds fuel listed a w (i::rs):=fun j hj=>by
 rcases List.mem_cons.1 hj with rfl|hj
 ·exact wpOp_step ho (fun K' hK=>h K' (fun a w hW=>hK a w ⟨fun hn=>absurd hd hn,hW⟩))
 ·exact hs j hj
theorem wpAnyLast_ready {rs:List Nat} {fuel:Nat} {listed:Array Bool} {a:Act} {w:World} (hr:Region.ready md ops listed=rs) (hne:rs≠[])
 (h:AllReadyL P md ops Q S ds fuel listed a w rs):wpAnyLast P md ops Q S ds (fuel+1) listed a w:=wpAnyLast_all hr hne h
theorem start_ {id n:Nat} {a:Act} {w:World} (l:Array Bool) (hm:P.follows .mixedOrders=true) (hn:ops.size=n) (hl:Array.replicate n false=l) (hS:S w.drew)
 (h:S w.drew→wpAnyLast P .any ops Q S ds n l a w.drew):(Code.region id ops true).wp P Q a w:=by
 subst hn
 subst hl
 exact wp_region_last hm (h hS)
def takeB (md:Region.Mode) (ops:Array Oper) (ds:List Nat) (l l':Array Bool) (i:Nat):Bool:=
 Region.noSelect ops&&Region.free md ops l i&&(Region.ready md ops l).contains i&&Region.closedB md ops l&&Region.lastB md ops l ds i&&(l.setIfInBounds i true==l')
theorem take_ {i:Nat} {N:Option Tmp} {oi:Oper} {v:Value} {fuel:Nat} {l:Array Bool} {a:Act} {w:World} (l':Array Bool) (hi:ops[i]?=some oi) (hN:oi.dst=N) (hc:takeB md ops ds l l' i=true)
 (hQ:∀c a w,Q (.panic c) (a.put oi.dst v) w→Q (.panic c) a w) (hy:YieldsIf P ops S oi v a) (hS:S w) {a':Act} (ha:a.put N v=a')
 (h:wpAnyLast P md ops Q S ds fuel l' a' w):wpAnyLast P md ops Q S ds (fuel+1) l a w:=by
 subst ha
 subst hN
 simp only[takeB,Bool.and_eq_true,beq_iff_eq] at hc
 obtain⟨⟨⟨⟨⟨h1,h2⟩,h3⟩,h4⟩,h5⟩,h6⟩:=hc
 subst h6
 exact wpAnyLast_take hi h1 h2 h3 h4 h5 hQ hy hS h
def anyB (md:Region.Mode) (ops:Array Oper) (l l':Array Bool) (i:Nat):Bool:=
 Region.noSelect ops&&Region.free md ops l i&&(Region.ready md ops l).contains i&&(l.setIfInBounds i true==l')
theorem pure_ {i:Nat} {N:Option Tmp} {oi:Oper} {v:Value} {fuel:Nat} {l:Array Bool} {a:Act} {w:World} (l':Array Bool) (hi:ops[i]?=some oi) (hN:oi.dst=N) (hc:anyB md ops l l' i=true)
 (hQ:∀c a w,Q (.panic c) (a.put oi.dst v) w→Q (.panic c) a w) (hy:Yields P ops oi v a) {a':Act} (ha:a.put N v=a')
 (h:wpAnyLast P md ops Q S ds fuel l' a' w):wpAnyLast P md ops Q S ds (fuel+1) l a w:=by
 subst ha
 subst hN
 simp only[anyB,Bool.and_eq_true,beq_iff_eq] at hc
 obtain⟨⟨⟨h1,h2⟩,h3⟩,h6⟩:=hc
 subst h6
 exact wpAnyLast_any hi (Region.noSelect_spec h1) hQ fuel l a w (Region.free_spec hi h2) (by simpa using h3) hy h
def readyB (md:Region.Mode) (ops:Array Oper) (l l':Array Bool) (i:Nat):Bool:=(Region.ready md ops l==[i])&&(l.setIfInBounds i true==l')
theorem one_ {i:Nat} {N:Option Tmp} {oi:Oper} {fuel:Nat} {l:Array Bool} {a:Act} {w:World} (l':Array Bool) (hi:ops[i]?=some oi) (hN:oi.dst=N) (hc:readyB md ops l l' i=true) (hd:i∉ds)
 (h:∀K:Act→World→Prop,Shut (∀a' w',S w'→(S w'→wpAnyLast P md ops Q S ds fuel l' a' w')→K a' w')→if Region.wanted oi (yielded ops a.tmps)=true then Oper.wp P oi a w K Q else K (a.put N undef) w):
 wpAnyLast P md ops Q S ds (fuel+1) l a w:=by
 subst hN
 simp only[readyB,Bool.and_eq_true,beq_iff_eq] at hc
 obtain⟨h1,h2⟩:=hc
 subst h2
 exact wpAnyLast_ready h1 (by simp) (AllReadyL.cons hi hd (fun K hK=>h K hK) AllReadyL.nil)
theorem last_ {i:Nat} {N:Option Tmp} {oi:Oper} {fuel:Nat} {l:Array Bool} {a:Act} {w:World} (l':Array Bool) (hi:ops[i]?=some oi) (hN:oi.dst=N) (hc:readyB md ops l l' i=true) (hd:i∈ds)
 (h:∀K:Act→World→Prop,Shut (∀a' w',wpAnyLast P md ops Q S ds fuel l' a' w'→K a' w')→if Region.wanted oi (yielded ops a.tmps)=true then Oper.wp P oi a w K Q else K (a.put N undef) w):
 wpAnyLast P md ops Q S ds (fuel+1) l a w:=by
 subst hN
 simp only[readyB,Bool.and_eq_true,beq_iff_eq] at hc
 obtain⟨h1,h2⟩:=hc
 subst h2
 exact wpAnyLast_ready h1 (by simp) (AllReadyL.cons_last hi hd (fun K hK=>h K hK) AllReadyL.nil)
theorem done_ {l:Array Bool} {a:Act} {w:World} {n:Nat} (hr:(Region.ready md ops l==[])=true) (h:Q .normal a w):wpAnyLast P md ops Q S ds n l a w:=wpAnyLast_done (by simpa using hr) h n
theorem norm_ {fuel:Nat} {l:Array Bool} {a a':Act} {w:World} (ha:a=a') (h:wpAnyLast P md ops Q S ds fuel l a' w):wpAnyLast P md ops Q S ds fuel l a w:=by
 subst ha
 exact h
theorem call_ {oi:Oper} {N:Option Tmp} {a:Act} {w:World} {K:Act→World→Prop} (f:FuncId) (args:Array Value) (hw:Region.wanted oi (yielded ops a.tmps)=true) (hN:oi.dst=N) (hrun:(execOp a.eval oi).run P w= .ok (.enter f args) w)
 (h:Calls P f args w fun e w'=>∃v,e= .returned v∧K (a.put N v) w'):if Region.wanted oi (yielded ops a.tmps)=true then Oper.wp P oi a w K Q else K (a.put N undef) w:=by
 rw[if_pos hw]
 subst hN
 unfold Oper.wp
 rw[hrun,Oper.upon_enter]
 refine h.mono fun e w'' hh=>?_
 obtain⟨v,rfl,hk⟩:=hh
 exact hk
theorem enters_ {f:FuncId} {fn:Func} (hf:P.funcs[f]?=some fn) (hname:(fn.name== "runtime.NumGoroutine")=false) (hb:fn.body.isSome=true) (args:Array Value) (w:World):(callFunc f args).run P w= .ok (.enter f args) w:=by
 have h1:fn.name≠ "runtime.NumGoroutine" :=by simpa using hname
 obtain⟨c,hc⟩:=Option.isSome_iff_exists.1 hb
 simp [callFunc,hf,h1,hc]
theorem goes_ {oi:Oper} {N:Option Tmp} {a:Act} {w:World} {K:Act→World→Prop} {f:FuncId} {fn:Func} {as_:Array Operand} {ts:Array TypeId} (hf:P.funcs[f]?=some fn) (hname:(fn.name== "runtime.NumGoroutine")=false) (hb:fn.body.isSome=true) (args:Array Value)
 (hw:Region.wanted oi (yielded ops a.tmps)=true) (hN:oi.dst=N) (hop:oi.op= .call {callee:= .value (.func f),args:=as_,argTypes:=ts}) (hargs:as_.map a.eval=args)
 (h:Calls P f args w fun e w'=>∃v,e= .returned v∧K (a.put N v) w'):if Region.wanted oi (yielded ops a.tmps)=true then Oper.wp P oi a w K Q else K (a.put N undef) w:=by
 refine call_ f args hw hN ?_ h
 have he:=enters_ hf hname hb args w
 unfold execOp
 simp [hop,resolve,Deferred.ofValue,invoke,Act.eval,hargs,he]
theorem goesL_ {rest:List Oper} {oi:Oper} {a:Act} {w:World} (N:Option Tmp) (hd:oi.dst=N) (hg:oi.guard=none) {f:FuncId} {fn:Func} {as_:Array Operand} {ts:Array TypeId} (hf:P.funcs[f]?=some fn) (hname:(fn.name== "runtime.NumGoroutine")=false) (hb:fn.body.isSome=true) (args:Array Value)
 (hop:oi.op= .call {callee:= .value (.func f),args:=as_,argTypes:=ts}) (hargs:as_.map a.eval=args)
 (h:Calls P f args w fun e w'=>∃v,e= .returned v∧wpList P ops Q rest (a.put N v) w'):wpList P ops Q (oi::rest) a w:=by
 refine wpList_plain hg fun K hK=>?_
 have he:=enters_ hf hname hb args w
 have hrun:(execOp a.eval oi).run P w= .ok (.enter f args) w:=by
  unfold execOp
  simp [hop,resolve,Deferred.ofValue,invoke,Act.eval,hargs,he]
 unfold Oper.wp
 rw[hrun,Oper.upon_enter]
 refine h.mono fun e w'' hh=>?_
 obtain⟨v,rfl,hk⟩:=hh
 subst hd
 exact hK _ _ hk
theorem value_ {oi:Oper} {N:Option Tmp} {a:Act} {w w1:World} {v:Value} {K:Act→World→Prop} (hw:Region.wanted oi (yielded ops a.tmps)=true) (hN:oi.dst=N) (hrun:(execOp a.eval oi).run P w= .ok (.value v) w1)
 (h:K (a.put N v) w1):if Region.wanted oi (yielded ops a.tmps)=true then Oper.wp P oi a w K Q else K (a.put N undef) w:=by
 rw[if_pos hw]
 subst hN
 unfold Oper.wp
 rw[hrun]
 exact h
theorem skip_ {oi:Oper} {a:Act} {w w1:World} {K:Act→World→Prop} (hw:Region.wanted oi (yielded ops a.tmps)=true) (hN:oi.dst=none) (hrun:(execOp a.eval oi).run P w= .ok .skip w1)
 (h:K a w1):if Region.wanted oi (yielded ops a.tmps)=true then Oper.wp P oi a w K Q else K (a.put none undef) w:=by
 rw[if_pos hw]
 unfold Oper.wp
 rw[hrun]
 show K (a.put oi.dst undef) w1
 rw[hN]
 exact h
theorem i64_w (n:Int):IntKind.i64.wrap n=Go.RowKit.wrap64 n:=by unfold Go.RowKit.wrap64;exact IntKind.wrap_i64 n
theorem i32_w (n:Int):IntKind.i32.wrap n=Go.RowKit.wrap32 n:=by unfold Go.RowKit.wrap32;exact IntKind.wrap_i32 n
end
end Go.Proofs.YtifkbghnmhineaaW.PrintLast
end
section
namespace Go.Proofs.YtifkbghnmhineaaW.PrintWords
open Go.RowKit
namespace Kd
def tag {α:Type} (f:Nat→Nat) (d:Kd α):Kd (α×Nat) where
 sz:=d.sz
 E:=d.E
 K:=fun w x cs=>d.K w x.1 cs
 M:=fun w base ok x cs=>d.M w base (fun k=>ok k∧f k=x.2) x.1 cs
 K_len:=fun h=>d.K_len h
 K_one:=fun h=>d.K_one h
 K_below:=fun hb h=>d.K_below hb h
 K_of_M:=fun h=>d.K_of_M h
 M_mono:=fun hok h=>d.M_mono (fun k hk=>⟨hok k hk.1,hk.2⟩) h
 M_bound:=fun h=>d.M_mono (fun _ hk=>⟨⟨hk.1.1,hk.2⟩,hk.1.2⟩) (d.M_bound h)
 M_move:=fun hm h=>d.M_move (fun k hk=>hm k hk.1) h
 M_lower:=fun hb h=>d.M_lower hb h
def raw (sz:Nat):Kd (List Value) where
 sz:=sz
 E:=[]
 K:=fun _ x cs=>cs=x∧cs.length=sz∧∀u∈cs,u.oneCell'=true
 M:=fun _ _ _ x cs=>cs=x∧cs.length=sz∧∀u∈cs,u.oneCell'=true
 K_len:=fun h=>h.2.1
 K_one:=fun h=>h.2.2
 K_below:=fun _ h=>h
 K_of_M:=fun h=>h
 M_mono:=fun _ h=>h
 M_bound:=fun h=>h
 M_move:=fun _ h=>h
 M_lower:=fun _ h=>h
def S {α:Type} (d:Kd α) (e:Nat) (w:World) (base:Nat) (ok:Nat→Prop) (v:Value) (xs:List α):Prop:=∃f,(tag f d).R e w base ok v xs.zipIdx
section
variable {α β:Type} {d:Kd α} {d':Kd β} {e e':Nat} {w w1 W:World} {base b:Nat} {ok ok' okv oku:Nat→Prop} {u v:Value} {xs:List α} {ys:List β}
theorem zip_at {xs:List α} {j:Nat} {p:α} (h:xs[j]?=some p):xs.zipIdx[j]?=some (p,j):=by rw[List.getElem?_zipIdx,h,Nat.zero_add];rfl
theorem S_R (h:S d e w base ok v xs):d.R e w base ok v xs:=by
 obtain⟨f,h0,inner,ho,hr⟩:=h
 rw[List.length_zipIdx] at ho
 exact⟨h0,inner,ho,by have:=hr.1;rw[List.length_zipIdx] at this;exact this,fun j p hj=>d.M_mono (fun _ hk=>hk.1) (hr.2 j (p,j) (zip_at hj))⟩
theorem R_head {ad:Addr} {n cap:Nat} (h:d.R e w base ok (.slice (some ad) n cap) xs):∃g,ad=⟨g,0,none⟩:=by
 obtain⟨_,inner,ho,hr⟩:=h
 rcases ho.2 with⟨hv,_⟩|⟨g,cap',cur,hv,_⟩
 ·cases hv
 ·injection hv with ha _ _
  injection ha with ha
  exact⟨g,ha⟩
theorem R_tight (hE:d.E=[]) (h:d.R e w base ok v xs):d.R e w base (fun k=>some k=v.ownBlock) v xs:=by
 obtain⟨h0,inner,ho,hr⟩:=h
 refine⟨fun k hk=>hk.symm,inner,ho,hr.imp_ (fun p c hp=>d.M_mono (fun k hk=>?_) (d.M_bound hp))⟩
 obtain⟨_,_,_,q,hq,_⟩:=hk
 rw[hE] at hq
 cases hq
theorem S_nil (d:Kd α) (e:Nat) (w:World) (base:Nat) (ok:Nat→Prop):S d e w base ok (.slice none 0 0) []:=⟨fun _=>0,R_nil _ _ _ _ _⟩
theorem S_mono (h:S d e w base ok v xs) (hok:∀k,ok k→ok' k):S d e w base ok' v xs:=by
 obtain⟨f,h⟩:=h
 exact⟨f,R_mono h hok⟩
theorem S_bound (h:S d e w base ok v xs):S d e w base (fun k=>ok k∧base≤k∧k<w.heap.size∧∃q,q∈e::d.E∧∃cells,w.heap[k]?=some (.cells cells q (0,0))) v xs:=by
 obtain⟨f,h⟩:=h
 exact⟨f,R_bound h⟩
theorem S_move (h:S d e w base ok v xs) (hm:∀k,ok k→w1.heap[k]?=w.heap[k]?):S d e w1 base ok v xs:=by
 obtain⟨f,h⟩:=h
 exact⟨f,R_move h hm⟩
theorem S_step (h:S d e w base ok v xs) (hm:∀k,ok k→k<w.heap.size→w1.heap[k]?=w.heap[k]?):S d e w1 base ok v xs:=
 S_mono (S_move (S_bound h) (fun k hk=>hm k hk.1 hk.2.2.1)) (fun _ hk=>hk.1)
theorem S_below (h:S d e w base ok v xs) (hb:Below w.heap.size w w1):S d e w1 base ok v xs:=S_step h (fun k _ hk=>hb.block k hk)
theorem S_alloc (h:S d e w base ok v xs) (o:Obj):S d e (w.alloc o) base ok v xs:=S_below h (below_alloc (Below.refl _ _) o)
theorem S_drew (h:S d e w base ok v xs):S d e w.drew base ok v xs:=S_below h (below_drew (Below.refl _ _))
theorem S_drewN (h:S d e w base ok v xs) (m:Nat):S d e (w.drewN m) base ok v xs:=S_below h (pw_below_drewN (Below.refl _ _) m)
theorem S_typed (h:S d e w base ok v xs):∀k,v.ownBlock=some k→∃cells,w.heap[k]?=some (.cells cells e (0,0)):=R_typed (S_R h)
theorem S_base (h:S d e w base ok v xs):∀k,v.ownBlock=some k→base≤k:=R_base (S_R h)
theorem S_elder' (h:S d e W base ok u xs) (hbase:∀k,v.ownBlock=some k→W.heap.size≤k) (hb:Below W.heap.size W w1):S d e w1 base (fun k=>ok k∧some k≠v.ownBlock) u xs:=by
 obtain⟨f,h⟩:=h
 exact⟨f,R_elder' h hbase hb⟩
theorem R_tag {f f':Nat→Nat} {zs:List (α×Nat)} (h:(tag f d).R e w base ok v zs) (hf:∀k,ok k→k<w.heap.size→f' k=f k):(tag f' d).R e w base ok v zs:=by
 obtain⟨h0,inner,ho,hr⟩:=R_bound h
 exact⟨fun k hk=>(h0 k hk).1,inner,ho,hr.1,fun j p hj=>d.M_mono (fun k hk=>⟨⟨hk.1.1.1,hk.1.2⟩,(hf k hk.1.1.1 hk.1.1.2.2.1).trans hk.2⟩) (hr.2 j p hj)⟩
end
section
variable {α β:Type} {d:Kd α} {d':Kd β} {e e' g:Nat} {w w1 W:World} {base b:Nat} {ok ok' okv oku:Nat→Prop} {u v:Value} {xs:List α} {ys:List β}
theorem zip_snoc (xs:List α) (p:α):(xs++[p]).zipIdx=xs.zipIdx++[(p,xs.length)]:=by rw[List.zipIdx_append];simp
end
section
open Classical in
theorem S_tag {α:Type} {d:Kd α} {e base:Nat} {okv:Nat→Prop} {w:World} {v:Value} {xs:List α} (h:S d e w base okv v xs) (m:Nat) (okp:Nat→Prop) (hap:∀k,okp k→¬okv k):∃f,(∀k,okp k→f k=m)∧(tag f d).R e w base okv v xs.zipIdx:=by
 obtain⟨f,h⟩:=h
 exact⟨fun k=>if okp k then m else f k,fun k hk=>if_pos hk,R_tag h (fun k hk _=>if_neg (fun h2=>hap k h2 hk))⟩
variable {P:Program} {ops:Array Oper} {rest:List Oper} {o:Oper} {a:Act} {Q:Exit→Act→World→Prop} {Kc:Act→World→Prop} {α:Type}
theorem S_append (d:Kd α) {w0 W:World} (base:Nat) (hgd:o.guard=none) (s x:Operand) (t e:TypeId) (z:Value) (bytes:Nat)
 (ho:o.op= .call {callee:= .builtin .append,args:= #[s,x],argTypes:= #[t,t]})
 (ht:P.underlying t=some (.slice e)) (hinfo:(P.info? e).map (fun i=>(i.zero,i.size,i.bytes))=some (some z,d.sz,bytes)) (hz:z.cells.size=d.sz) (hs0:0<d.sz) (hb0:0<bytes)
 (v:Value) (xs:List α) (p:α) (cs:List Value) (ok okp:Nat→Prop) (hs:a.eval s=v) (hx:a.eval x= .slice (some ⟨W.heap.size,0,none⟩) 1 1) (hp:d.M W base okp p cs) (hokp:∀k,okp k→ok k∧some k≠v.ownBlock) (hfresh:∀k,W.heap.size≤k→ok k)
 (HO:S d e W base (fun k=>ok k∧¬okp k) v xs) (HB:Below base w0 W) (hbase:base≤W.heap.size) (hl:(xs.length+1)*bytes≤140737488355328)
 (h:∀v1 w1,S d e w1 base ok v1 (xs++[p])→Below base w0 w1→W.grownBy w1 v.ownBlock→(v1.ownBlock=v.ownBlock∨∃b,v1.ownBlock=some b∧W.heap.size≤b)→wpList P ops Q rest (a.put o.dst v1) w1):
 wpList P ops Q (o::rest) a (W.alloc (.cells cs.toArray e)):=by
 obtain⟨f,hf,hR⟩:=S_tag HO xs.length okp (fun _ hk h2=>h2.2 hk)
 refine R_append (tag f d) base hgd s x t e z bytes ho ht hinfo hz hs0 hb0 v xs.zipIdx (p,xs.length) cs ok okp hs hx (d.M_mono (fun k hk=>⟨hk,hf k hk⟩) hp) hokp hfresh (R_mono hR (fun _ hk=>hk.1)) HB hbase (by rw[List.length_zipIdx];exact hl) ?_
 intro v1 w1 hr
 rw[←zip_snoc] at hr
 exact h v1 w1 ⟨f,hr⟩
end
def gap {α:Type} (f:Nat→Nat) (d:Kd α) (i:Nat) (c:List Value):Kd (α×Nat) where
 sz:=d.sz
 E:=d.E
 K:=fun w x cs=>(x.2=i→cs=c∧cs.length=d.sz∧∀u∈cs,u.oneCell'=true)∧(x.2≠i→d.K w x.1 cs)
 M:=fun w base ok x cs=>(x.2=i→cs=c∧cs.length=d.sz∧∀u∈cs,u.oneCell'=true)∧(x.2≠i→d.M w base (fun k=>ok k∧f k=x.2) x.1 cs)
 K_len:=fun {w x cs} h=>by
  by_cases hx:x.2=i
  ·exact(h.1 hx).2.1
  ·exact d.K_len (h.2 hx)
 K_one:=fun {w x cs} h=>by
  by_cases hx:x.2=i
  ·exact(h.1 hx).2.2
  ·exact d.K_one (h.2 hx)
 K_below:=fun hb h=>⟨h.1,fun hx=>d.K_below hb (h.2 hx)⟩
 K_of_M:=fun h=>⟨h.1,fun hx=>d.K_of_M (h.2 hx)⟩
 M_mono:=fun hok h=>⟨h.1,fun hx=>d.M_mono (fun k hk=>⟨hok k hk.1,hk.2⟩) (h.2 hx)⟩
 M_bound:=fun h=>⟨h.1,fun hx=>d.M_mono (fun _ hk=>⟨⟨hk.1.1,hk.2⟩,hk.1.2⟩) (d.M_bound (h.2 hx))⟩
 M_move:=fun hm h=>⟨h.1,fun hx=>d.M_move (fun k hk=>hm k hk.1) (h.2 hx)⟩
 M_lower:=fun hb h=>⟨h.1,fun hx=>d.M_lower hb (h.2 hx)⟩
def H {α:Type} (d:Kd α) (e:Nat) (w:World) (base:Nat) (ok:Nat→Prop) (v:Value) (xs:List α) (i:Int) (oki:Nat→Prop) (c:List Value):Prop:=
 (∀k,oki k→ok k)∧∃f,(gap f d i.toNat c).R e w base (fun k=>ok k∧¬oki k) v xs.zipIdx
end Kd
end Go.Proofs.YtifkbghnmhineaaW.PrintWords
end
section
namespace Go.Proofs.YtifkbghnmhineaaW.PrintWords
open Go.RowKit
namespace Kd
structure Heap {α:Type} (d:Kd α):Prop where
 K:∀{w w1:World} {x:α} {cs:List Value},(∀k,k<w.heap.size→w1.heap[k]?=w.heap[k]?)→d.K w x cs→d.K w1 x cs
theorem cell_heap {w w1:World} (hb:∀k,k<w.heap.size→w1.heap[k]?=w.heap[k]?) {a:Addr} {v:Value} (h:w.cell? a=some v):w1.cell? a=some v:=by
 have:=hb a.block (World.block_lt_of_cell? w a h)
 simpa [World.cell?,this] using h
theorem Heap.C {α:Type} {d:Kd α} (hd:Heap d) {w w1:World} {A:Option Addr} {n:Nat} {xs:List α} (hb:∀k,k<w.heap.size→w1.heap[k]?=w.heap[k]?) (h:d.C w A n xs):d.C w1 A n xs:=
 ⟨h.1,h.2.1,fun hn=>by
  obtain⟨ad,e,hc⟩:=h.2.2 hn
  refine⟨ad,e,fun j p hj=>?_⟩
  obtain⟨c,hs,hr,hcell⟩:=hc j p hj
  exact⟨c,hs,hd.K hb hr,fun i u hu=>cell_heap hb (hcell i u hu)⟩⟩
theorem heap_int (k:IntKind):Heap (Kd.int k):=⟨fun _ h=>h⟩
end Kd
end Go.Proofs.YtifkbghnmhineaaW.PrintWords
end
section
namespace Go.Proofs.YtifkbghnmhineaaW.PrintWords
open Go.RowKit
def Kept (w W:World) (S:Nat→Prop):Prop:=w.heap.size≤W.heap.size∧∀i,i<w.heap.size→¬S i→W.heap[i]?=w.heap[i]?
section
variable {w W W2:World} {S S2 S':Nat→Prop}
theorem Kept.refl (w:World) (S:Nat→Prop):Kept w w S:=⟨Nat.le_refl _,fun _ _ _=>rfl⟩
theorem Kept.of_below (h:Below w.heap.size w W) (S:Nat→Prop):Kept w W S:=⟨h.size,fun i hi _=>h.block i hi⟩
theorem Kept.mono (h:Kept w W S) (hs:∀k,S k→S' k):Kept w W S':=⟨h.1,fun i hi hn=>h.2 i hi (fun hk=>hn (hs i hk))⟩
theorem Kept.then_ (h:Kept w W S) (k:Kept W W2 S2) (hs:∀k,S2 k→S k∨w.heap.size≤k):Kept w W2 S:=
 ⟨Nat.le_trans h.1 k.1,fun i hi hn=>(k.2 i (Nat.lt_of_lt_of_le hi h.1) (fun h2=>(hs i h2).elim hn (fun h3=>by omega))).trans (h.2 i hi hn)⟩
theorem Kept.of_grown {row:Option Nat} (hg:W.grownBy W2 row) (h:Kept w W S) (hr:∀k,row=some k→S k∨w.heap.size≤k):Kept w W2 S:=
 h.then_ (S2:=fun k=>row=some k) ⟨hg.size,fun i hi hn=>hg.block i hi (fun he=>hn he.symm)⟩ hr
theorem Kept.below (h:Kept w W S) (hb:Below W.heap.size W W2):Kept w W2 S:=h.then_ (Kept.of_below hb (fun _=>False)) (fun _ hk=>hk.elim)
theorem Kept.alloc (h:Kept w W S) (o:Obj):Kept w (W.alloc o) S:=h.below (below_alloc (Below.refl _ _) o)
theorem Kept.drew (h:Kept w W S):Kept w W.drew S:=h
theorem Kept.drewN (h:Kept w W S) (m:Nat):Kept w (W.drewN m) S:=h
theorem Kept.setCell (h:Kept w W S) {p:Addr} (hp:S p.block∨w.heap.size≤p.block) (u:Value):Kept w (W.setCell p u) S:=
 h.then_ (S2:=fun k=>k=p.block) ⟨by simp [World.setCell],fun i _ hn=>Below.heap_setCell W p u i hn⟩ (fun k hk=>by rw[hk];exact hp)
end
namespace Kd
section
variable {α:Type} {d:Kd α} {e base n c:Nat} {ok oki S S2:Nat→Prop} {w w0 W W1 W2:World} {v:Value} {A:Option Addr} {xs:List α} {i:Int} {cs:List Value}
theorem R_kept (h:d.R e W base ok v xs) (hk:Kept W W2 S) (hne:∀k,ok k→¬S k):d.R e W2 base ok v xs:=R_step h (fun k ho hlt=>hk.2 k hlt (hne k ho))
theorem C_kept_now (h:∀W',Kept w W' S→d.C W' A n xs) (hk:Kept w W S):d.C W A n xs:=h W hk
end
end Kd
end Go.Proofs.YtifkbghnmhineaaW.PrintWords
end
section
namespace Go.Proofs.YtifkbghnmhineaaW.PrintWords
open Go.RowKit
def Foot (P:World→Prop) (W:World) (ok:Nat→Prop):Prop:=∀W':World,(∀k,ok k→k<W.heap.size→W'.heap[k]?=W.heap[k]?)→P W'
theorem heap_lt {W W1:World} {k:Nat} (h:W1.heap[k]?=W.heap[k]?) (hlt:k<W.heap.size):k<W1.heap.size:=by
 rw[Array.getElem?_eq_getElem hlt] at h
 exact(Array.getElem?_eq_some_iff.1 h).1
namespace Foot
variable {P Q:World→Prop} {W W1:World} {ok ok':Nat→Prop}
theorem now (h:Foot P W ok):P W:=h W (fun _ _ _=>rfl)
theorem mono (h:Foot P W ok) (hok:∀k,ok k→ok' k):Foot P W ok':=fun W' hW=>h W' (fun k hk hlt=>hW k (hok k hk) hlt)
theorem bound (h:Foot P W ok):Foot P W (fun k=>ok k∧k<W.heap.size):=fun W' hW=>h W' (fun k hk hlt=>hW k ⟨hk,hlt⟩ hlt)
theorem step (h:Foot P W ok) (hm:∀k,ok k→k<W.heap.size→W1.heap[k]?=W.heap[k]?):Foot P W1 ok:=fun W' hW=>h W' (fun k hk hlt=>(hW k hk (heap_lt (hm k hk hlt) hlt)).trans (hm k hk hlt))
theorem imp (h:Foot P W ok) (hi:∀W',P W'→Q W'):Foot Q W ok:=fun W' hW=>hi W' (h W' hW)
theorem old (h:Foot P W ok) (hb:Below W.heap.size W W1):Foot P W1 (fun k=>ok k∧k<W.heap.size):=(h.bound).step (fun k _ hlt=>hb.block k hlt)
end Foot
namespace Kd
def F {α:Type} (d:Kd α) (W:World) (ok:Nat→Prop) (A:Option Addr) (n:Nat) (xs:List α):Prop:=Foot (fun W=>d.C W A n xs) W ok
def FK {α:Type} (d:Kd α) (W:World) (ok:Nat→Prop) (x:α) (c:List Value):Prop:=Foot (fun W=>d.K W x c) W ok
section
variable {α β:Type} {d:Kd α} {e base n n' cc g N:Nat} {ok ok' okp S:Nat→Prop} {w w0 w1 W W1:World} {A A':Option Addr} {u v v1:Value} {xs:List α} {xs':List β} {d':Kd β} {x:α} {c:List Value}
theorem F_now (h:F d W ok A n xs):d.C W A n xs:=Foot.now h
theorem F_mono (h:F d W ok A n xs) (hok:∀k,ok k→ok' k):F d W ok' A n xs:=Foot.mono h hok
theorem F_bound (h:F d W ok A n xs):F d W (fun k=>ok k∧k<W.heap.size) A n xs:=Foot.bound h
theorem F_step (h:F d W ok A n xs) (hm:∀k,ok k→k<W.heap.size→W1.heap[k]?=W.heap[k]?):F d W1 ok A n xs:=Foot.step h hm
theorem F_imp (h:F d W ok A n xs) (hi:∀W',d.C W' A n xs→d'.C W' A' n' xs'):F d' W ok A' n' xs':=Foot.imp h hi
theorem F_below (h:F d W ok A n xs) (hb:Below W.heap.size W W1):F d W1 ok A n xs:=F_step h (fun k _ hlt=>hb.block k hlt)
theorem F_alloc (h:F d W ok A n xs) (o:Obj):F d (W.alloc o) ok A n xs:=F_below h (below_alloc (Below.refl _ _) o)
theorem F_drew (h:F d W ok A n xs):F d W.drew ok A n xs:=F_below h (below_drew (Below.refl _ _))
theorem F_drewN (h:F d W ok A n xs) (m:Nat):F d (W.drewN m) ok A n xs:=F_below h (pw_below_drewN (Below.refl _ _) m)
theorem F_far (h:F d W ok A n xs) {p:Addr} (hok:∀k,ok k→k≠p.block) (u:Value):F d (W.setCell p u) ok A n xs:=F_step h (fun k hk _=>Below.heap_setCell W p u k (hok k hk))
theorem F_kept (h:F d W ok A n xs) (hk:Kept W W1 S) (hok:∀k,ok k→¬S k):F d W1 ok A n xs:=F_step h (fun k ho hlt=>hk.2 k hlt (hok k ho))
theorem F_nil (d:Kd α) (W:World) (ok:Nat→Prop):F d W ok none ([]:List α).length []:=fun W' _=>C_nil d W'
theorem F_elder' (h:F d W ok A n xs) (hbase:∀k,v.ownBlock=some k→W.heap.size≤k) (hb:Below W.heap.size W W1):F d W1 (fun k=>ok k∧some k≠v.ownBlock) A n xs:=
 F_mono (Foot.old h hb) (fun k hk=>⟨hk.1,fun he=>by have:=hbase k he.symm;have:=hk.2;omega⟩)
theorem F_elderB (h:F d W ok A n xs) (a:Nat) (ha:W.heap.size≤a):F d W (fun k=>ok k∧k≠a) A n xs:=F_mono (F_bound h) (fun k hk=>⟨hk.1,by have:=hk.2;omega⟩)
theorem F_after (h:F d W (fun k=>ok k∧some k≠v.ownBlock) A n xs) (hg:W.grownBy W1 v.ownBlock) (hat:v1.ownBlock=v.ownBlock∨∃b,v1.ownBlock=some b∧W.heap.size≤b):F d W1 (fun k=>ok k∧some k≠v1.ownBlock) A n xs:=by
 refine F_mono (Foot.step (F_bound h) (fun k hk hlt=>hg.block k hlt hk.1.2)) (fun k hk=>⟨hk.1.1,?_⟩)
 rcases hat with hat|⟨b,hb,hle⟩
 ·rw[hat];exact hk.1.2
 ·rw[hb]
  intro he
  injection he with he
  have:=hk.2
  omega
theorem F_old (h:F d W ok A n xs) (hb:Below W.heap.size W W1):F d W1 (fun k=>ok k∧k<W.heap.size) A n xs:=Foot.old h hb
theorem F_told (h:F d W1 (fun k=>ok k∧k<N) A n xs) (hbase:∀k,v.ownBlock=some k→N≤k):F d W1 (fun k=>(ok k∧some k≠v.ownBlock)∧k<N) A n xs:=
 F_mono h (fun k hk=>⟨⟨hk.1,fun he=>Nat.lt_irrefl _ (Nat.lt_of_lt_of_le hk.2 (hbase k he.symm))⟩,hk.2⟩)
theorem F_apart_nil (h:F d W ok A n xs):F d W (fun k=>ok k∧some k≠(Value.slice none 0 0).ownBlock) A n xs:=F_mono h (fun k hk=>⟨hk,by simp [Value.ownBlock]⟩)
theorem C_F (hd:Heap d) (h:d.C w A n xs):F d w (fun k=>k<w.heap.size) A n xs:=fun _ hW=>hd.C (fun k hlt=>hW k hlt hlt) h
theorem R_F (h:d.R e W base ok (.slice A n cc) xs):F d W ok A n xs:=fun W' hW=>by
 have h2:=R_reads' (R_step h hW)
 rw[h2.1]
 exact h2.2.2
theorem FK_now (h:FK d W ok x c):d.K W x c:=Foot.now h
theorem FK_mono (h:FK d W ok x c) (hok:∀k,ok k→ok' k):FK d W ok' x c:=Foot.mono h hok
theorem FK_bound (h:FK d W ok x c):FK d W (fun k=>ok k∧k<W.heap.size) x c:=Foot.bound h
theorem FK_step (h:FK d W ok x c) (hm:∀k,ok k→k<W.heap.size→W1.heap[k]?=W.heap[k]?):FK d W1 ok x c:=Foot.step h hm
theorem FK_of_M (h:d.M W base ok x c):FK d W ok x c:=fun _ hW=>d.K_of_M (M_step h hW)
theorem emptied (W:World) (g:Nat):∃W':World,(∀k,k≠g→W'.heap[k]?=W.heap[k]?)∧∀a:Addr,a.block=g→W'.cell? a=none:=by
 refine⟨{W with heap:=W.heap.setIfInBounds g (.cells #[] 0)},fun k hk=>by simp [Ne.symm hk],fun a ha=>?_⟩
 subst ha
 by_cases hlt:a.block<W.heap.size
 ·simp [World.cell?,hlt]
 ·simp [World.cell?,hlt]
end
end Kd
end Go.Proofs.YtifkbghnmhineaaW.PrintWords
end
section
namespace Go.Proofs.YtifkbghnmhineaaW.PrintWords
open Go.RowKit
namespace Kd
def chunks (sz:Nat) (n:Nat) (inner:List Value):List (List Value):=(List.range n).map fun j=>(inner.drop (j*sz)).take sz
theorem chunks_length (sz n:Nat) (inner:List Value):(chunks sz n inner).length=n:=by simp [chunks]
theorem chunks_at {sz n:Nat} {inner:List Value} {j:Nat} (hj:j<n):(chunks sz n inner)[j]?=some ((inner.drop (j*sz)).take sz):=by simp [chunks,hj]
theorem chunks_get {sz n:Nat} {inner:List Value} {j:Nat} {c:List Value} (h:(chunks sz n inner)[j]?=some c):c=(inner.drop (j*sz)).take sz:=by
 have hj:j<n:=by have:=(List.getElem?_eq_some_iff.1 h).1;rwa [chunks_length] at this
 rw[chunks_at hj] at h
 injection h with h
 exact h.symm
theorem reps_raw {α:Type} {Rr:α→List Value→Prop} {sz:Nat} {xs:List α} {inner:List Value} (h:Reps Rr sz xs inner) (hR:∀x c,Rr x c→c.length=sz∧∀u∈c,u.oneCell'=true):Reps (fun x cs=>cs=x∧cs.length=sz∧∀u∈cs,u.oneCell'=true) sz (chunks sz xs.length inner) inner:=by
 refine⟨by rw[chunks_length];exact h.1,fun j p hj=>?_⟩
 have hjl:j<xs.length:=by have:=(List.getElem?_eq_some_iff.1 hj).1;rwa [chunks_length] at this
 have hp:=chunks_get hj
 exact⟨hp.symm,hR _ _ (h.2 j _ (List.getElem?_eq_getElem hjl))⟩
section
variable {α:Type} {d:Kd α} {e base n cc g:Nat} {ok ok' okp S:Nat→Prop} {w w1 W W1:World} {A:Option Addr} {u v v1:Value} {xs:List α} {x:α} {c:List Value}
theorem F_get (h:F d W ok A n xs) (z:α) (i:Int) (h0:0≤i) (h1:i<n):
 ∃ad c,A=some ad∧c.length=d.sz∧FK d W ok (xs.getD i.toNat z) c∧(∀j u,c[j]?=some u→W.cell? (ad.add (i.toNat*d.sz+j))=some u)∧(0<d.sz→ok ad.block):=by
 obtain⟨ad,c,rfl,hcl,hK,hcc⟩:=C_get (F_now h) z i h0 h1
 have hin:0<d.sz→ok ad.block:=by
  intro hs
  by_cases hk:ok ad.block
  ·exact hk
  ·obtain⟨W',h2,h3⟩:=emptied W ad.block
   obtain⟨ad',c',he,hcl',_,hcc'⟩:=C_get (h W' (fun k hk' _=>h2 k (fun e=>hk (e ▸ hk')))) z i h0 h1
   injection he with he
   subst he
   have h4:=hcc' 0 _ (List.getElem?_eq_getElem (by omega))
   rw[h3 _ (add_block _ _)] at h4
   cases h4
 refine⟨ad,c,rfl,hcl,fun W' hW=>?_,hcc,hin⟩
 obtain⟨ad',c',he,hcl',hK',hcc'⟩:=C_get (h W' hW) z i h0 h1
 injection he with he
 subst he
 have hc:c=c':=by
  apply List.ext_getElem?
  intro j
  by_cases hj:j<d.sz
  ·have hb:W'.heap[ad.block]?=W.heap[ad.block]?:=by
    have h5:=hcc j _ (List.getElem?_eq_getElem (by omega))
    have h6:=World.block_lt_of_cell? W _ h5
    rw[add_block] at h6
    exact hW _ (hin (by omega)) h6
   have h5:=hcc j _ (List.getElem?_eq_getElem (by omega))
   have h6:=hcc' j _ (List.getElem?_eq_getElem (by omega))
   have h7:W'.cell? (ad.add (i.toNat*d.sz+j))=W.cell? (ad.add (i.toNat*d.sz+j)):=by simp [World.cell?,add_block,hb]
   rw[h7,h5] at h6
   rw[List.getElem?_eq_getElem (by omega),List.getElem?_eq_getElem (by omega)]
   exact h6
  ·rw[List.getElem?_eq_none (by omega),List.getElem?_eq_none (by omega)]
 rw[hc]
 exact hK'
def N {α:Type} (d:Kd α) (e:Nat) (w:World) (base:Nat) (ok:Nat→Prop) (v:Value) (xs:List α):Prop:=
 (∀k,v.ownBlock=some k→ok k)∧∃rows:List (List Value),rows.length=xs.length∧(raw d.sz).R e w base (fun k=>some k=v.ownBlock) v rows∧∀(j:Nat) (x:α) (c:List Value),xs[j]?=some x→rows[j]?=some c→FK d w (fun k=>ok k∧some k≠v.ownBlock) x c
theorem raw_tight {sz:Nat} {rows:List (List Value)} (h:(raw sz).R e w base ok v rows):(raw sz).R e w base (fun k=>some k=v.ownBlock) v rows:=R_tight rfl h
theorem raw_any {sz:Nat} {rows:List (List Value)} (h:(raw sz).R e w base ok v rows):(raw sz).R e w base (fun _=>True) v rows:=R_mono h (fun _ _=>trivial)
theorem R_N (h:d.R e w base ok v xs):N d e w base ok v xs:=by
 obtain⟨h0,inner,ho,hr⟩:=h
 refine⟨h0,chunks d.sz xs.length inner,chunks_length _ _ _,⟨fun k hk=>hk.symm,inner,by rw[chunks_length];exact ho,reps_raw hr (fun x c hp=>⟨d.K_len (d.K_of_M hp),d.K_one (d.K_of_M hp)⟩)⟩,fun j x c hx hc=>?_⟩
 rw[chunks_get hc]
 exact FK_of_M (hr.2 j x hx)
theorem S_N (h:Kd.S d e w base ok v xs):N d e w base ok v xs:=R_N (S_R h)
theorem N_nil (d:Kd α) (e:Nat) (w:World) (base:Nat) (ok:Nat→Prop):N d e w base ok (.slice none 0 0) []:=R_N (R_nil _ _ _ _ _)
theorem N_mono (h:N d e w base ok v xs) (hok:∀k,ok k→ok' k):N d e w base ok' v xs:=by
 obtain⟨h0,rows,hl,hR,hf⟩:=h
 exact⟨fun k hk=>hok k (h0 k hk),rows,hl,hR,fun j x c hx hc=>FK_mono (hf j x c hx hc) (fun k hk=>⟨hok k hk.1,hk.2⟩)⟩
theorem N_lt (h:N d e w base ok v xs):∀k,v.ownBlock=some k→k<w.heap.size:=by
 obtain⟨_,rows,_,hR,_⟩:=h
 exact R_lt hR
theorem N_base (h:N d e w base ok v xs):∀k,v.ownBlock=some k→base≤k:=by
 obtain⟨_,rows,_,hR,_⟩:=h
 exact R_base hR
theorem N_typed (h:N d e w base ok v xs):∀k,v.ownBlock=some k→∃cells,w.heap[k]?=some (.cells cells e (0,0)):=by
 obtain⟨_,rows,_,hR,_⟩:=h
 exact R_typed hR
theorem N_ne (h:N d e w base ok v xs) {t:Nat} {cells:Array Value} (hb:w.heap[g]?=some (.cells cells t (0,0))) (ht:e≠t):some g≠v.ownBlock:=by
 obtain⟨_,rows,_,hR,_⟩:=h
 exact R_ne hR hb ht
theorem N_away (h:N d e w base ok v xs) (hok:∀k,ok k→k≠g):some g≠v.ownBlock:=fun he=>hok g (h.1 g he.symm) rfl
theorem N_bound (h:N d e w base ok v xs):N d e w base (fun k=>ok k∧k<w.heap.size) v xs:=by
 have hlt:=N_lt h
 obtain⟨h0,rows,hl,hR,hf⟩:=h
 exact⟨fun k hk=>⟨h0 k hk,hlt k hk⟩,rows,hl,hR,fun j x c hx hc=>FK_mono (FK_bound (hf j x c hx hc)) (fun k hk=>⟨⟨hk.1.1,hk.2⟩,hk.1.2⟩)⟩
theorem N_lower {base':Nat} (h:N d e w base ok v xs) (hb:base'≤base):N d e w base' ok v xs:=by
 obtain⟨h0,rows,hl,hR,hf⟩:=h
 exact⟨h0,rows,hl,R_lower hR hb,hf⟩
theorem N_step (h:N d e w base ok v xs) (hm:∀k,ok k→k<w.heap.size→w1.heap[k]?=w.heap[k]?):N d e w1 base ok v xs:=by
 obtain⟨h0,rows,hl,hR,hf⟩:=h
 exact⟨h0,rows,hl,R_step hR (fun k hk hlt=>hm k (h0 k hk.symm) hlt),fun j x c hx hc=>FK_step (hf j x c hx hc) (fun k hk hlt=>hm k hk.1 hlt)⟩
theorem N_below (h:N d e w base ok v xs) (hb:Below w.heap.size w w1):N d e w1 base ok v xs:=N_step h (fun k _ hk=>hb.block k hk)
theorem N_alloc (h:N d e w base ok v xs) (o:Obj):N d e (w.alloc o) base ok v xs:=N_below h (below_alloc (Below.refl _ _) o)
theorem N_drew (h:N d e w base ok v xs):N d e w.drew base ok v xs:=N_below h (below_drew (Below.refl _ _))
theorem N_drewN (h:N d e w base ok v xs) (m:Nat):N d e (w.drewN m) base ok v xs:=N_below h (pw_below_drewN (Below.refl _ _) m)
theorem N_far (h:N d e w base ok v xs) {p:Addr} (hok:∀k,ok k→k≠p.block) (u:Value):N d e (w.setCell p u) base ok v xs:=N_step h (fun k ho _=>Below.heap_setCell w p u k (hok k ho))
theorem N_elder' (h:N d e W base ok v xs) (hbase:∀k,u.ownBlock=some k→W.heap.size≤k) (hb:Below W.heap.size W w1):N d e w1 base (fun k=>ok k∧some k≠u.ownBlock) v xs:=
 N_mono (N_below (N_bound h) hb) (fun k hk=>⟨hk.1,fun he=>by have:=hbase k he.symm;have:=hk.2;omega⟩)
theorem N_elderB (h:N d e w base ok v xs) (a:Nat) (ha:w.heap.size≤a):N d e w base (fun k=>ok k∧k≠a) v xs:=N_mono (N_bound h) (fun k hk=>⟨hk.1,by have:=hk.2;omega⟩)
theorem N_after (h:N d e W base (fun k=>ok k∧some k≠u.ownBlock) v xs) {u1:Value} (hg:W.grownBy w1 u.ownBlock) (hat:u1.ownBlock=u.ownBlock∨∃b,u1.ownBlock=some b∧W.heap.size≤b):N d e w1 base (fun k=>ok k∧some k≠u1.ownBlock) v xs:=by
 refine N_mono (N_step (N_bound h) (fun k hk hlt=>hg.block k hlt hk.1.2)) (fun k hk=>⟨hk.1.1,?_⟩)
 rcases hat with hat|⟨b,hb,hle⟩
 ·rw[hat];exact hk.1.2
 ·rw[hb]
  intro he
  injection he with he
  have:=hk.2
  omega
theorem N_slice (h:N d e w base ok v xs):∃A c,v= .slice A xs.length c:=by
 obtain⟨_,rows,hl,hR,_⟩:=h
 obtain⟨A,c,he⟩:=R_slice hR
 exact⟨A,c,by rw[he,hl]⟩
theorem N_form (h:N d e w base ok v xs) (hp:0<xs.length):∃g cap,v= .slice (some ⟨g,0,none⟩) xs.length cap∧base≤g∧g<w.heap.size∧∃cells,w.heap[g]?=some (.cells cells e (0,0)):=by
 obtain⟨_,rows,hl,hR,_⟩:=h
 rw[←hl] at hp ⊢
 exact R_form hR hp
theorem N_reads' {n c:Nat} (h:N d e w base ok (.slice A n c) xs):n=xs.length∧n≤c∧d.C w A xs.length xs:=by
 obtain⟨_,rows,hl,hR,hf⟩:=h
 obtain⟨hn,hc,hC⟩:=R_reads' hR
 refine⟨by omega,hc,?_⟩
 rw[hl] at hC
 refine⟨rfl,hC.2.1,fun hp=>?_⟩
 obtain⟨ad,he,hcell⟩:=hC.2.2 hp
 refine⟨ad,he,fun j p hj=>?_⟩
 have hjl:j<rows.length:=by have:=(List.getElem?_eq_some_iff.1 hj).1;omega
 obtain⟨c',hcl,hK,hcc⟩:=hcell j _ (List.getElem?_eq_getElem hjl)
 have hk:=FK_now (hf j p _ hj (List.getElem?_eq_getElem hjl))
 refine⟨c',hcl,?_,hcc⟩
 rw[show c'=rows[j] from hK.1]
 exact hk
theorem N_F {n:Nat} (h:N d e w base ok (.slice A n cc) xs):F d w ok A n xs:=fun W' hW=>by
 have h2:=N_reads' (N_step h hW)
 rw[h2.1]
 exact h2.2.2
theorem N_elem {n cap:Nat} (h:N d e W base ok (.slice (some ⟨g,0,none⟩) n cap) xs) (z:α) (i:Int) (h0:0≤i) (h1:i<n):
 ∃c,c.length=d.sz∧FK d W (fun k=>ok k∧k≠g) (xs.getD i.toNat z) c∧(∀j u,c[j]?=some u→W.cell? ⟨g,i.toNat*d.sz+j,none⟩=some u)∧∀j,W.frozen? ⟨g,i.toNat*d.sz+j,none⟩=false:=by
 obtain⟨_,rows,hl,hR,hf⟩:=h
 have hn:=(R_reads' hR).1
 obtain⟨c,hcl,hM,hcc,hfr⟩:=R_elem hR [] i h0 h1
 have hil:i.toNat<rows.length:=by omega
 have hil':i.toNat<xs.length:=by omega
 have hc:c=rows[i.toNat]:=by
  have h2:=hM.1
  rwa [List.getD_eq_getElem?_getD,List.getElem?_eq_getElem hil] at h2
 refine⟨c,hcl,?_,hcc,hfr⟩
 rw[List.getD_eq_getElem?_getD,List.getElem?_eq_getElem hil']
 exact FK_mono (hf _ _ _ (List.getElem?_eq_getElem hil') (by rw[hc];exact List.getElem?_eq_getElem hil)) (fun k hk=>⟨hk.1,fun he=>hk.2 (by rw[he];simp [Value.ownBlock])⟩)
theorem N_get {ad:Addr} {n cap:Nat} (h:N d e W base ok (.slice (some ad) n cap) xs) (z:α) (i:Int) (h0:0≤i) (h1:i<n):
 ∃c,c.length=d.sz∧FK d W (fun k=>ok k∧some k≠(Value.slice (some ad) n cap).ownBlock) (xs.getD i.toNat z) c∧∀j u,c[j]?=some u→W.cell? (ad.add (i.toNat*d.sz+j))=some u:=by
 obtain⟨g,rfl⟩:∃g,ad=⟨g,0,none⟩:=by
  obtain⟨_,rows,_,hR,_⟩:=h
  exact R_head hR
 obtain⟨c,hcl,hM,hcc,_⟩:=N_elem h z i h0 h1
 refine⟨c,hcl,FK_mono hM (fun k hk=>⟨hk.1,fun he=>hk.2 (by simpa [Value.ownBlock] using he)⟩),fun j u hu=>?_⟩
 rw[add_at,Nat.zero_add]
 exact hcc j u hu
end
end Kd
end Go.Proofs.YtifkbghnmhineaaW.PrintWords
end
section
namespace Go.Proofs.YtifkbghnmhineaaW.PrintWords
open Go.RowKit
namespace Kd
section
variable {α:Type} {d:Kd α} {e base n cap g:Nat} {ok ok' okp:Nat→Prop} {w w1 W:World} {v v1:Value} {xs ys:List α}
theorem N_appended {rows news:List (List Value)} (h0:∀k,v.ownBlock=some k→ok k) (hl:rows.length=xs.length) (hf:∀(j:Nat) (x:α) (c:List Value),xs[j]?=some x→rows[j]?=some c→FK d W (fun k=>ok k∧some k≠v.ownBlock) x c)
 (hl2:news.length=ys.length) (hf2:∀(j:Nat) (x:α) (c:List Value),ys[j]?=some x→news[j]?=some c→FK d W okp x c) (hokp:∀k,okp k→ok k∧some k≠v.ownBlock) (hfresh:∀k,W.heap.size≤k→ok k)
 (hR:(raw d.sz).R e w1 base (fun _=>True) v1 (rows++news)) (hg:W.grownBy w1 v.ownBlock) (hat:v1.ownBlock=v.ownBlock∨∃b,v1.ownBlock=some b∧W.heap.size≤b):N d e w1 base ok v1 (xs++ys):=by
 have hne:∀k,some k≠v.ownBlock→k<W.heap.size→some k≠v1.ownBlock:=by
  intro k hk hlt
  rcases hat with hat|⟨b,hb,hle⟩
  ·rw[hat];exact hk
  ·rw[hb]
   intro he
   injection he with he
   omega
 have step:∀{x:α} {c:List Value} {o:Nat→Prop},FK d W o x c→(∀k,o k→ok k∧some k≠v.ownBlock)→FK d w1 (fun k=>ok k∧some k≠v1.ownBlock) x c:=by
  intro x c o hq ho
  exact FK_mono (FK_step (FK_bound hq) (fun k hk hlt=>hg.block k hlt (ho k hk.1).2)) (fun k hk=>⟨(ho k hk.1).1,hne k (ho k hk.1).2 hk.2⟩)
 refine⟨fun k hk=>?_,rows++news,by rw[List.length_append,List.length_append,hl,hl2],raw_tight hR,fun j x c hx hc=>?_⟩
 ·rcases hat with hat|⟨b,hb,hle⟩
  ·exact h0 k (hat ▸ hk)
  ·rw[hb] at hk
   injection hk with hk
   exact hfresh k (by omega)
 ·rcases Nat.lt_or_ge j xs.length with hlt|hge
  ·rw[List.getElem?_append_left hlt] at hx
   rw[List.getElem?_append_left (by omega)] at hc
   exact step (hf j x c hx hc) (fun _ hk=>hk)
  ·rw[List.getElem?_append_right hge] at hx
   rw[List.getElem?_append_right (by omega),hl] at hc
   exact step (hf2 _ x c hx hc) hokp
theorem FK_raw {x:α} {c:List Value} (h:FK d W ok x c):c=c∧c.length=d.sz∧∀u∈c,u.oneCell'=true:=⟨rfl,d.K_len (FK_now h),d.K_one (FK_now h)⟩
theorem N_made {rows:List (List Value)} (hR:(raw d.sz).R e w1 base (fun k=>k=W.heap.size) v1 rows) (hg:W.grownBy w1 none) (hat:∃b,v1.ownBlock=some b∧W.heap.size≤b) (hl:rows.length=xs.length) (hf:∀(j:Nat) (x:α) (c:List Value),xs[j]?=some x→rows[j]?=some c→FK d W okp x c)
 (hok:∀k,okp k→ok k) (hfresh:ok W.heap.size):N d e w1 base ok v1 xs:=by
 obtain⟨b,hb,hle⟩:=hat
 refine⟨fun k hk=>by rw[hR.1 k hk];exact hfresh,rows,hl,raw_tight hR,fun j x c hx hc=>?_⟩
 refine FK_mono (FK_step (FK_bound (hf j x c hx hc)) (fun k hk hlt=>hg.block k hlt (by simp))) (fun k hk=>⟨hok k hk.1,fun he=>?_⟩)
 rw[hb] at he
 injection he with he
 have:=hk.2
 omega
theorem N_written {rows:List (List Value)} {i:Int} {x':α} {c':List Value} (h0:∀k,(Value.slice (some ⟨g,0,none⟩) n cap).ownBlock=some k→ok k) (hl:rows.length=xs.length) (hf:∀(j:Nat) (x:α) (c:List Value),xs[j]?=some x→rows[j]?=some c→FK d W (fun k=>ok k∧some k≠(Value.slice (some ⟨g,0,none⟩) n cap).ownBlock) x c)
 (hR:(raw d.sz).R e w1 base (fun _=>True) (.slice (some ⟨g,0,none⟩) n cap) (rows.set i.toNat c')) (hg:W.grownBy w1 (some g)) (hM:FK d W okp x' c') (hokp:∀k,okp k→ok k∧k≠g):N d e w1 base ok (.slice (some ⟨g,0,none⟩) n cap) (xs.set i.toNat x'):=by
 have hgo:some g=(Value.slice (some ⟨g,0,none⟩) n cap).ownBlock:=by simp [Value.ownBlock]
 refine⟨h0,rows.set i.toNat c',by rw[List.length_set,List.length_set,hl],raw_tight hR,fun j x c hx hc=>?_⟩
 have hjl:j<xs.length:=by have:=(List.getElem?_eq_some_iff.1 hx).1;rwa [List.length_set] at this
 by_cases hji:j=i.toNat
 ·subst hji
  rw[List.getElem?_set_self hjl] at hx
  rw[List.getElem?_set_self (by omega)] at hc
  injection hx with hx
  injection hc with hc
  rw[←hx,←hc]
  exact FK_mono (FK_step hM (fun k hk hlt=>hg.block k hlt (fun he=>(hokp k hk).2 (by injection he)))) (fun k hk=>⟨(hokp k hk).1,fun he=>(hokp k hk).2 (by rw[←hgo] at he;injection he)⟩)
 ·rw[List.getElem?_set_ne (Ne.symm hji)] at hx hc
  exact FK_step (hf j x c hx hc) (fun k hk hlt=>hg.block k hlt (by rw[hgo];exact hk.2))
theorem N_seg (h:N d e W base ok (.slice (some ⟨g,0,none⟩) n cap) xs) (i:Int) (h0:0≤i) (h1:i<n) {c seg:List Value} {j:Nat} (hcl:c.length=d.sz) (hcc:∀j u,c[j]?=some u→W.cell? ⟨g,i.toNat*d.sz+j,none⟩=some u)
 (hj:j+seg.length≤d.sz) {x':α} (hM:FK d W okp x' (c.take j++seg++c.drop (j+seg.length))) (hokp:∀k,okp k→ok k∧k≠g):
 N d e (W.setCells g (i.toNat*d.sz+j) seg) base ok (.slice (some ⟨g,0,none⟩) n cap) (xs.set i.toNat x')∧W.grownBy (W.setCells g (i.toNat*d.sz+j) seg) (some g):=by
 obtain⟨hown,rows,hl,hR,hf⟩:=h
 obtain⟨h2,h3⟩:=R_seg (raw_any hR) i h0 h1 (c:=c) (seg:=seg) (j:=j) (x':=c.take j++seg++c.drop (j+seg.length)) (okp:=fun _=>False) hcl hcc hj ⟨rfl,d.K_len (FK_now hM),d.K_one (FK_now hM)⟩ (fun _ hk=>hk.elim)
 exact⟨N_written hown hl hf h2 h3 hM hokp,h3⟩
end
section
variable {P:Program} {ops:Array Oper} {rest:List Oper} {o:Oper} {a:Act} {Q:Exit→Act→World→Prop} {Kc:Act→World→Prop} {α:Type}
theorem N_append (d:Kd α) {w0 W:World} (base:Nat) (hgd:o.guard=none) (s x:Operand) (t e:TypeId) (z:Value) (bytes:Nat)
 (ho:o.op= .call {callee:= .builtin .append,args:= #[s,x],argTypes:= #[t,t]})
 (ht:P.underlying t=some (.slice e)) (hinfo:(P.info? e).map (fun i=>(i.zero,i.size,i.bytes))=some (some z,d.sz,bytes)) (hz:z.cells.size=d.sz) (hs0:0<d.sz) (hb0:0<bytes)
 (v:Value) (xs:List α) (p:α) (cs:List Value) (ok okp:Nat→Prop) (hs:a.eval s=v) (hx:a.eval x= .slice (some ⟨W.heap.size,0,none⟩) 1 1) (hp:FK d W okp p cs) (hokp:∀k,okp k→ok k∧some k≠v.ownBlock) (hfresh:∀k,W.heap.size≤k→ok k)
 (HO:N d e W base ok v xs) (HB:Below base w0 W) (hbase:base≤W.heap.size) (hl:(xs.length+1)*bytes≤140737488355328)
 (h:∀v1 w1,N d e w1 base ok v1 (xs++[p])→Below base w0 w1→W.grownBy w1 v.ownBlock→(v1.ownBlock=v.ownBlock∨∃b,v1.ownBlock=some b∧W.heap.size≤b)→wpList P ops Q rest (a.put o.dst v1) w1):
 wpList P ops Q (o::rest) a (W.alloc (.cells cs.toArray e)):=by
 obtain⟨h0,rows,hlr,hR,hf⟩:=HO
 refine R_append (raw d.sz) base hgd s x t e z bytes ho ht hinfo hz hs0 hb0 v rows cs cs (fun _=>True) (fun _=>False) hs hx (FK_raw hp) (fun _ hk=>hk.elim) (fun _ _=>trivial) (raw_any hR) HB hbase (by rw[hlr];exact hl) ?_
 intro v1 w1 hr hb hg hat
 exact h v1 w1 (N_appended h0 hlr hf (ys:=[p]) (news:=[cs]) rfl (fun j y c hy hc=>by
  rcases j with _|j
  ·simp only[List.getElem?_cons_zero,Option.some.injEq] at hy hc
   rw[←hy,←hc];exact hp
  ·simp at hy) hokp hfresh hr hg hat) hb hg hat
theorem N_append_step (d:Kd α) {w0 W:World} (base:Nat) (hw:Region.wanted o (yielded ops a.tmps)=true) (s x:Operand) (t e:TypeId) (z:Value) (bytes:Nat)
 (ho:o.op= .call {callee:= .builtin .append,args:= #[s,x],argTypes:= #[t,t]})
 (ht:P.underlying t=some (.slice e)) (hinfo:(P.info? e).map (fun i=>(i.zero,i.size,i.bytes))=some (some z,d.sz,bytes)) (hz:z.cells.size=d.sz) (hs0:0<d.sz) (hb0:0<bytes)
 (v:Value) (xs:List α) (p:α) (cs:List Value) (ok okp:Nat→Prop) (hs:a.eval s=v) (hx:a.eval x= .slice (some ⟨W.heap.size,0,none⟩) 1 1) (hp:FK d W okp p cs) (hokp:∀k,okp k→ok k∧some k≠v.ownBlock) (hfresh:∀k,W.heap.size≤k→ok k)
 (HO:N d e W base ok v xs) (HB:Below base w0 W) (hbase:base≤W.heap.size) (hl:(xs.length+1)*bytes≤140737488355328)
 (h:∀v1 w1,N d e w1 base ok v1 (xs++[p])→Below base w0 w1→W.grownBy w1 v.ownBlock→(v1.ownBlock=v.ownBlock∨∃b,v1.ownBlock=some b∧W.heap.size≤b)→Kc (a.put o.dst v1) w1):
 if Region.wanted o (yielded ops a.tmps)=true then Oper.wp P o a (W.alloc (.cells cs.toArray e)) Kc Q else Kc (a.put o.dst undef) (W.alloc (.cells cs.toArray e)):=by
 obtain⟨h0,rows,hlr,hR,hf⟩:=HO
 refine R_append_step (raw d.sz) base hw s x t e z bytes ho ht hinfo hz hs0 hb0 v rows cs cs (fun _=>True) (fun _=>False) hs hx (FK_raw hp) (fun _ hk=>hk.elim) (fun _ _=>trivial) (raw_any hR) HB hbase (by rw[hlr];exact hl) ?_
 intro v1 w1 hr hb hg hat
 exact h v1 w1 (N_appended h0 hlr hf (ys:=[p]) (news:=[cs]) rfl (fun j y c hy hc=>by
  rcases j with _|j
  ·simp only[List.getElem?_cons_zero,Option.some.injEq] at hy hc
   rw[←hy,←hc];exact hp
  ·simp at hy) hokp hfresh hr hg hat) hb hg hat
theorem N_lit (d:Kd α) {w0 W:World} (base e:Nat) (hgd:o.guard=none) {N':Tmp} (_hd:o.dst=some N') {xs:List α} {inner:List Value} {ok okp:Nat→Prop}
 (hrun:(execOp a.eval o).run P W= .ok (.value (.slice (some ⟨W.heap.size,0,none⟩) xs.length xs.length)) (W.alloc (.cells inner.toArray e)))
 (hrep:Reps (FK d W okp) d.sz xs inner) (hok:∀k,okp k→ok k) (hfresh:ok W.heap.size) (HB:Below base w0 W) (hbase:base≤W.heap.size) (hm:xs.length≤9223372036854775807)
 (h:∀v1 w1,N d e w1 base ok v1 xs→Below base w0 w1→W.grownBy w1 none→(∃b,v1.ownBlock=some b∧W.heap.size≤b)→wpList P ops Q rest (a.put o.dst v1) w1):
 wpList P ops Q (o::rest) a W:=by
 refine R_lit (raw d.sz) base e hgd _hd (xs:=chunks d.sz xs.length inner) (inner:=inner) (ok:=fun k=>k=W.heap.size) (okp:=fun _=>False) (by rw[chunks_length];exact hrun) (reps_raw hrep (fun y c hk=>⟨d.K_len (FK_now hk),d.K_one (FK_now hk)⟩)) (fun _ hk=>hk.elim) rfl HB hbase (by rw[chunks_length];exact hm) ?_
 intro v1 w1 hr hb hg hat
 exact h v1 w1 (N_made hr hg hat (chunks_length _ _ _) (fun j y c hy hc=>by rw[chunks_get hc];exact hrep.2 j y hy) hok hfresh) hb hg hat
theorem N_lit_step (d:Kd α) {w0 W:World} (base e:Nat) (hw:Region.wanted o (yielded ops a.tmps)=true) {N':Tmp} (_hd:o.dst=some N') {xs:List α} {inner:List Value} {ok okp:Nat→Prop}
 (hrun:(execOp a.eval o).run P W= .ok (.value (.slice (some ⟨W.heap.size,0,none⟩) xs.length xs.length)) (W.alloc (.cells inner.toArray e)))
 (hrep:Reps (FK d W okp) d.sz xs inner) (hok:∀k,okp k→ok k) (hfresh:ok W.heap.size) (HB:Below base w0 W) (hbase:base≤W.heap.size) (hm:xs.length≤9223372036854775807)
 (h:∀v1 w1,N d e w1 base ok v1 xs→Below base w0 w1→W.grownBy w1 none→(∃b,v1.ownBlock=some b∧W.heap.size≤b)→Kc (a.put o.dst v1) w1):
 if Region.wanted o (yielded ops a.tmps)=true then Oper.wp P o a W Kc Q else Kc (a.put o.dst undef) W:=by
 refine R_lit_step (raw d.sz) base e hw _hd (xs:=chunks d.sz xs.length inner) (inner:=inner) (ok:=fun k=>k=W.heap.size) (okp:=fun _=>False) (by rw[chunks_length];exact hrun) (reps_raw hrep (fun y c hk=>⟨d.K_len (FK_now hk),d.K_one (FK_now hk)⟩)) (fun _ hk=>hk.elim) rfl HB hbase (by rw[chunks_length];exact hm) ?_
 intro v1 w1 hr hb hg hat
 exact h v1 w1 (N_made hr hg hat (chunks_length _ _ _) (fun j y c hy hc=>by rw[chunks_get hc];exact hrep.2 j y hy) hok hfresh) hb hg hat
theorem N_make (d:Kd α) {w0 W:World} (base e:Nat) (hgd:o.guard=none) {N':Tmp} (hd:o.dst=some N') (t:TypeId) (x y:Operand) (ho:o.op= .makeSlice t x y) (n:Int) (hx:a.eval x= .int .i64 n) (hy:a.eval y= .int .i64 n)
 (ht:P.underlying t=some (.slice e)) (z:Value) (bytes:Nat) (hinfo:(P.info? e).map (fun i=>(i.zero,i.size,i.bytes))=some (some z,d.sz,bytes)) (hz:z.cells.size=d.sz) (hs0:0<d.sz) (hb0:0<bytes)
 (z0:α) {ok okp:Nat→Prop} (hzero:FK d W okp z0 z.cells.toList) (hok:∀k,okp k→ok k) (hfresh:ok W.heap.size) (h0:0≤n) (hl:n.toNat*bytes≤281474976710656) (HB:Below base w0 W) (hbase:base≤W.heap.size)
 (h:∀v1 w1,N d e w1 base ok v1 (List.replicate n.toNat z0)→Below base w0 w1→W.grownBy w1 none→(∃b,v1.ownBlock=some b∧W.heap.size≤b)→wpList P ops Q rest (a.put o.dst v1) w1):
 wpList P ops Q (o::rest) a W:=by
 refine R_make (raw d.sz) base e hgd hd t x y ho n hx hy ht z bytes hinfo hz hs0 hb0 z.cells.toList (ok:=fun k=>k=W.heap.size) (okp:=fun _=>False) (FK_raw hzero) (fun _ hk=>hk.elim) rfl h0 hl HB hbase ?_
 intro v1 w1 hr hb hg hat
 refine h v1 w1 (N_made hr hg hat (by rw[List.length_replicate,List.length_replicate]) (fun j y c hy hc=>?_) hok hfresh) hb hg hat
 have h1:=(List.getElem?_eq_some_iff.1 hy).2
 have h2:=(List.getElem?_eq_some_iff.1 hc).2
 rw[List.getElem_replicate] at h1 h2
 rw[←h1,←h2]
 exact hzero
end
end Kd
end Go.Proofs.YtifkbghnmhineaaW.PrintWords
end
section
namespace Go.Proofs.YtifkbghnmhineaaW.PrintMore
open Go.RowKit Go.Proofs.YtifkbghnmhineaaW.PrintWords
theorem max2_int (k k':IntKind) (x y:Int):Builtin.max2 (.int k x) (.int k' y)=pure (.int k (if x<y then y else x)):=by simp only[Builtin.max2,gt_iff_lt]
theorem min2_int (k k':IntKind) (x y:Int):Builtin.min2 (.int k x) (.int k' y)=pure (.int k (if y<x then y else x)):=by simp only[Builtin.min2]
theorem max_two (ats:Array TypeId) (ty:TypeId) (a b:Value):Builtin.max_ ats ty #[a,b]=(Builtin.max2 a b>>=fun s=>pure s):=by simp only[Builtin.max_,List.foldlM_cons,List.foldlM_nil]
theorem min_two (ats:Array TypeId) (ty:TypeId) (a b:Value):Builtin.min_ ats ty #[a,b]=(Builtin.min2 a b>>=fun s=>pure s):=by simp only[Builtin.min_,List.foldlM_cons,List.foldlM_nil]
theorem max_three (ats:Array TypeId) (ty:TypeId) (a b c:Value):Builtin.max_ ats ty #[a,b,c]=(Builtin.max2 a b>>=fun s=>Builtin.max2 s c>>=fun s=>pure s):=by simp only[Builtin.max_,List.foldlM_cons,List.foldlM_nil]
theorem min_three (ats:Array TypeId) (ty:TypeId) (a b c:Value):Builtin.min_ ats ty #[a,b,c]=(Builtin.min2 a b>>=fun s=>Builtin.min2 s c>>=fun s=>pure s):=by simp only[Builtin.min_,List.foldlM_cons,List.foldlM_nil]
theorem max_four (ats:Array TypeId) (ty:TypeId) (a b c d:Value):Builtin.max_ ats ty #[a,b,c,d]=(Builtin.max2 a b>>=fun s=>Builtin.max2 s c>>=fun s=>Builtin.max2 s d>>=fun s=>pure s):=by simp only[Builtin.max_,List.foldlM_cons,List.foldlM_nil]
theorem min_four (ats:Array TypeId) (ty:TypeId) (a b c d:Value):Builtin.min_ ats ty #[a,b,c,d]=(Builtin.min2 a b>>=fun s=>Builtin.min2 s c>>=fun s=>Builtin.min2 s d>>=fun s=>pure s):=by simp only[Builtin.min_,List.foldlM_cons,List.foldlM_nil]
end Go.Proofs.YtifkbghnmhineaaW.PrintMore
namespace Go.Proofs.YtifkbghnmhineaaW.PrintWords
open Go.RowKit
section
variable {P:Program} {ops:Array Oper} {rest:List Oper} {o:Oper} {a:Act} {Q:Exit→Act→World→Prop} {W:World}
theorem gate_builtin {b:Builtin} {xs:Array Operand} {ts:Array TypeId} (_ho:o.op= .call {callee:= .builtin b,args:=xs,argTypes:=ts}) (h:wpList P ops Q (o::rest) a W):wpList P ops Q (o::rest) a W:=h
end
def mn (a b:Int):Int:=if b<a then b else a
def shl (k:IntKind) (x y:Int):Int:=k.wrap (x*2^min y.toNat k.bits)
def shr (k:IntKind) (x y:Int):Int:=x / 2^min y.toNat k.bits
theorem shl_small {k:IntKind} {x y j:Int} (h:shl k x y=j) (hy:y≤k.bits):k.wrap (x*2^y.toNat)=j:=by rw[←h];unfold shl;rw[Nat.min_eq_left (by omega)]
theorem shr_small {k:IntKind} {x y j:Int} (h:shr k x y=j) (hy:y≤k.bits):x / 2^y.toNat=j:=by rw[←h];unfold shr;rw[Nat.min_eq_left (by omega)]
theorem drewN_self (w:World) (n:Nat):w.drewN n=w.drewN n:=rfl
namespace Kd
section
variable {α:Type} {d:Kd α} {e base b b' g N:Nat} {ok ok1:Nat→Prop} {W W2 w1:World} {u v:Value} {xs ys:List α} {S:Nat→Prop}
theorem R_reok (hE:d.E=[]) (h:d.R e W base ok1 v xs) (hok:∀k,v.ownBlock=some k→ok k):d.R e W base ok v xs:=R_mono (R_tight hE h) (fun k hk=>hok k hk.symm)
theorem R_keptB (h:d.R e W base ok v xs) (hk:Kept W W2 S) (hne:∀k,ok k→¬S k):d.R e W2 base (fun k=>ok k∧(¬S k∧k<W.heap.size)) v xs:=
 R_kept (R_mono (R_bound h) (fun k hk=>⟨hk.1,hne k hk.1,hk.2.2.1⟩)) hk (fun _ hk=>hk.2.1)
end
end Kd
end Go.Proofs.YtifkbghnmhineaaW.PrintWords
namespace Go.Proofs.YtifkbghnmhineaaW.PrintWords
open Go.RowKit
namespace Kd
def V {α:Type} (d:Kd α) (_e:Nat) (W:World) (_base:Nat) (ok:Nat→Prop) (v:Value) (xs:List α):Prop:=∃A c,v= .slice A xs.length c∧xs.length≤c∧F d W ok A xs.length xs
section
variable {α β:Type} {d:Kd α} {e base base' n m c g N' lo hi:Nat} {ok ok' S:Nat→Prop} {w W w1:World} {A:Option Addr} {ad:Addr} {u v v1:Value} {xs:List α}
theorem V_map (h:V d e W base ok v xs) (hF:∀A,F d W ok A xs.length xs→F d w1 ok' A xs.length xs):V d e w1 base' ok' v xs:=by
 obtain⟨A,c,hv,hl,hf⟩:=h
 exact⟨A,c,hv,hl,hF A hf⟩
theorem V_mk (hl:xs.length≤c) (hf:F d W ok A xs.length xs):V d e W base ok (.slice A xs.length c) xs:=⟨A,c,rfl,hl,hf⟩
theorem V_slice (h:V d e W base ok v xs):∃A c,v= .slice A xs.length c:=by
 obtain⟨A,c,hv,_⟩:=h
 exact⟨A,c,hv⟩
theorem V_at (h:V d e W base ok (.slice A n c) xs):n=xs.length∧n≤c∧F d W ok A xs.length xs:=by
 obtain⟨A',c',hv,hl,hf⟩:=h
 injection hv with ha hn hc
 subst ha;subst hc
 exact⟨hn,by rw[hn];exact hl,hf⟩
theorem V_reads' (h:V d e W base ok (.slice A n c) xs):n=xs.length∧n≤c∧d.C W A xs.length xs:=⟨(V_at h).1,(V_at h).2.1,F_now (V_at h).2.2⟩
theorem V_F (h:V d e W base ok (.slice A n c) xs):F d W ok A n xs:=by
 obtain⟨hn,_,hf⟩:=V_at h
 rw[hn]
 exact hf
theorem V_nil (d:Kd α) (e:Nat) (W:World) (base:Nat) (ok:Nat→Prop):V d e W base ok (.slice none 0 0) []:=⟨none,0,rfl,Nat.le_refl _,F_nil d W ok⟩
theorem R_V (h:d.R e W base ok v xs):V d e W base' ok v xs:=by
 obtain⟨A,c,rfl⟩:=R_slice h
 exact⟨A,c,rfl,(R_reads' h).2.1,R_F h⟩
theorem N_V (h:N d e W base ok v xs):V d e W base' ok v xs:=by
 obtain⟨A,c,rfl⟩:=N_slice h
 exact⟨A,c,rfl,(N_reads' h).2.1,N_F h⟩
theorem V_mono (h:V d e W base ok v xs) (hok:∀k,ok k→ok' k):V d e W base ok' v xs:=V_map h (fun _ hf=>F_mono hf hok)
theorem V_bound (h:V d e W base ok v xs):V d e W base (fun k=>ok k∧k<W.heap.size) v xs:=V_map h (fun _ hf=>F_bound hf)
theorem V_lower (h:V d e W base ok v xs) (_:base'≤base):V d e W base' ok v xs:=h
theorem V_below (h:V d e W base ok v xs) (hb:Below W.heap.size W w1):V d e w1 base ok v xs:=V_map h (fun _ hf=>F_below hf hb)
theorem V_alloc (h:V d e W base ok v xs) (o:Obj):V d e (W.alloc o) base ok v xs:=V_map h (fun _ hf=>F_alloc hf o)
theorem V_drew (h:V d e W base ok v xs):V d e W.drew base ok v xs:=V_map h (fun _ hf=>F_drew hf)
theorem V_drewN (h:V d e W base ok v xs) (m:Nat):V d e (W.drewN m) base ok v xs:=V_map h (fun _ hf=>F_drewN hf m)
theorem V_far (h:V d e W base ok v xs) {p:Addr} (hok:∀k,ok k→k≠p.block) (u:Value):V d e (W.setCell p u) base ok v xs:=V_map h (fun _ hf=>F_far hf hok u)
theorem V_kept (h:V d e W base ok v xs) (hk:Kept W w1 S) (hok:∀k,ok k→¬S k):V d e w1 base ok v xs:=V_map h (fun _ hf=>F_kept hf hk hok)
theorem V_after (h:V d e W base (fun k=>ok k∧some k≠u.ownBlock) v xs) (hg:W.grownBy w1 u.ownBlock) (hat:v1.ownBlock=u.ownBlock∨∃b,v1.ownBlock=some b∧W.heap.size≤b):V d e w1 base (fun k=>ok k∧some k≠v1.ownBlock) v xs:=V_map h (fun _ hf=>F_after hf hg hat)
theorem V_afterv (h:V d e W base (fun k=>ok k∧some k≠v.ownBlock) u xs) (hg:W.grownBy w1 v.ownBlock) (hat:v1.ownBlock=v.ownBlock∨∃b,v1.ownBlock=some b∧W.heap.size≤b):V d e w1 base (fun k=>ok k∧some k≠v1.ownBlock) u xs:=V_after h hg hat
theorem N_afterv (h:N d e W base (fun k=>ok k∧some k≠v.ownBlock) u xs) (hg:W.grownBy w1 v.ownBlock) (hat:v1.ownBlock=v.ownBlock∨∃b,v1.ownBlock=some b∧W.heap.size≤b):N d e w1 base (fun k=>ok k∧some k≠v1.ownBlock) u xs:=N_after h hg hat
theorem V_apart_nil (h:V d e W base ok v xs):V d e W base (fun k=>ok k∧some k≠(Value.slice none 0 0).ownBlock) v xs:=V_map h (fun _ hf=>F_apart_nil hf)
theorem V_elder' (h:V d e W base ok v xs) (hbase:∀k,u.ownBlock=some k→W.heap.size≤k) (hb:Below W.heap.size W w1):V d e w1 base (fun k=>ok k∧some k≠u.ownBlock) v xs:=V_map h (fun _ hf=>F_elder' hf hbase hb)
theorem V_elderB (h:V d e W base ok v xs) (a:Nat) (ha:W.heap.size≤a):V d e W base (fun k=>ok k∧k≠a) v xs:=V_map h (fun _ hf=>F_elderB hf a ha)
theorem V_old (h:V d e W base ok v xs) (hb:Below W.heap.size W w1):V d e w1 base (fun k=>ok k∧k<W.heap.size) v xs:=V_map h (fun _ hf=>F_old hf hb)
theorem V_told (h:V d e w1 base (fun k=>ok k∧k<N') v xs) (hbase:∀k,u.ownBlock=some k→N'≤k):V d e w1 base (fun k=>(ok k∧some k≠u.ownBlock)∧k<N') v xs:=V_map h (fun _ hf=>F_told hf hbase)
theorem V_keptB (h:V d e W base ok v xs) (hk:Kept W w1 S) (hne:∀k,ok k→¬S k):V d e w1 base (fun k=>ok k∧(¬S k∧k<W.heap.size)) v xs:=
 V_kept (V_mono (V_bound h) (fun k hk=>⟨hk.1,hne k hk.1,hk.2⟩)) hk (fun _ hk=>hk.2.1)
theorem V_get (h:V d e W base ok (.slice (some ad) n c) xs) (z:α) (i:Int) (h0:0≤i) (h1:i<n):
 ∃cs,cs.length=d.sz∧FK d W ok (xs.getD i.toNat z) cs∧∀j u,cs[j]?=some u→W.cell? (ad.add (i.toNat*d.sz+j))=some u:=by
 obtain⟨ad',cs,he,hcl,hK,hcc,_⟩:=F_get (V_F h) z i h0 h1
 injection he with he
 subst he
 exact⟨cs,hcl,hK,hcc⟩
theorem F_take (h:F d W ok A xs.length xs) (hm:m≤xs.length):F d W ok A (xs.take m).length (xs.take m):=F_imp h (fun _ hC=>C_take hC hm)
theorem FK_slice_open {l:List α} {cs:List Value} (h:FK (Kd.slice e d) W ok l cs):∃A c,cs=[.slice A l.length c]∧l.length≤c∧F d W ok A l.length l:=by
 obtain⟨A,c,rfl,hl,_⟩:=FK_now h
 refine⟨A,c,rfl,hl,fun W' hW=>?_⟩
 obtain⟨A',c',he,_,g'⟩:=h W' hW
 injection he with he _
 injection he with ha _ _
 rw[ha]
 exact g'
theorem FK_slice_mk {l:List α} (hl:l.length≤c) (hf:F d W ok A l.length l):FK (Kd.slice e d) W ok l [.slice A l.length c]:=fun W' hW=>⟨A,c,rfl,hl,hf W' hW⟩
theorem C_kept_ownV (h:V d e W base ok (.slice A n c) xs) (hok:∀k,ok k→¬S k):∀W',Kept W W' S→d.C W' A n xs:=fun W' hk=>by
 have h2:=V_reads' (V_kept h hk hok)
 rw[h2.1]
 exact h2.2.2
theorem R_newM {M:Nat→Prop} (h:d.R e w1 W.heap.size ok v xs) (hle:w.heap.size≤W.heap.size) (hM:∀k,w.heap.size≤k→M k):d.R e w1 W.heap.size (fun k=>M k∧ok k) v xs:=R_mono (R_bound h) (fun k hk=>⟨hM k (Nat.le_trans hle hk.2.1),hk.1⟩)
end
end Kd
end Go.Proofs.YtifkbghnmhineaaW.PrintWords
end
section
namespace Mw
open Go Go.RowKit Go.Proofs.YtifkbghnmhineaaW.PrintWords Go.Proofs.YtifkbghnmhineaaW.PrintLast Go.Proofs.YtifkbghnmhineaaW.PrintMore
theorem FK_of_R {α:Type} {d:Kd α} {e e0 base n c:Nat} {ok:Nat→Prop} {W:World} {A:Option Addr} {xs:List α} (h:d.R e0 W base ok (.slice A n c) xs):Kd.FK (Kd.slice e d) W ok xs [.slice A n c]:=by
 obtain⟨h1,h2,_⟩:=Kd.R_reads' h
 have h3:=Kd.R_F h
 subst h1
 exact Kd.FK_slice_mk h2 h3
end Mw
end
section
namespace Go.Proofs.YtifkbghnmhineaaW.PrintLast
open Go.Proofs.YtifkbghnmhineaaW.PrintWords (Aside0)
def needsOf (md:Region.Mode) (o:Oper):List Nat:=(o.after.toList.filter (fun e=>Region.binds md e)).map (fun e=>e.on)
def clashOf (md:Region.Mode) (ops:Array Oper) (i:Nat) (oi:Oper):List Nat:=(List.range ops.size).filter fun j=> !(j==i)&&match ops[j]? with
 |some oj=> !(oj.after.any (fun e=>Region.binds md e&&e.on==i)||oi.apart ops oj)
 |none=>false
def rtab (md:Region.Mode) (ops:Array Oper):Bool×List (List Nat×List Nat):=(Region.noSelect ops,(List.range ops.size).map fun i=>match ops[i]? with
 |some o=>(needsOf md o,clashOf md ops i o)
 |none=>([],[]))
def readyAt (T:List (List Nat×List Nat)) (l:List Bool) (i:Nat):Bool:= !l.getD i true&&match T[i]? with
 |some r=>r.1.all (fun j=>l.getD j false)
 |none=>false
def readyT (T:List (List Nat×List Nat)) (l:List Bool):List Nat:=(List.range T.length).filter (readyAt T l)
def freeT (T:List (List Nat×List Nat)) (l:List Bool) (i:Nat):Bool:=match T[i]? with
 |some r=>r.2.all (fun j=>l.getD j true)
 |none=>false
def closedT (T:List (List Nat×List Nat)) (l:List Bool):Bool:=(List.range T.length).all fun j=> !l.getD j false||match T[j]? with
 |some r=>r.1.all (fun k=>l.getD k false)
 |none=>true
def reachT (T:List (List Nat×List Nat)) (i:Nat):Nat→Nat→Bool
 |0,_=>false
 |fuel+1,d=>match T[d]? with
  |some r=>r.1.any fun j=>j==i||reachT T i fuel j
  |none=>false
def lastT (T:List (List Nat×List Nat)) (l:List Bool) (ds:List Nat) (i:Nat):Bool:=ds.all fun d=>l.getD d true||reachT T i T.length d
section
variable {md:Region.Mode} {ops:Array Oper} {T:Bool×List (List Nat×List Nat)} {l l' li lj lk:Array Bool} {ds:List Nat} {i j k:Nat}
theorem gd (l:Array Bool) (j:Nat) (b:Bool):l.getD j b=l.toList.getD j b:=by simp [Array.getD_eq_getD_getElem?,List.getD_eq_getElem?_getD]
theorem needs_all (o:Oper) (p:Nat→Bool):o.after.all (fun e=> !Region.binds md e||p e.on)=(needsOf md o).all p:=by
 unfold needsOf
 rw[←Array.all_toList]
 induction o.after.toList with
 |nil=>rfl
 |cons e r ih=>
  rw[List.all_cons,ih,List.filter_cons]
  cases h:Region.binds md e<;>simp
theorem needs_any (o:Oper) (p:Nat→Bool):o.after.any (fun e=>Region.binds md e&&p e.on)=(needsOf md o).any p:=by
 unfold needsOf
 rw[←Array.any_toList]
 induction o.after.toList with
 |nil=>rfl
 |cons e r ih=>
  rw[List.any_cons,ih,List.filter_cons]
  cases h:Region.binds md e<;>simp
theorem rtab_length:(rtab md ops).2.length=ops.size:=by simp [rtab]
theorem rtab_some {o:Oper} (h:ops[i]?=some o):(rtab md ops).2[i]?=some (needsOf md o,clashOf md ops i o):=by
 have hi:=(Array.getElem?_eq_some_iff.1 h).1
 unfold rtab
 rw[List.getElem?_map,List.getElem?_range hi,Option.map_some,h]
theorem rtab_none (h:ops[i]?=none):(rtab md ops).2[i]?=none:=by
 have hi:ops.size≤i:=Array.getElem?_eq_none_iff.1 h
 exact List.getElem?_eq_none (by rw[rtab_length];exact hi)
theorem readyAt_eq:readyAt (rtab md ops).2 l.toList i=(!l.getD i true&&((ops[i]?).map (·.after.all fun e=> !Region.binds md e||l.getD e.on false)).getD false):=by
 unfold readyAt
 rw[gd]
 cases h:ops[i]? with
 |none=>rw[rtab_none h];rfl
 |some o=>
  rw[rtab_some h]
  simp only[Option.map_some,Option.getD_some]
  rw[←needs_all]
  simp only[gd]
theorem ready_eq:Region.ready md ops l=readyT (rtab md ops).2 l.toList:=by
 unfold Region.ready readyT
 rw[rtab_length]
 refine List.filter_congr (fun i _=>?_)
 rw[readyAt_eq]
theorem free_eq:Region.free md ops l i=freeT (rtab md ops).2 l.toList i:=by
 unfold Region.free freeT
 cases h:ops[i]? with
 |none=>rw[rtab_none h]
 |some oi=>
  rw[rtab_some h]
  simp only[clashOf]
  rw[List.all_filter]
  congr 1
  funext j
  rw[gd]
  cases hj:ops[j]? with
  |none=>cases (j==i)<;>cases (l.toList.getD j true)<;>simp
  |some oj=>
   cases (j==i)<;>cases (l.toList.getD j true)<;>cases (oj.after.any (fun e=>Region.binds md e&&e.on==i)||oi.apart ops oj)<;>simp_all
theorem closed_eq:Region.closedB md ops l=closedT (rtab md ops).2 l.toList:=by
 unfold Region.closedB closedT
 rw[rtab_length]
 congr 1
 funext j
 rw[gd]
 cases h:ops[j]? with
 |none=>rw[rtab_none h]
 |some o=>
  rw[rtab_some h]
  simp only
  rw[←needs_all]
  simp only[gd]
theorem reach_eq:∀(fuel d:Nat),Region.reachB md ops i fuel d=reachT (rtab md ops).2 i fuel d
 |0,_=>rfl
 |fuel+1,d=>by
  unfold Region.reachB reachT
  cases h:ops[d]? with
  |none=>rw[rtab_none h]
  |some o=>
   rw[rtab_some h]
   simp only
   rw[←needs_any]
   congr 1
   funext e
   rw[reach_eq fuel]
theorem last_eq:Region.lastB md ops l ds i=lastT (rtab md ops).2 l.toList ds i:=by
 unfold Region.lastB lastT
 rw[rtab_length]
 congr 1
 funext d
 rw[gd,reach_eq]
theorem readyAt_mem (h:readyAt T.2 l.toList i=true) (hT:rtab md ops=T):(Region.ready md ops l).contains i=true:=by
 subst hT
 rw[ready_eq]
 unfold readyT
 rw[List.contains_iff_mem,List.mem_filter,List.mem_range]
 refine⟨?_,h⟩
 unfold readyAt at h
 rw[Bool.and_eq_true] at h
 cases hq:(rtab md ops).2[i]? with
 |none=>rw[hq] at h;simp at h
 |some r=>exact(List.getElem?_eq_some_iff.1 hq).1
theorem set_of (h:(l.toList.set i true==l'.toList)=true):(l.setIfInBounds i true==l')=true:=by
 rw[beq_iff_eq] at h ⊢
 apply Array.ext'
 rw[Array.toList_setIfInBounds]
 exact h
def anyT (T:Bool×List (List Nat×List Nat)) (l l':List Bool) (i:Nat):Bool:=T.1&&freeT T.2 l i&&readyAt T.2 l i&&(l.set i true==l')
theorem any_of (hT:rtab md ops=T) (h:anyT T l.toList l'.toList i=true):anyB md ops l l' i=true:=by
 simp only[anyT,Bool.and_eq_true] at h
 obtain⟨⟨⟨h1,h2⟩,h3⟩,h4⟩:=h
 have h5:=readyAt_mem h3 hT
 have h6:=set_of h4
 subst hT
 simp only[anyB,Bool.and_eq_true]
 exact⟨⟨⟨h1,by rw[free_eq];exact h2⟩,h5⟩,h6⟩
def takeT (T:Bool×List (List Nat×List Nat)) (ds:List Nat) (l l':List Bool) (i:Nat):Bool:=T.1&&freeT T.2 l i&&readyAt T.2 l i&&closedT T.2 l&&lastT T.2 l ds i&&(l.set i true==l')
theorem take_of (hT:rtab md ops=T) (h:takeT T ds l.toList l'.toList i=true):takeB md ops ds l l' i=true:=by
 simp only[takeT,Bool.and_eq_true] at h
 obtain⟨⟨⟨⟨⟨h1,h2⟩,h3⟩,h4⟩,h5⟩,h6⟩:=h
 have h7:=readyAt_mem h3 hT
 have h8:=set_of h6
 subst hT
 simp only[takeB,Bool.and_eq_true]
 exact⟨⟨⟨⟨⟨h1,by rw[free_eq];exact h2⟩,h7⟩,by rw[closed_eq];exact h4⟩,by rw[last_eq];exact h5⟩,h8⟩
theorem one_of (hT:rtab md ops=T) (h:(readyT T.2 l.toList==[i]&&l.toList.set i true==l'.toList)=true):readyB md ops l l' i=true:=by
 simp only[Bool.and_eq_true] at h
 obtain⟨h1,h2⟩:=h
 subst hT
 simp only[readyB,Bool.and_eq_true]
 exact⟨by rw[ready_eq];exact h1,set_of h2⟩
theorem done_of (hT:rtab md ops=T) (h:(readyT T.2 l.toList==[])=true):(Region.ready md ops l==[])=true:=by
 subst hT
 rw[ready_eq]
 exact h
def upM (B:List Nat) (d:Nat):List Nat→Nat
 | []=>0
 |n::r=>(2^n|||(if n<d then B.getD n 0 else 0))|||upM B d r
def waitsOk (T:List (List Nat×List Nat)) (B:List Nat):Bool:=(List.range T.length).all fun d=>match T[d]? with
 |some r=>(B.getD d 0|||upM B d r.1)==upM B d r.1
 |none=>false
theorem upM_bit {B:List Nat} {d i:Nat}:∀{ns:List Nat},(upM B d ns).testBit i=true→∃n∈ns,n=i∨(n<d∧(B.getD n 0).testBit i=true)
 | [],h=>by simp [upM] at h
 |n::r,h=>by
  unfold upM at h
  rw[Nat.testBit_or,Nat.testBit_or,Bool.or_eq_true,Bool.or_eq_true] at h
  rcases h with(h|h)|h
  ·rw[Nat.testBit_two_pow] at h
   exact⟨n,List.mem_cons_self, .inl (by simpa using h)⟩
  ·by_cases hn:n<d
   ·rw[if_pos hn] at h
    exact⟨n,List.mem_cons_self, .inr ⟨hn,h⟩⟩
   ·rw[if_neg hn] at h
    simp at h
  ·obtain⟨m,hm,h2⟩:=upM_bit h
   exact⟨m,List.mem_cons_of_mem _ hm,h2⟩
theorem reach_bit {T:List (List Nat×List Nat)} {B:List Nat} (hB:waitsOk T B=true):∀(fuel d:Nat),d<fuel→d<T.length→(B.getD d 0).testBit i=true→reachT T i fuel d=true
 |0,d,h,_,_=>by omega
 |fuel+1,d,h,hd,hb=>by
  have h1:=List.all_eq_true.1 hB d (List.mem_range.2 hd)
  cases hr:T[d]? with
  |none=>rw[hr] at h1;simp at h1
  |some r=>
   rw[hr] at h1
   simp only[beq_iff_eq] at h1
   have h2:(upM B d r.1).testBit i=true:=by rw[←h1,Nat.testBit_or,hb,Bool.true_or]
   obtain⟨n,hn,h3⟩:=upM_bit h2
   unfold reachT
   rw[hr]
   simp only
   rw[List.any_eq_true]
   refine⟨n,hn,?_⟩
   rcases h3 with rfl|⟨h4,h5⟩
   ·simp
   ·rw[reach_bit hB fuel n (by omega) (by omega) h5,Bool.or_true]
def lastW (T:List (List Nat×List Nat)) (B:List Nat) (l:List Bool) (ds:List Nat) (i:Nat):Bool:=ds.all fun d=>l.getD d true||(decide (d<T.length)&&(B.getD d 0).testBit i)
def takeW (T:Bool×List (List Nat×List Nat)) (B:List Nat) (ds:List Nat) (l l':List Bool) (i:Nat):Bool:=T.1&&freeT T.2 l i&&readyAt T.2 l i&&closedT T.2 l&&lastW T.2 B l ds i&&(l.set i true==l')
theorem take_ofW {B:List Nat} (hT:rtab md ops=T) (hB:waitsOk T.2 B=true) (h:takeW T B ds l.toList l'.toList i=true):takeB md ops ds l l' i=true:=by
 refine take_of hT ?_
 simp only[takeW,takeT,Bool.and_eq_true] at h ⊢
 obtain⟨⟨⟨⟨⟨h1,h2⟩,h3⟩,h4⟩,h5⟩,h6⟩:=h
 refine⟨⟨⟨⟨⟨h1,h2⟩,h3⟩,h4⟩,?_⟩,h6⟩
 unfold lastW at h5
 unfold lastT
 rw[List.all_eq_true] at h5 ⊢
 intro d hd
 have h7:=h5 d hd
 rw[Bool.or_eq_true,Bool.and_eq_true,decide_eq_true_eq] at h7
 rcases h7 with h7|⟨h8,h9⟩
 ·rw[h7,Bool.true_or]
 ·rw[reach_bit hB _ d h8 h8 h9,Bool.or_true]
theorem with_tabW {P:Program} {Q:Exit→Act→World→Prop} {S:World→Prop} {n:Nat} {a:Act} {w:World} {B:List Nat} (hT:rtab md ops=T) (hB:waitsOk T.2 B=true) (h:Aside0 (rtab md ops=T)→Aside0 (waitsOk T.2 B=true)→wpAnyLast P md ops Q S ds n l a w):wpAnyLast P md ops Q S ds n l a w:=h ⟨hT⟩ ⟨hB⟩
end
def opsIn:Code→Nat→Option (Array Oper)
 | .region id ops _,k=>if id==k then some ops else none
 | .seq a b,k=>match opsIn a k with
  |some o=>some o
  |none=>opsIn b k
 | .cond _ a b,k=>match opsIn a k with
  |some o=>some o
  |none=>opsIn b k
 | .block _ c,k=>opsIn c k
 | .loop c,k=>opsIn c k
 | .scope c,k=>opsIn c k
 | .rangeFunc _ _ a b,k=>match opsIn a k with
  |some o=>some o
  |none=>opsIn b k
 |_,_=>none
def opsOf (f:Func) (k:Nat):Array Oper:=((f.body.bind fun c=>opsIn c k)).getD #[]
end Go.Proofs.YtifkbghnmhineaaW.PrintLast
end
section
namespace Go.Proofs.YtifkbghnmhineaaW.PrintWords
open Go.RowKit
section
variable {w w' u:World} {m B g:Nat} {o:Obj} {row:Option Nat} {S:Nat→Prop} {a:Addr} {v:Value}
theorem below_at (hq:w.drewN m=w') (h:Below B u w):Below B u w':=by subst hq;exact pw_below_drewN h m
theorem kept_at (hq:w.drewN m=w') (h:Kept u w S):Kept u w' S:=by subst hq;exact Kept.drewN h m
end
end Go.Proofs.YtifkbghnmhineaaW.PrintWords
end
section
namespace Go.Proofs.YtifkbghnmhineaaW.PrintWords
theorem Reps.one {α:Type} {R:α→List Value→Prop} {ps:List α} {cs:List Value} {p:α} {v:Value} (hp:R p [v]) (h:Reps R 1 ps cs):Reps R 1 (p::ps) (v::cs):=by
 refine⟨by simp [h.1],fun j q hq=>?_⟩
 cases j with
 |zero=>
  simp only[List.getElem?_cons_zero,Option.some.injEq] at hq
  subst hq
  simpa using hp
 |succ j=>
  simp only[List.getElem?_cons_succ] at hq
  have h1:=h.2 j q hq
  simpa [Nat.mul_one] using h1
theorem Reps.front {α:Type} {R:α→List Value→Prop} {size:Nat} {ps:List α} {cs c all:List Value} {p:α} (hp:R p c) (hc:c.length=size) (h:Reps R size ps cs) (ha:c++cs=all):Reps R size (p::ps) all:=by
 subst ha
 refine⟨by rw[List.length_append,hc,h.1,List.length_cons,Nat.succ_mul,Nat.add_comm],fun j q hq=>?_⟩
 cases j with
 |zero=>
  simp only[List.getElem?_cons_zero,Option.some.injEq] at hq
  subst hq
  rw[Nat.zero_mul,List.drop_zero,List.take_append_of_le_length (by omega),List.take_of_length_le (by omega)]
  exact hp
 |succ j=>
  simp only[List.getElem?_cons_succ] at hq
  have h1:=h.2 j q hq
  rw[Nat.succ_mul,List.drop_append,List.drop_of_length_le (by rw[hc];exact Nat.le_add_left _ _),List.nil_append,hc,Nat.add_sub_cancel]
  exact h1
theorem Reps.c2 {α:Type} {R:α→List Value→Prop} {ps:List α} {cs:List Value} {p:α} {va vb:Value} (hp:R p [va,vb]) (h:Reps R 2 ps cs):Reps R 2 (p::ps) (va::vb::cs):=Reps.front hp rfl h rfl
theorem Reps.c3 {α:Type} {R:α→List Value→Prop} {ps:List α} {cs:List Value} {p:α} {va vb vc:Value} (hp:R p [va,vb,vc]) (h:Reps R 3 ps cs):Reps R 3 (p::ps) (va::vb::vc::cs):=Reps.front hp rfl h rfl
theorem Reps.c4 {α:Type} {R:α→List Value→Prop} {ps:List α} {cs:List Value} {p:α} {va vb vc vd:Value} (hp:R p [va,vb,vc,vd]) (h:Reps R 4 ps cs):Reps R 4 (p::ps) (va::vb::vc::vd::cs):=Reps.front hp rfl h rfl
theorem Reps.c5 {α:Type} {R:α→List Value→Prop} {ps:List α} {cs:List Value} {p:α} {va vb vc vd ve:Value} (hp:R p [va,vb,vc,vd,ve]) (h:Reps R 5 ps cs):Reps R 5 (p::ps) (va::vb::vc::vd::ve::cs):=Reps.front hp rfl h rfl
theorem Reps.c6 {α:Type} {R:α→List Value→Prop} {ps:List α} {cs:List Value} {p:α} {va vb vc vd ve vf:Value} (hp:R p [va,vb,vc,vd,ve,vf]) (h:Reps R 6 ps cs):Reps R 6 (p::ps) (va::vb::vc::vd::ve::vf::cs):=Reps.front hp rfl h rfl
theorem Reps.c7 {α:Type} {R:α→List Value→Prop} {ps:List α} {cs:List Value} {p:α} {va vb vc vd ve vf vg:Value} (hp:R p [va,vb,vc,vd,ve,vf,vg]) (h:Reps R 7 ps cs):Reps R 7 (p::ps) (va::vb::vc::vd::ve::vf::vg::cs):=Reps.front hp rfl h rfl
theorem Reps.c8 {α:Type} {R:α→List Value→Prop} {ps:List α} {cs:List Value} {p:α} {va vb vc vd ve vf vg vh:Value} (hp:R p [va,vb,vc,vd,ve,vf,vg,vh]) (h:Reps R 8 ps cs):Reps R 8 (p::ps) (va::vb::vc::vd::ve::vf::vg::vh::cs):=Reps.front hp rfl h rfl
theorem Reps.c9 {α:Type} {R:α→List Value→Prop} {ps:List α} {cs:List Value} {p:α} {va vb vc vd ve vf vg vh vi:Value} (hp:R p [va,vb,vc,vd,ve,vf,vg,vh,vi]) (h:Reps R 9 ps cs):Reps R 9 (p::ps) (va::vb::vc::vd::ve::vf::vg::vh::vi::cs):=Reps.front hp rfl h rfl
theorem Reps.c10 {α:Type} {R:α→List Value→Prop} {ps:List α} {cs:List Value} {p:α} {va vb vc vd ve vf vg vh vi vj:Value} (hp:R p [va,vb,vc,vd,ve,vf,vg,vh,vi,vj]) (h:Reps R 10 ps cs):Reps R 10 (p::ps) (va::vb::vc::vd::ve::vf::vg::vh::vi::vj::cs):=Reps.front hp rfl h rfl
end Go.Proofs.YtifkbghnmhineaaW.PrintWords
end
section
namespace Go.Proofs.YtifkbghnmhineaaW.PrintWords
open Go.RowKit
section
variable {P:Program} {ops:Array Oper} {rest:List Oper} {o:Oper} {a:Act} {Q:Exit→Act→World→Prop} {W:World}
theorem gate_guard (hw:Region.wanted o (yielded ops a.tmps)=true) (h:wpList P ops Q ({o with guard:=none}::rest) a W):wpList P ops Q (o::rest) a W:=by
 have h1:Region.wanted {o with guard:=none} (yielded ops a.tmps)=true:=rfl
 unfold wpList at h ⊢
 rw[if_pos h1] at h
 rw[if_pos hw]
 exact h
end
end Go.Proofs.YtifkbghnmhineaaW.PrintWords
end
namespace Go.Proofs.Ytifkbghnmhineaa.PAll
open Go.RowKit Go.Proofs.YtifkbghnmhineaaW.PrintWords Go.Proofs.YtifkbghnmhineaaW.PrintLast Go.Proofs.YtifkbghnmhineaaW.PrintMore
attribute [local go_sem] max2_int min2_int max_two min_two max_three min_three max_four min_four
set_option linter.unusedVariables false
set_option linter.unusedSimpArgs false
def errW:Option Int→Value
 |none=> .nilIface
 |some c=> .iface 0 (.int .i64 c)
theorem errW_none:errW none= .nilIface:=rfl
theorem errW_some (c:Int):errW (some c)= .iface 0 (.int .i64 c):=rfl
theorem info3:(Try.prog.info? 3).map (fun i=>(i.zero,i.size,i.bytes))=some (some (.int .i64 0),1,8):=by kernel_rfl
theorem info22:(Try.prog.info? 22).map (fun i=>(i.zero,i.size,i.bytes))=some (some (.slice none 0 0),1,24):=by kernel_rfl
theorem info29:(Try.prog.info? 29).map (fun i=>(i.zero,i.size,i.bytes))=some (some (.slice none 0 0),1,24):=by kernel_rfl
theorem info97:(Try.prog.info? 97).map (fun i=>(i.zero,i.size,i.bytes))=some (some (.int .u32 0),1,4):=by kernel_rfl
theorem info113:(Try.prog.info? 113).map (fun i=>(i.zero,i.size,i.bytes))=some (some (.agg #[(.bool false),(.slice none 0 0)]),2,32):=by kernel_rfl
theorem info114:(Try.prog.info? 114).map (fun i=>(i.zero,i.size,i.bytes))=some (some (.slice none 0 0),1,24):=by kernel_rfl
def rd_L1 (xs:List (List Int)) (i:Int):(List Int):=xs.getD i.toNat ([]:List Int)
theorem at_L1 {w:World} {A:Option Addr} {n:Nat} {xs:List (List Int)} (h:Kd.C (Kd.slice 3 (Kd.int .i64)) w A n xs) (i:Int) (h0:0≤i) (h1:i<n):∃ad A0 c0,A=some ad∧w.cell? (ad.add i.toNat)=some (.slice A0 (rd_L1 xs i).length c0)∧(rd_L1 xs i).length≤c0∧(Kd.int .i64).C w A0 (rd_L1 xs i).length (rd_L1 xs i):=by
 obtain⟨ad,c,e,_,hK,hc0⟩:=Kd.C_get h ([]:List Int) i h0 h1
 have hc:∀j u,c[j]?=some u→w.cell? (ad.add (i.toNat*1+j))=some u:=hc0
 obtain⟨A0,c0,rfl,l0,g0⟩:=hK
 exact⟨ad,A0,c0,e,by have hq:=hc 0 _ rfl;rwa [Nat.mul_one,Nat.add_zero] at hq,l0,g0⟩
def rd_L3 (xs:List (List Int)) (i:Int):(List Int):=xs.getD i.toNat ([]:List Int)
theorem at_L3 {w:World} {A:Option Addr} {n:Nat} {xs:List (List Int)} (h:Kd.C (Kd.slice 97 (Kd.int .u32)) w A n xs) (i:Int) (h0:0≤i) (h1:i<n):∃ad A0 c0,A=some ad∧w.cell? (ad.add i.toNat)=some (.slice A0 (rd_L3 xs i).length c0)∧(rd_L3 xs i).length≤c0∧(Kd.int .u32).C w A0 (rd_L3 xs i).length (rd_L3 xs i):=by
 obtain⟨ad,c,e,_,hK,hc0⟩:=Kd.C_get h ([]:List Int) i h0 h1
 have hc:∀j u,c[j]?=some u→w.cell? (ad.add (i.toNat*1+j))=some u:=hc0
 obtain⟨A0,c0,rfl,l0,g0⟩:=hK
 exact⟨ad,A0,c0,e,by have hq:=hc 0 _ rfl;rwa [Nat.mul_one,Nat.add_zero] at hq,l0,g0⟩
structure S113 where
 f0:Bool
 f1:(List Int)
def z113:S113:=⟨false,([]:List Int)⟩
def k113:Kd S113:=Kd.iso (Kd.pair Kd.bool (Kd.slice 97 (Kd.int .u32))) (fun x:S113=>(x.f0,x.f1))
theorem k113_open {w:World} {x:S113} {cs:List Value} (h:k113.K w x cs):∃A1 c1,cs=[.bool x.f0, .slice A1 x.f1.length c1]∧x.f1.length≤c1∧(Kd.int .u32).C w A1 x.f1.length x.f1:=by
 obtain⟨_,_,rfl,rfl,⟨A1,c1,rfl,l1,g1⟩⟩:=h
 exact⟨A1,c1,rfl,l1,g1⟩
theorem k113_mk (w:World) (x:S113) {A1:Option Addr} {c1:Nat} (l1:x.f1.length≤c1) (g1:(Kd.int .u32).C w A1 x.f1.length x.f1):k113.K w x [.bool x.f0, .slice A1 x.f1.length c1]:=⟨[.bool x.f0],[.slice A1 x.f1.length c1],rfl,rfl,⟨A1,c1,rfl,l1,g1⟩⟩
theorem k113_openF {W:World} {ok:Nat→Prop} {x:S113} {cs:List Value} (h:Kd.FK k113 W ok x cs):∃A1 c1,cs=[.bool x.f0, .slice A1 x.f1.length c1]∧x.f1.length≤c1∧Kd.F (Kd.int .u32) W ok A1 x.f1.length x.f1:=by
 obtain⟨A1,c1,rfl,l1,_⟩:=k113_open (Kd.FK_now h)
 exact⟨A1,c1,rfl,l1,(fun W' hW=>by obtain⟨A1_,c1_,he,l1_,g1_⟩:=k113_open (h W' hW);injection (Option.some.inj (show some (Value.slice A1 x.f1.length c1)=some (Value.slice A1_ x.f1.length c1_) from congrArg (fun l=>l[1]?) he)) with ha_ _ _;rw[ha_];exact g1_)⟩
theorem k113_mkF (W:World) (ok:Nat→Prop) (x:S113) {A1:Option Addr} {c1:Nat} (l1:x.f1.length≤c1) (g1:Kd.F (Kd.int .u32) W ok A1 x.f1.length x.f1):Kd.FK k113 W ok x [.bool x.f0, .slice A1 x.f1.length c1]:=fun W2 hW=>k113_mk W2 x l1 (g1 W2 hW)
def rd_T113 (xs:List S113) (i:Int):S113:=xs.getD i.toNat z113
theorem at_T113 {w:World} {A:Option Addr} {n:Nat} {xs:List S113} (h:Kd.C k113 w A n xs) (i:Int) (h0:0≤i) (h1:i<n):∃ad A1 c1,A=some ad∧w.cell? (ad.add (i.toNat*2))=some (.bool (rd_T113 xs i).f0)∧w.cell? ⟨(ad.add (i.toNat*2)).block,(ad.add (i.toNat*2)).off+1,none⟩=some (.slice A1 (rd_T113 xs i).f1.length c1)∧(rd_T113 xs i).f1.length≤c1∧(Kd.int .u32).C w A1 (rd_T113 xs i).f1.length (rd_T113 xs i).f1:=by
 obtain⟨ad,c,e,_,hK,hc0⟩:=Kd.C_get h z113 i h0 h1
 have hc:∀j u,c[j]?=some u→w.cell? (ad.add (i.toNat*2+j))=some u:=hc0
 obtain⟨A1,c1,rfl,l1,g1⟩:=k113_open hK
 exact⟨ad,A1,c1,e,hc 0 _ rfl,by rw[←add_field _ _ 1 (by omega)];exact hc 1 _ rfl,l1,g1⟩
def rd_L6 (xs:List (List S113)) (i:Int):(List S113):=xs.getD i.toNat ([]:List S113)
theorem at_L6 {w:World} {A:Option Addr} {n:Nat} {xs:List (List S113)} (h:Kd.C (Kd.slice 113 k113) w A n xs) (i:Int) (h0:0≤i) (h1:i<n):∃ad A0 c0,A=some ad∧w.cell? (ad.add i.toNat)=some (.slice A0 (rd_L6 xs i).length c0)∧(rd_L6 xs i).length≤c0∧k113.C w A0 (rd_L6 xs i).length (rd_L6 xs i):=by
 obtain⟨ad,c,e,_,hK,hc0⟩:=Kd.C_get h ([]:List S113) i h0 h1
 have hc:∀j u,c[j]?=some u→w.cell? (ad.add (i.toNat*1+j))=some u:=hc0
 obtain⟨A0,c0,rfl,l0,g0⟩:=hK
 exact⟨ad,A0,c0,e,by have hq:=hc 0 _ rfl;rwa [Nat.mul_one,Nat.add_zero] at hq,l0,g0⟩
end Go.Proofs.Ytifkbghnmhineaa.PAll
namespace Go.Proofs.Ytifkbghnmhineaa.PAll
open Go.RowKit Go.Proofs.YtifkbghnmhineaaW.PrintWords Go.Proofs.YtifkbghnmhineaaW.PrintLast Go.Proofs.YtifkbghnmhineaaW.PrintMore
set_option linter.unusedVariables false
set_option linter.unusedSimpArgs false
set_option maxHeartbeats 8000000 in
set_option maxRecDepth 100000 in
def bits_Len32.f (a0:Int):Option (Int):=if 0≤a0 then(if a0≤4294967295 then(some ((Lib.bitLen a0.toNat:Nat):Int)) else none) else none
def bits_LeadingZeros32.f (a0:Int):Option (Int):=(bits_Len32.f a0).bind fun t101=>(some (wrap64 (32-t101)))
mutual
def r4_Order.j0:Nat→Bool→Int→Int→List Int→Option (Int)
 |0,_,_,_,_=>none
 |k+1,x17,x102000,x102001,x102002=>if x17=true then(some 0) else(r4_Order.l0 k 1 0 x102000 x102001 x102002)
def r4_Order.l0:Nat→Int→Int→Int→Int→List Int→Option (Int)
 |0,_,_,_,_,_=>none
 |k+1,x3,x4,x102000,x102001,x102002=>if x4<x102001 then(if x102000=0 then(none) else(if x3>(wrap64 (Int.tdiv (256:Int) x102000)) then(some 0) else(r4_Order.l0 k (wrap64 (x3*x102000)) (wrap64 (x4+1)) x102000 x102001 x102002))) else(some x3)
end
def r4_Order.f (k:Nat) (a0_0:Int) (a0_1:Int) (l0_2:List Int):Option (Int):=if a0_0<2 then(r4_Order.j0 k true a0_0 a0_1 l0_2) else(if a0_1<1 then(r4_Order.j0 k true a0_0 a0_1 l0_2) else(r4_Order.j0 k (decide (a0_1>8)) a0_0 a0_1 l0_2))
def r4_digits.l0:Nat→Int→Int→Int→List Int→Int→Option (List Int)
 |0,_,_,_,_,_=>none
 |k+1,x0,x1,x2,x7,x8=>if x8<x2 then(if x1=0 then(none) else(if 0≤x8 then(if x8<(x7.length:Int) then(r4_digits.l0 k (wrap64 (Int.tdiv x0 x1)) x1 x2 (x7.set (x8:Int).toNat (Int.tmod x0 x1)) (wrap64 (x8+1))) else(none)) else(none))) else(some x7)
def r4_digits.f (k:Nat) (a0:Int) (a1:Int) (a2:Int):Option (List Int):=if 0≤a2 then(if(a2:Int).toNat≤35184372088832 then(r4_digits.l0 k a0 a1 a2 (List.replicate (a2:Int).toNat 0) 0) else(none)) else(none)
mutual
def r4_divides.l0:Nat→List Int→Int→Int→List Int→Int→Option (Bool)
 |0,_,_,_,_,_=>none
 |k+1,x0,x2,x7,x8,x9=>if x9≥x7 then(if 0≤x9 then(if x9<(x8.length:Int) then(r4_divides.l1 k x0 x2 x7 x8 x9 (rd x8 x9) 0) else(none)) else(none)) else(r4_divides.l2 k x8 0)
def r4_divides.l1:Nat→List Int→Int→Int→List Int→Int→Int→Int→Option (Bool)
 |0,_,_,_,_,_,_,_=>none
 |k+1,x0,x2,x7,x8,x9,x10,x11=>if x11<x7 then(if 0≤(wrap64 ((wrap64 (x9-x7))+x11)) then(if(wrap64 ((wrap64 (x9-x7))+x11))<(x8.length:Int) then(if 0≤x11 then(if x11<(x0.length:Int) then(if x2=0 then(none) else(r4_divides.l1 k x0 x2 x7 (x8.set ((wrap64 ((wrap64 (x9-x7))+x11)):Int).toNat (Int.tmod (wrap64 ((rd x8 (wrap64 ((wrap64 (x9-x7))+x11)))+(wrap64 ((wrap64 (x2-x10))*(rd x0 x11))))) x2)) x9 x10 (wrap64 (x11+1)))) else(none)) else(none)) else(none)) else(none)) else(if 0≤x9 then(if x9<(x8.length:Int) then(r4_divides.l0 k x0 x2 x7 (x8.set (x9:Int).toNat 0) (wrap64 (x9-1))) else(none)) else(none))
def r4_divides.l2:Nat→List Int→Int→Option (Bool)
 |0,_,_=>none
 |k+1,x8,x12=>if x12<(x8.length:Int) then(if 0≤x12 then(if(rd x8 x12)=0 then(r4_divides.l2 k x8 (wrap64 (x12+1))) else(some false)) else(none)) else(some true)
end
def r4_divides.f (k:Nat) (l0:List Int) (l1:List Int) (a2:Int):Option (Bool):=(some (([]:List Int):List Int)).bind fun y101=>(if y101.length+l1.length<17592186044416 then((some (y101++l1:List Int)).bind fun y104=>(if y104.length<17592186044416 then((some (y104++[1]:List Int)).bind fun y107=>(r4_divides.l0 k l0 a2 (l0.length:Int) y107 (wrap64 ((y107.length:Int)-1)))) else(none))) else(none))
mutual
def r4_irreducible.l0:Nat→List Int→Int→Int→Int→Option (Bool)
 |0,_,_,_,_=>none
 |k+1,x0,x1,x5,x6=>if(wrap64 (2*x6))≤(x0.length:Int) then(r4_irreducible.l1 k x0 x1 (wrap64 (x5*x1)) x6 0) else(some true)
def r4_irreducible.l1:Nat→List Int→Int→Int→Int→Int→Option (Bool)
 |0,_,_,_,_,_=>none
 |k+1,x0,x1,x5,x6,x7=>if x7<x5 then((r4_digits.f k x7 x1 x6).bind fun t101=>((r4_divides.f k t101 x0 x1).bind fun t104=>(if t104=true then(some false) else(r4_irreducible.l1 k x0 x1 x5 x6 (wrap64 (x7+1)))))) else(r4_irreducible.l0 k x0 x1 x5 (wrap64 (x6+1)))
end
def r4_irreducible.f (k:Nat) (l0:List Int) (a1:Int):Option (Bool):=r4_irreducible.l0 k l0 a1 1 1
def r4_prime.l0:Nat→Int→Int→Option (Bool)
 |0,_,_=>none
 |k+1,x0,x3=>if x3<x0 then(if x3=0 then(none) else(if(Int.tmod x0 x3)=0 then(some false) else(r4_prime.l0 k x0 (wrap64 (x3+1))))) else(some true)
def r4_prime.f (k:Nat) (a0:Int):Option (Bool):=r4_prime.l0 k a0 2
mutual
def r4_Check.j0:Nat→Bool→Int→Int→List Int→Option (Int)
 |0,_,_,_,_=>none
 |k+1,x12,x102000,x102001,x102002=>if x12=true then(some 1) else(if x102001=1 then(if(x102002.length:Int)=0 then(some 0) else(some 1)) else(if(x102002.length:Int)=x102001 then(r4_Check.l0 k 0 x102000 x102001 x102002) else(some 1)))
def r4_Check.l0:Nat→Int→Int→Int→List Int→Option (Int)
 |0,_,_,_,_=>none
 |k+1,x3,x102000,x102001,x102002=>if x3<x102001 then(if 0≤x3 then(if x3<(x102002.length:Int) then(if(rd x102002 x3)<0 then(some 1) else(if(rd x102002 x3)≥x102000 then(some 1) else(r4_Check.l0 k (wrap64 (x3+1)) x102000 x102001 x102002))) else(none)) else(none)) else((r4_irreducible.f k x102002 x102000).bind fun t106=>(if t106=true then(some 0) else(some 1)))
end
def r4_Check.f (k:Nat) (a0_0:Int) (a0_1:Int) (l0_2:List Int):Option (Int):=(r4_Order.f k a0_0 a0_1 l0_2).bind fun t102=>(if t102=0 then(r4_Check.j0 k true a0_0 a0_1 l0_2) else((r4_prime.f k a0_0).bind fun t103=>(r4_Check.j0 k (!t103) a0_0 a0_1 l0_2)))
def r4_Is.f (k:Nat) (a0_0:Int) (a0_1:Int) (l0_2:List Int) (a1:Int):Option (Bool):=if a1≥0 then((r4_Order.f k a0_0 a0_1 l0_2).bind fun t102=>(some (decide (a1<t102)))) else(some false)
def r4_In.f (k:Nat) (a0_0:Int) (a0_1:Int) (l0_2:List Int) (a1:Int):Option (Int):=(r4_Is.f k a0_0 a0_1 l0_2 a1).bind fun t102=>(if t102=true then(some a1) else(some 0))
def r4_Digits.f (k:Nat) (a0_0:Int) (a0_1:Int) (l0_2:List Int) (a1:Int):Option (List Int):=(r4_In.f k a0_0 a0_1 l0_2 a1).bind fun t102=>((r4_digits.f k t102 a0_0 a0_1).bind fun t103=>(some t103))
def r4_Value.l0:Nat→List Int→Int→Int→Int→Int→List Int→Option (Int)
 |0,_,_,_,_,_,_=>none
 |k+1,x1,x5,x6,x102000,x102001,x102002=>if x6≥0 then(if 0≤x6 then(if x6<(x1.length:Int) then(r4_Value.l0 k x1 (wrap64 ((wrap64 (x5*x102000))+(rd x1 x6))) (wrap64 (x6-1)) x102000 x102001 x102002) else(none)) else(none)) else(some x5)
def r4_Value.f (k:Nat) (a0_0:Int) (a0_1:Int) (l0_2:List Int) (l1:List Int):Option (Int):=r4_Value.l0 k l1 0 (wrap64 ((l1.length:Int)-1)) a0_0 a0_1 l0_2
def r4_Add.l0:Nat→List Int→List Int→Int→Int→Int→List Int→Option (Int)
 |0,_,_,_,_,_,_=>none
 |k+1,x7,x8,x9,x102000,x102001,x102002=>if x9<(x7.length:Int) then(if 0≤x9 then(if x9<(x8.length:Int) then(if x102000=0 then(none) else(r4_Add.l0 k (x7.set (x9:Int).toNat (Int.tmod (wrap64 ((rd x7 x9)+(rd x8 x9))) x102000)) x8 (wrap64 (x9+1)) x102000 x102001 x102002)) else(none)) else(none)) else((r4_Value.f k x102000 x102001 x102002 x7).bind fun t111=>(some t111))
def r4_Add.f (k:Nat) (a0_0:Int) (a0_1:Int) (l0_2:List Int) (a1:Int) (a2:Int):Option (Int):=(r4_Digits.f k a0_0 a0_1 l0_2 a1).bind fun t102=>((r4_Digits.f k a0_0 a0_1 l0_2 a2).bind fun t105=>(r4_Add.l0 k t102 t105 0 a0_0 a0_1 l0_2))
mutual
def r4_Mul.l0:Nat→List Int→List Int→List Int→Int→Int→Int→List Int→Option (Int)
 |0,_,_,_,_,_,_,_=>none
 |k+1,x7,x8,x9,x10,x102000,x102001,x102002=>if x10<x102001 then(r4_Mul.l1 k x7 x8 x9 x10 0 x102000 x102001 x102002) else(r4_Mul.l2 k x9 (wrap64 ((wrap64 (2*x102001))-2)) x102000 x102001 x102002)
def r4_Mul.l1:Nat→List Int→List Int→List Int→Int→Int→Int→Int→List Int→Option (Int)
 |0,_,_,_,_,_,_,_,_=>none
 |k+1,x7,x8,x9,x10,x11,x102000,x102001,x102002=>if x11<x102001 then(if 0≤(wrap64 (x10+x11)) then(if(wrap64 (x10+x11))<(x9.length:Int) then(if 0≤x10 then(if x10<(x7.length:Int) then(if 0≤x11 then(if x11<(x8.length:Int) then(if x102000=0 then(none) else(r4_Mul.l1 k x7 x8 (x9.set ((wrap64 (x10+x11)):Int).toNat (Int.tmod (wrap64 ((rd x9 (wrap64 (x10+x11)))+(wrap64 ((rd x7 x10)*(rd x8 x11))))) x102000)) x10 (wrap64 (x11+1)) x102000 x102001 x102002)) else(none)) else(none)) else(none)) else(none)) else(none)) else(none)) else(r4_Mul.l0 k x7 x8 x9 (wrap64 (x10+1)) x102000 x102001 x102002)
def r4_Mul.l2:Nat→List Int→Int→Int→Int→List Int→Option (Int)
 |0,_,_,_,_,_=>none
 |k+1,x9,x12,x102000,x102001,x102002=>if x12≥x102001 then(r4_Mul.l3 k x9 x12 0 x102000 x102001 x102002) else(if 0≤x102001 then(if x102001≤(x9.length:Int) then((r4_Value.f k x102000 x102001 x102002 (x9.take (x102001:Int).toNat)).bind fun t119=>(some t119)) else(none)) else(none))
def r4_Mul.l3:Nat→List Int→Int→Int→Int→Int→List Int→Option (Int)
 |0,_,_,_,_,_,_=>none
 |k+1,x9,x12,x13,x102000,x102001,x102002=>if x13<x102001 then(if 0≤(wrap64 ((wrap64 (x12-x102001))+x13)) then(if(wrap64 ((wrap64 (x12-x102001))+x13))<(x9.length:Int) then(if 0≤x12 then(if x12<(x9.length:Int) then(if 0≤x13 then(if x13<(x102002.length:Int) then(if x102000=0 then(none) else(r4_Mul.l3 k (x9.set ((wrap64 ((wrap64 (x12-x102001))+x13)):Int).toNat (Int.tmod (wrap64 ((rd x9 (wrap64 ((wrap64 (x12-x102001))+x13)))+(wrap64 ((wrap64 (x102000-(rd x9 x12)))*(rd x102002 x13))))) x102000)) x12 (wrap64 (x13+1)) x102000 x102001 x102002)) else(none)) else(none)) else(none)) else(none)) else(none)) else(none)) else(r4_Mul.l2 k x9 (wrap64 (x12-1)) x102000 x102001 x102002)
end
def r4_Mul.f (k:Nat) (a0_0:Int) (a0_1:Int) (l0_2:List Int) (a1:Int) (a2:Int):Option (Int):=(r4_Digits.f k a0_0 a0_1 l0_2 a1).bind fun t102=>((r4_Digits.f k a0_0 a0_1 l0_2 a2).bind fun t105=>(if 0≤(wrap64 ((wrap64 (2*a0_1))-1)) then(if(wrap64 ((wrap64 (2*a0_1))-1):Int).toNat≤35184372088832 then(r4_Mul.l0 k t102 t105 (List.replicate (wrap64 ((wrap64 (2*a0_1))-1):Int).toNat 0) 0 a0_0 a0_1 l0_2) else(none)) else(none)))
def r24_Row.l0:Nat→Int→List Int→List Int→Int→Int→Int→List Int→Option (List Int)
 |0,_,_,_,_,_,_,_=>none
 |k+1,x1,x2,x7,x8,x102000,x102001,x102002=>if x8<x1 then(if x8<(x2.length:Int) then(if 0≤x8 then((r4_In.f k x102000 x102001 x102002 (rd x2 x8)).bind fun t106=>(if x8<(x7.length:Int) then(r24_Row.l0 k x1 x2 (x7.set (x8:Int).toNat t106) (wrap64 (x8+1)) x102000 x102001 x102002) else(none))) else(none)) else(some x7)) else(some x7)
def r24_Row.f (k:Nat) (a0_0:Int) (a0_1:Int) (l0_2:List Int) (a1:Int) (l2:List Int):Option (List Int):=if 0≤a1 then(if(a1:Int).toNat≤35184372088832 then(r24_Row.l0 k a1 l2 (List.replicate (a1:Int).toNat 0) 0 a0_0 a0_1 l0_2) else(none)) else(none)
def r24_Distance.l0:Nat→List Int→List Int→Int→Int→Option (Int)
 |0,_,_,_,_=>none
 |k+1,x0,x1,x5,x6=>if x6<(x0.length:Int) then(if 0≤x6 then(if x6<(x1.length:Int) then(if(rd x0 x6)=(rd x1 x6) then(r24_Distance.l0 k x0 x1 x5 (wrap64 (x6+1))) else(r24_Distance.l0 k x0 x1 (wrap64 (x5+1)) (wrap64 (x6+1)))) else(none)) else(none)) else(some x5)
def r24_Distance.f (k:Nat) (l0:List Int) (l1:List Int):Option (Int):=r24_Distance.l0 k l0 l1 0 0
def r24_has.l0:Nat→List (List Int)→List Int→Int→Option (Bool)
 |0,_,_,_=>none
 |k+1,x0,x1,x5=>if x5<(x0.length:Int) then(if 0≤x5 then((r24_Distance.f k (rd_L1 x0 x5) x1).bind fun t102=>(if t102=0 then(some true) else(r24_has.l0 k x0 x1 (wrap64 (x5+1))))) else(none)) else(some false)
def r24_has.f (k:Nat) (l0:List (List Int)) (l1:List Int):Option (Bool):=r24_has.l0 k l0 l1 0
mutual
def r24_Span.l0:Nat→Int→List (List Int)→Int→List (List Int)→Int→Int→Int→List Int→Option ((List (List Int)))
 |0,_,_,_,_,_,_,_,_=>none
 |k+1,x1,x2,x3,x9,x10,x102000,x102001,x102002=>if x10<(x2.length:Int) then(if 0≤x10 then((r24_Row.f k x102000 x102001 x102002 x1 (rd_L1 x2 x10)).bind fun t109=>((r24_has.f k x9 t109).bind fun t112=>(if t112=true then(r24_Span.l0 k x1 x2 x3 x9 (wrap64 (x10+1)) x102000 x102001 x102002) else((r4_Order.f k x102000 x102001 x102002).bind fun t113=>(if t113=0 then(none) else(if(x9.length:Int)>(wrap64 (Int.tdiv x3 t113)) then(some ([]:List (List Int))) else(r24_Span.l1 k x1 x2 x3 x9 x10 t109 ([]:List (List Int)) 0 x102000 x102001 x102002))))))) else(none)) else(some x9)
def r24_Span.l1:Nat→Int→List (List Int)→Int→List (List Int)→Int→List Int→List (List Int)→Int→Int→Int→List Int→Option ((List (List Int)))
 |0,_,_,_,_,_,_,_,_,_,_,_=>none
 |k+1,x1,x2,x3,x9,x10,x11,x12,x13,x102000,x102001,x102002=>(r4_Order.f k x102000 x102001 x102002).bind fun t114=>(if x13<t114 then(r24_Span.l2 k x1 x2 x3 x9 x10 x11 x12 x13 0 x102000 x102001 x102002) else(r24_Span.l0 k x1 x2 x3 x12 (wrap64 (x10+1)) x102000 x102001 x102002))
def r24_Span.l2:Nat→Int→List (List Int)→Int→List (List Int)→Int→List Int→List (List Int)→Int→Int→Int→Int→List Int→Option ((List (List Int)))
 |0,_,_,_,_,_,_,_,_,_,_,_,_=>none
 |k+1,x1,x2,x3,x9,x10,x11,x12,x13,x14,x102000,x102001,x102002=>if x14<(x9.length:Int) then(if 0≤x1 then(if(x1:Int).toNat≤35184372088832 then(r24_Span.l3 k x1 x2 x3 x9 x10 x11 x12 x13 x14 (List.replicate (x1:Int).toNat 0) 0 x102000 x102001 x102002) else(none)) else(none)) else(r24_Span.l1 k x1 x2 x3 x9 x10 x11 x12 (wrap64 (x13+1)) x102000 x102001 x102002)
def r24_Span.l3:Nat→Int→List (List Int)→Int→List (List Int)→Int→List Int→List (List Int)→Int→Int→List Int→Int→Int→Int→List Int→Option ((List (List Int)))
 |0,_,_,_,_,_,_,_,_,_,_,_,_,_,_=>none
 |k+1,x1,x2,x3,x9,x10,x11,x12,x13,x14,x15,x16,x102000,x102001,x102002=>if x16<x1 then(if 0≤x14 then(if x14<(x9.length:Int) then(if 0≤x16 then(if x16<((rd_L1 x9 x14).length:Int) then(if x16<(x11.length:Int) then((r4_Mul.f k x102000 x102001 x102002 x13 (rd x11 x16)).bind fun t121=>((r4_Add.f k x102000 x102001 x102002 (rd (rd_L1 x9 x14) x16) t121).bind fun t122=>(if x16<(x15.length:Int) then(r24_Span.l3 k x1 x2 x3 x9 x10 x11 x12 x13 x14 (x15.set (x16:Int).toNat t122) (wrap64 (x16+1)) x102000 x102001 x102002) else(none)))) else(none)) else(none)) else(none)) else(none)) else(none)) else(if x12.length<5864062014805 then(r24_Span.l2 k x1 x2 x3 x9 x10 x11 (x12++[x15]) x13 (wrap64 (x14+1)) x102000 x102001 x102002) else(none))
end
def r24_Span.f (k:Nat) (a0_0:Int) (a0_1:Int) (l0_2:List Int) (a1:Int) (l2:List (List Int)) (a3:Int):Option ((List (List Int))):=if 0≤a1 then(if(a1:Int).toNat≤35184372088832 then(r24_Span.l0 k a1 l2 a3 (([(List.replicate (a1:Int).toNat 0)]:List (List Int))) 0 a0_0 a0_1 l0_2) else(none)) else(none)
def r24_All.l0:Nat→Int→Int→List (List Int)→Int→Int→Int→List Int→Option ((List (List Int)))
 |0,_,_,_,_,_,_,_=>none
 |k+1,x1,x2,x7,x8,x102000,x102001,x102002=>if x8<x1 then(if 0≤x1 then(if(x1:Int).toNat≤35184372088832 then((some (List.replicate (x1:Int).toNat 0:List Int)).bind fun y102=>(if 0≤x8 then(if x8<(y102.length:Int) then(if x7.length<5864062014805 then(r24_All.l0 k x1 x2 (x7++[(y102.set (x8:Int).toNat 1)]) (wrap64 (x8+1)) x102000 x102001 x102002) else(none)) else(none)) else(none))) else(none)) else(none)) else((r24_Span.f k x102000 x102001 x102002 x1 x7 x2).bind fun t109=>(some t109))
def r24_All.f (k:Nat) (a0_0:Int) (a0_1:Int) (l0_2:List Int) (a1:Int) (a2:Int):Option ((List (List Int))):=r24_All.l0 k a1 a2 ([]:List (List Int)) 0 a0_0 a0_1 l0_2
mutual
def r4_Dot.l0:Nat→List Int→List Int→Int→Int→Int→Int→List Int→Option (Int)
 |0,_,_,_,_,_,_,_=>none
 |k+1,x1,x2,x7,x8,x102000,x102001,x102002=>if x8<(x1.length:Int) then(r4_Dot.j1 k x1 x2 x7 x8 (decide (x8<(x2.length:Int))) x102000 x102001 x102002) else(r4_Dot.j1 k x1 x2 x7 x8 false x102000 x102001 x102002)
def r4_Dot.j1:Nat→List Int→List Int→Int→Int→Bool→Int→Int→List Int→Option (Int)
 |0,_,_,_,_,_,_,_,_=>none
 |k+1,x1,x2,x7,x8,x18,x102000,x102001,x102002=>if x18=true then(if 0≤x8 then(if x8<(x1.length:Int) then(if x8<(x2.length:Int) then((r4_Mul.f k x102000 x102001 x102002 (rd x1 x8) (rd x2 x8)).bind fun t104=>((r4_Add.f k x102000 x102001 x102002 x7 t104).bind fun t105=>(r4_Dot.l0 k x1 x2 t105 (wrap64 (x8+1)) x102000 x102001 x102002))) else(none)) else(none)) else(none)) else(some x7)
end
def r4_Dot.f (k:Nat) (a0_0:Int) (a0_1:Int) (l0_2:List Int) (l1:List Int) (l2:List Int):Option (Int):=r4_Dot.l0 k l1 l2 0 0 a0_0 a0_1 l0_2
mutual
def r24_Orthogonal.l0:Nat→List (List Int)→List (List Int)→List (List Int)→Int→Int→Int→List Int→Option ((List (List Int)))
 |0,_,_,_,_,_,_,_=>none
 |k+1,x1,x2,x7,x8,x102000,x102001,x102002=>if x8<(x1.length:Int) then(r24_Orthogonal.l1 k x1 x2 x7 x8 true 0 x102000 x102001 x102002) else(some x7)
def r24_Orthogonal.l1:Nat→List (List Int)→List (List Int)→List (List Int)→Int→Bool→Int→Int→Int→List Int→Option ((List (List Int)))
 |0,_,_,_,_,_,_,_,_,_=>none
 |k+1,x1,x2,x7,x8,x9,x10,x102000,x102001,x102002=>if x10<(x2.length:Int) then(if x9=true then(if 0≤x8 then(if x8<(x1.length:Int) then(if 0≤x10 then((r4_Dot.f k x102000 x102001 x102002 (rd_L1 x1 x8) (rd_L1 x2 x10)).bind fun t104=>(r24_Orthogonal.l1 k x1 x2 x7 x8 (t104==0) (wrap64 (x10+1)) x102000 x102001 x102002)) else(none)) else(none)) else(none)) else(r24_Orthogonal.l1 k x1 x2 x7 x8 false (wrap64 (x10+1)) x102000 x102001 x102002)) else(if x9=true then(if 0≤x8 then(if x8<(x1.length:Int) then(if x7.length<5864062014805 then(r24_Orthogonal.l0 k x1 x2 (x7++[rd_L1 x1 x8]) (wrap64 (x8+1)) x102000 x102001 x102002) else(none)) else(none)) else(none)) else(r24_Orthogonal.l0 k x1 x2 x7 (wrap64 (x8+1)) x102000 x102001 x102002))
end
def r24_Orthogonal.f (k:Nat) (a0_0:Int) (a0_1:Int) (l0_2:List Int) (l1:List (List Int)) (l2:List (List Int)):Option ((List (List Int))):=r24_Orthogonal.l0 k l1 l2 ([]:List (List Int)) 0 a0_0 a0_1 l0_2
mutual
def w24_codes.j0:Nat→List (List Int)→Int→Bool→Int→Int→List Int→Option (Int×(List (List Int))×(List (List Int))×(List (List Int))×Bool)
 |0,_,_,_,_,_,_=>none
 |k+1,x2,x6,x24,x102000,x102001,x102002=>if x24=true then(some (0,([]:List (List Int)),([]:List (List Int)),([]:List (List Int)),false)) else((r24_Span.f k x102000 x102001 x102002 x6 x2 4096).bind fun t103=>((r24_All.f k x102000 x102001 x102002 x6 4096).bind fun t106=>(if(t103.length:Int)=0 then(w24_codes.j1 k x2 x6 t103 t106 true x102000 x102001 x102002) else(w24_codes.j1 k x2 x6 t103 t106 ((t106.length:Int)==0) x102000 x102001 x102002))))
def w24_codes.j1:Nat→List (List Int)→Int→List (List Int)→List (List Int)→Bool→Int→Int→List Int→Option (Int×(List (List Int))×(List (List Int))×(List (List Int))×Bool)
 |0,_,_,_,_,_,_,_,_=>none
 |k+1,x2,x6,x7,x9,x39,x102000,x102001,x102002=>if x39=true then(some (0,([]:List (List Int)),([]:List (List Int)),([]:List (List Int)),false)) else(w24_codes.l0 k x2 x6 x7 x9 ([]:List (List Int)) 0 x102000 x102001 x102002)
def w24_codes.l0:Nat→List (List Int)→Int→List (List Int)→List (List Int)→List (List Int)→Int→Int→Int→List Int→Option (Int×(List (List Int))×(List (List Int))×(List (List Int))×Bool)
 |0,_,_,_,_,_,_,_,_,_=>none
 |k+1,x2,x6,x7,x9,x11,x12,x102000,x102001,x102002=>if x12<(x2.length:Int) then(if 0≤x12 then((r24_Row.f k x102000 x102001 x102002 x6 (rd_L1 x2 x12)).bind fun t110=>(if x11.length<5864062014805 then(w24_codes.l0 k x2 x6 x7 x9 (x11++[t110]) (wrap64 (x12+1)) x102000 x102001 x102002) else(none))) else(none)) else((r24_Orthogonal.f k x102000 x102001 x102002 x9 x11).bind fun t116=>(some (x6,x7,t116,x9,true)))
end
def w24_codes.f (k:Nat) (a0_0:Int) (a0_1:Int) (l0_2:List Int) (a1:Int) (l2:List (List Int)):Option (Int×(List (List Int))×(List (List Int))×(List (List Int))×Bool):=(r4_Check.f k a0_0 a0_1 l0_2).bind fun t102=>(if t102=0 then(w24_codes.j0 k l2 (wrap64 ((Int.tmod (wrap64 (a1)) 12)+1)) (decide ((l2.length:Int)>12)) a0_0 a0_1 l0_2) else(w24_codes.j0 k l2 (wrap64 ((Int.tmod (wrap64 (a1)) 12)+1)) true a0_0 a0_1 l0_2))
def r1_Trim.l0:Nat→List Int→Int→Option (List Int)
 |0,_,_=>none
 |k+1,x0,x3=>if x3>0 then(if 0≤(wrap64 (x3-1)) then(if(wrap64 (x3-1))<(x0.length:Int) then(if(rd x0 (wrap64 (x3-1)))=0 then(r1_Trim.l0 k x0 (wrap64 (x3-1))) else((some (([]:List Int):List Int)).bind fun y102=>(if 0≤x3 then(if x3≤(x0.length:Int) then(if y102.length+(x0.take (x3:Int).toNat).length<35184372088832 then(some (y102++(x0.take (x3:Int).toNat))) else(none)) else(none)) else(none)))) else(none)) else(none)) else((some (([]:List Int):List Int)).bind fun y109=>(if 0≤x3 then(if x3≤(x0.length:Int) then(if y109.length+(x0.take (x3:Int).toNat).length<35184372088832 then(some (y109++(x0.take (x3:Int).toNat))) else(none)) else(none)) else(none)))
def r1_Trim.f (k:Nat) (l0:List Int):Option (List Int):=r1_Trim.l0 k l0 (l0.length:Int)
def r1_Zero.f (k:Nat) (l0:List Int):Option (Bool):=(r1_Trim.f k l0).bind fun t101=>(some ((t101.length:Int)==0))
def r24_nonzero.l0:Nat→List (List Int)→Int→Int→Int→Option (Int)
 |0,_,_,_,_=>none
 |k+1,x0,x1,x5,x6=>if x6≤x1 then(if 0≤x6 then(if x6<(x0.length:Int) then((r1_Zero.f k (rd_L3 x0 x6)).bind fun t102=>(if t102=true then(r24_nonzero.l0 k x0 x1 x5 (wrap64 (x6+1))) else(r24_nonzero.l0 k x0 x1 (wrap64 (x5+1)) (wrap64 (x6+1))))) else(none)) else(none)) else(some x5)
def r24_nonzero.f (k:Nat) (l0:List (List Int)) (a1:Int):Option (Int):=r24_nonzero.l0 k l0 a1 0 1
def r24_External.f (k:Nat) (l0:List (List Int)):Option (Int):=(r24_nonzero.f k l0 (wrap64 ((l0.length:Int)-1))).bind fun t101=>(some t101)
def r1_Of.f (k:Nat) (a0:Int):Option (List Int):=(r1_Trim.f k (([(Int.tmod a0 4294967296) % 4294967296,(IntKind.u64.wrap (Int.tdiv a0 4294967296)) % 4294967296]:List Int))).bind fun t104=>(some t104)
mutual
def r24_Weights.l0:Nat→Int→List (List Int)→List Int→List Int→Int→Option ((List (List Int)))
 |0,_,_,_,_,_=>none
 |k+1,x0,x1,x5,x6,x7=>if x7<(x1.length:Int) then(if 0≤x7 then((r24_Distance.f k (rd_L1 x1 x7) x6).bind fun t108=>(if 0≤t108 then(if t108<(x5.length:Int) then(r24_Weights.l0 k x0 x1 (x5.set (t108:Int).toNat (wrap64 ((rd x5 t108)+1))) x6 (wrap64 (x7+1))) else(none)) else(none))) else(none)) else(r24_Weights.l1 k x0 x5 ([]:List (List Int)) 0)
def r24_Weights.l1:Nat→Int→List Int→List (List Int)→Int→Option ((List (List Int)))
 |0,_,_,_,_=>none
 |k+1,x0,x5,x8,x9=>if x9≤x0 then(if 0≤x9 then(if x9<(x5.length:Int) then((r1_Of.f k (IntKind.u64.wrap (rd x5 x9))).bind fun t112=>(if x8.length<5864062014805 then(r24_Weights.l1 k x0 x5 (x8++[t112]) (wrap64 (x9+1))) else(none))) else(none)) else(none)) else(some x8)
end
def r24_Weights.f (k:Nat) (a0:Int) (l1:List (List Int)):Option ((List (List Int))):=if 0≤(wrap64 (a0+1)) then(if(wrap64 (a0+1):Int).toNat≤35184372088832 then(if 0≤a0 then(if(a0:Int).toNat≤35184372088832 then(r24_Weights.l0 k a0 l1 (List.replicate (wrap64 (a0+1):Int).toNat 0) (List.replicate (a0:Int).toNat 0) 0) else(none)) else(none)) else(none)) else(none)
def nat_short.l0:Nat→List Int→Int→Option (List Int)
 |0,_,_=>none
 |k+1,x0,x3=>if x3>0 then(if 0≤(wrap64 (x3-1)) then(if(wrap64 (x3-1))<(x0.length:Int) then(if(rd x0 (wrap64 (x3-1)))=0 then(nat_short.l0 k x0 (wrap64 (x3-1))) else(if 0≤x3 then(if x3≤(x0.length:Int) then(some (x0.take (x3:Int).toNat)) else(none)) else(none))) else(none)) else(none)) else(if 0≤x3 then(if x3≤(x0.length:Int) then(some (x0.take (x3:Int).toNat)) else(none)) else(none))
def nat_short.f (k:Nat) (l0:List Int):Option (List Int):=nat_short.l0 k l0 (l0.length:Int)
def nat_Trim.f (k:Nat) (l0:List Int):Option (List Int):=(nat_short.f k l0).bind fun t101=>(if([]:List Int).length+t101.length<35184372088832 then(some (([]:List Int)++t101)) else(none))
mutual
def nat_plus.j0:Nat→List Int→List Int→Option (List Int)
 |0,_,_=>none
 |k+1,x0,x1=>if 0≤(wrap64 ((x0.length:Int)+1)) then(if(wrap64 ((x0.length:Int)+1):Int).toNat≤70368744177664 then(nat_plus.l0 k x0 x1 (List.replicate (wrap64 ((x0.length:Int)+1):Int).toNat 0) 0 (x0.length:Int) 0) else(none)) else(none)
def nat_plus.l0:Nat→List Int→List Int→List Int→Int→Int→Int→Option (List Int)
 |0,_,_,_,_,_,_=>none
 |k+1,x0,x1,x5,x6,x21,x22=>if x22<x21 then(if 0≤x22 then(if x22<(x0.length:Int) then(if x22<(x1.length:Int) then(if x22<(x5.length:Int) then(nat_plus.l0 k x0 x1 (x5.set (x22:Int).toNat ((IntKind.u64.wrap ((IntKind.u64.wrap ((IntKind.u64.wrap (rd x0 x22))+x6))+(IntKind.u64.wrap (rd x1 x22)))) % 4294967296)) ((IntKind.u64.wrap ((IntKind.u64.wrap ((IntKind.u64.wrap (rd x0 x22))+x6))+(IntKind.u64.wrap (rd x1 x22)))) / 4294967296) x21 (wrap64 (x22+1))) else(none)) else(if x22<(x5.length:Int) then(nat_plus.l0 k x0 x1 (x5.set (x22:Int).toNat ((IntKind.u64.wrap ((IntKind.u64.wrap (rd x0 x22))+x6)) % 4294967296)) ((IntKind.u64.wrap ((IntKind.u64.wrap (rd x0 x22))+x6)) / 4294967296) x21 (wrap64 (x22+1))) else(none))) else(none)) else(none)) else(if 0≤(x0.length:Int) then(if(x0.length:Int)<(x5.length:Int) then((nat_short.f k (x5.set ((x0.length:Int):Int).toNat ((x6) % 4294967296))).bind fun t109=>(some t109)) else(none)) else(none))
end
def nat_plus.f (k:Nat) (l0:List Int) (l1:List Int):Option (List Int):=if(l0.length:Int)<(l1.length:Int) then(nat_plus.j0 k l1 l0) else(nat_plus.j0 k l0 l1)
def nat_Add.l0:Nat→List Int→List (List Int)→Int→Int→Option (List Int)
 |0,_,_,_,_=>none
 |k+1,x3,x6,x7,x8=>if x8<x7 then(if 0≤x8 then(if x8<(x6.length:Int) then((nat_short.f k (rd_L3 x6 x8)).bind fun t102=>((nat_plus.f k x3 t102).bind fun t105=>(nat_Add.l0 k t105 x6 x7 (wrap64 (x8+1))))) else(none)) else(none)) else((nat_Trim.f k x3).bind fun t108=>(some t108))
def nat_Add.f (k:Nat) (l0:List (List Int)):Option (List Int):=nat_Add.l0 k ([]:List Int) l0 (l0.length:Int) 0
def nat_Cmp.l0:Nat→List Int→List Int→Int→Option (Int)
 |0,_,_,_=>none
 |k+1,x0,x1,x5=>if x5≥0 then(if 0≤x5 then(if x5<(x0.length:Int) then(if x5<(x1.length:Int) then(if(rd x0 x5)<(rd x1 x5) then(some (-1)) else(if(rd x0 x5)>(rd x1 x5) then(some 1) else(nat_Cmp.l0 k x0 x1 (wrap64 (x5-1))))) else(none)) else(none)) else(none)) else(some 0)
def nat_Cmp.f (k:Nat) (l0:List Int) (l1:List Int):Option (Int):=(nat_short.f k l0).bind fun t101=>((nat_short.f k l1).bind fun t104=>(if(t101.length:Int)=(t104.length:Int) then(nat_Cmp.l0 k t101 t104 (wrap64 ((t101.length:Int)-1))) else(if(t101.length:Int)<(t104.length:Int) then(some (-1)) else(some 1))))
def nat_Sub.l0:Nat→List Int→List Int→Int→Int→Int→Option (List Int×Int)
 |0,_,_,_,_,_=>none
 |k+1,x1,x6,x7,x17,x18=>if x18<x17 then(if 0≤x18 then(if x18<(x6.length:Int) then(if x18<(x1.length:Int) then(nat_Sub.l0 k x1 (x6.set (x18:Int).toNat ((IntKind.u64.wrap ((IntKind.u64.wrap ((IntKind.u64.wrap (rd x6 x18))-x7))-(IntKind.u64.wrap (rd x1 x18)))) % 4294967296)) ((IntKind.u64.wrap ((IntKind.u64.wrap ((IntKind.u64.wrap (rd x6 x18))-x7))-(IntKind.u64.wrap (rd x1 x18)))) / 9223372036854775808) x17 (wrap64 (x18+1))) else(nat_Sub.l0 k x1 (x6.set (x18:Int).toNat ((IntKind.u64.wrap ((IntKind.u64.wrap (rd x6 x18))-x7)) % 4294967296)) ((IntKind.u64.wrap ((IntKind.u64.wrap (rd x6 x18))-x7)) / 9223372036854775808) x17 (wrap64 (x18+1)))) else(none)) else(none)) else((nat_short.f k x6).bind fun t109=>(some (t109,0)))
def nat_Sub.f (k:Nat) (l0:List Int) (l1:List Int):Option (List Int×Int):=(nat_Cmp.f k l0 l1).bind fun t101=>(if t101<0 then(some (([]:List Int),6)) else((nat_Trim.f k l0).bind fun t102=>(nat_Sub.l0 k l1 t102 0 (t102.length:Int) 0)))
def mw_plus.f (k:Nat) (a0_0:Bool) (l0_1:List Int) (a1_0:Bool) (l1_1:List Int):Option (Bool×List Int):=if(a0_0==a1_0)=true then((nat_Add.f k (([l0_1,l1_1]:List (List Int)))).bind fun t107=>(some (a0_0,t107))) else((nat_Cmp.f k l0_1 l1_1).bind fun t110=>(if t110<0 then((nat_Sub.f k l1_1 l0_1).bind fun bt111=>(some (a1_0,bt111.1))) else((nat_Sub.f k l0_1 l1_1).bind fun bt115=>(some (a0_0,bt115.1)))))
def mw_minus.f (k:Nat) (a0_0:Bool) (l0_1:List Int) (a1_0:Bool) (l1_1:List Int):Option (Bool×List Int):=(mw_plus.f k a0_0 l0_1 (!a1_0) l1_1).bind fun bt104=>(some (bt104.1,bt104.2))
def nat_Of.f (k:Nat) (a0:Int):Option (List Int):=(nat_Trim.f k (([(a0) % 4294967296,(a0 / 4294967296) % 4294967296]:List Int))).bind fun t104=>(some t104)
def mw_small.f (k:Nat) (a0:Int):Option (Bool×List Int):=(nat_Of.f k (IntKind.u64.wrap (a0))).bind fun t102=>(some (false,t102))
mutual
def nat_times.l0:Nat→List Int→List Int→List Int→Int→Int→Option (List Int)
 |0,_,_,_,_,_=>none
 |k+1,x1,x5,x18,x19,x20=>if x20<x19 then(if 0≤x20 then(if x20<(x18.length:Int) then(nat_times.l1 k x1 x5 x20 (rd x18 x20) 0 x18 x19 x20 x1 (x1.length:Int) 0) else(none)) else(none)) else((nat_short.f k x5).bind fun t104=>(some t104))
def nat_times.l1:Nat→List Int→List Int→Int→Int→Int→List Int→Int→Int→List Int→Int→Int→Option (List Int)
 |0,_,_,_,_,_,_,_,_,_,_,_=>none
 |k+1,x1,x5,x6,x7,x8,x18,x19,x20,x25,x26,x27=>if x27<x26 then(if 0≤x27 then(if x27<(x25.length:Int) then(if 0≤(wrap64 (x6+x27)) then(if(wrap64 (x6+x27))<(x5.length:Int) then(nat_times.l1 k x1 (x5.set ((wrap64 (x6+x27)):Int).toNat ((IntKind.u64.wrap ((IntKind.u64.wrap ((IntKind.u64.wrap ((IntKind.u64.wrap (x7))*(IntKind.u64.wrap (rd x25 x27))))+(IntKind.u64.wrap (rd x5 (wrap64 (x6+x27))))))+x8)) % 4294967296)) x6 x7 ((IntKind.u64.wrap ((IntKind.u64.wrap ((IntKind.u64.wrap ((IntKind.u64.wrap (x7))*(IntKind.u64.wrap (rd x25 x27))))+(IntKind.u64.wrap (rd x5 (wrap64 (x6+x27))))))+x8)) / 4294967296) x18 x19 x20 x25 x26 (wrap64 (x27+1))) else(none)) else(none)) else(none)) else(none)) else(if 0≤(wrap64 (x6+(x1.length:Int))) then(if(wrap64 (x6+(x1.length:Int)))<(x5.length:Int) then(nat_times.l0 k x1 (x5.set ((wrap64 (x6+(x1.length:Int))):Int).toNat ((x8) % 4294967296)) x18 x19 (wrap64 (x20+1))) else(none)) else(none))
end
def nat_times.f (k:Nat) (l0:List Int) (l1:List Int):Option (List Int):=if 0≤(wrap64 ((l0.length:Int)+(l1.length:Int))) then(if(wrap64 ((l0.length:Int)+(l1.length:Int)):Int).toNat≤70368744177664 then(nat_times.l0 k l1 (List.replicate (wrap64 ((l0.length:Int)+(l1.length:Int)):Int).toNat 0) l0 (l0.length:Int) 0) else(none)) else(none)
def nat_Mul.l0:Nat→List Int→List (List Int)→Int→Int→Option (List Int)
 |0,_,_,_,_=>none
 |k+1,x3,x7,x8,x9=>if x9<x8 then(if 0≤x9 then(if x9<(x7.length:Int) then((nat_short.f k (rd_L3 x7 x9)).bind fun t105=>((nat_times.f k x3 t105).bind fun t108=>(nat_Mul.l0 k t108 x7 x8 (wrap64 (x9+1))))) else(none)) else(none)) else((nat_Trim.f k x3).bind fun t111=>(some t111))
def nat_Mul.f (k:Nat) (l0:List (List Int)):Option (List Int):=nat_Mul.l0 k (([1]:List Int)) l0 (l0.length:Int) 0
def mw_times.f (k:Nat) (a0_0:Bool) (l0_1:List Int) (a1_0:Bool) (l1_1:List Int):Option (Bool×List Int):=(nat_Mul.f k (([l0_1,l1_1]:List (List Int)))).bind fun t107=>(some ((a0_0 != a1_0),t107))
def nat_digit.l0:Nat→List Int→Int→List Int→Int→Int→Option (List Int×Int)
 |0,_,_,_,_,_=>none
 |k+1,x0,x1,x6,x7,x8=>if x8≥0 then(if 0≤x8 then(if x8<(x0.length:Int) then(if(IntKind.u64.wrap (x1))=0 then(none) else(if x8<(x6.length:Int) then(nat_digit.l0 k x0 x1 (x6.set (x8:Int).toNat ((IntKind.u64.wrap (Int.tdiv (Go.bits .or .u64 (IntKind.u64.wrap (x7*4294967296)) (IntKind.u64.wrap (rd x0 x8))) (IntKind.u64.wrap (x1)))) % 4294967296)) (Int.tmod (Go.bits .or .u64 (IntKind.u64.wrap (x7*4294967296)) (IntKind.u64.wrap (rd x0 x8))) (IntKind.u64.wrap (x1))) (wrap64 (x8-1))) else(none))) else(none)) else(none)) else((nat_short.f k x6).bind fun t106=>(some (t106,(x7) % 4294967296)))
def nat_digit.f (k:Nat) (l0:List Int) (a1:Int):Option (List Int×Int):=if 0≤(l0.length:Int) then(if((l0.length:Int):Int).toNat≤70368744177664 then(nat_digit.l0 k l0 a1 (List.replicate ((l0.length:Int):Int).toNat 0) 0 (wrap64 ((l0.length:Int)-1))) else(none)) else(none)
mutual
def nat_Binomial.j0:Nat→Int→Int→Bool→Option (List Int×Int)
 |0,_,_,_=>none
 |k+1,x0,x1,x13=>if x13=true then(some (([]:List Int),6)) else(if x1<0 then(nat_Binomial.j1 k x0 x1 true) else(nat_Binomial.j1 k x0 x1 (decide (x1>x0))))
def nat_Binomial.j1:Nat→Int→Int→Bool→Option (List Int×Int)
 |0,_,_,_=>none
 |k+1,x0,x1,x20=>if x20=true then(some (([]:List Int),0)) else(nat_Binomial.l0 k x0 (([1]:List Int)) (mn x1 (wrap64 (x0-x1))) 0)
def nat_Binomial.l0:Nat→Int→List Int→Int→Int→Option (List Int×Int)
 |0,_,_,_,_=>none
 |k+1,x0,x6,x26,x27=>if x27<x26 then((nat_times.f k x6 (([(wrap64 (x0-x27)) % 4294967296]:List Int))).bind fun t107=>((nat_digit.f k t107 ((wrap64 (x27+1)) % 4294967296)).bind fun bt110=>(nat_Binomial.l0 k x0 bt110.1 x26 (wrap64 (x27+1))))) else((nat_Trim.f k x6).bind fun t114=>(some (t114,0)))
end
def nat_Binomial.f (k:Nat) (a0:Int) (a1:Int):Option (List Int×Int):=if a0<0 then(nat_Binomial.j0 k a0 a1 true) else(nat_Binomial.j0 k a0 a1 (decide (a0>4096)))
def nat_Bits.f (k:Nat) (l0:List Int):Option (Int):=(nat_short.f k l0).bind fun t101=>(if(t101.length:Int)=0 then(some 0) else(if 0≤(wrap64 ((t101.length:Int)-1)) then(if(wrap64 ((t101.length:Int)-1))<(t101.length:Int) then((bits_Len32.f (rd t101 (wrap64 ((t101.length:Int)-1)))).bind fun t105=>(some (wrap64 ((wrap64 (32*(wrap64 ((t101.length:Int)-1))))+t105)))) else(none)) else(none)))
mutual
def nat_Pow.j0:Nat→List Int→Int→Int→Bool→Option (List Int×Int)
 |0,_,_,_,_=>none
 |k+1,x0,x1,x6,x13=>if x13=true then(some ((([1]:List Int)),0)) else(if x6=0 then(some (([]:List Int),0)) else(if x1>131072 then(some (([]:List Int),8)) else(if(wrap64 ((wrap64 (x6-1))*x1))≥131072 then(some (([]:List Int),8)) else((nat_short.f k x0).bind fun t108=>(nat_Pow.l0 k x1 (([1]:List Int)) t108)))))
def nat_Pow.l0:Nat→Int→List Int→List Int→Option (List Int×Int)
 |0,_,_,_=>none
 |k+1,x1,x7,x8=>if(Go.bits .and .i64 x1 1)=1 then((nat_times.f k x7 x8).bind fun t111=>(if(x1 / 2)=0 then(if(t111.length:Int)>4096 then(some (([]:List Int),8)) else((nat_Trim.f k t111).bind fun t114=>(some (t114,0)))) else((nat_times.f k x8 x8).bind fun t117=>(nat_Pow.l0 k (x1 / 2) t111 t117)))) else(if(x1 / 2)=0 then(if(x7.length:Int)>4096 then(some (([]:List Int),8)) else((nat_Trim.f k x7).bind fun t120=>(some (t120,0)))) else((nat_times.f k x8 x8).bind fun t123=>(nat_Pow.l0 k (x1 / 2) x7 t123)))
end
def nat_Pow.f (k:Nat) (l0:List Int) (a1:Int):Option (List Int×Int):=if a1<0 then(some (([]:List Int),6)) else((nat_Bits.f k l0).bind fun t101=>(if a1=0 then(nat_Pow.j0 k l0 a1 t101 true) else(nat_Pow.j0 k l0 a1 t101 (t101==1))))
mutual
def mw_table.l0:Nat→Int→Int→List (S113)→Int→Int→Option ((List (List (S113))))
 |0,_,_,_,_,_=>none
 |k+1,x0,x1,x5,x20,x21=>if x21<x20 then((nat_Binomial.f k x1 x21).bind fun bt104=>((nat_Of.f k (IntKind.u64.wrap (wrap64 (x0-1)))).bind fun t108=>((nat_Pow.f k t108 x21).bind fun bt111=>((nat_Mul.f k (([bt104.1,bt111.1]:List (List Int)))).bind fun t118=>(if 0≤x21 then(if x21<(x5.length:Int) then(mw_table.l0 k x0 x1 (x5.set (x21:Int).toNat (⟨false,t118⟩:S113)) x20 (wrap64 (x21+1))) else(none)) else(none)))))) else((mw_small.f k (wrap64 (x0-1))).bind fun bt125=>(mw_table.l1 k x1 (([x5]:List (List (S113)))) x1 0 bt125.1 bt125.2))
def mw_table.l1:Nat→Int→List (List (S113))→Int→Int→Bool→List Int→Option ((List (List (S113))))
 |0,_,_,_,_,_,_=>none
 |k+1,x1,x11,x53,x54,x130000,x130001=>if x54<x53 then(if 0≤(wrap64 ((x11.length:Int)-1)) then(if(wrap64 ((x11.length:Int)-1))<(x11.length:Int) then(if 0<((rd_L6 x11 (wrap64 ((x11.length:Int)-1))).length:Int) then(mw_table.l2 k x1 x11 (rd_L6 x11 (wrap64 ((x11.length:Int)-1))) (([(⟨(rd_T113 (rd_L6 x11 (wrap64 ((x11.length:Int)-1))) 0).f0,(rd_T113 (rd_L6 x11 (wrap64 ((x11.length:Int)-1))) 0).f1⟩:S113)]:List (S113))) 1 x53 x54 x130000 x130001) else(none)) else(none)) else(none)) else(some x11)
def mw_table.l2:Nat→Int→List (List (S113))→List (S113)→List (S113)→Int→Int→Int→Bool→List Int→Option ((List (List (S113))))
 |0,_,_,_,_,_,_,_,_,_=>none
 |k+1,x1,x11,x13,x14,x15,x53,x54,x130000,x130001=>if x15≤x1 then(if 0≤x15 then(if x15<(x13.length:Int) then(if 0≤(wrap64 (x15-1)) then(if(wrap64 (x15-1))<(x13.length:Int) then((mw_minus.f k ((rd_T113 x13 x15).f0) ((rd_T113 x13 x15).f1) ((rd_T113 x13 (wrap64 (x15-1))).f0) ((rd_T113 x13 (wrap64 (x15-1))).f1)).bind fun bt137=>(if(wrap64 (x15-1))<(x14.length:Int) then((mw_times.f k x130000 x130001 ((rd_T113 x14 (wrap64 (x15-1))).f0) ((rd_T113 x14 (wrap64 (x15-1))).f1)).bind fun bt142=>((mw_minus.f k bt137.1 bt137.2 bt142.1 bt142.2).bind fun bt146=>(if x14.length<4398046511104 then(mw_table.l2 k x1 x11 x13 (x14++[(⟨bt146.1,bt146.2⟩:S113)]) (wrap64 (x15+1)) x53 x54 x130000 x130001) else(none)))) else(none))) else(none)) else(none)) else(none)) else(none)) else(if x11.length<5864062014805 then(mw_table.l1 k x1 (x11++[x14]) x53 (wrap64 (x54+1)) x130000 x130001) else(none))
end
def mw_table.f (k:Nat) (a0:Int) (a1:Int):Option ((List (List (S113)))):=if 0≤(wrap64 (a1+1)) then(if(wrap64 (a1+1):Int).toNat≤8796093022208 then((some (List.replicate (wrap64 (a1+1):Int).toNat z113:List (S113))).bind fun y101=>(mw_table.l0 k a0 a1 y101 (y101.length:Int) 0)) else(none)) else(none)
mutual
def mw_sums.l0:Nat→List (S113)→List (List (S113))→List (S113)→Int→Int→Option ((List (S113)))
 |0,_,_,_,_,_=>none
 |k+1,x1,x5,x6,x19,x20=>if x20<x19 then(mw_sums.l1 k x1 x5 x6 x20 x19 x20 x1 (x1.length:Int) 0) else(some x6)
def mw_sums.l1:Nat→List (S113)→List (List (S113))→List (S113)→Int→Int→Int→List (S113)→Int→Int→Option ((List (S113)))
 |0,_,_,_,_,_,_,_,_,_=>none
 |k+1,x1,x5,x6,x7,x19,x20,x23,x24,x25=>if x25<x24 then(if 0≤x25 then(if x25<(x23.length:Int) then(if(((rd_T113 x23 x25).f1).length:Int)>0 then(if 0≤x7 then(if x7<(x6.length:Int) then(if x25<(x5.length:Int) then(if x7<((rd_L6 x5 x25).length:Int) then((mw_times.f k ((rd_T113 x23 x25).f0) ((rd_T113 x23 x25).f1) ((rd_T113 (rd_L6 x5 x25) x7).f0) ((rd_T113 (rd_L6 x5 x25) x7).f1)).bind fun bt112=>((mw_plus.f k ((rd_T113 x6 x7).f0) ((rd_T113 x6 x7).f1) bt112.1 bt112.2).bind fun bt116=>(mw_sums.l1 k x1 x5 (x6.set (x7:Int).toNat (⟨bt116.1,bt116.2⟩:S113)) x7 x19 x20 x23 x24 (wrap64 (x25+1))))) else(none)) else(none)) else(none)) else(none)) else(mw_sums.l1 k x1 x5 x6 x7 x19 x20 x23 x24 (wrap64 (x25+1)))) else(none)) else(none)) else(mw_sums.l0 k x1 x5 x6 x19 (wrap64 (x20+1)))
end
def mw_sums.f (k:Nat) (a0:Int) (l1:List (S113)):Option ((List (S113))):=(mw_table.f k a0 (wrap64 ((l1.length:Int)-1))).bind fun t101=>(if 0≤(l1.length:Int) then(if((l1.length:Int):Int).toNat≤8796093022208 then((some (List.replicate ((l1.length:Int):Int).toNat z113:List (S113))).bind fun y104=>(mw_sums.l0 k l1 t101 y104 (y104.length:Int) 0)) else(none)) else(none))
def mw_shape.f (a0:Int):Option (Int):=if a0<1 then(some 3) else(if a0>65 then(some 3) else(some 0))
def mw_wrong.f (a0:Int) (a1:Int):Option (Int):=if a0<2 then(some 6) else(if a0>256 then(some 6) else((mw_shape.f a1).bind fun t101=>(some t101)))
def nat_shift.l0:Nat→List Int→Int→List Int→Int→List Int→Int→Int→Option (List Int)
 |0,_,_,_,_,_,_,_=>none
 |k+1,x0,x1,x5,x6,x14,x15,x16=>if x16<x15 then(if 0≤x16 then(if x16<(x14.length:Int) then(if 0≤x1 then(if x16<(x5.length:Int) then(nat_shift.l0 k x0 x1 (x5.set (x16:Int).toNat ((Go.bits .or .u64 (shl .u64 (IntKind.u64.wrap (rd x14 x16)) x1) x6) % 4294967296)) ((Go.bits .or .u64 (shl .u64 (IntKind.u64.wrap (rd x14 x16)) x1) x6) / 4294967296) x14 x15 (wrap64 (x16+1))) else(none)) else(none)) else(none)) else(none)) else(if 0≤(x0.length:Int) then(if(x0.length:Int)<(x5.length:Int) then(some (x5.set ((x0.length:Int):Int).toNat ((x6) % 4294967296))) else(none)) else(none))
def nat_shift.f (k:Nat) (l0:List Int) (a1:Int):Option (List Int):=if 0≤(wrap64 ((l0.length:Int)+1)) then(if(wrap64 ((l0.length:Int)+1):Int).toNat≤70368744177664 then(nat_shift.l0 k l0 a1 (List.replicate (wrap64 ((l0.length:Int)+1):Int).toNat 0) 0 l0 (l0.length:Int) 0) else(none)) else(none)
mutual
def nat_step.j1:Nat→List Int→List Int→Int→Int→Option (Int×List Int)
 |0,_,_,_,_=>none
 |k+1,x0,x1,x5,x7=>nat_step.l1 k x0 x1 x5 x7 0 0 (x1.length:Int) 0
def nat_step.l1:Nat→List Int→List Int→Int→Int→Int→Int→Int→Int→Option (Int×List Int)
 |0,_,_,_,_,_,_,_,_=>none
 |k+1,x0,x1,x5,x7,x9,x10,x85,x86=>if x86<x85 then(if 0≤x86 then(if x86<(x1.length:Int) then(if x86<(x0.length:Int) then(nat_step.l1 k (x0.set (x86:Int).toNat ((IntKind.u64.wrap ((IntKind.u64.wrap ((IntKind.u64.wrap (rd x0 x86))-((IntKind.u64.wrap ((IntKind.u64.wrap (x7*(IntKind.u64.wrap (rd x1 x86))))+x10)) % 4294967296)))-x9)) % 4294967296)) x1 x5 x7 ((IntKind.u64.wrap ((IntKind.u64.wrap ((IntKind.u64.wrap (rd x0 x86))-((IntKind.u64.wrap ((IntKind.u64.wrap (x7*(IntKind.u64.wrap (rd x1 x86))))+x10)) % 4294967296)))-x9)) / 9223372036854775808) ((IntKind.u64.wrap ((IntKind.u64.wrap (x7*(IntKind.u64.wrap (rd x1 x86))))+x10)) / 4294967296) x85 (wrap64 (x86+1))) else(none)) else(none)) else(none)) else(if 0≤x5 then(if x5<(x0.length:Int) then((some (x0.set (x5:Int).toNat ((IntKind.u64.wrap ((IntKind.u64.wrap ((IntKind.u64.wrap (rd x0 x5))-x10))-x9)) % 4294967296):List Int)).bind fun y113=>(if((IntKind.u64.wrap ((IntKind.u64.wrap ((IntKind.u64.wrap (rd x0 x5))-x10))-x9)) / 9223372036854775808)=0 then(some ((x7) % 4294967296,y113)) else(nat_step.l2 k y113 x1 x5 x7 0 (x1.length:Int) 0))) else(none)) else(none))
def nat_step.l2:Nat→List Int→List Int→Int→Int→Int→Int→Int→Option (Int×List Int)
 |0,_,_,_,_,_,_,_=>none
 |k+1,x0,x1,x5,x7,x10,x139,x140=>if x140<x139 then(if 0≤x140 then(if x140<(x0.length:Int) then(if x140<(x1.length:Int) then(nat_step.l2 k (x0.set (x140:Int).toNat ((IntKind.u64.wrap ((IntKind.u64.wrap ((IntKind.u64.wrap (rd x0 x140))+(IntKind.u64.wrap (rd x1 x140))))+x10)) % 4294967296)) x1 x5 x7 ((IntKind.u64.wrap ((IntKind.u64.wrap ((IntKind.u64.wrap (rd x0 x140))+(IntKind.u64.wrap (rd x1 x140))))+x10)) / 4294967296) x139 (wrap64 (x140+1))) else(none)) else(none)) else(none)) else(if 0≤x5 then(if x5<(x0.length:Int) then(some ((IntKind.u64.wrap (x7-1)) % 4294967296,(x0.set (x5:Int).toNat (((rd x0 x5)+((x10) % 4294967296)) % 4294967296)))) else(none)) else(none))
def nat_step.l0:Nat→List Int→List Int→Int→Int→Int→Option (Int×List Int)
 |0,_,_,_,_,_=>none
 |k+1,x0,x1,x5,x7,x8=>if x8<4294967296 then(if x7≥4294967296 then(if 0≤(wrap64 (x5-1)) then(if(wrap64 (x5-1))<(x1.length:Int) then(nat_step.l0 k x0 x1 x5 (IntKind.u64.wrap (x7-1)) (IntKind.u64.wrap (x8+(IntKind.u64.wrap (rd x1 (wrap64 (x5-1))))))) else(none)) else(none)) else(if 0≤(wrap64 (x5-2)) then(if(wrap64 (x5-2))<(x1.length:Int) then(if(wrap64 (x5-2))<(x0.length:Int) then(if(IntKind.u64.wrap (x7*(IntKind.u64.wrap (rd x1 (wrap64 (x5-2))))))>(Go.bits .or .u64 (IntKind.u64.wrap (x8*4294967296)) (IntKind.u64.wrap (rd x0 (wrap64 (x5-2))))) then(if 0≤(wrap64 (x5-1)) then(if(wrap64 (x5-1))<(x1.length:Int) then(nat_step.l0 k x0 x1 x5 (IntKind.u64.wrap (x7-1)) (IntKind.u64.wrap (x8+(IntKind.u64.wrap (rd x1 (wrap64 (x5-1))))))) else(none)) else(none)) else(nat_step.j1 k x0 x1 x5 x7)) else(none)) else(none)) else(none))) else(nat_step.j1 k x0 x1 x5 x7)
end
def nat_step.f (k:Nat) (l0:List Int) (l1:List Int):Option (Int×List Int):=if 0≤(l1.length:Int) then(if(l1.length:Int)<(l0.length:Int) then(if 0≤(wrap64 ((l1.length:Int)-1)) then(if(wrap64 ((l1.length:Int)-1))<(l0.length:Int) then(if(wrap64 ((l1.length:Int)-1))<(l1.length:Int) then(if(IntKind.u64.wrap (rd l1 (wrap64 ((l1.length:Int)-1))))=0 then(none) else(nat_step.l0 k l0 l1 (l1.length:Int) (IntKind.u64.wrap (Int.tdiv (Go.bits .or .u64 (IntKind.u64.wrap ((IntKind.u64.wrap (rd l0 (l1.length:Int)))*4294967296)) (IntKind.u64.wrap (rd l0 (wrap64 ((l1.length:Int)-1))))) (IntKind.u64.wrap (rd l1 (wrap64 ((l1.length:Int)-1)))))) (Int.tmod (Go.bits .or .u64 (IntKind.u64.wrap ((IntKind.u64.wrap (rd l0 (l1.length:Int)))*4294967296)) (IntKind.u64.wrap (rd l0 (wrap64 ((l1.length:Int)-1))))) (IntKind.u64.wrap (rd l1 (wrap64 ((l1.length:Int)-1))))))) else(none)) else(none)) else(none)) else(none)) else(none)
mutual
def nat_long.l0:Nat→List Int→Int→List Int→List Int→Int→Int→Option (List Int×List Int)
 |0,_,_,_,_,_,_=>none
 |k+1,x4,x6,x7,x8,x9,x10=>if x10≥0 then(if 0≤x10 then(if x10≤(wrap64 ((wrap64 (x10+x9))+1)) then(if(wrap64 ((wrap64 (x10+x9))+1))≤(x8.length:Int) then((nat_step.f k ((x8.take ((wrap64 ((wrap64 (x10+x9))+1)):Int).toNat).drop (x10:Int).toNat) x7).bind fun bt119=>(if x10<(x4.length:Int) then(nat_long.l0 k (x4.set (x10:Int).toNat bt119.1) x6 x7 (x8.take (x10:Int).toNat++(bt119.2++x8.drop ((wrap64 ((wrap64 (x10+x9))+1)):Int).toNat)) x9 (wrap64 (x10-1))) else(none))) else(none)) else(none)) else(none)) else(if 0≤x9 then(if(x9:Int).toNat≤70368744177664 then((some (List.replicate (x9:Int).toNat 0:List Int)).bind fun y122=>(nat_long.l1 k x4 y122 x6 x8 (y122.length:Int) 0)) else(none)) else(none))
def nat_long.l1:Nat→List Int→List Int→Int→List Int→Int→Int→Option (List Int×List Int)
 |0,_,_,_,_,_,_=>none
 |k+1,x4,x5,x6,x8,x57,x58=>if x58<x57 then(if 0≤x58 then(if x58<(x8.length:Int) then(if 0≤(wrap64 (x58+1)) then(if(wrap64 (x58+1))<(x8.length:Int) then(if 0≤x6 then(if x58<(x5.length:Int) then(nat_long.l1 k x4 (x5.set (x58:Int).toNat ((shr .u64 (Go.bits .or .u64 (IntKind.u64.wrap (rd x8 x58)) (IntKind.u64.wrap ((IntKind.u64.wrap (rd x8 (wrap64 (x58+1))))*4294967296))) x6) % 4294967296)) x6 x8 x57 (wrap64 (x58+1))) else(none)) else(none)) else(none)) else(none)) else(none)) else(none)) else(some (x4,x5))
end
def nat_long.f (k:Nat) (l0:List Int) (l1:List Int):Option (List Int×List Int):=if 0≤(wrap64 ((l1.length:Int)-1)) then(if(wrap64 ((l1.length:Int)-1))<(l1.length:Int) then((bits_LeadingZeros32.f (rd l1 (wrap64 ((l1.length:Int)-1)))).bind fun t102=>((nat_shift.f k l1 t102).bind fun t103=>((nat_short.f k t103).bind fun t106=>((nat_shift.f k l0 t102).bind fun t109=>(if 0≤(wrap64 ((t109.length:Int)-(t106.length:Int))) then(if(wrap64 ((t109.length:Int)-(t106.length:Int)):Int).toNat≤70368744177664 then(nat_long.l0 k (List.replicate (wrap64 ((t109.length:Int)-(t106.length:Int)):Int).toNat 0) t102 t106 t109 (t106.length:Int) (wrap64 ((wrap64 ((t109.length:Int)-(t106.length:Int)))-1))) else(none)) else(none)))))) else(none)) else(none)
def nat_DivMod.f (k:Nat) (l0:List Int) (l1:List Int):Option (List Int×List Int×Int):=(nat_short.f k l0).bind fun t101=>((nat_short.f k l1).bind fun t104=>(if(t104.length:Int)=0 then(some (([]:List Int),([]:List Int),7)) else((nat_Cmp.f k t101 t104).bind fun t107=>(if t107<0 then((nat_Trim.f k t101).bind fun t108=>(some (([]:List Int),t108,0))) else(if(t104.length:Int)=1 then(if 0<(t104.length:Int) then((nat_digit.f k t101 (rd t104 0)).bind fun bt112=>((nat_Of.f k (IntKind.u64.wrap (bt112.2))).bind fun t116=>(some (bt112.1,t116,0)))) else(none)) else((nat_long.f k t101 t104).bind fun bt119=>((nat_Trim.f k bt119.1).bind fun t125=>((nat_Trim.f k bt119.2).bind fun t128=>(some (t125,t128,0))))))))))
mutual
def mw_Dual.l0:Nat→Int→List Int→List (S113)→List (List Int)→Int→Int→Option ((List (List Int))×Int)
 |0,_,_,_,_,_,_=>none
 |k+1,x0,x7,x8,x29,x30,x31=>if x31<x30 then(if 0≤x31 then(if x31<(x29.length:Int) then((nat_Trim.f k (rd_L3 x29 x31)).bind fun t106=>(if x8.length<4398046511104 then(mw_Dual.l0 k x0 x7 (x8++[(⟨false,t106⟩:S113)]) x29 x30 (wrap64 (x31+1))) else(none))) else(none)) else(none)) else((mw_sums.f k x0 x8).bind fun t112=>(mw_Dual.l1 k x7 ([]:List (List Int)) t112 (t112.length:Int) 0))
def mw_Dual.l1:Nat→List Int→List (List Int)→List (S113)→Int→Int→Option ((List (List Int))×Int)
 |0,_,_,_,_,_=>none
 |k+1,x7,x11,x44,x45,x46=>if x46<x45 then(if 0≤x46 then(if x46<(x44.length:Int) then((nat_DivMod.f k ((rd_T113 x44 x46).f1) x7).bind fun bt117=>(if(bt117.2.1.length:Int)>0 then(some (([]:List (List Int)),5)) else(if(rd_T113 x44 x46).f0=true then(if(((rd_T113 x44 x46).f1).length:Int)>0 then(some (([]:List (List Int)),5)) else(if x11.length<5864062014805 then(mw_Dual.l1 k x7 (x11++[bt117.1]) x44 x45 (wrap64 (x46+1))) else(none))) else(if x11.length<5864062014805 then(mw_Dual.l1 k x7 (x11++[bt117.1]) x44 x45 (wrap64 (x46+1))) else(none))))) else(none)) else(none)) else(some (x11,0))
end
def mw_Dual.f (k:Nat) (a0:Int) (l1:List (List Int)):Option ((List (List Int))×Int):=(mw_wrong.f a0 (l1.length:Int)).bind fun t101=>(if t101=0 then((nat_Add.f k l1).bind fun t102=>(if(t102.length:Int)=0 then(some (([]:List (List Int)),7)) else(mw_Dual.l0 k a0 t102 ([]:List (S113)) l1 (l1.length:Int) 0))) else(some (([]:List (List Int)),t101)))
def mw_some.l0:Nat→List (List Int)→Int→Int→Int→Option (Int)
 |0,_,_,_,_=>none
 |k+1,x0,x1,x5,x6=>if x6≤x1 then(if 0≤x6 then(if x6<(x0.length:Int) then((nat_Bits.f k (rd_L3 x0 x6)).bind fun t102=>(if t102>0 then(mw_some.l0 k x0 x1 (wrap64 (x5+1)) (wrap64 (x6+1))) else(mw_some.l0 k x0 x1 x5 (wrap64 (x6+1))))) else(none)) else(none)) else(some x5)
def mw_some.f (k:Nat) (l0:List (List Int)) (a1:Int):Option (Int):=mw_some.l0 k l0 a1 0 1
def mw_External.f (k:Nat) (a0:Int) (l1:List (List Int)):Option (Int×Int):=(mw_Dual.f k a0 l1).bind fun bt101=>(if bt101.2=0 then((mw_some.f k bt101.1 (wrap64 ((bt101.1.length:Int)-1))).bind fun t105=>(some (t105,0))) else(some (0,bt101.2)))
def w24_MacwilliamsDelsarte.l0:Nat→Int→List (List Int)→List (List Int)→Int→Int→List Int→Int→Int→Option (Bool)
 |0,_,_,_,_,_,_,_,_=>none
 |k+1,x9,x10,x11,x14,x15,x16,x17,x18=>if x18<(x10.length:Int) then(if 0≤x18 then((r24_Distance.f k (rd_L1 x10 x18) x16).bind fun t123=>(w24_MacwilliamsDelsarte.l0 k x9 x10 x11 x14 x15 x16 (mn x17 t123) (wrap64 (x18+1)))) else(none)) else(if x15=0 then((r24_Weights.f k x9 x11).bind fun t124=>((r24_External.f k t124).bind fun t127=>(if x14=t127 then(some (decide (x17≤x14))) else(some false)))) else(some false))
def w24_MacwilliamsDelsarte.f (k:Nat) (a0_0:Int) (a0_1:Int) (l0_2:List Int) (a1:Int) (l2:List (List Int)) (l3:List Int):Option (Bool):=(w24_codes.f k a0_0 a0_1 l0_2 a1 l2).bind fun bt102=>(if bt102.2.2.2.2=true then((r4_Order.f k a0_0 a0_1 l0_2).bind fun t113=>((r24_Weights.f k bt102.1 bt102.2.1).bind fun t114=>((mw_External.f k t113 t114).bind fun bt117=>((r24_Row.f k a0_0 a0_1 l0_2 bt102.1 l3).bind fun t119=>(w24_MacwilliamsDelsarte.l0 k bt102.1 bt102.2.1 bt102.2.2.1 bt117.1 bt117.2 t119 bt102.1 0))))) else(some true))
end Go.Proofs.Ytifkbghnmhineaa.PAll
section
set_option linter.unusedVariables false
set_option maxRecDepth 100000
namespace Go.Proofs.Ytifkbghnmhineaa.PAll
open Go Go.RowKit Go.Proofs.YtifkbghnmhineaaW.PrintWords Go.Proofs.YtifkbghnmhineaaW.PrintLast Go.Proofs.YtifkbghnmhineaaW.PrintMore
theorem zk {p:Prop} (h:p):Aside0 p:=⟨h⟩
theorem zR {P Q:Prop} (h:P) (f:P→Q:=by intro h;(with_reducible repeat(first|apply Kd.R_alloc|apply Kd.R_drewN|apply Kd.R_drew));exact h):Q:=f h
theorem zV {P Q:Prop} (h:P) (f:P→Q:=by intro h;(with_reducible repeat(first|apply Kd.V_alloc|apply Kd.V_drewN|apply Kd.V_drew));exact h):Q:=f h
theorem zN {P Q:Prop} (h:P) (f:P→Q:=by intro h;(with_reducible repeat(first|apply Kd.N_alloc|apply Kd.N_drewN|apply Kd.N_drew));exact h):Q:=f h
theorem zS {P Q:Prop} (h:P) (f:P→Q:=by intro h;(with_reducible repeat(first|apply Kd.S_alloc|apply Kd.S_drewN|apply Kd.S_drew));exact h):Q:=f h
theorem zB {P Q:Prop} (h:P) (f:P→Q:=by intro h;repeat(first|(with_reducible first|exact h|apply below_alloc|apply pw_below_drewN|apply below_drew1)|exact h)):Q:=f h
theorem zB1 {P Q P1:Prop} (h:P) (h1:P1) (f:P→P1→Q:=by intro h h1;repeat(first|(with_reducible first|exact h|apply below_alloc|apply pw_below_drewN|apply below_drew1|refine below_set ?_ h1)|exact h)):Q:=f h h1
theorem zB2 {P Q P1 P2:Prop} (h:P) (h1:P1) (h2:P2) (f:P→P1→P2→Q:=by intro h h1 h2;repeat(first|(with_reducible first|exact h|apply below_alloc|apply pw_below_drewN|apply below_drew1|refine below_set ?_ h1|refine below_set ?_ h2)|exact h)):Q:=f h h1 h2
theorem zB3 {P Q P1 P2 P3:Prop} (h:P) (h1:P1) (h2:P2) (h3:P3) (f:P→P1→P2→P3→Q:=by intro h h1 h2 h3;repeat(first|(with_reducible first|exact h|apply below_alloc|apply pw_below_drewN|apply below_drew1|refine below_set ?_ h1|refine below_set ?_ h2|refine below_set ?_ h3)|exact h)):Q:=f h h1 h2 h3
theorem zK {P Q:Prop} (h:P) (f:P→Q:=by intro h;(with_reducible repeat(first|refine blk_drewN ?_ _|refine blk_drew ?_|refine blk_alloc ?_ _));exact h):Q:=f h
theorem zC {P Q:Prop} (h:P) (f:P→Q:=by intro h;repeat(first|exact h|(with_reducible refine Kd.C_alloc ?_ _)|(with_reducible refine Kd.C_drewN ?_ _)|(with_reducible refine Kd.C_drew ?_))):Q:=f h
theorem zCr {P Q:Prop} (h:P) (f:P→Q:=by intro h;repeat(first|(with_reducible exact h)|(with_reducible refine Kd.C_alloc ?_ _)|(with_reducible refine Kd.C_drewN ?_ _)|(with_reducible refine Kd.C_drew ?_)|exact h)):Q:=f h
theorem zE {Q:Prop} (f:Q:=by first|rfl|(simp [errW_none,errW_some]<;>rfl)|(simp [*,errW_none,errW_some]<;>rfl)):Q:=f
theorem zF {Q:Prop} (f:Q:=by first|rfl|(simp;done)|(simp [*];done)):Q:=f
theorem zO {Q:Prop} (f:Q:=by first|omega|exact Nat.le_refl _):Q:=f
theorem z0 {Q:Prop} (f:Q:=by first|exact Kd.R_nil _ _ _ _ _|exact Kd.N_nil _ _ _ _ _|exact Kd.V_nil _ _ _ _ _|exact Kd.Q_nil _ _ _ _ _|exact Kd.S_nil _ _ _ _ _):Q:=f
theorem zo1 {P Q:Prop} (h:Aside0 P) (f:P→Q:=by intro h;omega):Q:=f h.out
theorem zo2 {P P1 Q:Prop} (h:Aside0 P) (h1:Aside0 P1) (f:P→P1→Q:=by intro h h1;omega):Q:=f h.out h1.out
theorem zY {α β:Type} {y l:α} {x r:Option β} {Q:Prop} (hy:y=l) (H:x=r) (f:y=l→x=r→Q:=by intro hy H;first|(rw[hy];with_reducible exact H)|(have H2_:=(Option.bind_some _ _).symm.trans H;rw[hy];with_reducible exact H2_)|(have H2_:=(Option.bind_some _ _).symm.trans H;with_reducible exact H2_)|with_reducible exact H|(rw[hy];exact H)|exact H):Q:=f hy H
theorem zb {α β:Type} {x:Option α} {f:α→Option β} {r:β} (h:x.bind f=some r):∃t,Aside0 (x=some t)∧f t=some r:=by
 obtain⟨t,h1,h2⟩:=Option.bind_eq_some_iff.mp h
 exact⟨t,⟨h1⟩,h2⟩
theorem zi {α:Type} {c:Prop} [Decidable c] {a b r:α} (h:(if c then a else b)=r):(c∧a=r)∨(¬c∧b=r):=by
 by_cases hc:c
 ·rw[if_pos hc] at h;exact .inl ⟨hc,h⟩
 ·rw[if_neg hc] at h;exact .inr ⟨hc,h⟩
theorem zg {α:Type} {c:Prop} [Decidable c] {a:Option α} {r:α} (h:(if c then a else none)=some r):c∧a=some r:=by
 by_cases hc:c
 ·rw[if_pos hc] at h;exact⟨hc,h⟩
 ·rw[if_neg hc] at h;cases h
theorem zh {α:Type} {c:Prop} [Decidable c] {a:Option α} {r:α} (h:(if c then none else a)=some r):¬c∧a=some r:=by
 by_cases hc:c
 ·rw[if_pos hc] at h;cases h
 ·rw[if_neg hc] at h;exact⟨hc,h⟩
theorem zid {α:Type} {c:Prop} [Decidable c] {a b r:α} (h:(if c then a else b)=r):(decide c=true∧a=r)∨(decide c=false∧b=r):=by
 rcases zi h with⟨hc,h⟩|⟨hc,h⟩
 ·exact .inl ⟨decide_eq_true hc,h⟩
 ·exact .inr ⟨decide_eq_false hc,h⟩
theorem zgd {α:Type} {c:Prop} [Decidable c] {a:Option α} {r:α} (h:(if c then a else none)=some r):decide c=true∧a=some r:=⟨decide_eq_true (zg h).1,(zg h).2⟩
theorem zd {p:Prop} [Decidable p] (f:decide p=true:=by first|(with_reducible assumption)|assumption):p:=of_decide_eq_true f
theorem gC {P:Program} {ops:Array Oper} {Q:Exit→Act→World→Prop} {rest:List Oper} {o:Oper} {a:Act} {W:World} (f:FuncId) {xs:Array Operand} {ts:Array TypeId} (h:wpList P ops Q (o::rest) a W) (_ho:o.op= .call {callee:= .value (.func f),args:=xs,argTypes:=ts}:=by exact rfl):wpList P ops Q (o::rest) a W:=h
section
variable {P:Prop} {α β:Type} {d:Kd α} {d':Kd β} {w W w1:World} {e e' base base' n:Nat} {ok ok':Nat→Prop} {v u u':Value} {xs:List α} {ys:List β}
theorem yS (h:Aside0 P) (k:Below W.heap.size W w1) (f:P→Below w.heap.size w W:=by intro h;repeat(first|(with_reducible first|exact h|apply below_alloc|apply pw_below_drewN|apply below_drew1)|exact h)):Aside0 (Below w.heap.size w w1):=⟨below_step (f h.out) k⟩
theorem yRe (h:Aside0 P) (h0:d'.R e' w1 W.heap.size ok' v ys) (hb:Below W.heap.size W w1) (f:P→d.R e W base ok u xs:=by intro h;(with_reducible repeat(first|apply Kd.R_alloc|apply Kd.R_drewN|apply Kd.R_drew));exact h):Aside0 (d.R e w1 base (fun k=>ok k∧some k≠v.ownBlock) u xs):=⟨Kd.R_elder' (f h.out) (Kd.R_base h0) hb⟩
theorem yNe (h:Aside0 P) (h0:d'.R e' w1 W.heap.size ok' v ys) (hb:Below W.heap.size W w1) (f:P→d.N e W base ok u xs:=by intro h;(with_reducible repeat(first|apply Kd.N_alloc|apply Kd.N_drewN|apply Kd.N_drew));exact h):Aside0 (d.N e w1 base (fun k=>ok k∧some k≠v.ownBlock) u xs):=⟨Kd.N_elder' (f h.out) (Kd.R_base h0) hb⟩
theorem yVe (h:Aside0 P) (h0:d'.R e' w1 W.heap.size ok' v ys) (hb:Below W.heap.size W w1) (f:P→d.V e W base ok u xs:=by intro h;(with_reducible repeat(first|apply Kd.V_alloc|apply Kd.V_drewN|apply Kd.V_drew));exact h):Aside0 (d.V e w1 base (fun k=>ok k∧some k≠v.ownBlock) u xs):=⟨Kd.V_elder' (f h.out) (Kd.R_base h0) hb⟩
theorem yRb (h:Aside0 P) (hb:Below W.heap.size W w1) (f:P→d.R e W base ok u xs:=by intro h;(with_reducible repeat(first|apply Kd.R_alloc|apply Kd.R_drewN|apply Kd.R_drew));exact h):Aside0 (d.R e w1 base ok u xs):=⟨Kd.R_below (f h.out) hb⟩
theorem yVb (h:Aside0 P) (hb:Below W.heap.size W w1) (f:P→d.V e W base ok u xs:=by intro h;(with_reducible repeat(first|apply Kd.V_alloc|apply Kd.V_drewN|apply Kd.V_drew));exact h):Aside0 (d.V e w1 base ok u xs):=⟨Kd.V_below (f h.out) hb⟩
theorem yNb (h:Aside0 P) (hb:Below W.heap.size W w1) (f:P→d.N e W base ok u xs:=by intro h;(with_reducible repeat(first|apply Kd.N_alloc|apply Kd.N_drewN|apply Kd.N_drew));exact h):Aside0 (d.N e w1 base ok u xs):=⟨Kd.N_below (f h.out) hb⟩
theorem yCb (h:Aside0 P) (hb:Below W.heap.size W w1) {A:Option Addr} (f:P→d.C W A n xs:=by intro h;repeat(first|(with_reducible exact h)|(with_reducible refine Kd.C_alloc ?_ _)|(with_reducible refine Kd.C_drewN ?_ _)|(with_reducible refine Kd.C_drew ?_)|exact h)):Aside0 (d.C w1 A n xs):=⟨Kd.C_below (f h.out) hb⟩
theorem yRl (h:d.R e w1 W.heap.size ok v xs) (hb:Aside0 P) (f:P→Below w.heap.size w W:=by intro h;repeat(first|(with_reducible first|exact h|apply below_alloc|apply pw_below_drewN|apply below_drew1)|exact h)):Aside0 (d.R e w1 w.heap.size ok v xs):=⟨Kd.R_lower h (below_size (f hb.out))⟩
theorem yVm (h:d.V e w1 W.heap.size ok v xs) (hb:Aside0 P) (f:P→Below w.heap.size w W:=by intro h;repeat(first|(with_reducible first|exact h|apply below_alloc|apply pw_below_drewN|apply below_drew1)|exact h)):Aside0 (d.V e w1 w.heap.size (fun _=>True) v xs):=⟨Kd.V_lower (Kd.V_mono h (fun _ _=>trivial)) (below_size (f hb.out))⟩
theorem yn (h:d.R e w1 W.heap.size ok v xs) (hb:Aside0 P) (f:P→d'.R e' W base ok' u ys:=by intro h;(with_reducible repeat(first|apply Kd.R_alloc|apply Kd.R_drewN|apply Kd.R_drew));exact h):d.R e w1 W.heap.size (fun k=>ok k∧some k≠u.ownBlock) v xs:=Kd.R_new' h (Kd.R_lt (f hb.out))
end
section
variable {P:Prop} {α β:Type} {d:Kd α} {d':Kd β} {w W w1:World} {e e' base base' n:Nat} {ok ok':Nat→Prop} {v u u':Value} {xs:List α} {ys:List β}
theorem yt (h:d.R e w base ok v xs):d.R e w base (fun _=>True) v xs:=Kd.R_mono h (fun _ _=>trivial)
end
section
variable {P Q Q1:Prop} {w W W0 w1:World} {g g':Nat} {o:Obj}
theorem yK (h:Aside0 (W0.heap[g]?=some o)) (hb:Below W.heap.size W w1) (f:W0.heap[g]?=some o→W.heap[g]?=some o:=by intro h;(with_reducible repeat(first|refine blk_drewN ?_ _|refine blk_drew ?_|refine blk_alloc ?_ _));exact h):Aside0 (w1.heap[g]?=some o):=⟨blk_below (f h.out) hb⟩
theorem ynl (hg:g'=W.heap.size) (h:Aside0 (W0.heap[g]?=some o)) (f:W0.heap[g]?=some o→W.heap[g]?=some o:=by intro h;(with_reducible repeat(first|refine blk_drewN ?_ _|refine blk_drew ?_|refine blk_alloc ?_ _));exact h):Aside0 (g≠g'):=⟨by rw[hg];exact Nat.ne_of_lt (blk_lt (f h.out))⟩
theorem yng (hg:g'=W.heap.size) (h:Aside0 (W0.heap[g]?=some o)) (f:W0.heap[g]?=some o→W.heap[g]?=some o:=by intro h;(with_reducible repeat(first|refine blk_drewN ?_ _|refine blk_drew ?_|refine blk_alloc ?_ _));exact h):Aside0 (g'≠g):=⟨by rw[hg];exact Nat.ne_of_gt (blk_lt (f h.out))⟩
theorem yg (hg:g'=W.heap.size) (h:Aside0 P) (f:P→Below w.heap.size w W:=by intro h;repeat(first|(with_reducible first|exact h|apply below_alloc|apply pw_below_drewN|apply below_drew1)|exact h)):Aside0 (w.heap.size≤g'):=⟨by rw[hg];exact below_size (f h.out)⟩
theorem yg1 (hg:g'=W.heap.size) (h:Aside0 P) {P1:Prop} (h1:Aside0 P1) (f:P→P1→Below w.heap.size w W:=by intro h h1;repeat(first|(with_reducible first|exact h|apply below_alloc|apply pw_below_drewN|apply below_drew1|refine below_set ?_ h1)|exact h)):Aside0 (w.heap.size≤g'):=⟨by rw[hg];exact below_size (f h.out h1.out)⟩
theorem yS1 (h:Aside0 P) {P1:Prop} (h1:Aside0 P1) (k:Below W.heap.size W w1) (f:P→P1→Below w.heap.size w W:=by intro h h1;repeat(first|(with_reducible first|exact h|apply below_alloc|apply pw_below_drewN|apply below_drew1|refine below_set ?_ h1)|exact h)):Aside0 (Below w.heap.size w w1):=⟨below_step (f h.out h1.out) k⟩
theorem yg2 (hg:g'=W.heap.size) (h:Aside0 P) {P1:Prop} (h1:Aside0 P1) {P2:Prop} (h2:Aside0 P2) (f:P→P1→P2→Below w.heap.size w W:=by intro h h1 h2;repeat(first|(with_reducible first|exact h|apply below_alloc|apply pw_below_drewN|apply below_drew1|refine below_set ?_ h1|refine below_set ?_ h2)|exact h)):Aside0 (w.heap.size≤g'):=⟨by rw[hg];exact below_size (f h.out h1.out h2.out)⟩
theorem yS2 (h:Aside0 P) {P1:Prop} (h1:Aside0 P1) {P2:Prop} (h2:Aside0 P2) (k:Below W.heap.size W w1) (f:P→P1→P2→Below w.heap.size w W:=by intro h h1 h2;repeat(first|(with_reducible first|exact h|apply below_alloc|apply pw_below_drewN|apply below_drew1|refine below_set ?_ h1|refine below_set ?_ h2)|exact h)):Aside0 (Below w.heap.size w w1):=⟨below_step (f h.out h1.out h2.out) k⟩
theorem yS3 (h:Aside0 P) {P1:Prop} (h1:Aside0 P1) {P2:Prop} (h2:Aside0 P2) {P3:Prop} (h3:Aside0 P3) (k:Below W.heap.size W w1) (f:P→P1→P2→P3→Below w.heap.size w W:=by intro h h1 h2 h3;repeat(first|(with_reducible first|exact h|apply below_alloc|apply pw_below_drewN|apply below_drew1|refine below_set ?_ h1|refine below_set ?_ h2|refine below_set ?_ h3)|exact h)):Aside0 (Below w.heap.size w w1):=⟨below_step (f h.out h1.out h2.out h3.out) k⟩
end
theorem zG {P:Program} {ops:Array Oper} {Q:Exit→Act→World→Prop} {rest:List Oper} {oi:Oper} {a:Act} {w:World} (N:Option Tmp) {f:FuncId} {fn:Func} {xs:Array Operand} {ts:Array TypeId} (hf:P.funcs[f]?=some fn) (args:Array Value)
 (h:Calls P f args w fun e w'=>∃v,e= .returned v∧wpList P ops Q rest (a.put N v) w')
 (hd:oi.dst=N:=by exact rfl) (hg:oi.guard=none:=by exact rfl) (hname:(fn.name== "runtime.NumGoroutine")=false:=by kernel_rfl) (hb:fn.body.isSome=true:=by exact rfl)
 (hop:oi.op= .call {callee:= .value (.func f),args:=xs,argTypes:=ts}:=by exact rfl)
 (hargs:xs.map a.eval=args:=by(try simp only[List.map_toArray,List.map_cons,List.map_nil]);first|done|rfl|(simp only[List.length_drop,List.length_take];rfl)):wpList P ops Q (oi::rest) a w:=
 goesL_ N hd hg hf hname hb args hop hargs h
theorem zp {P:Program} {md:Region.Mode} {ops:Array Oper} {Q:Exit→Act→World→Prop} {S:World→Prop} {ds:List Nat} {T:Bool×List (List Nat×List Nat)} {i:Nat} {N:Option Tmp} {oi:Oper} {v:Value} {fuel:Nat} {l:Array Bool} {a:Act} {w:World} {a':Act}
 (hT:Aside0 (rtab md ops=T)) (h:wpAnyLast P md ops Q S ds fuel (l.setIfInBounds i true) a' w)
 (hi:ops[i]?=some oi:=by exact rfl) (hN:oi.dst=N:=by exact rfl) (hc:rtab md ops=T→anyB md ops l (l.setIfInBounds i true) i=true:=by intro h;exact any_of h (by kernel_rfl))
 (hQ:∀c a w,Q (.panic c) (a.put oi.dst v) w→Q (.panic c) a w:=by exact fun _ _ _ h=>h) (hy:Region.wanted oi (yielded ops a.tmps)=true:=by exact(by rfl))
 (hv:∀w',(execOp a.eval oi).run P w'= .ok (.value v) w':=by intro w';go_simp;with_reducible rfl)
 (ha:a.put N v=a':=by simp only[Act.put,List.setIfInBounds_toArray,List.set_cons_zero,List.set_cons_succ,i64_w,i32_w];rfl):wpAnyLast P md ops Q S ds (fuel+1) l a w:=
 pure_ _ hi hN (hc hT.out) hQ (.inl ⟨hy,hv⟩) ha h
section
variable {P:Prop} {α β γ:Type} {d:Kd α} {d':Kd β} {d2:Kd γ} {w W w1:World} {e e' e2 base base' n g:Nat} {ok ok' ok2:Nat→Prop} {v u v2:Value} {xs:List α} {ys:List β} {zs:List γ}
theorem yVt (h:Aside0 P) (hb:Below W.heap.size W w1) (h1:d'.R e' w1 W.heap.size ok' v ys) (h2:d2.R e2 w1 W.heap.size ok2 v2 zs) (f:P→d.V e W base ok u xs:=by intro h;(with_reducible repeat(first|apply Kd.V_alloc|apply Kd.V_drewN|apply Kd.V_drew));exact h):Aside0 (d.V e w1 base (fun k=>(ok k∧some k≠v.ownBlock)∧some k≠v2.ownBlock) u xs):=⟨Kd.V_mono (Kd.V_told (Kd.V_told (Kd.V_old (f h.out) hb) (Kd.R_base h1)) (Kd.R_base h2)) (fun _ h_=>h_.1)⟩
theorem yVB (h:Aside0 P) (hg:g=W.heap.size) (hb:Below W.heap.size W w1) (f:P→d.V e W base ok u xs:=by intro h;(with_reducible repeat(first|apply Kd.V_alloc|apply Kd.V_drewN|apply Kd.V_drew));exact h):Aside0 (d.V e w1 base (fun k=>ok k∧k≠g) u xs):=⟨Kd.V_below (Kd.V_elderB (f h.out) g (Nat.le_of_eq hg.symm)) hb⟩
theorem yRl1 (h0:d.R e w1 W.heap.size ok v xs) (h:Aside0 P) {P1:Prop} (h1:Aside0 P1) (f:P→P1→Below w.heap.size w W:=by intro h h1;repeat(first|(with_reducible first|exact h|apply below_alloc|apply pw_below_drewN|apply below_drew1|refine below_set ?_ h1)|exact h)):Aside0 (d.R e w1 w.heap.size ok v xs):=⟨Kd.R_lower h0 (below_size (f h.out h1.out))⟩
theorem yRl3 (h0:d.R e w1 W.heap.size ok v xs) (h:Aside0 P) {P1:Prop} (h1:Aside0 P1) {P2:Prop} (h2:Aside0 P2) {P3:Prop} (h3:Aside0 P3) (f:P→P1→P2→P3→Below w.heap.size w W:=by intro h h1 h2 h3;repeat(first|(with_reducible first|exact h|apply below_alloc|apply pw_below_drewN|apply below_drew1|refine below_set ?_ h1|refine below_set ?_ h2|refine below_set ?_ h3)|exact h)):Aside0 (d.R e w1 w.heap.size ok v xs):=⟨Kd.R_lower h0 (below_size (f h.out h1.out h2.out h3.out))⟩
end
section
variable {P K Q:Prop} {X W W0 w1:World} {g g':Nat} {t:TypeId} {a b c v0 v1 v2:Value} {o:Obj} {cs:Array Value}
theorem blk2 (h:X.heap[g]?=some (.cells #[a,b] t (0,0))):((X.setCell ⟨g,0,none⟩ v0).setCell ⟨g,1,none⟩ v1).heap[g]?=some (.cells #[v0,v1] t (0,0)):=
 blk_put (blk_put h 0 v0 rfl) 1 v1 rfl
theorem zP2 (h:P) (f:P→Q:=by intro h;(with_reducible repeat(first|refine blk_drewN ?_ _|refine blk_drew ?_|refine blk_alloc ?_ _));apply blk2;(with_reducible repeat(first|refine blk_drewN ?_ _|refine blk_drew ?_|refine blk_alloc ?_ _));exact h):Q:=f h
theorem zc0 {l:List Value} (h:Aside0 (W.heap[g]?=some (.cells (a::l).toArray t (0,0)))):W.cell? ⟨g,0,none⟩=some a:=(blk_cell h.out 0).trans rfl
theorem zc1 {l:List Value} (h:Aside0 (W.heap[g]?=some (.cells (a::b::l).toArray t (0,0)))):W.cell? ⟨g,1,none⟩=some b:=(blk_cell h.out 1).trans rfl
theorem zc2 {l:List Value} (h:Aside0 (W.heap[g]?=some (.cells (a::b::c::l).toArray t (0,0)))):W.cell? ⟨g,2,none⟩=some c:=(blk_cell h.out 2).trans rfl
theorem zz3 (h:Aside0 (W.heap[g]?=some (.cells #[a,b,c] t (0,0)))):W.cell? ⟨g,0,none⟩=some a∧W.cell? ⟨g,1,none⟩=some b∧W.cell? ⟨g,2,none⟩=some c∧W.frozen? ⟨g,0,none⟩=false∧W.frozen? ⟨g,1,none⟩=false∧W.frozen? ⟨g,2,none⟩=false:=⟨zc0 h,zc1 h,zc2 h,blk_frozen h.out 0,blk_frozen h.out 1,blk_frozen h.out 2⟩
theorem zz2 (h:Aside0 (W.heap[g]?=some (.cells #[a,b] t (0,0)))):W.cell? ⟨g,0,none⟩=some a∧W.cell? ⟨g,1,none⟩=some b∧W.frozen? ⟨g,0,none⟩=false∧W.frozen? ⟨g,1,none⟩=false:=⟨zc0 h,zc1 h,blk_frozen h.out 0,blk_frozen h.out 1⟩
end
end Go.Proofs.Ytifkbghnmhineaa.PAll
end
namespace Go.Proofs.Ytifkbghnmhineaa.PAll
open Go.RowKit Go.Proofs.YtifkbghnmhineaaW.PrintWords Go.Proofs.YtifkbghnmhineaaW.PrintLast Go.Proofs.YtifkbghnmhineaaW.PrintMore
attribute [local go_sem] max2_int min2_int max_two min_two max_three min_three max_four min_four
set_option linter.unusedVariables false
set_option linter.unusedSimpArgs false
set_option maxHeartbeats 8000000 in
set_option maxRecDepth 100000 in
theorem r4_Order.calls (k:Nat) (a0_0:Int) (a0_1:Int) (A0_2:Option Addr) (c0_2:Nat) (l0_2:List Int) (r:Int) (w:World) (hr0_2:Kd.C (Kd.int .i64) w A0_2 l0_2.length l0_2) (hc0_2:l0_2.length≤c0_2) (h:r4_Order.f k a0_0 a0_1 l0_2=some r):
 Calls Try.prog 24 #[.agg #[.int .i64 a0_0, .int .i64 a0_1, .slice A0_2 l0_2.length c0_2]] w fun e w'=>e= .returned (.int .i64 r)∧Below w.heap.size w w':=by
 have hu24:=Try.underlying24
 have HR0_2:=zk hr0_2
 have HC0_2:=zk hc0_2
 clear hr0_2 hc0_2
 have HB:=zk (Below.refl w.heap.size w)
 have H:=h
 clear h
 unfold r4_Order.f at H
 have HC2:=zk H
 clear H
 go_enter Try.func24,Try.ntmps24
 go_upto_region 1 with(first|((with_reducible refine gate_dst (N:=1) rfl ?_);refine box_event ?hg (N:=1) ?hd (cs:= #[.int .i64 a0_0, .int .i64 a0_1, .slice A0_2 l0_2.length c0_2]) (t:=24) ?hr ?_;(case hd=>rfl);(case hg=>rfl);(case hr=>first|(go_simp;done)|(go_simp;rfl));intro gba1 hg w3 hbox hb;have BKa1:=zk (hbox);have GWa1:=yg hg HB;have GEa1:=yg hg HB;replace HB:=yS HB hb;clear hb hbox hg))
 (try simp only[Act.put,List.setIfInBounds_toArray,List.set_cons_zero,List.set_cons_succ])
 go_cut [17] (fun v17 wc=>∃(kq:Nat) (x17_1:Bool),v17= .bool x17_1∧Aside0 (r4_Order.j0 kq x17_1 a0_0 a0_1 l0_2=some r)∧Aside0 (kq≤k)∧Aside0 (wc.heap[gba1]?=some (.cells #[.int .i64 a0_0, .int .i64 a0_1,(.slice A0_2 l0_2.length c0_2)] 24 (0,0)))∧Aside0 (Below w.heap.size w wc))
 case first=>
  have H:=HC2.out
  clear HC2
  replace H:=zid H
  rcases H with⟨c4b0,H⟩|⟨c4b0,H⟩
  ·(first|rw[c4b0]|(simp only[i64_w,i32_w];rw[c4b0])|rw[c4b1]|skip)
   have H':=zk H
   clear H
   obtain⟨hcz5_0,hcz5_1,hcz5_2,hfz5_0,hfz5_1,hfz5_2⟩:=zz3 BKa1
   go_wp2
   go_meet
   case rel=>exact⟨_,(true),zF,H',⟨zO⟩,⟨zK BKa1.out⟩,⟨zB1 HB.out GEa1.out⟩⟩
  (first|rw[c4b0]|(simp only[i64_w,i32_w];rw[c4b0])|rw[c4b1]|skip)
  replace H:=zid H
  rcases H with⟨c6b0,H⟩|⟨c6b0,H⟩
  ·have H':=zk H
   clear H
   obtain⟨hcz7_0,hcz7_1,hcz7_2,hfz7_0,hfz7_1,hfz7_2⟩:=zz3 BKa1
   go_wp2
   go_meet
   case rel=>exact⟨_,(true),zF,H',⟨zO⟩,⟨zK BKa1.out⟩,⟨zB1 HB.out GEa1.out⟩⟩
  have H':=zk H
  clear H
  obtain⟨hcz8_0,hcz8_1,hcz8_2,hfz8_0,hfz8_1,hfz8_2⟩:=zz3 BKa1
  go_wp2
  go_meet
  case rel=>exact⟨_,(decide (a0_1>8)),zF,H',⟨zO⟩,⟨zK BKa1.out⟩,⟨zB1 HB.out GEa1.out⟩⟩
 clear HC2
 (try clear c4b0);(try clear c6b0);(try clear hcz5_0);(try clear hcz5_1);(try clear hcz5_2);(try clear hcz7_0);(try clear hcz7_1);(try clear hcz7_2);(try clear hcz8_0);(try clear hcz8_1);(try clear hcz8_2);(try clear hfz5_0);(try clear hfz5_1);(try clear hfz5_2);(try clear hfz7_0);(try clear hfz7_1);(try clear hfz7_2);(try clear hfz8_0);(try clear hfz8_1);(try clear hfz8_2)
 obtain⟨kq,x17_1,rfl,HA,HJ1,BKa1,HB⟩:=hcut
 cases kq with|zero=>exact absurd HA.out (by simp [r4_Order.j0])|succ kj1=>?_
 have H:=HA.out
 clear HA
 simp only[r4_Order.j0] at H
 by_cases c9:x17_1=true
 ·subst c9
  rw[if_pos rfl] at H
  obtain rfl:=Option.some.inj H
  go_wp2
  go_ret
  exact⟨zE,zB1 HB.out GEa1.out⟩
 replace c9:=Bool.eq_false_iff.mpr c9
 subst c9
 rw[if_neg Bool.false_ne_true] at H
 have H':=zk H
 clear H
 go_wp2
 go_loopg [3,4] kj1 (fun kq v3 v4 w'=>∃(x3_2:Int) (x4_2:Int),v3= .int .i64 x3_2∧v4= .int .i64 x4_2∧Aside0 (r4_Order.l0 kq x3_2 x4_2 a0_0 a0_1 l0_2=some r)∧Aside0 (kq≤kj1)∧Aside0 (w'.heap[gba1]?=some (.cells #[.int .i64 a0_0, .int .i64 a0_1,(.slice A0_2 l0_2.length c0_2)] 24 (0,0)))∧Aside0 (Below w.heap.size w w'))
 case atStart=>exact⟨(1),(0),zF,zF,H',⟨Nat.le_refl _⟩,⟨zK BKa1.out⟩,⟨zB1 HB.out GEa1.out⟩⟩
 clear H'
 (try clear c4b0);(try clear c6b0);(try clear c9);(try clear hcz5_0);(try clear hcz5_1);(try clear hcz5_2);(try clear hcz7_0);(try clear hcz7_1);(try clear hcz7_2);(try clear hcz8_0);(try clear hcz8_1);(try clear hcz8_2);(try clear hfz5_0);(try clear hfz5_1);(try clear hfz5_2);(try clear hfz7_0);(try clear hfz7_1);(try clear hfz7_2);(try clear hfz8_0);(try clear hfz8_1);(try clear hfz8_2)
 obtain⟨x3_2,x4_2,rfl,rfl,HA,HK2,BKa1,HB⟩:=hrel
 cases gk with|zero=>exact absurd HA.out (by simp [r4_Order.l0])|succ k2=>?_
 have H:=HA.out
 clear HA
 simp only[r4_Order.l0] at H
 replace H:=zid H
 rcases H with⟨c10b0,H⟩|⟨c10b0,H⟩
 ·replace H:=zh H
  obtain⟨c11,H⟩:=H
  have c11b0:=beq_eq_false_iff_ne.mpr c11
  have c11b1:=bne_iff_ne.mpr c11
  replace H:=zi H
  rcases H with⟨c12,H⟩|⟨c12,H⟩
  ·have c12b0:decide ((wrap64 (Int.tdiv (256:Int) a0_0))<x3_2)=true:=decide_eq_true c12
   clear c12
   obtain rfl:=Option.some.inj H
   obtain⟨hcz13_0,hcz13_1,hcz13_2,hfz13_0,hfz13_1,hfz13_2⟩:=zz3 BKa1
   go_wp2
   go_ret
   exact⟨zE,zB1 HB.out GEa1.out⟩
  have c12b0:decide ((wrap64 (Int.tdiv (256:Int) a0_0))<x3_2)=false:=decide_eq_false c12
  clear c12
  have H':=zk H
  clear H
  obtain⟨hcz14_0,hcz14_1,hcz14_2,hfz14_0,hfz14_1,hfz14_2⟩:=zz3 BKa1
  go_wp2
  go_roundg k2
  case measure=>have:=HJ1.out;have:=HK2.out;omega
  case rel=>exact⟨(wrap64 (x3_2*a0_0)),(wrap64 (x4_2+1)),zF,zF,H',⟨zo2 HJ1 HK2⟩,⟨zK BKa1.out⟩,⟨zB1 HB.out GEa1.out⟩⟩
 obtain rfl:=Option.some.inj H
 obtain⟨hcz15_0,hcz15_1,hcz15_2,hfz15_0,hfz15_1,hfz15_2⟩:=zz3 BKa1
 go_wp2
 go_ret
 exact⟨zE,zB1 HB.out GEa1.out⟩
set_option maxHeartbeats 8000000 in
set_option maxRecDepth 100000 in
theorem r4_Is.calls (k:Nat) (a0_0:Int) (a0_1:Int) (A0_2:Option Addr) (c0_2:Nat) (l0_2:List Int) (a1:Int) (r:Bool) (w:World) (hr0_2:Kd.C (Kd.int .i64) w A0_2 l0_2.length l0_2) (hc0_2:l0_2.length≤c0_2) (h:r4_Is.f k a0_0 a0_1 l0_2 a1=some r):
 Calls Try.prog 130 #[.agg #[.int .i64 a0_0, .int .i64 a0_1, .slice A0_2 l0_2.length c0_2], .int .i64 a1] w fun e w'=>e= .returned (.bool r)∧Below w.heap.size w w':=by
 have hu24:=Try.underlying24
 have HR0_2:=zk hr0_2
 have HC0_2:=zk hc0_2
 clear hr0_2 hc0_2
 have HB:=zk (Below.refl w.heap.size w)
 have H:=h
 clear h
 unfold r4_Is.f at H
 replace H:=zi H
 rcases H with⟨c3,H⟩|⟨c3,H⟩
 ·have c3b0:decide (0≤a1)=true:=decide_eq_true c3
  clear c3
  replace H:=zb H
  obtain⟨ta2,A4,H⟩:=H
  obtain rfl:=Option.some.inj H
  go_enter Try.func130,Try.ntmps130
  go_wp2_with (first|((with_reducible refine gate_dst (N:=2) rfl ?_);refine box_event ?hg (N:=2) ?hd (cs:= #[.int .i64 a0_0, .int .i64 a0_1, .slice A0_2 l0_2.length c0_2]) (t:=24) ?hr ?_;(case hd=>rfl);(case hg=>rfl);(case hr=>first|(go_simp;done)|(go_simp;rfl));intro gba1 hg w5 hbox hb;have BKa1:=zk (hbox);have GWa1:=yg hg HB;have GEa1:=yg hg HB;replace HB:=yS HB hb;clear hb hbox hg;obtain⟨hcz6_0,hcz6_1,hcz6_2,hfz6_0,hfz6_1,hfz6_2⟩:=zz3 BKa1)|(go_at_call 24;(with_reducible refine(r4_Order.calls k a0_0 a0_1 _ _ l0_2 ta2 _ ?side1 ?side2 A4.out).mono ?_);(case side1=>exact zC (Kd.C_below HR0_2.out HB.out));(case side2=>exact HC0_2.out);rintro e w7 ⟨rfl,hb⟩;replace BKa1:=yK BKa1 hb;replace HB:=yS1 HB GEa1 hb;(try clear hb);(try clear hb2);(try clear hk);(try clear hi)))
  go_ret
  exact⟨zE,zB1 HB.out GEa1.out⟩
 have c3b0:decide (0≤a1)=false:=decide_eq_false c3
 clear c3
 obtain rfl:=Option.some.inj H
 go_enter Try.func130,Try.ntmps130
 go_wp2_with (first|((with_reducible refine gate_dst (N:=2) rfl ?_);refine box_event ?hg (N:=2) ?hd (cs:= #[.int .i64 a0_0, .int .i64 a0_1, .slice A0_2 l0_2.length c0_2]) (t:=24) ?hr ?_;(case hd=>rfl);(case hg=>rfl);(case hr=>first|(go_simp;done)|(go_simp;rfl));intro gba1 hg w8 hbox hb;have BKa1:=zk (hbox);have GWa1:=yg hg HB;have GEa1:=yg hg HB;replace HB:=yS HB hb;clear hb hbox hg))
 go_ret
 exact⟨zE,zB1 HB.out GEa1.out⟩
set_option maxHeartbeats 8000000 in
set_option maxRecDepth 100000 in
theorem r4_In.calls (k:Nat) (a0_0:Int) (a0_1:Int) (A0_2:Option Addr) (c0_2:Nat) (l0_2:List Int) (a1:Int) (r:Int) (w:World) (hr0_2:Kd.C (Kd.int .i64) w A0_2 l0_2.length l0_2) (hc0_2:l0_2.length≤c0_2) (h:r4_In.f k a0_0 a0_1 l0_2 a1=some r):
 Calls Try.prog 106 #[.agg #[.int .i64 a0_0, .int .i64 a0_1, .slice A0_2 l0_2.length c0_2], .int .i64 a1] w fun e w'=>e= .returned (.int .i64 r)∧Below w.heap.size w w':=by
 have hu24:=Try.underlying24
 have HR0_2:=zk hr0_2
 have HC0_2:=zk hc0_2
 clear hr0_2 hc0_2
 have HB:=zk (Below.refl w.heap.size w)
 have H:=h
 clear h
 unfold r4_In.f at H
 replace H:=zb H
 obtain⟨ta2,A3,H⟩:=H
 by_cases c4:ta2=true
 ·subst c4
  rw[if_pos rfl] at H
  obtain rfl:=Option.some.inj H
  go_enter Try.func106,Try.ntmps106
  go_wp2_with (first|((with_reducible refine gate_dst (N:=2) rfl ?_);refine box_event ?hg (N:=2) ?hd (cs:= #[.int .i64 a0_0, .int .i64 a0_1, .slice A0_2 l0_2.length c0_2]) (t:=24) ?hr ?_;(case hd=>rfl);(case hg=>rfl);(case hr=>first|(go_simp;done)|(go_simp;rfl));intro gba1 hg w5 hbox hb;have BKa1:=zk (hbox);have GWa1:=yg hg HB;have GEa1:=yg hg HB;replace HB:=yS HB hb;clear hb hbox hg;obtain⟨hcz6_0,hcz6_1,hcz6_2,hfz6_0,hfz6_1,hfz6_2⟩:=zz3 BKa1)|((with_reducible refine gC 130 ?_);refine zG (some 7) Try.func130 #[.agg #[.int .i64 a0_0, .int .i64 a0_1, .slice A0_2 l0_2.length c0_2], .int .i64 a1] ?_;(with_reducible refine(r4_Is.calls k a0_0 a0_1 _ _ l0_2 a1 true _ ?side1 ?side2 A3.out).mono ?_);(case side1=>exact zC (Kd.C_below HR0_2.out HB.out));(case side2=>exact HC0_2.out);rintro e w7 ⟨rfl,hb⟩;refine⟨_,rfl,?_⟩;replace BKa1:=yK BKa1 hb;replace HB:=yS1 HB GEa1 hb;(try clear hb);(try clear hb2);(try clear hk);(try clear hi)))
  go_ret
  exact⟨zE,zB1 HB.out GEa1.out⟩
 replace c4:=Bool.eq_false_iff.mpr c4
 subst c4
 rw[if_neg Bool.false_ne_true] at H
 obtain rfl:=Option.some.inj H
 go_enter Try.func106,Try.ntmps106
 go_wp2_with (first|((with_reducible refine gate_dst (N:=2) rfl ?_);refine box_event ?hg (N:=2) ?hd (cs:= #[.int .i64 a0_0, .int .i64 a0_1, .slice A0_2 l0_2.length c0_2]) (t:=24) ?hr ?_;(case hd=>rfl);(case hg=>rfl);(case hr=>first|(go_simp;done)|(go_simp;rfl));intro gba1 hg w8 hbox hb;have BKa1:=zk (hbox);have GWa1:=yg hg HB;have GEa1:=yg hg HB;replace HB:=yS HB hb;clear hb hbox hg;obtain⟨hcz9_0,hcz9_1,hcz9_2,hfz9_0,hfz9_1,hfz9_2⟩:=zz3 BKa1)|((with_reducible refine gC 130 ?_);refine zG (some 7) Try.func130 #[.agg #[.int .i64 a0_0, .int .i64 a0_1, .slice A0_2 l0_2.length c0_2], .int .i64 a1] ?_;(with_reducible refine(r4_Is.calls k a0_0 a0_1 _ _ l0_2 a1 false _ ?side1 ?side2 A3.out).mono ?_);(case side1=>exact zC (Kd.C_below HR0_2.out HB.out));(case side2=>exact HC0_2.out);rintro e w10 ⟨rfl,hb⟩;refine⟨_,rfl,?_⟩;replace BKa1:=yK BKa1 hb;replace HB:=yS1 HB GEa1 hb;(try clear hb);(try clear hb2);(try clear hk);(try clear hi)))
 go_ret
 exact⟨zE,zB1 HB.out GEa1.out⟩
def r24_Row.T5:Bool×List (List Nat×List Nat):=(true,[([],[]),([],[]),([],[]),([],[]),([],[]),([3,4],[3,4]),([5],[5]),([2,6],[2,6]),([0,1,0,1,2,3,4,5,6,7],[0,1]),([8,7,7,0,1,2,3,4,5,6,7],[7,8])])
def r24_Row.B5:List Nat:=[0,0,0,0,0,24,56,124,255,511]
theorem r24_Row.tab5:rtab .any (opsOf Try.f60 5)=r24_Row.T5:=by kernel_rfl
theorem r24_Row.bits5:waitsOk r24_Row.T5.2 r24_Row.B5=true:=by kernel_rfl
set_option maxHeartbeats 8000000 in
set_option maxRecDepth 100000 in
theorem r24_Row.calls (k:Nat) (a0_0:Int) (a0_1:Int) (A0_2:Option Addr) (c0_2:Nat) (l0_2:List Int) (a1:Int) (A2:Option Addr) (c2:Nat) (l2:List Int) (r:List Int) (w:World) (hr0_2:Kd.C (Kd.int .i64) w A0_2 l0_2.length l0_2) (hc0_2:l0_2.length≤c0_2) (hr2:Kd.C (Kd.int .i64) w A2 l2.length l2) (hc2:l2.length≤c2) (h:r24_Row.f k a0_0 a0_1 l0_2 a1 l2=some r):
 Calls Try.prog 60 #[.agg #[.int .i64 a0_0, .int .i64 a0_1, .slice A0_2 l0_2.length c0_2], .int .i64 a1, .slice A2 l2.length c2] w fun e w'=>∃v0_:Value,e= .returned (v0_)∧Kd.R (Kd.int .i64) 3 w' w.heap.size (fun _=>True) v0_ r∧Below w.heap.size w w':=by
 have hu24:=Try.underlying24
 have HR0_2:=zk hr0_2
 have HC0_2:=zk hc0_2
 clear hr0_2 hc0_2
 have HR2:=zk hr2
 have HC2:=zk hc2
 clear hr2 hc2
 have HB:=zk (Below.refl w.heap.size w)
 have H:=h
 clear h
 unfold r24_Row.f at H
 replace H:=zg H
 obtain⟨c4,H⟩:=H
 have c4b0:=eq_true c4
 have c4b1:=decide_eq_true c4
 clear c4
 replace H:=zg H
 obtain⟨c5,H⟩:=H
 have c5b0:=eq_true c5
 have c5b1:=decide_eq_true c5
 clear c5
 obtain⟨ya2,hya2⟩:∃y_:List Int,y_=(List.replicate (a1:Int).toNat 0):=⟨_,rfl⟩
 replace H:(r24_Row.l0 k a1 l2 ya2 0 a0_0 a0_1 l0_2)=some r:=zY hya2 H
 have Nya2:=zk hya2
 clear hya2
 have H':=zk H
 clear H
 go_enter Try.func60,Try.ntmps60
 go_wp2_with (first|((with_reducible refine gate_dst (N:=3) rfl ?_);(try(refine gate_guard (by rfl) ?_;dsimp only));refine box_event ?hg (N:=3) ?hd (cs:= #[.int .i64 a0_0, .int .i64 a0_1, .slice A0_2 l0_2.length c0_2]) (t:=24) ?hr ?_;(case hd=>rfl);(case hg=>rfl);(case hr=>first|(go_simp;done)|(go_simp;rfl));intro gba1 hg w6 hbox hb;have BKa1:=zk (hbox);have GWa1:=yg hg HB;have GEa1:=yg hg HB;replace HB:=yS HB hb;clear hb hbox hg)|((with_reducible refine gate_dst (N:=10) rfl ?_);(try(refine gate_guard (by rfl) ?_;dsimp only));refine Kd.R_make (Kd.int .i64) _ 3 rfl (N:=10) rfl 22 _ _ rfl a1 rfl rfl Try.underlying22 (.int .i64 0) 8 info3 rfl (by decide) (by omega) 0 (ok:=fun _=>True) (okp:=fun _=>True) rfl (fun _ hk=>hk) trivial zd (Nat.le_trans (Nat.mul_le_mul_right _ (zd:a1.toNat≤35184372088832)) (by omega)) (Below.refl _ _) (Nat.le_refl _) ?_;intro va3 w7 ho8 hb hg_ hnew_;clear hg_ hnew_;(first|rw[←Nya2.out] at ho8|(simp only[Int.reduceToNat] at ho8;rw[←Nya2.out] at ho8));have HOa4:=yRl1 ho8 HB GEa1;replace BKa1:=yK BKa1 hb;replace HB:=yS1 HB GEa1 hb;clear hb ho8))
 go_loopg [8] k (fun kq v8 w'=>∃(x7_1:List Int) (x8_1:Int),v8= .int .i64 x8_1∧Aside0 (r24_Row.l0 kq a1 l2 x7_1 x8_1 a0_0 a0_1 l0_2=some r)∧Aside0 (kq≤k)∧Aside0 (Kd.R (Kd.int .i64) 3 w' w.heap.size (fun _=>True) va3 x7_1)∧Aside0 (w'.heap[gba1]?=some (.cells #[.int .i64 a0_0, .int .i64 a0_1,(.slice A0_2 l0_2.length c0_2)] 24 (0,0)))∧Aside0 (Below w.heap.size w w'))
 case atStart=>exact⟨(ya2),(0),zF,H',⟨Nat.le_refl _⟩,⟨zR HOa4.out⟩,⟨zK BKa1.out⟩,⟨zB1 HB.out GEa1.out⟩⟩
 clear H'
 (try clear c4);(try clear c4b0);(try clear c4b1);(try clear c5);(try clear c5b0);(try clear c5b1)
 obtain⟨x7_1,x8_1,rfl,HA,HK1,HO_7,BKa1,HB⟩:=hrel
 cases gk with|zero=>exact absurd HA.out (by simp [r24_Row.l0])|succ k1=>?_
 have H:=HA.out
 clear HA
 simp only[r24_Row.l0] at H
 replace H:=zid H
 rcases H with⟨c9b0,H⟩|⟨c9b0,H⟩
 ·replace H:=zid H
  rcases H with⟨c10b0,H⟩|⟨c10b0,H⟩
  ·replace H:=zgd H
   obtain⟨c11b0,H⟩:=H
   replace H:=zb H
   obtain⟨ta6,A12,H⟩:=H
   replace H:=zgd H
   obtain⟨c13b0,H⟩:=H
   obtain⟨ya7,hya7⟩:∃y_:List Int,y_=(x7_1.set (x8_1:Int).toNat ta6):=⟨_,rfl⟩
   replace H:(r24_Row.l0 k1 a1 l2 ya7 (wrap64 (x8_1+1)) a0_0 a0_1 l0_2)=some r:=zY hya7 H
   have Nya7:=zk hya7
   clear hya7
   have H':=zk H
   clear H
   try go_wp2
   replace HO_7:=zk (Kd.R_drew HO_7.out)
   replace BKa1:=zk (blk_drew BKa1.out)
   replace HB:=zk (below_drew1 HB.out)
   have pa5:0≤(x8_1:Int):=zd
   have qa5:x8_1<(l2.length:Int):=zd
   obtain⟨ada5,ea5,hxa5_0⟩:=Kd.at_int HR2.out x8_1 pa5 qa5
   have hw105_0:=hxa5_0
   cases ea5
   replace hxa5_0:=(HB.out.cell (World.block_lt_of_cell? w _ hxa5_0)).trans hxa5_0
   replace pa5:=eq_true pa5
   replace qa5:=eq_true qa5
   refine start_ (n:=10) (S:=fun w'=>w'.cell? ⟨gba1,0,none⟩=some (.int .i64 a0_0)∧w'.cell? ⟨gba1,1,none⟩=some (.int .i64 a0_1)∧w'.cell? ⟨gba1,2,none⟩=some (.slice A0_2 l0_2.length c0_2)∧w'.cell? (ada5.add (x8_1).toNat)=some (.int .i64 (rd l2 x8_1))) (ds:=[9]) #[false,false,false,false,false,false,false,false,false,false] (by kernel_rfl) rfl rfl ⟨(blk_cell BKa1.out 0).trans rfl,(blk_cell BKa1.out 1).trans rfl,(blk_cell BKa1.out 2).trans rfl,((HB.out.cell (World.block_lt_of_cell? w _ hw105_0)).trans hw105_0)⟩ (fun hHeld=>?_);refine with_tabW r24_Row.tab5 r24_Row.bits5 (fun HT_ HW_=>?_)
   first|(generalize wr.drew=w15 at HO_7 BKa1 HB hxa5_0 hHeld ⊢)|(generalize wr.drew=w15 at HO_7 BKa1 HB hHeld ⊢)
   refine zp (i:=0) (N:=some 22) HT_ ?_
   refine zp (i:=1) (N:=some 23) HT_ ?_
   refine zp (i:=3) (N:=some 25) HT_ ?_
   refine zp (i:=4) (N:=some 26) HT_ ?_
   refine zp (i:=5) (N:=some 27) HT_ ?_
   refine take_ (i:=2) (N:=some 24) (v:=?_) (a':=?_) #[true,true,true,true,true,true,false,false,false,false] rfl rfl (take_ofW HT_.out HW_.out (by kernel_rfl)) (fun _ _ _ h=>h) (Or.inl ⟨by rfl,?_⟩) hHeld ?_ ?_
   rotate_left
   ·rintro w' ⟨s0,s1,s2,s3⟩
    go_simp
    with_reducible rfl
   rotate_left
   ·simp only[Act.put,List.setIfInBounds_toArray,List.set_cons_zero,List.set_cons_succ,i64_w,i32_w]
    rfl
   refine take_ (i:=6) (N:=some 28) (v:=?_) (a':=?_) #[true,true,true,true,true,true,true,false,false,false] rfl rfl (take_ofW HT_.out HW_.out (by kernel_rfl)) (fun _ _ _ h=>h) (Or.inl ⟨by rfl,?_⟩) hHeld ?_ ?_
   rotate_left
   ·rintro w' ⟨s0,s1,s2,s3⟩
    go_simp
    with_reducible rfl
   rotate_left
   ·simp only[Act.put,List.setIfInBounds_toArray,List.set_cons_zero,List.set_cons_succ,i64_w,i32_w]
    rfl
   refine one_ (i:=7) (N:=some 29) #[true,true,true,true,true,true,true,true,false,false] rfl rfl (one_of HT_.out (by kernel_rfl)) (by decide) (fun K hK=>?_)
   refine goes_ Try.func106 (by kernel_rfl) rfl #[.agg #[.int .i64 a0_0, .int .i64 a0_1, .slice A0_2 l0_2.length c0_2], .int .i64 (rd l2 x8_1)] (by rfl) rfl rfl (by(try simp only[List.map_toArray,List.map_cons,List.map_nil]);first|done|rfl|(simp only[List.length_drop,List.length_take];rfl)) ?_
   with_reducible refine(r4_In.calls k1 a0_0 a0_1 _ _ l0_2 (rd l2 x8_1) ta6 _ ?side1 ?side2 A12.out).mono ?_
   (case side1=>exact zC (Kd.C_below HR0_2.out HB.out))
   (case side2=>exact HC0_2.out)
   rintro e w16 ⟨rfl,hb⟩
   refine⟨_,rfl,?_⟩
   replace HO_7:=yRb HO_7 hb
   replace BKa1:=yK BKa1 hb
   replace HB:=yS1 HB GEa1 hb
   (try clear hb)
   have p14:0≤(x8_1:Int):=zd
   have q14:(x8_1:Int)<((x7_1.length:Int):Int):=zd
   obtain⟨go14,co14,eo14,gb14,gl14,cl14,HG14⟩:=Kd.R_form HO_7.out (by omega)
   (first|cases eo14|(injection eo14 with ea_ en_ ec_;(first|subst ea_|(injection ea_ with ea_;subst ea_));subst ec_;clear en_))
   have GB14:=zk gb14
   have GG14:=zk HG14
   clear gb14 gl14 HG14
   obtain⟨hx14_0,hf14_0⟩:=Kd.R_celln 0 HO_7.out (x8_1:Int) p14 q14
   replace p14:=eq_true p14
   replace q14:=eq_true q14
   have HP17:=Kd.R_putn HO_7.out (x8_1:Int) ta6
   rw[←Nya7.out] at HP17
   have HQ17:=zk HP17
   clear HP17
   refine hK.out _ _ ⟨(blk_cell BKa1.out 0).trans rfl,(blk_cell BKa1.out 1).trans rfl,(blk_cell BKa1.out 2).trans rfl,((HB.out.cell (World.block_lt_of_cell? w _ hw105_0)).trans hw105_0)⟩ (fun hHeld=>?_)
   clear hK K
   refine norm_ (a':=?_) ?_ ?_
   rotate_left
   ·show Act.put _ (some 29) _=_
    simp only[Act.put,List.setIfInBounds_toArray,List.set_cons_zero,List.set_cons_succ,i64_w,i32_w]
    rfl
   refine zp (i:=8) (N:=some 30) HT_ ?_
   refine last_ (i:=9) (N:=none) #[true,true,true,true,true,true,true,true,true,true] rfl rfl (one_of HT_.out (by kernel_rfl)) (by decide) (fun K hK=>?_)
   refine skip_ (w1:=?_) (by rfl) rfl ?_ ?_
   rotate_left
   ·go_simp
    rfl
   refine hK.out _ _ ?_
   clear hK K
   refine done_ (done_of HT_.out (by kernel_rfl)) ?_
   try go_wp2
   go_roundg k1
   case measure=>have:=HK1.out;omega
   case rel=>exact⟨(ya7),(wrap64 (x8_1+1)),zF,H',⟨zo1 HK1⟩,⟨zR HQ17.out⟩,⟨by(with_reducible repeat(first|refine blk_drewN ?_ _|refine blk_drew ?_|refine blk_alloc ?_ _));refine blk_far ?_ (by have h_:=Kd.R_ne HO_7.out BKa1.out (by decide);intro e_;exact h_ (by rw[e_];rfl)) _;(with_reducible repeat(first|refine blk_drewN ?_ _|refine blk_drew ?_|refine blk_alloc ?_ _));exact BKa1.out⟩,⟨zB2 HB.out GB14.out GEa1.out⟩⟩
  obtain rfl:=Option.some.inj H
  go_wp2
  go_ret
  exact⟨_,zE,zR HO_7.out,zB1 HB.out GEa1.out⟩
 obtain rfl:=Option.some.inj H
 go_wp2
 go_ret
 exact⟨_,zE,zR HO_7.out,zB1 HB.out GEa1.out⟩
set_option maxHeartbeats 8000000 in
set_option maxRecDepth 100000 in
theorem r24_Distance.calls (k:Nat) (A0:Option Addr) (c0:Nat) (l0:List Int) (A1:Option Addr) (c1:Nat) (l1:List Int) (r:Int) (w:World) (hr0:Kd.C (Kd.int .i64) w A0 l0.length l0) (hc0:l0.length≤c0) (hr1:Kd.C (Kd.int .i64) w A1 l1.length l1) (hc1:l1.length≤c1) (h:r24_Distance.f k l0 l1=some r):
 Calls Try.prog 61 #[.slice A0 l0.length c0, .slice A1 l1.length c1] w fun e w'=>e= .returned (.int .i64 r)∧Drawn0 w w':=by
 have HR0:=zk hr0
 have HC0:=zk hc0
 clear hr0 hc0
 have HR1:=zk hr1
 have HC1:=zk hc1
 clear hr1 hc1
 have H:=h
 clear h
 unfold r24_Distance.f at H
 have H':=zk H
 clear H
 go_enter Try.func61,Try.ntmps61
 go_wp2
 repeat(go_quiet (fail);try go_wp2)
 go_loopg [5,6] k (fun kq v5 v6 w'=>∃(x5_1:Int) (x6_1:Int),v5= .int .i64 x5_1∧v6= .int .i64 x6_1∧Aside0 (r24_Distance.l0 kq l0 l1 x5_1 x6_1=some r)∧Aside0 (kq≤k)∧Drawn0 w w')
 case atStart=>exact⟨(0),(0),zF,zF,H',⟨Nat.le_refl _⟩,by repeat(first|exact Drawn0.refl _|apply Drawn0.step)⟩
 clear H'
 obtain⟨x5_1,x6_1,rfl,rfl,HA,HK1,⟨m1,rfl⟩⟩:=hrel
 cases gk with|zero=>exact absurd HA.out (by simp [r24_Distance.l0])|succ k1=>?_
 have H:=HA.out
 clear HA
 simp only[r24_Distance.l0] at H
 replace H:=zid H
 rcases H with⟨c3b0,H⟩|⟨c3b0,H⟩
 ·replace H:=zgd H
  obtain⟨c4b0,H⟩:=H
  replace H:=zgd H
  obtain⟨c5b0,H⟩:=H
  replace H:=zi H
  rcases H with⟨c6,H⟩|⟨c6,H⟩
  ·have c6b0:=beq_iff_eq.mpr c6
   have c6b1:=bne_eq_false_iff_eq.mpr c6
   clear c6
   have H':=zk H
   clear H
   have pa1:0≤(x6_1:Int):=zd
   have qa1:x6_1<(l0.length:Int):=zd
   obtain⟨ada1,ea1,hxa1_0⟩:=Kd.at_int HR0.out x6_1 pa1 qa1
   cases ea1
   replace pa1:=eq_true pa1
   replace qa1:=eq_true qa1
   have pa2:0≤(x6_1:Int):=zd
   have qa2:x6_1<(l1.length:Int):=zd
   obtain⟨ada2,ea2,hxa2_0⟩:=Kd.at_int HR1.out x6_1 pa2 qa2
   cases ea2
   replace pa2:=eq_true pa2
   replace qa2:=eq_true qa2
   go_wp2
   repeat(go_quiet (fail);try go_wp2)
   go_roundg k1
   case measure=>have:=HK1.out;omega
   case rel=>exact⟨(x5_1),(wrap64 (x6_1+1)),zF,zF,H',⟨zo1 HK1⟩,by repeat(first|exact Drawn0.refl _|apply Drawn0.step)⟩
  have c6b0:=beq_eq_false_iff_ne.mpr c6
  have c6b1:=bne_iff_ne.mpr c6
  have H':=zk H
  clear H
  have pa1:0≤(x6_1:Int):=zd
  have qa1:x6_1<(l0.length:Int):=zd
  obtain⟨ada1,ea1,hxa1_0⟩:=Kd.at_int HR0.out x6_1 pa1 qa1
  cases ea1
  replace pa1:=eq_true pa1
  replace qa1:=eq_true qa1
  have pa2:0≤(x6_1:Int):=zd
  have qa2:x6_1<(l1.length:Int):=zd
  obtain⟨ada2,ea2,hxa2_0⟩:=Kd.at_int HR1.out x6_1 pa2 qa2
  cases ea2
  replace pa2:=eq_true pa2
  replace qa2:=eq_true qa2
  go_wp2
  repeat(go_quiet (fail);try go_wp2)
  go_roundg k1
  case measure=>have:=HK1.out;omega
  case rel=>exact⟨(wrap64 (x5_1+1)),(wrap64 (x6_1+1)),zF,zF,H',⟨zo1 HK1⟩,by repeat(first|exact Drawn0.refl _|apply Drawn0.step)⟩
 obtain rfl:=Option.some.inj H
 go_wp2
 repeat(go_quiet (fail);try go_wp2)
 go_ret
 exact⟨zF,by repeat(first|exact Drawn0.refl _|apply Drawn0.step)⟩
set_option maxHeartbeats 8000000 in
set_option maxRecDepth 100000 in
theorem r4_prime.calls (k:Nat) (a0:Int) (r:Bool) (w:World) (h:r4_prime.f k a0=some r):
 Calls Try.prog 109 #[.int .i64 a0] w fun e w'=>e= .returned (.bool r)∧Drawn0 w w':=by
 have H:=h
 clear h
 unfold r4_prime.f at H
 have H':=zk H
 clear H
 go_enter Try.func109,Try.ntmps109
 go_wp2
 go_loopg [3] k (fun kq v3 w'=>∃(x3_1:Int),v3= .int .i64 x3_1∧Aside0 (r4_prime.l0 kq a0 x3_1=some r)∧Aside0 (kq≤k)∧Drawn0 w w')
 case atStart=>exact⟨(2),zF,H',⟨Nat.le_refl _⟩,by repeat(first|exact Drawn0.refl _|apply Drawn0.step)⟩
 clear H'
 obtain⟨x3_1,rfl,HA,HK1,⟨m1,rfl⟩⟩:=hrel
 cases gk with|zero=>exact absurd HA.out (by simp [r4_prime.l0])|succ k1=>?_
 have H:=HA.out
 clear HA
 simp only[r4_prime.l0] at H
 replace H:=zid H
 rcases H with⟨c2b0,H⟩|⟨c2b0,H⟩
 ·replace H:=zh H
  obtain⟨c3,H⟩:=H
  have c3b0:=beq_eq_false_iff_ne.mpr c3
  have c3b1:=bne_iff_ne.mpr c3
  replace H:=zi H
  rcases H with⟨c4,H⟩|⟨c4,H⟩
  ·have c4b0:=beq_iff_eq.mpr c4
   have c4b1:=bne_eq_false_iff_eq.mpr c4
   clear c4
   obtain rfl:=Option.some.inj H
   go_wp2
   go_ret
   exact⟨zF,by repeat(first|exact Drawn0.refl _|apply Drawn0.step)⟩
  have c4b0:=beq_eq_false_iff_ne.mpr c4
  have c4b1:=bne_iff_ne.mpr c4
  have H':=zk H
  clear H
  go_wp2
  go_roundg k1
  case measure=>have:=HK1.out;omega
  case rel=>exact⟨(wrap64 (x3_1+1)),zF,H',⟨zo1 HK1⟩,by repeat(first|exact Drawn0.refl _|apply Drawn0.step)⟩
 obtain rfl:=Option.some.inj H
 go_wp2
 go_ret
 exact⟨zF,by repeat(first|exact Drawn0.refl _|apply Drawn0.step)⟩
end Go.Proofs.Ytifkbghnmhineaa.PAll
