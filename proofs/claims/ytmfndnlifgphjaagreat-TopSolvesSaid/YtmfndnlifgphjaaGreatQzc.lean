import Derived.Test.YtmfndnlifgphjaaGreatQzb
import Derived.Laws.MakeOwn
import Derived.Laws.AppendOwn
import Derived.Laws.OwnMore
import Derived.Test.YtmfndnlifgphjaaGreatRows
import Derived.ProofKit
import Derived.SizedLaws
set_option maxHeartbeats 64000000
open Go.Proofs.YtmfndnlifgphjaaGreat
namespace Go.cU
section
open Go Go.RowKit
structure Ch(M:Nat->Prop)(w w':World):Prop where
 os:w'.os=w.os
 tape:w'.tape=w.tape
 output:w'.output=w.output
 size:w.heap.size<=w'.heap.size
 block:∀b,b<w.heap.size->¬M b->w'.heap[b]?=w.heap[b]?
def Ext(w w':World):Prop:=Ch (λ_=>False) w w'
section
variable {M M':Nat->Prop}{w w' w'':World}{g b:Nat}{t:TypeId}{cs:Array Value}{p:Addr}
theorem Ch.refl(M:Nat->Prop)(w:World):Ch M w w:=⟨F,F,F,Nat.le_refl _,λ_ _ _=>rfl⟩
theorem Ch.trans(h:Ch M w w')(k:Ch M w' w''):Ch M w w'':=
 ⟨k.os.trans h.os,k.tape.trans h.tape,k.output.trans h.output,Nat.le_trans h.size k.size,λb e c=>(k.block b (Nat.lt_of_lt_of_le e h.size) c).trans (h.block b e c)⟩
theorem Ch.mono(h:Ch M w w')(j:∀b,b<w.heap.size->M b->M' b):Ch M' w w':=⟨h.os,h.tape,h.output,h.size,λb c i=>h.block b c λe=>i (j b c e)⟩
theorem Ext.refl(w:World):Ext w w:=Ch.refl _ w
theorem Ext.trans(h:Ext w w')(k:Ext w' w''):Ext w w'':=Ch.trans h k
theorem Ext.ch(h:Ext w w'):Ch M w w':=Ch.mono h λ_ _ h=>h.elim
theorem Ext.size(h:Ext w w'):w.heap.size<=w'.heap.size:=Ch.size h
theorem Ext.qd(h:Ext w w')(c:b<w.heap.size):w'.heap[b]?=w.heap[b]?:=Ch.block h b c id
theorem Ch.aK(c:Ext w w')(h:Ch M w' w'')(j:∀b,M b->w.heap.size<=b):Ext w w'':=
 ⟨h.os.trans c.os,h.tape.trans c.tape,h.output.trans c.output,Nat.le_trans c.size h.size,
  λb e _=>(h.block b (Nat.lt_of_lt_of_le e c.size) λi=>absurd (j b i) aq).trans (c.qd e)⟩
def bh(w:World)(g:Nat)(t:TypeId)(cs:Array Value):Prop:=w.heap[g]?=some (.cells cs t (0,0))
theorem bh.lt(h:bh w g t cs):g<w.heap.size:=by
 rcases Nat.lt_or_ge g w.heap.size with c|e
 ·exact c
 ·unfold bh at h;rw[Array.getElem?_eq_none e]at h;cases h
theorem bh.cell(h:bh w g t cs)(i:Nat):w.cell? ⟨g,i,none⟩=cs[i]?:=by unfold bh at h;simp[World.cell?,h]
theorem bh.frozen(h:bh w g t cs)(i:Nat):w.frozen? ⟨g,i,none⟩=false:=by unfold bh at h;simp[World.frozen?,h]
theorem bh.ch(h:bh w g t cs)(e:Ch M w w')(c:¬M g):bh w' g t cs:=(e.block g h.lt c).trans h
theorem bh.Y(h:bh w g t cs)(c:Ext w w'):bh w' g t cs:=bh.ch h c id
theorem jK(e:Ch M w w')(h:p.block<w.heap.size)(c:¬M p.block):w'.cell? p=w.cell? p:=World.cell?_of_block (w:=w) (e.block p.block h c)
theorem aS{v:Value}(c:Ext w w')(h:w.cell? p=some v):w'.cell? p=some v:=
 (jK c (World.block_lt_of_cell? w p h) id).trans h
theorem u_(w:World)(o:Obj):Ext w (w.alloc o):=⟨F,F,F,by simp,λb c _=>Below.heap_alloc w o b c⟩
theorem kC(w:World):Ext w { w with drawn:=w.drawn+1 }:=⟨F,F,F,Nat.le_refl _,λ_ _ _=>rfl⟩
theorem eh(w:World)(p:Addr)(v:Value):Ch (λb=>b=p.block) w (w.setCell p v):=
 ⟨F,F,F,by simp[World.setCell],λb _ c=>Below.heap_setCell w p v b c⟩
theorem size_setCell(w:World)(p:Addr)(v:Value):(w.setCell p v).heap.size=w.heap.size:=by simp[World.setCell]
theorem bh.new(w:World)(t:TypeId)(cs:Array Value):bh (w.alloc (.cells cs t)) w.heap.size t cs:=heap_alloc_new w _
theorem bh.set(h:bh w g t cs)(i:Nat)(u:Value):bh (w.setCell ⟨g,i,none⟩ u) g t (cs.setIfInBounds i u):=by
 unfold bh at h⊢;simp[World.setCell,Array.getElem?_modify,h]
theorem add_lit(g i j:Nat):(⟨g,i,none⟩ : Addr).add j=⟨g,i+j,none⟩:=by unfold Addr.add;split<;>simp_all
theorem add_add(a:Addr)(i j:Nat):(a.add i).add j=a.add (i+j):=by
 unfold Addr.add;by_cases e:i=0<;>by_cases c:j=0<;>simp[e,c,Nat.add_assoc]
theorem block_add(a:Addr)(n:Nat):(a.add n).block=a.block:=by unfold Addr.add;split<;>rfl
def ia(P:Program)(t:TypeId):Bool:=match P.underlying t with|some (.struct _)|some (.array _ _)|none=>false|some _=>(P.info? t).any (·.size == 1)
def dL(P:Program)(t:TypeId)(m:Nat):Bool:=match P.underlying t with|some (.struct _)|some (.array _ _)=>(P.info? t).any (·.size == m)|_=>false
def lF(P:Program)(t:TypeId)(d:TypeDesc):Prop:=P.underlying t=some d
structure cP(P:Program)(t e sz bytes:Nat)(z:Value):Prop where
 Ge:P.underlying t=some (.slice e)
 info:(P.info? e).map (λi=>(i.zero,i.size,i.bytes))=some (some z,sz,bytes)
def im(P:Program)(t:TypeId)(z:Value):Prop:=(P.info? t).map (λi=>i.zero)=some (some z)
theorem ml{P:Program}{t:TypeId}(h:ia P t=true)(w:World):(isAgg t).run P w=.ok false w:=by
 unfold ia at h;split at h
 ·cases h
 ·cases h
 ·cases h
 ·rename_i d i e c;unfold isAgg;simp only[Sem.run_bind,run_underlying c,Result.andThen_ok];cases d<;>first|rfl|(exfalso;simp_all;done)
theorem cQ{P:Program}{t:TypeId}(h:ia P t=true)(w:World):(sizeOf t).run P w=.ok 1 w:=by
 unfold ia at h;split at h
 ·cases h
 ·cases h
 ·cases h
 ·cases hi:P.info? t with
  |none=>rw[hi]at h;simp at h
  |some i=>rw[hi]at h;simp at h;simp[sizeOf,typeInfo,hi,h]
theorem iG{P:Program}{t:TypeId}{m:Nat}(h:dL P t m=true)(w:World):(isAgg t).run P w=.ok true w:=by
 unfold dL at h;split at h
 ·rename_i c;simp[isAgg,run_underlying c]
 ·rename_i c;simp[isAgg,run_underlying c]
 ·cases h
theorem fP{P:Program}{t:TypeId}{m:Nat}(h:dL P t m=true)(w:World):(sizeOf t).run P w=.ok m w:=by
 have c:(P.info? t).any (·.size == m)=true:=by
  unfold dL at h;split at h
  ·exact h
  ·exact h
  ·cases h
 cases hi:P.info? t with
 |none=>rw[hi]at c;simp at c
 |some i=>rw[hi]at c;simp at c;simp[sizeOf,typeInfo,hi,c]
end
section
variable {P:Program}{n:Nat}{S:World->World->Prop}{k:Nat}{K:Fr->World->Prop}{f:Fr}{w:World}
 {d ty t t2:Nat} {x y:Operand} {pos:String} {aft:Array Edge} {gd:Option (Nat×Bool)}
theorem iY(c:ia P t=true){p:Addr}{v:Value}(e:w.cell? p=some v):(Instr.loadAt t (.pointer (some p))).run P w=.ok v w:=by
 simp[Instr.loadAt,Instr.sureAddr,loadVar,ml c,load,Sem.run,e]
theorem rW(l:k≠3)(i:ia P t=true){p:Addr}{v:Value}(c:ev n f x=.pointer (some p))(j:w.cell? p=some v)(h:K (bS f d v) w):
 R1 P n (λ_ _=>False) k ⟨some d,.load t x,ty,pos,aft,gd⟩ K f w:=by
 refine fX l (v:=v) (λw' e=>?_) h;obtain rfl:=e.resolve_left id;simp only[execOp,c,Sem.run_bind,iY i j,Result.andThen_ok,Sem.run_pure]
theorem rX(m:k≠3)(l:ia P t=true){p:Addr}{v:Value}(j:ev n f x=.pointer (some p))(e:w.cell? p=some v)(h:K (bS f d v) w):
 R1 P n Ext k ⟨some d,.load t x,ty,pos,aft,gd⟩ K f w:=by
 refine fX m (v:=v) (λw' c=>?_) h;have i:w'.cell? p=some v:=by
  rcases c with c|rfl
  ·exact aS c e
  ·exact e
 simp only[execOp,j,Sem.run_bind,iY l i,Result.andThen_ok,Sem.run_pure]
theorem add_zero(p:Addr):p.add 0=p:=F
theorem cW(c:dL P t 2=true){p:Addr}{v0 v1:Value}(e:w.cell? p=some v0)(h1:w.cell? (p.add 1)=some v1):(Instr.loadAt t (.pointer (some p))).run P w=.ok (.agg #[v0,v1]) w:=by
 simp[Instr.loadAt,Instr.sureAddr,loadVar,iG c,fP c,loadCells,loadCellsFrom,load,Sem.run,e,h1,add_zero]
theorem pE(e:dL P t 3=true){p:Addr}{v0 v1 c:Value}(i:w.cell? p=some v0)(h1:w.cell? (p.add 1)=some v1)(h:w.cell? (p.add 2)=some c):(Instr.loadAt t (.pointer (some p))).run P w=.ok (.agg #[v0,v1,c]) w:=by
 simp[Instr.loadAt,Instr.sureAddr,loadVar,iG e,fP e,loadCells,loadCellsFrom,load,Sem.run,i,h1,h,add_zero]
theorem rU(j:k≠3)(i:dL P t 2=true){p:Addr}{v0 v1:Value}(c:ev n f x=.pointer (some p))(l:w.cell? p=some v0)(h1:w.cell? (p.add 1)=some v1)(h:K (bS f d (.agg #[v0,v1])) w):
 R1 P n (λ_ _=>False) k ⟨some d,.load t x,ty,pos,aft,gd⟩ K f w:=by
 refine fX j (v:=.agg #[v0,v1]) (λw' e=>?_) h;obtain rfl:=e.resolve_left id;simp only[execOp,c,Sem.run_bind,cW i l h1,Result.andThen_ok,Sem.run_pure]
theorem rV(m:k≠3)(l:dL P t 2=true){p:Addr}{v0 v1:Value}(j:ev n f x=.pointer (some p))(i:w.cell? p=some v0)(h1:w.cell? (p.add 1)=some v1)(h:K (bS f d (.agg #[v0,v1])) w):
 R1 P n Ext k ⟨some d,.load t x,ty,pos,aft,gd⟩ K f w:=by
 refine fX m (v:=.agg #[v0,v1]) (λw' c=>?_) h;have e:w'.cell? p=some v0/\w'.cell? (p.add 1)=some v1:=by
  rcases c with c|rfl
  ·exact⟨aS c i,aS c h1⟩
  ·exact⟨i,h1⟩
 simp only[execOp,j,Sem.run_bind,cW l e.1 e.2,Result.andThen_ok,Sem.run_pure]
theorem oh(l:k≠3)(j:dL P t 3=true){p:Addr}{v0 v1 c:Value}(e:ev n f x=.pointer (some p))(o:w.cell? p=some v0)(h1:w.cell? (p.add 1)=some v1)(m:w.cell? (p.add 2)=some c)(h:K (bS f d (.agg #[v0,v1,c])) w):
 R1 P n (λ_ _=>False) k ⟨some d,.load t x,ty,pos,aft,gd⟩ K f w:=by
 refine fX l (v:=.agg #[v0,v1,c]) (λw' i=>?_) h;obtain rfl:=i.resolve_left id;simp only[execOp,e,Sem.run_bind,pE j o h1 m,Result.andThen_ok,Sem.run_pure]
theorem ft{a:Addr}{v u:Value}(c:v.oneCell'=true)(c:w.cell? a=some u)(c:w.frozen? a=false):(store a v).run P w=.ok () (w.setCell a v):=by
 cases v<;>simp_all [store,Sem.run,Value.oneCell']
theorem dB{v:Value}(c:v.oneCell'=true):v.cells=#[v]:=by cases v<;>simp_all [Value.oneCell',Value.cells]
theorem qO(e:ia P t=true){p:Addr}{v u:Value}(c:v.oneCell'=true)(i:w.cell? p=some u)(h:w.frozen? p=false):(Instr.storeAt t (.pointer (some p)) v).run P w=.ok () (w.setCell p v):=by
 simp[Instr.storeAt,Instr.sureAddr,storeVar,cQ e,dB c,storeCells,ft c i h,add_zero]
theorem rP(m:ia P t=true){g i:Nat}{T:TypeId}{cs:Array Value}{v:Value}(r:k=2\/k=1/\∀w',Ch (λb=>b=g) w w'->S w w')(l:ev n f x=.pointer (some ⟨g,i,none⟩))(j:ev n f y=v)(o:v.oneCell'=true)(e:bh w g T cs)(c:i<cs.size)
 (h:∀w',bh w' g T (cs.setIfInBounds i v)->Ch (λb=>b=g) w w'->w'.heap.size=w.heap.size->K f w'):
 R1 P n S k ⟨none,.store t x y,ty,pos,aft,gd⟩ K f w:=by
 have q:w.cell? ⟨g,i,none⟩=some cs[i]:=by rw[e.cell];simp[c]
 have c:Ch (λb=>b=g) w (w.setCell ⟨g,i,none⟩ v):=eh w ⟨g,i,none⟩ v;refine nM (w':=w.setCell ⟨g,i,none⟩ v) (r.imp id λh=>⟨h.1,h.2 _ c⟩) rfl ?_ (h _ (e.set i v) c (size_setCell _ _ _));simp only[execOp,l,j,Sem.run_bind,qO m o q (e.frozen i),Result.andThen_ok,Sem.run_pure]
theorem cg(j:ia P t=true){g i:Nat}{T:TypeId}{cs:Array Value}{kd:IntKind}{z:Int}(o:k=2\/k=1/\∀w',Ch (λb=>b=g) w w'->S w w')(e:ev n f x=.pointer (some ⟨g,i,none⟩))(c:ev n f y=.int kd z)(m:bh w g T cs)(l:i<cs.size)
 (h:∀w',bh w' g T (cs.setIfInBounds i (.int kd z))->Ch (λb=>b=g) w w'->w'.heap.size=w.heap.size->K f w'):
 R1 P n S k ⟨none,.store t x y,ty,pos,aft,gd⟩ K f w:=
 rP j o e c F m l h
theorem cH(l:ia P t=true){g i:Nat}{T:TypeId}{cs:Array Value}{A:Option Addr}{m c:Nat}(r:k=2\/k=1/\∀w',Ch (λb=>b=g) w w'->S w w')(j:ev n f x=.pointer (some ⟨g,i,none⟩))(e:ev n f y=.slice A m c)(q:bh w g T cs)(o:i<cs.size)
 (h:∀w',bh w' g T (cs.setIfInBounds i (.slice A m c))->Ch (λb=>b=g) w w'->w'.heap.size=w.heap.size->K f w'):
 R1 P n S k ⟨none,.store t x y,ty,pos,aft,gd⟩ K f w:=
 rP l r j e F q o h
theorem mj(l:dL P t 2=true){g i:Nat}{T:TypeId}{cs:Array Value}{v0 v1:Value}(j:v0.oneCell'=true)(h:v1.oneCell'=true)(c:bh w g T cs)(m:i+1<cs.size):
 (Instr.storeAt t (.pointer (some ⟨g,i,none⟩)) (.agg #[v0,v1])).run P w=.ok () ((w.setCell ⟨g,i,none⟩ v0).setCell ⟨g,i+1,none⟩ v1):=by
 have o:w.cell? ⟨g,i,none⟩=some cs[i]:=by rw[c.cell];simp
 have od:=c.set i v0;have e:(w.setCell ⟨g,i,none⟩ v0).cell? ⟨g,i+1,none⟩=some cs[i+1]:=by rw[od.cell];simp[m]
 simp[Instr.storeAt,Instr.sureAddr,storeVar,fP l,Value.cells,storeCells,ft j o (c.frozen i),add_zero,add_lit,ft h e (od.frozen (i+1))]
theorem aV(q:dL P t 2=true){g i:Nat}{T:TypeId}{cs:Array Value}{v0 v1:Value}(s:k=2\/k=1/\∀w',Ch (λb=>b=g) w w'->S w w')(o:ev n f x=.pointer (some ⟨g,i,none⟩))(m:ev n f y=.agg #[v0,v1])(l:v0.oneCell'=true)(j:v1.oneCell'=true)(e:bh w g T cs)(r:i+1<cs.size)
 (h:∀w',bh w' g T ((cs.setIfInBounds i v0).setIfInBounds (i+1) v1)->Ch (λb=>b=g) w w'->w'.heap.size=w.heap.size->K f w'):
 R1 P n S k ⟨none,.store t x y,ty,pos,aft,gd⟩ K f w:=by
 have c:Ch (λb=>b=g) w ((w.setCell ⟨g,i,none⟩ v0).setCell ⟨g,i+1,none⟩ v1):=(eh w ⟨g,i,none⟩ v0).trans (eh _ ⟨g,i+1,none⟩ v1);refine nM (w':=(w.setCell ⟨g,i,none⟩ v0).setCell ⟨g,i+1,none⟩ v1) (s.imp id λh=>⟨h.1,h.2 _ c⟩) rfl ?_ (h _ ((e.set i v0).set (i+1) v1) c (by rw[size_setCell,size_setCell]));simp only[execOp,o,m,Sem.run_bind,mj q l j e r,Result.andThen_ok,Sem.run_pure]
theorem mM{o:Oper}{T:TypeId}{cs:Array Value}{v:Value}(e:k=2\/k=1/\∀w',Ext w w'->S w w')(c:(execOp (ev n f) o).run P w=.ok (.value v) (w.alloc (.cells cs T)))
 (h:∀w',bh w' w.heap.size T cs->Ext w w'->w'.heap.size=w.heap.size+1->K (fh f o.dst v) w'):R1 P n S k o K f w:=
 kJ (e.imp id λh=>⟨h.1,h.2 _ (u_ w _)⟩) c (h _ (bh.new w T cs) (u_ w _) aA)
theorem aR{z:Value}(e:k=2\/k=1/\∀w',Ext w w'->S w w')(c:im P t z)
 (h:∀w',bh w' w.heap.size t z.cells->Ext w w'->w'.heap.size=w.heap.size+1->K (bS f d (.pointer (some ⟨w.heap.size,0,none⟩))) w'):R1 P n S k ⟨some d,.alloc t,ty,pos,aft,gd⟩ K f w:=by
 refine mM (T:=t) (cs:=z.cells) (v:=.pointer (some ⟨w.heap.size,0,none⟩)) e ?_ h;unfold im at c;cases hi:P.info? t with
 |none=>rw[hi]at c;simp at c
 |some i=>
  rw[hi]at c;simp at c;simp[execOp,Instr.alloc,zeroValue,typeInfo,hi,c,newVar,newRow]
theorem aZ{v:Value}(e:k=2\/k=1/\∀w',Ext w w'->S w w')(c:ev n f x=v)
 (h:∀w',bh w' w.heap.size t v.cells->Ext w w'->w'.heap.size=w.heap.size+1->K (bS f d (.pointer (some ⟨w.heap.size,0,none⟩))) w'):R1 P n S k ⟨some d,.box t x,ty,pos,aft,gd⟩ K f w:=by
 refine mM (T:=t) (cs:=v.cells) (v:=.pointer (some ⟨w.heap.size,0,none⟩)) e ?_ h;simp[execOp,Instr.box,c,newVar,newRow]
theorem cF{e o l m c:Nat}{z:Value}(q:cP P t e o l z)(B:k=2\/k=1/\∀w',Ext w w'->S w w')(s:ev n f x=.int .i64 (m:Int))(r:ev n f y=.int .i64 (c:Int))(C:m<=c)(A:l*c<=281474976710656)(l:c<=9223372036854775807)
 (h:∀w',bh w' w.heap.size e (madeCells z.cells (c*o))->Ext w w'->w'.heap.size=w.heap.size+1->K (bS f d (.slice (some ⟨w.heap.size,0,none⟩) m c)) w'):R1 P n S k ⟨some d,.makeSlice t x y,ty,pos,aft,gd⟩ K f w:=by
 refine mM (T:=e) (cs:=madeCells z.cells (c*o)) (v:=.slice (some ⟨w.heap.size,0,none⟩) m c) B ?_ h;obtain⟨u,j⟩:=q;cases hi:P.info? e with
 |none=>rw[hi]at j;simp at j
 |some i=>
  rw[hi]at j;simp at j;obtain⟨q,l,o⟩:=j;have j:=run_make (P:=P) w t e i z u hi q .i64 .i64 (m:Int) (c:Int) aq aq (by rw[o,<-Int.natCast_mul];exact Int.ofNat_le.2 A) aq;simp only[Int.toNat_natCast,l]at j;simp only[execOp,s,r,Sem.run_bind,j,Result.andThen_ok,Sem.run_pure]
theorem yg(xs:Array Value)(h:xs.size=2){v0 v1:Value}:(xs.setIfInBounds 0 v0).setIfInBounds 1 v1=#[v0,v1]:=by
 obtain⟨l⟩:=xs
 match l,h with
 |[_,_],_=>rfl
theorem rZ{e j:Nat}{z v0 v1:Value}{m l:Operand}(u:cP P t e 1 j z)(r:z.oneCell'=true)(j:k=2\/k=1/\∀w',Ext w w'->S w w')(A:ev n f m=v0)(h1:ev n f l=v1)(q:v0.oneCell'=true)(o:v1.oneCell'=true)
 (h:∀w',bh w' w.heap.size e #[v0,v1]->Ext w w'->w'.heap.size=w.heap.size+1->K (bS f d (.slice (some ⟨w.heap.size,0,none⟩) 2 2)) w'):R1 P n S k ⟨some d,.buildSlice t 2 #[(0,m),(1,l)],ty,pos,aft,gd⟩ K f w:=by
 refine mM (T:=e) (cs:=#[v0,v1]) (v:=.slice (some ⟨w.heap.size,0,none⟩) 2 2) j ?_ h;obtain⟨s,c⟩:=u;cases hi:P.info? e with
 |none=>rw[hi]at c;simp at c
 |some i=>
  rw[hi]at c;simp at c;obtain⟨l,j,m⟩:=c;simp[execOp,Instr.buildSlice,run_underlying s,sizeOf,typeInfo,hi,j,zeroValue,l,A,h1,Instr.fill,dB q,dB o,dB r,newRow,Array.range];rw[yg _ (by simp[j])]
theorem iC{e j i m c:Nat}{z:Value}{A:Option Addr}(l:cP P t e j i z)(i:ev n f x=.slice A m c)(h:K (bS f d (.int .i64 (m:Int))) w):
 R1 P n S k ⟨some d,.call { callee:=.builtin .len,args:=#[x],argTypes:=#[t] },ty,pos,aft,gd⟩ K f w:=by
 refine cD (v:=.int .i64 (m:Int)) (λw=>?_) h;simp[execOp,resolve,invoke,builtin,Builtin.len_,run_underlying l.Ge,i,goInt]
theorem jZ{e j h:Nat}{z:Value}(c:(P.info? e).map (λi=>(i.zero,i.size,i.bytes))=some (some z,j,h))(w:World):(sizeOf e).run P w=.ok j w:=by
 cases hi:P.info? e with
 |none=>rw[hi]at c;simp at c
 |some i=>
  rw[hi]at c;simp at c;simp[sizeOf,typeInfo,hi,c.2.1]
theorem dY{e l i m c j:Nat}{z:Value}{o:Addr}(q:cP P t e l i z)(r:ev n f x=.slice (some o) m c)(i:ev n f y=.int .i64 (j:Int))(s:j<m)
 (h:K (bS f d (.pointer (some (o.add (j*l))))) w):R1 P n S k ⟨some d,.indexAddr t x y,ty,pos,aft,gd⟩ K f w:=by
 refine cD (v:=.pointer (some (o.add (j*l)))) (λw=>?_) h;have l:(0:Int)<=(j:Int)/\(j:Int)<(m:Int):=aq;simp only[execOp,r,i,Instr.indexAt,asIntOf,Sem.run_bind,Sem.run_pure,Result.andThen_ok,run_underlying q.Ge,l,and_self,if_true,jZ q.info,Int.toNat_natCast]
theorem dP{e l i m c j G o:Nat}{z:Value}(s:cP P t e l i z)(q:ev n f x=.slice (some ⟨G,o,none⟩) m c)(i:ev n f y=.int .i64 (j:Int))(r:j<m)
 (h:K (bS f d (.pointer (some ⟨G,o+j*l,none⟩))) w):R1 P n S k ⟨some d,.indexAddr t x y,ty,pos,aft,gd⟩ K f w:=
 dY s q i r (by rw[add_lit];exact h)
theorem l8{e l i m c:Nat}{z:Value}{o:Addr}(r:cP P t e l i z)(i:ev n f x=.slice (some o) m c)(q:0<m)
 (h:K (bS f d (.pointer (some (o.add (0*l))))) w):R1 P n S k ⟨some d,.indexAddr t x (.const (.int .i64 0)),ty,pos,aft,gd⟩ K f w:=
 dY r i (j:=0) F q h
theorem kK{e l i m c G o:Nat}{z:Value}(r:cP P t e l i z)(i:ev n f x=.slice (some ⟨G,o,none⟩) m c)(q:0<m)
 (h:K (bS f d (.pointer (some ⟨G,o+0*l,none⟩))) w):R1 P n S k ⟨some d,.indexAddr t x (.const (.int .i64 0)),ty,pos,aft,gd⟩ K f w:=
 dP r i (j:=0) F q h
theorem xF{e j i m c l r:Nat}{z:Value}{A:Option Addr}{o q:Operand}(s:cP P t e j i z)(B:ev n f x=.slice A m c)(D:ev n f o=.int .i64 (l:Int))(C:ev n f q=.int .i64 (r:Int))(u:l<=r)(i:r<=c)
 (h:K (bS f d (.slice (if c=l then A else A.map (·.add (l*j))) (r-l) (c-l))) w):R1 P n S k ⟨some d,.slice t x (some o) (some q) none,ty,pos,aft,gd⟩ K f w:=by
 refine cD (v:=.slice (if c=l then A else A.map (·.add (l*j))) (r-l) (c-l)) (λw=>?_) h;have j:(0:Int)<=(r:Int)/\(r:Int)<=(c:Int):=aq;have j:(0:Int)<=(l:Int)/\(l:Int)<=(r:Int):=aq;simp[execOp,B,D,C,Instr.sliceAt,run_underlying s.Ge,Instr.slice,Instr.sliceBounds,Instr.sliceBound,asIntOf,jZ s.info,u,i]
theorem oJ{e s i m c l r G o:Nat}{z:Value}{j q:Operand}(C:cP P t e s i z)(v:ev n f x=.slice (some ⟨G,o,none⟩) m c)(B:ev n f j=.int .i64 (l:Int))(A:ev n f q=.int .i64 (r:Int))(u:l<=r)(i:r<=c)(D:l<c)
 (h:K (bS f d (.slice (some ⟨G,o+l*s,none⟩) (r-l) (c-l))) w):R1 P n S k ⟨some d,.slice t x (some j) (some q) none,ty,pos,aft,gd⟩ K f w:=
 xF C v B A u i (by rw[aa aq,Option.map_some,add_lit];exact h)
theorem rQ{e l i m c r:Nat}{z:Value}{A:Option Addr}{j:Operand}(o:cP P t e l i z)(s:ev n f x=.slice A m c)(u:ev n f j=.int .i64 (r:Int))(q:r<=c)
 (h:K (bS f d (.slice A r c)) w):R1 P n S k ⟨some d,.slice t x none (some j) none,ty,pos,aft,gd⟩ K f w:=by
 refine cD (v:=.slice A r c) (λw=>?_) h;have B:(if c=0 then A else A.map (·.add (0*l)))=A:=by
  split
  ·rfl
  ·cases A<;>simp[add_zero]
 simp[execOp,s,u,Instr.sliceAt,run_underlying o.Ge,Instr.slice,Instr.sliceBounds,Instr.sliceBound,asIntOf,jZ o.info,q];simpa using B
theorem Af{e j i m c l:Nat}{z:Value}{A:Option Addr}{o:Operand}(q:cP P t e j i z)(r:ev n f x=.slice A m c)(s:ev n f o=.int .i64 (l:Int))(i:l<=m)
 (h:K (bS f d (.slice (if c=l then A else A.map (·.add (l*j))) (m-l) (c-l))) w):R1 P n S k ⟨some d,.slice t x (some o) none none,ty,pos,aft,gd⟩ K f w:=by
 refine cD (v:=.slice (if c=l then A else A.map (·.add (l*j))) (m-l) (c-l)) (λw=>?_) h;simp[execOp,r,s,Instr.sliceAt,run_underlying q.Ge,Instr.slice,Instr.sliceBounds,Instr.sliceBound,asIntOf,jZ q.info,i]
theorem xU{c:Array Value}{i:Nat}{v:Value}(e:ev n f x=.tuple c)(j:c[i]?=some v)(h:K (bS f d v) w):R1 P n S k ⟨some d,.extract x i,ty,pos,aft,gd⟩ K f w:=
 cD (v:=v) (λ_=>by simp[execOp,e,Instr.extract,j]) h
theorem vK{c b:Operand}{i:Nat}(e:ev n f c=.bool true)(l:Nat.blt i n=true)(h:K (mv f d i) w):R1 P n S k ⟨some d,.pick c (.tmp i) b,ty,pos,aft,gd⟩ K f w:=by
 refine cD (v:=ev n f (.tmp i)) (λ_=>by simp[execOp,e,asBool]) ?_;have e:fh f (some d) (ev n f (.tmp i))=mv f d i:=by funext j;simp[ev,l,fh,mv,bS]
 rw[e];exact h
theorem vL{c a:Operand}{i:Nat}(e:ev n f c=.bool false)(l:Nat.blt i n=true)(h:K (mv f d i) w):R1 P n S k ⟨some d,.pick c a (.tmp i),ty,pos,aft,gd⟩ K f w:=by
 refine cD (v:=ev n f (.tmp i)) (λ_=>by simp[execOp,e,asBool]) ?_;have e:fh f (some d) (ev n f (.tmp i))=mv f d i:=by funext j;simp[ev,l,fh,mv,bS]
 rw[e];exact h
theorem rR{c b:Operand}{v:Value}(e:ev n f c=.bool true)(h:K (bS f d v) w):R1 P n S k ⟨some d,.pick c (.const v) b,ty,pos,aft,gd⟩ K f w:=
 cD (v:=v) (λ_=>by simp[execOp,e,asBool,show ev n f (.const v)=v from F]) h
theorem rS{c a:Operand}{v:Value}(e:ev n f c=.bool false)(h:K (bS f d v) w):R1 P n S k ⟨some d,.pick c a (.const v),ty,pos,aft,gd⟩ K f w:=
 cD (v:=v) (λ_=>by simp[execOp,e,asBool,show ev n f (.const v)=v from F]) h
theorem Aj{c b:Operand}{i:Nat}{p:Prop}{e:Decidable p}(l:ev n f c=.bool (@decide p e))(e:p)(j:Nat.blt i n=true)(h:K (mv f d i) w):R1 P n S k ⟨some d,.pick c (.tmp i) b,ty,pos,aft,gd⟩ K f w:=
 vK (by rw[l,decide_eq_true e]) j h
theorem Ak{c a:Operand}{i:Nat}{p:Prop}{e:Decidable p}(l:ev n f c=.bool (@decide p e))(e:¬p)(j:Nat.blt i n=true)(h:K (mv f d i) w):R1 P n S k ⟨some d,.pick c a (.tmp i),ty,pos,aft,gd⟩ K f w:=
 vL (by rw[l,decide_eq_false e]) j h
theorem xH{c b:Operand}{v:Value}{p:Prop}{e:Decidable p}(i:ev n f c=.bool (@decide p e))(e:p)(h:K (bS f d v) w):R1 P n S k ⟨some d,.pick c (.const v) b,ty,pos,aft,gd⟩ K f w:=
 rR (by rw[i,decide_eq_true e]) h
theorem xI{c a:Operand}{v:Value}{p:Prop}{e:Decidable p}(i:ev n f c=.bool (@decide p e))(e:¬p)(h:K (bS f d v) w):R1 P n S k ⟨some d,.pick c a (.const v),ty,pos,aft,gd⟩ K f w:=
 rS (by rw[i,decide_eq_false e]) h
theorem Hm{b:Bool}(c:ev n f x=.bool b)(h:K (bS f d (.bool !b)) w):R1 P n S k ⟨some d,.unOp .not t x,ty,pos,aft,gd⟩ K f w:=
 cD (v:=.bool !b) (λ_=>by simp[execOp,c,Op.unary]) h
theorem C0{a:Int}(c:ev n f x=.int .i64 a)(h1:-9223372036854775808<=0-a)(e:0-a<9223372036854775808)(h:K (bS f d (.int .i64 (0-a))) w):R1 P n S k ⟨some d,.unOp .neg t x,ty,pos,aft,gd⟩ K f w:=
 cD (v:=.int .i64 (0-a)) (λ_=>by simp only[execOp,c,Op.unary,Op.intArith,Sem.run_bind,Sem.run_pure,Result.andThen_ok,wrap_i64 h1 e]) h
theorem qq{a:Nat}(c:ev n f x=.int .u64 (a:Int))(e:a<=18446744073709551616)(h:K (bS f d (.int .u64 (((18446744073709551616-a)%18446744073709551616:Nat):Int))) w):R1 P n S k ⟨some d,.unOp .neg t x,ty,pos,aft,gd⟩ K f w:=by
 refine cD (v:=.int .u64 (((18446744073709551616-a)%18446744073709551616:Nat):Int)) (λ_=>?_) h;have e:IntKind.u64.wrap (0-(a:Int))=(((18446744073709551616-a)%18446744073709551616:Nat):Int):=by rw[wrap_u64];omega
 simp only[execOp,c,Op.unary,Op.intArith,Sem.run_bind,Sem.run_pure,Result.andThen_ok,e]
theorem l9{e:TypeDesc}{i c:IntKind}{a b:Int}(l:lF P t e)(j:lF P t2 (.int c))(e:ev n f x=.int i a)(i:c.wrap a=b)(h:K (bS f d (.int c b)) w):R1 P n S k ⟨some d,.convert t t2 x,ty,pos,aft,gd⟩ K f w:=by
 refine cD (v:=.int c b) (λ_=>?_) h;simp[execOp,e,convert,run_underlying l,run_underlying j,Conv.intToInt,i]
section
variable {a:Nat}
theorem xD(i:lF P t (.int .u32))(e:lF P t2 (.int .u64))(c:ev n f x=.int .u32 (a:Int))(j:a<4294967296)(h:K (bS f d (.int .u64 (a:Int))) w):R1 P n S k ⟨some d,.convert t t2 x,ty,pos,aft,gd⟩ K f w:=
 l9 i e c (jT (Nat.lt_trans j ar)) h
theorem xC(i:lF P t (.int .u64))(e:lF P t2 (.int .u32))(c:ev n f x=.int .u64 (a:Int))(h:K (bS f d (.int .u32 ((a%4294967296:Nat):Int))) w):R1 P n S k ⟨some d,.convert t t2 x,ty,pos,aft,gd⟩ K f w:=
 l9 i e c (y7 _) h
theorem kL(i:lF P t (.int .i64))(e:lF P t2 (.int .u64)){z:Int}(c:ev n f x=.int .i64 z)(h:K (bS f d (.int .u64 ((z%18446744073709551616).toNat:Int))) w):R1 P n S k ⟨some d,.convert t t2 x,ty,pos,aft,gd⟩ K f w:=
 l9 i e c (by rw[wrap_u64,Int.toNat_of_nonneg (Int.emod_nonneg _ ar)]) h
end
theorem Ae{a:Nat}(i:lF P t (.int .u32))(e:lF P t2 (.int .u8))(c:ev n f x=.int .u32 (a:Int))(h:K (bS f d (.int .u8 ((a%256:Nat):Int))) w):R1 P n S k ⟨some d,.convert t t2 x,ty,pos,aft,gd⟩ K f w:=
 l9 i e c (by rw[IntKind.wrap_u8];omega) h
theorem Ad{a:Nat}(i:lF P t (.int .u8))(e:lF P t2 (.int .i64))(c:ev n f x=.int .u8 (a:Int))(j:a<256)(h:K (bS f d (.int .i64 (a:Int))) w):R1 P n S k ⟨some d,.convert t t2 x,ty,pos,aft,gd⟩ K f w:=
 l9 i e c (jU aq) h
theorem vX{s:ByteArray}{b:UInt8}{e:IntKind}{j:Nat}(c:lF P t .string)(l:ev n f x=.string s)(i:ev n f y=.int e (j:Int))(e:s[j]?=some b)(h:K (bS f d (.int .u8 (b.toNat:Int))) w):
 R1 P n S k ⟨some d,.index t x y,ty,pos,aft,gd⟩ K f w:=by
 unfold lF at c;refine cD (v:=.int .u8 (b.toNat:Int)) (λw=>?_) h;simp[execOp,l,i,Instr.index,asIntOf,run_underlying c,e]
theorem Fz{e:Fn}{first c:Array Operand}(h:K (bS f d (.func e (first.map (ev n f)) (c.map (ev n f)))) w):R1 P n S k ⟨some d,.makeFunc e first c,ty,pos,aft,gd⟩ K f w:=
 cD (v:=.func e (first.map (ev n f)) (c.map (ev n f))) (λ_=>rfl) h
def c_(P:Program)(t i c:Nat):Prop:=∀a w,(Instr.fieldAt t (.pointer (some a)) i).run P w=.ok (.pointer (some (a.add c))) w
theorem b6{i c G o:Nat}(j:c_ P t i c)(e:ev n f x=.pointer (some ⟨G,o,none⟩))(h:K (bS f d (.pointer (some ⟨G,o+c,none⟩))) w):R1 P n S k ⟨some d,.fieldAddr t x i,ty,pos,aft,gd⟩ K f w:=by
 refine cD (v:=.pointer (some ⟨G,o+c,none⟩)) (λw=>?_) h;simp only[execOp,e,Sem.run_bind,j _ w,Result.andThen_ok,Sem.run_pure,add_lit]
def tT(P:Program)(t:Nat)(z:Value):Prop:=∀w,(Instr.build t #[]).run P w=.ok z w
def tS(P:Program)(t:Nat):Prop:=∀e c w,e.oneCell'=true->c.oneCell'=true->(Instr.build t #[(0,e),(1,c)]).run P w=.ok (.agg #[e,c]) w
theorem fp{z:Value}(c:tT P t z)(h:K (bS f d z) w):R1 P n S k ⟨some d,.build t #[],ty,pos,aft,gd⟩ K f w:=by
 refine cD (v:=z) (λw=>?_) h;have:(#[]:Array (Nat×Operand)).map (λ(i,x)=>(i,ev n f x))=#[]:=aA;simp only[execOp,this,Sem.run_bind,c w,Result.andThen_ok,Sem.run_pure]
theorem pd{v0 v1:Value}{e c:Operand}(m:tS P t)(o:ev n f e=v0)(h1:ev n f c=v1)(l:v0.oneCell'=true)(j:v1.oneCell'=true)(h:K (bS f d (.agg #[v0,v1])) w):R1 P n S k ⟨some d,.build t #[(0,e),(1,c)],ty,pos,aft,gd⟩ K f w:=by
 refine cD (v:=.agg #[v0,v1]) (λw=>?_) h;have:(#[(0,e),(1,c)]:Array (Nat×Operand)).map (λ(i,x)=>(i,ev n f x))=#[(0,v0),(1,v1)]:=by simp[o,h1]
 simp only[execOp,this,Sem.run_bind,m v0 v1 w l j,Result.andThen_ok,Sem.run_pure]
def qE(P:Program)(t:Nat):Prop:=∀a b w,(binOp .eql t (.bool a) (.bool b)).run P w=.ok (.bool (a == b)) w/\(binOp .neq t (.bool a) (.bool b)).run P w=.ok (.bool (a != b)) w
theorem vY{a b:Bool}(i:qE P t)(e:ev n f x=.bool a)(c:ev n f y=.bool b)(h:K (bS f d (.bool (a == b))) w):R1 P n S k ⟨some d,.binOp .eql t x y t2,ty,pos,aft,gd⟩ K f w:=
 cw e c (λ_=>by simp[eqGuard,go_sem]) (λw=>(i a b w).1) h
theorem vO{a b:Bool}(i:qE P t)(e:ev n f x=.bool a)(c:ev n f y=.bool b)(h:K (bS f d (.bool (a != b))) w):R1 P n S k ⟨some d,.binOp .neq t x y t2,ty,pos,aft,gd⟩ K f w:=
 cw e c (λ_=>by simp[eqGuard,go_sem]) (λw=>(i a b w).2) h
theorem oA(h:P.underlying t=some .bool)(c:Nat)(a b:Bool)(w:World):(Op.equalIn (c+1) t (.bool a) (.bool b)).run P w=.ok (a == b) w:=by
 simp[Op.equalIn,run_underlying h]
theorem z8(h:lF P t .bool):qE P t:=by
 unfold lF at h;intro a b w;constructor
 ·simp only[binOp];simp[Op.equal,Op.maxDepth,oA h 9999]
 ·simp only[binOp];simp[Op.equal,Op.maxDepth,oA h 9999];cases a<;>cases b<;>rfl
def Dj(P:Program)(g:FuncId):Prop:=∀c w,(callFunc g c).run P w=.ok (.enter g c) w
def xB(c:Value->World->Prop):Ending->World->Prop:=λe w'=>∃v,e=.returned v/\c v w'
structure aT(P:Program)(g:FuncId)(args:Array Value)(w:World)(post:Value->World->Prop):Prop where
 enters:Dj P g
 calls:Calls P g args w (xB post)
theorem aT.mono{g:FuncId}{args:Array Value}{e c:Value->World->Prop}(h:aT P g args w e)(i:∀v w',e v w'->c v w'):aT P g args w c:=
 ⟨h.enters,h.calls.mono λ_ w' ⟨v,e,c⟩=>⟨v,e,i v w' c⟩⟩
theorem zM {g : FuncId} {e : Func} {c : Code} (j : P.funcs[g]? = some e) (l : e.body = some c) (i : (e.name == "runtime.NumGoroutine") = false) : Dj P g := by
 intro h w;have h : ¬ e.name = "runtime.NumGoroutine" := by simpa using i
 simp[callFunc,program,Sem.run,j,l,h]
theorem o_{g:FuncId}{args:Array Operand}{e:Array TypeId}{i:Array Value}{c:Value->World->Prop}(m:k=2\/k=1)(l:args.map (ev n f)=i)(j:aT P g i w c)
 (h:∀v w',c v w'->(k=1->S w w')/\K (bS f d v) w'):R1 P n S k ⟨some d,.call { callee:=.value (.func g),args:=args,argTypes:=e },ty,pos,aft,gd⟩ K f w:=by
 refine v7 m (g:=g) (args:=i) ?_ j.calls λe w' ⟨v,e,c⟩=>⟨v,e,h v w' c⟩;simp[execOp,resolve,ev,Deferred.ofValue,invoke,l,j.enters i w]
theorem aJ{g:FuncId}{l:List Operand}{e:Array TypeId}{c:Value->World->Prop}(i:aT P g (l.map (ev n f)).toArray w c)
 (h:∀v w',c v w'->K (bS f d v) w'):R1 P n S 2 ⟨some d,.call { callee:=.value (.func g),args:=l.toArray,argTypes:=e },ty,pos,aft,gd⟩ K f w:=
 o_ (.inl F) aA i λv w' c=>⟨(λh=>absurd h ar),h v w' c⟩
theorem aM{g:FuncId}{l:List Operand}{e:Array TypeId}{c:Value->World->Prop}(i:aT P g (l.map (ev n f)).toArray w c)
 (h:∀v w',c v w'->Ext w w'/\K (bS f d v) w'):R1 P n Ext 1 ⟨some d,.call { callee:=.value (.func g),args:=l.toArray,argTypes:=e },ty,pos,aft,gd⟩ K f w:=
 o_ (.inr F) aA i λv w' c=>⟨λ_=>(h v w' c).1,(h v w' c).2⟩
theorem Dc{g:FuncId}{x:Operand}{args:Array Operand}{j:Array TypeId}{first c i:Array Value}{e:Value->World->Prop}(o:k=2\/k=1)(l:ev n f x=.func (.func g) first c)(m:first++args.map (ev n f)++c=i)(c:aT P g i w e)
 (h:∀v w',e v w'->(k=1->S w w')/\K (bS f d v) w'):R1 P n S k ⟨some d,.call { callee:=.value x,args:=args,argTypes:=j },ty,pos,aft,gd⟩ K f w:=by
 refine v7 o (g:=g) (args:=i) ?_ c.calls λe w' ⟨v,j,e⟩=>⟨v,j,h v w' e⟩;simp[execOp,resolve,l,Deferred.ofValue,invoke,m,c.enters i w]
theorem G_{Q:Exit->Fr->World->Prop}{e:Nat}{l:List Oper}{c:Code}(h:Rl P n l.toArray (W P n c Q) l f w):W P n (.seq (.region e l.toArray false) c) Q f w:=
 aP (vz (by rw[ji];exact h))
theorem Ie{Q:Exit->Fr->World->Prop}{c:Nat}{l:List Oper}(h:Rl P n l.toArray (Q .normal) l f w):W P n (.region c l.toArray false) Q f w:=vz h
theorem ov:∀a b c:World,Ext a b->Ext b c->Ext a c:=λ_ _ _ h k=>h.trans k
theorem b7{Q:Exit->Fr->World->Prop}{l:Nat}{e:Array Oper}{c:Code}(i:List (Nat×Nat))(m:P.follows .mixedOrders=true)
 (j:(i.length == e.size&&Region.noSelect e&&iu e (qF i) i (Array.replicate e.size false))=true)
 (h:∀w',Ext w w'->w'.heap=w.heap->Ro P n e Ext (W P n c Q) i f w'):W P n (.seq (.region l e true) c) Q f w:=
 aP (qg Ext ov i m j (by rw[ji];exact h _ (kC w) F))
theorem c8{Q:Exit->Fr->World->Prop}{j:Nat}{c:Array Oper}(e:List (Nat×Nat))(l:P.follows .mixedOrders=true)
 (i:(e.length == c.size&&Region.noSelect c&&iu c (qF e) e (Array.replicate c.size false))=true)
 (h:∀w',Ext w w'->w'.heap=w.heap->Ro P n c Ext (Q .normal) e f w'):W P n (.region j c true) Q f w:=
 qg Ext ov e l i (h _ (kC w) F)
theorem cI{e:Func}{t:Tmp}{c:Value->World->Prop}{v:Value}(j:e.results=#[.tmp t])(i:ev n f (.tmp t)=v)(h:c v w):bodyPost P e (xB c) .ret (act n f) w:=by
 refine bodyPost_ret (results_tmp j _ _ _) F ⟨v,?_,h⟩;have:=congrFun (b9 n f) (.tmp t);simp only[Act.eval]at this;rw[this,i]
theorem dO{e:Func}{t:Tmp}{T G:Nat}{c:Value->World->Prop}{x y:Value}(l:e.results=#[.cell t T])(m:dL P T 2=true)(j:ev n f (.tmp t)=.pointer (some ⟨G,0,none⟩))(i:bh w G T #[x,y])(h:c (.agg #[x,y]) w):bodyPost P e (xB c) .ret (act n f) w:=by
 refine bodyPost_ret (v:=.agg #[x,y]) ?_ F ⟨_,F,h⟩;have e:=congrFun (b9 n f) (.tmp t);simp only[Act.eval]at e;have q:w.cell? ⟨G,0,none⟩=some x:=by rw[i.cell];rfl
 have o:w.cell? ((⟨G,0,none⟩ : Addr).add 1)=some y:=by rw[add_lit,i.cell];rfl
 have c:=cW (P:=P) m q o;simp only[Instr.loadAt,Instr.sureAddr,Sem.run_bind,Sem.run_pure,Result.andThen_ok]at c;have i:(act n f).tmps[t]?.getD undef=.pointer (some ⟨G,0,none⟩):=by rw[<-j,<-e];simp
 simp[results,l,i,asAddr,c]
theorem n6{e:Func}{c:Value->World->Prop}(i:e.results=#[])(h:c (.tuple #[]) w):bodyPost P e (xB c) .normal (act n f) w:=
 bodyPost_end (results_none i _ _ _) F ⟨_,F,h⟩
theorem fK{e:Func}{t u:Tmp}{c:Value->World->Prop}{v v':Value}(l:e.results=#[.tmp t,.tmp u])(j:ev n f (.tmp t)=v)(i:ev n f (.tmp u)=v')(h:c (.tuple #[v,v']) w):bodyPost P e (xB c) .ret (act n f) w:=by
 refine bodyPost_ret (results_tmp2 l _ _ _) F ⟨_,?_,h⟩;have e:=congrFun (b9 n f) (.tmp t);have c:=congrFun (b9 n f) (.tmp u);simp only[Act.eval]at e c;rw[e,c,j,i]
theorem bF {g : FuncId} {i : Func} {c : Code} {args : Array Value} {j : Value → World → Prop} (l : P.funcs[g]? = some i) (m : i.body = some c) (q : i.ntmps = n) (o : (i.name == "runtime.NumGoroutine") = false) (r : args.size ≤ n)
 (h:W P n c (λe f w=>bodyPost P i (xB j) e (act n f) w) (λi=>args.getD i undef) w):aT P g args w j:=
 ⟨zM l m o,EZ l m q r h⟩
theorem nO{o:Oper}(h:R1 P n S k o K f w):R1 P n S k o K f w:=h
theorem C6{c:BinOp}{e:Option Nat}(h:R1 P n S k ⟨e,.binOp c t x y t2,ty,pos,aft,gd⟩ K f w):R1 P n S k ⟨e,.binOp c t x y t2,ty,pos,aft,gd⟩ K f w:=h
theorem An{c:Option Nat}(h:R1 P n S k ⟨c,.load t x,ty,pos,aft,gd⟩ K f w):R1 P n S k ⟨c,.load t x,ty,pos,aft,gd⟩ K f w:=h
theorem xN{c:Option Nat}(h:R1 P n S k ⟨c,.indexAddr t x y,ty,pos,aft,gd⟩ K f w):R1 P n S k ⟨c,.indexAddr t x y,ty,pos,aft,gd⟩ K f w:=h
theorem Fx{c:Option Nat}{i:Nat}(h:R1 P n S k ⟨c,.fieldAddr t x i,ty,pos,aft,gd⟩ K f w):R1 P n S k ⟨c,.fieldAddr t x i,ty,pos,aft,gd⟩ K f w:=h
theorem Ao{c:Option Nat}(h:R1 P n S k ⟨c,.convert t t2 x,ty,pos,aft,gd⟩ K f w):R1 P n S k ⟨c,.convert t t2 x,ty,pos,aft,gd⟩ K f w:=h
theorem As{e:Option Nat}{c:Call}(h:R1 P n S k ⟨e,.call c,ty,pos,aft,gd⟩ K f w):R1 P n S k ⟨e,.call c,ty,pos,aft,gd⟩ K f w:=h
theorem IU{c:Array Oper}{l:List Oper}(h:Rl P n c K l f w):Rl P n c K l f w:=h
theorem IT{c:Array Oper}{l:List (Nat×Nat)}(h:Ro P n c S K l f w):Ro P n c S K l f w:=h
theorem JE{c:Code}{Q:Exit->Fr->World->Prop}(h:W P n c Q f w):W P n c Q f w:=h
end
attribute [irreducible] ia dL lF im c_ tT tS qE
end
end Go.cU
namespace Go.Proofs.Qq
section
open Go Go.cU Go.ChangeShapes Go.WideShapes Go.ChangeAt Go.RowKit
theorem IP:ownKnob Tryz.prog.godebug=none:=by kernel_rfl
theorem HU:laidOutB Tryz.prog=true:=by kernel_rfl
theorem s9{w w':World}(h:Ext w w'):Below w.heap.size w w':=⟨h.os,h.tape,h.output,h.size,λ_ a=>h.qd a⟩
section
variable {H:Type}{enc:TypeId×Value->H}{P:Program}
theorem me(k:laidOutB P=true){W W':World}{i:Nat->Bool}:∀{c:List TypeId} {g:List Value} {l:List (DataW H)} {d:List MemPlace},(c.all λt=>P.readableRec t&&decide (t<P.types.size))=true->
 DataW.TrodAll enc P W 0 (λ_=>true) true c g l d->(∀p∈d,W.sameAt W' p)->(∀p∈d,i p.block=true)->DataW.TrodAll enc P W' 0 i true c g l d
 |[],_,_,_,_,h,_,_=>by
  obtain⟨rfl,rfl,rfl⟩:=trodAll_nil h;exact trodAll_mk0
 |t::c,_,_,_,e,h,j,f=>by
  obtain⟨v,c,d,c,a,b,rfl,rfl,rfl,d,c⟩:=trodAll_cons h;simp only[List.all_cons,Bool.and_eq_true,decide_eq_true_eq]at e;refine⟨a,b,WideElems.Trod_stays k e.1.1 e.1.2 d (λp a=>j p (by simp[a])) (λp a=>f p (by simp[a])),?_,F⟩;exact me k (by simpa using e.2) c (λp a=>j p (by simp[a])) (λp a=>f p (by simp[a]))
theorem BD{g:Func}{s:ChangeSpec}{W W':World}{args:Array Value}{j i:List (DataW H)}{c:List MemPlace}{b:TypeId}(A:laidOutB P=true)
 (y:(g.params.toList.all λt=>P.readableRec t&&decide (t<P.types.size))=true) (n:s.vars=[])
 (d:DataW.Whole enc P g.params.toList s.vars false W args.toList j i c) (m:s.fn H (j++i)={ results:=[.lit (.bool true)],args:=j })
 (o:g.resultTypes=#[b]) (r:P.underlying b=some .bool) (u:Ext W W'):s.post enc P g false true false false W args (.bool true) W':=by
 have h:=d;obtain⟨p,q,B,f,e,v,z⟩:=d;rw[n]at f;obtain⟨rfl,rfl⟩:=trodVars_none f;have l:=s9 u;have k:∀x∈p,x.block<W.heap.size:=λx d=>by
  have:=h.lt x (by rw[e];simp[d]);simpa using this
 have i:∀f:Nat->Bool,(∀x∈c,f x.block=true)->DataW.TrodAll enc P W' 0 f true g.params.toList args.toList j p:=λf b=>
  me A y B (λx d=>l.same (k x d)) (λx d=>b x (by rw[e];simp[d]))
 have k:∀(b:Nat) (f:Nat->Bool) (q:Bool),DataW.TrodAll enc P W' b f q g.resultTypes.toList ((Value.bool true).resultList g.resultTypes.size) [.lit (.bool true)] []:=λb f q=>by
  rw[o];exact trodAll_mk1 (shut_bool r true)
 have g:∀f:Nat->Bool,DataW.TrodVars enc P W' f s.vars [] []:=λf=>by rw[n];rfl
 have f:∀x∈c,(λb=>decide (b<W.heap.size)) x.block=true:=λx d=>by simpa using h.lt x d
 refine⟨j,[],c,[],p,[],h,?_,?_,?_,World.keptBut_mono (λx d=>⟨d,?_⟩) (l.frame _),λ_=>?_⟩
 ·rw[m];exact k _ _ _
 ·rw[m];exact i _ f
 ·rw[m];exact g _
 ·rw[e,List.mem_append]at d;exact Or.inr d
 ·refine⟨ok_one o F (okWide_bool_mk r true),_,_,([]++p)++[],⟨[]++p,[],trodAll_append (i _ λ_ _=>rfl) (k _ _ _),g _,rfl,?_,?_⟩,?_⟩
  ·intro b f i;have g:MemPlace.cell b f∈c:=by rw[e];simpa using i
   rw[World.frozen?_of_block (w:=W) (a:=⟨b,f,none⟩) (u.qd (show b<W.heap.size from h.lt _ g))];exact v b f g
  ·intro b;have:=z b;rw[e]at this;simpa using this
  ·intro x d _;rw[e];simpa using d
