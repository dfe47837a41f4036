import Derived.Test.YtmfndnlifgphjaaGreatDoorQzb
import Derived.Laws.MakeOwn
import Derived.Laws.AppendOwn
import Derived.Laws.OwnMore
import Derived.Test.YtmfndnlifgphjaaGreatDoorRows
import Derived.ProofKit
import Derived.SizedLaws
set_option maxHeartbeats 64000000
open Go.Proofs.YtmfndnlifgphjaaGreatDoor
namespace Go.cW
section
open Go Go.RowKit
structure Ch(M:Nat->Prop)(w w':World):Prop where
 os:w'.os=w.os
 tape:w'.tape=w.tape
 output:w'.output=w.output
 size:w.heap.size<=w'.heap.size
 block:∀b,b<w.heap.size->¬M b->w'.heap[b]?=w.heap[b]?
def Ext(w w':World):Prop:=Ch (λ_=>False) w w'
section
variable {M M':Nat->Prop}{w w' w'':World}{g b:Nat}{t:TypeId}{cs:Array Value}{p:Addr}
theorem Ch.refl(M:Nat->Prop)(w:World):Ch M w w:=⟨F,F,F,Nat.le_refl _,λ_ _ _=>rfl⟩
theorem Ch.trans(h:Ch M w w')(k:Ch M w' w''):Ch M w w'':=
 ⟨k.os.trans h.os,k.tape.trans h.tape,k.output.trans h.output,Nat.le_trans h.size k.size,λb e c=>(k.block b (Nat.lt_of_lt_of_le e h.size) c).trans (h.block b e c)⟩
theorem Ch.mono(h:Ch M w w')(j:∀b,b<w.heap.size->M b->M' b):Ch M' w w':=⟨h.os,h.tape,h.output,h.size,λb c i=>h.block b c λe=>i (j b c e)⟩
theorem Ext.refl(w:World):Ext w w:=Ch.refl _ w
theorem Ext.trans(h:Ext w w')(k:Ext w' w''):Ext w w'':=Ch.trans h k
theorem Ext.ch(h:Ext w w'):Ch M w w':=Ch.mono h λ_ _ h=>h.elim
theorem Ext.size(h:Ext w w'):w.heap.size<=w'.heap.size:=Ch.size h
theorem Ext.mb(h:Ext w w')(c:b<w.heap.size):w'.heap[b]?=w.heap[b]?:=Ch.block h b c id
theorem Ch.aK(c:Ext w w')(h:Ch M w' w'')(i:∀b,M b->w.heap.size<=b):Ext w w'':=
 ⟨h.os.trans c.os,h.tape.trans c.tape,h.output.trans c.output,Nat.le_trans c.size h.size,
  λb e _=>(h.block b (Nat.lt_of_lt_of_le e c.size) λh=>absurd (i b h) aq).trans (c.mb e)⟩
def bg(w:World)(g:Nat)(t:TypeId)(cs:Array Value):Prop:=w.heap[g]?=some (.cells cs t (0,0))
theorem bg.lt(h:bg w g t cs):g<w.heap.size:=by
 rcases Nat.lt_or_ge g w.heap.size with c|e
 ·exact c
 ·unfold bg at h;rw[Array.getElem?_eq_none e]at h;cases h
theorem bg.cell(h:bg w g t cs)(i:Nat):w.cell? ⟨g,i,none⟩=cs[i]?:=by unfold bg at h;simp[World.cell?,h]
theorem bg.frozen(h:bg w g t cs)(i:Nat):w.frozen? ⟨g,i,none⟩=false:=by unfold bg at h;simp[World.frozen?,h]
theorem bg.ch(h:bg w g t cs)(e:Ch M w w')(c:¬M g):bg w' g t cs:=(e.block g h.lt c).trans h
theorem bg.Y(h:bg w g t cs)(c:Ext w w'):bg w' g t cs:=bg.ch h c id
theorem jz(e:Ch M w w')(h:p.block<w.heap.size)(c:¬M p.block):w'.cell? p=w.cell? p:=World.cell?_of_block (w:=w) (e.block p.block h c)
theorem aP{v:Value}(c:Ext w w')(h:w.cell? p=some v):w'.cell? p=some v:=
 (jz c (World.block_lt_of_cell? w p h) id).trans h
theorem nR(w:World)(o:Obj):Ext w (w.alloc o):=⟨F,F,F,by simp,λb c _=>Below.heap_alloc w o b c⟩
theorem mI(w:World):Ext w { w with drawn:=w.drawn+1 }:=⟨F,F,F,Nat.le_refl _,λ_ _ _=>rfl⟩
theorem fF(w:World)(p:Addr)(v:Value):Ch (λb=>b=p.block) w (w.setCell p v):=
 ⟨F,F,F,by simp[World.setCell],λb _ c=>Below.heap_setCell w p v b c⟩
theorem size_setCell(w:World)(p:Addr)(v:Value):(w.setCell p v).heap.size=w.heap.size:=by simp[World.setCell]
theorem bg.new(w:World)(t:TypeId)(cs:Array Value):bg (w.alloc (.cells cs t)) w.heap.size t cs:=heap_alloc_new w _
theorem bg.set(h:bg w g t cs)(i:Nat)(u:Value):bg (w.setCell ⟨g,i,none⟩ u) g t (cs.setIfInBounds i u):=by
 unfold bg at h⊢;simp[World.setCell,Array.getElem?_modify,h]
theorem add_lit(g i j:Nat):(⟨g,i,none⟩ : Addr).add j=⟨g,i+j,none⟩:=by unfold Addr.add;split<;>simp_all
theorem add_add(a:Addr)(i j:Nat):(a.add i).add j=a.add (i+j):=by
 unfold Addr.add;by_cases e:i=0<;>by_cases c:j=0<;>simp[e,c,Nat.add_assoc]
theorem block_add(a:Addr)(n:Nat):(a.add n).block=a.block:=by unfold Addr.add;split<;>rfl
def gz(P:Program)(t:TypeId):Bool:=match P.underlying t with|some (.struct _)|some (.array _ _)|none=>false|some _=>(P.info? t).any (·.size == 1)
def eP(P:Program)(t:TypeId)(m:Nat):Bool:=match P.underlying t with|some (.struct _)|some (.array _ _)=>(P.info? t).any (·.size == m)|_=>false
def jV(P:Program)(t:TypeId)(d:TypeDesc):Prop:=P.underlying t=some d
structure dh(P:Program)(t e sz bytes:Nat)(z:Value):Prop where
 LZ:P.underlying t=some (.slice e)
 info:(P.info? e).map (λi=>(i.zero,i.size,i.bytes))=some (some z,sz,bytes)
def fo(P:Program)(t:TypeId)(z:Value):Prop:=(P.info? t).map (λi=>i.zero)=some (some z)
theorem oI{P:Program}{t:TypeId}(h:gz P t=true)(w:World):(isAgg t).run P w=.ok false w:=by
 unfold gz at h;split at h
 ·cases h
 ·cases h
 ·cases h
 ·rename_i d i e c;unfold isAgg;simp only[Sem.run_bind,run_underlying c,Result.andThen_ok];cases d<;>first|rfl|(exfalso;simp_all;done)
theorem cK{P:Program}{t:TypeId}(h:gz P t=true)(w:World):(sizeOf t).run P w=.ok 1 w:=by
 unfold gz at h;split at h
 ·cases h
 ·cases h
 ·cases h
 ·cases hi:P.info? t with
  |none=>rw[hi]at h;simp at h
  |some i=>rw[hi]at h;simp at h;simp[sizeOf,typeInfo,hi,h]
theorem iN{P:Program}{t:TypeId}{m:Nat}(h:eP P t m=true)(w:World):(isAgg t).run P w=.ok true w:=by
 unfold eP at h;split at h
 ·rename_i c;simp[isAgg,run_underlying c]
 ·rename_i c;simp[isAgg,run_underlying c]
 ·cases h
theorem eu{P:Program}{t:TypeId}{m:Nat}(h:eP P t m=true)(w:World):(sizeOf t).run P w=.ok m w:=by
 have c:(P.info? t).any (·.size == m)=true:=by
  unfold eP at h;split at h
  ·exact h
  ·exact h
  ·cases h
 cases hi:P.info? t with
 |none=>rw[hi]at c;simp at c
 |some i=>rw[hi]at c;simp at c;simp[sizeOf,typeInfo,hi,c]
end
section
variable {P:Program}{n:Nat}{S:World->World->Prop}{k:Nat}{K:Fr->World->Prop}{f:Fr}{w:World}
 {d ty t t2:Nat} {x y:Operand} {pos:String} {aft:Array Edge} {gd:Option (Nat×Bool)}
theorem j7(c:gz P t=true){p:Addr}{v:Value}(e:w.cell? p=some v):(Instr.loadAt t (.pointer (some p))).run P w=.ok v w:=by
 simp[Instr.loadAt,Instr.sureAddr,loadVar,oI c,load,Sem.run,e]
theorem ji(l:k≠3)(i:gz P t=true){p:Addr}{v:Value}(c:ev n f x=.pointer (some p))(j:w.cell? p=some v)(h:K (cg f d v) w):
 R1 P n (λ_ _=>False) k ⟨some d,.load t x,ty,pos,aft,gd⟩ K f w:=by
 refine iD l (v:=v) (λw' e=>?_) h;obtain rfl:=e.resolve_left id;simp only[execOp,c,Sem.run_bind,j7 i j,Result.andThen_ok,Sem.run_pure]
theorem re(m:k≠3)(l:gz P t=true){p:Addr}{v:Value}(j:ev n f x=.pointer (some p))(e:w.cell? p=some v)(h:K (cg f d v) w):
 R1 P n Ext k ⟨some d,.load t x,ty,pos,aft,gd⟩ K f w:=by
 refine iD m (v:=v) (λw' c=>?_) h;have i:w'.cell? p=some v:=by
  rcases c with c|rfl
  ·exact aP c e
  ·exact e
 simp only[execOp,j,Sem.run_bind,j7 l i,Result.andThen_ok,Sem.run_pure]
theorem add_zero(p:Addr):p.add 0=p:=F
theorem dB(c:eP P t 2=true){p:Addr}{v0 v1:Value}(e:w.cell? p=some v0)(h1:w.cell? (p.add 1)=some v1):(Instr.loadAt t (.pointer (some p))).run P w=.ok (.agg #[v0,v1]) w:=by
 simp[Instr.loadAt,Instr.sureAddr,loadVar,iN c,eu c,loadCells,loadCellsFrom,load,Sem.run,e,h1,add_zero]
theorem wi(j:k≠3)(i:eP P t 2=true){p:Addr}{v0 v1:Value}(c:ev n f x=.pointer (some p))(l:w.cell? p=some v0)(h1:w.cell? (p.add 1)=some v1)(h:K (cg f d (.agg #[v0,v1])) w):
 R1 P n (λ_ _=>False) k ⟨some d,.load t x,ty,pos,aft,gd⟩ K f w:=by
 refine iD j (v:=.agg #[v0,v1]) (λw' e=>?_) h;obtain rfl:=e.resolve_left id;simp only[execOp,c,Sem.run_bind,dB i l h1,Result.andThen_ok,Sem.run_pure]
theorem wk(m:k≠3)(l:eP P t 2=true){p:Addr}{v0 v1:Value}(j:ev n f x=.pointer (some p))(i:w.cell? p=some v0)(h1:w.cell? (p.add 1)=some v1)(h:K (cg f d (.agg #[v0,v1])) w):
 R1 P n Ext k ⟨some d,.load t x,ty,pos,aft,gd⟩ K f w:=by
 refine iD m (v:=.agg #[v0,v1]) (λw' c=>?_) h;have e:w'.cell? p=some v0/\w'.cell? (p.add 1)=some v1:=by
  rcases c with c|rfl
  ·exact⟨aP c i,aP c h1⟩
  ·exact⟨i,h1⟩
 simp only[execOp,j,Sem.run_bind,dB l e.1 e.2,Result.andThen_ok,Sem.run_pure]
theorem ir{a:Addr}{v u:Value}(c:v.oneCell'=true)(c:w.cell? a=some u)(c:w.frozen? a=false):(store a v).run P w=.ok () (w.setCell a v):=by
 cases v<;>simp_all [store,Sem.run,Value.oneCell']
theorem eh{v:Value}(c:v.oneCell'=true):v.cells=#[v]:=by cases v<;>simp_all [Value.oneCell',Value.cells]
theorem uC(e:gz P t=true){p:Addr}{v u:Value}(c:v.oneCell'=true)(i:w.cell? p=some u)(h:w.frozen? p=false):(Instr.storeAt t (.pointer (some p)) v).run P w=.ok () (w.setCell p v):=by
 simp[Instr.storeAt,Instr.sureAddr,storeVar,cK e,eh c,storeCells,ir c i h,add_zero]
theorem jg(m:gz P t=true){g i:Nat}{T:TypeId}{cs:Array Value}{v:Value}(r:k=2\/k=1/\∀w',Ch (λb=>b=g) w w'->S w w')(l:ev n f x=.pointer (some ⟨g,i,none⟩))(j:ev n f y=v)(o:v.oneCell'=true)(e:bg w g T cs)(c:i<cs.size)
 (h:∀w',bg w' g T (cs.setIfInBounds i v)->Ch (λb=>b=g) w w'->w'.heap.size=w.heap.size->K f w'):
 R1 P n S k ⟨none,.store t x y,ty,pos,aft,gd⟩ K f w:=by
 have q:w.cell? ⟨g,i,none⟩=some cs[i]:=by rw[e.cell];simp[c]
 have c:Ch (λb=>b=g) w (w.setCell ⟨g,i,none⟩ v):=fF w ⟨g,i,none⟩ v;refine qB (w':=w.setCell ⟨g,i,none⟩ v) (r.imp id λh=>⟨h.1,h.2 _ c⟩) rfl ?_ (h _ (e.set i v) c (size_setCell _ _ _));simp only[execOp,l,j,Sem.run_bind,uC m o q (e.frozen i),Result.andThen_ok,Sem.run_pure]
theorem bZ(j:gz P t=true){g i:Nat}{T:TypeId}{cs:Array Value}{kd:IntKind}{z:Int}(o:k=2\/k=1/\∀w',Ch (λb=>b=g) w w'->S w w')(e:ev n f x=.pointer (some ⟨g,i,none⟩))(c:ev n f y=.int kd z)(m:bg w g T cs)(l:i<cs.size)
 (h:∀w',bg w' g T (cs.setIfInBounds i (.int kd z))->Ch (λb=>b=g) w w'->w'.heap.size=w.heap.size->K f w'):
 R1 P n S k ⟨none,.store t x y,ty,pos,aft,gd⟩ K f w:=
 jg j o e c F m l h
theorem cZ(l:gz P t=true){g i:Nat}{T:TypeId}{cs:Array Value}{A:Option Addr}{m c:Nat}(r:k=2\/k=1/\∀w',Ch (λb=>b=g) w w'->S w w')(j:ev n f x=.pointer (some ⟨g,i,none⟩))(e:ev n f y=.slice A m c)(q:bg w g T cs)(o:i<cs.size)
 (h:∀w',bg w' g T (cs.setIfInBounds i (.slice A m c))->Ch (λb=>b=g) w w'->w'.heap.size=w.heap.size->K f w'):
 R1 P n S k ⟨none,.store t x y,ty,pos,aft,gd⟩ K f w:=
 jg l r j e F q o h
theorem q8(j:gz P t=true){g i:Nat}{T:TypeId}{cs:Array Value}{b:Bool}(o:k=2\/k=1/\∀w',Ch (λb=>b=g) w w'->S w w')(e:ev n f x=.pointer (some ⟨g,i,none⟩))(c:ev n f y=.bool b)(m:bg w g T cs)(l:i<cs.size)
 (h:∀w',bg w' g T (cs.setIfInBounds i (.bool b))->Ch (λb=>b=g) w w'->w'.heap.size=w.heap.size->K f w'):
 R1 P n S k ⟨none,.store t x y,ty,pos,aft,gd⟩ K f w:=
 jg j o e c F m l h
theorem ot(j:gz P t=true){g i:Nat}{T:TypeId}{cs:Array Value}{q:Option Addr}(o:k=2\/k=1/\∀w',Ch (λb=>b=g) w w'->S w w')(e:ev n f x=.pointer (some ⟨g,i,none⟩))(c:ev n f y=.pointer q)(m:bg w g T cs)(l:i<cs.size)
 (h:∀w',bg w' g T (cs.setIfInBounds i (.pointer q))->Ch (λb=>b=g) w w'->w'.heap.size=w.heap.size->K f w'):
 R1 P n S k ⟨none,.store t x y,ty,pos,aft,gd⟩ K f w:=
 jg j o e c F m l h
theorem oG(m:eP P t 2=true){g i:Nat}{T:TypeId}{cs:Array Value}{v0 v1:Value}(l:v0.oneCell'=true)(j:v1.oneCell'=true)(e:bg w g T cs)(o:i+1<cs.size):
 (Instr.storeAt t (.pointer (some ⟨g,i,none⟩)) (.agg #[v0,v1])).run P w=.ok () ((w.setCell ⟨g,i,none⟩ v0).setCell ⟨g,i+1,none⟩ v1):=by
 have q:w.cell? ⟨g,i,none⟩=some cs[i]:=by rw[e.cell];simp
 have c:=e.set i v0;have h:(w.setCell ⟨g,i,none⟩ v0).cell? ⟨g,i+1,none⟩=some cs[i+1]:=by rw[c.cell];simp[o]
 simp[Instr.storeAt,Instr.sureAddr,storeVar,eu m,Value.cells,storeCells,ir l q (e.frozen i),add_zero,add_lit,ir j h (c.frozen (i+1))]
theorem aZ(q:eP P t 2=true){g i:Nat}{T:TypeId}{cs:Array Value}{v0 v1:Value}(s:k=2\/k=1/\∀w',Ch (λb=>b=g) w w'->S w w')(o:ev n f x=.pointer (some ⟨g,i,none⟩))(m:ev n f y=.agg #[v0,v1])(l:v0.oneCell'=true)(j:v1.oneCell'=true)(e:bg w g T cs)(r:i+1<cs.size)
 (h:∀w',bg w' g T ((cs.setIfInBounds i v0).setIfInBounds (i+1) v1)->Ch (λb=>b=g) w w'->w'.heap.size=w.heap.size->K f w'):
 R1 P n S k ⟨none,.store t x y,ty,pos,aft,gd⟩ K f w:=by
 have c:Ch (λb=>b=g) w ((w.setCell ⟨g,i,none⟩ v0).setCell ⟨g,i+1,none⟩ v1):=(fF w ⟨g,i,none⟩ v0).trans (fF _ ⟨g,i+1,none⟩ v1);refine qB (w':=(w.setCell ⟨g,i,none⟩ v0).setCell ⟨g,i+1,none⟩ v1) (s.imp id λh=>⟨h.1,h.2 _ c⟩) rfl ?_ (h _ ((e.set i v0).set (i+1) v1) c (by rw[size_setCell,size_setCell]));simp only[execOp,o,m,Sem.run_bind,oG q l j e r,Result.andThen_ok,Sem.run_pure]
theorem ph{o:Oper}{T:TypeId}{cs:Array Value}{v:Value}(e:k=2\/k=1/\∀w',Ext w w'->S w w')(c:(execOp (ev n f) o).run P w=.ok (.value v) (w.alloc (.cells cs T)))
 (h:∀w',bg w' w.heap.size T cs->Ext w w'->w'.heap.size=w.heap.size+1->K (fZ f o.dst v) w'):R1 P n S k o K f w:=
 iE (e.imp id λh=>⟨h.1,h.2 _ (nR w _)⟩) c (h _ (bg.new w T cs) (nR w _) aA)
theorem aS{z:Value}(e:k=2\/k=1/\∀w',Ext w w'->S w w')(c:fo P t z)
 (h:∀w',bg w' w.heap.size t z.cells->Ext w w'->w'.heap.size=w.heap.size+1->K (cg f d (.pointer (some ⟨w.heap.size,0,none⟩))) w'):R1 P n S k ⟨some d,.alloc t,ty,pos,aft,gd⟩ K f w:=by
 refine ph (T:=t) (cs:=z.cells) (v:=.pointer (some ⟨w.heap.size,0,none⟩)) e ?_ h;unfold fo at c;cases hi:P.info? t with
 |none=>rw[hi]at c;simp at c
 |some i=>
  rw[hi]at c;simp at c;simp[execOp,Instr.alloc,zeroValue,typeInfo,hi,c,newVar,newRow]
theorem bO{v:Value}(e:k=2\/k=1/\∀w',Ext w w'->S w w')(c:ev n f x=v)
 (h:∀w',bg w' w.heap.size t v.cells->Ext w w'->w'.heap.size=w.heap.size+1->K (cg f d (.pointer (some ⟨w.heap.size,0,none⟩))) w'):R1 P n S k ⟨some d,.box t x,ty,pos,aft,gd⟩ K f w:=by
 refine ph (T:=t) (cs:=v.cells) (v:=.pointer (some ⟨w.heap.size,0,none⟩)) e ?_ h;simp[execOp,Instr.box,c,newVar,newRow]
theorem cJ{e l h m c:Nat}{z:Value}(o:dh P t e l h z)(q:k=2\/k=1/\∀w',Ext w w'->S w w')(s:ev n f x=.int .i64 (m:Int))(r:ev n f y=.int .i64 (c:Int))(B:m<=c)(A:h*c<=281474976710656)(h:c<=9223372036854775807)
 (h:∀w',bg w' w.heap.size e (madeCells z.cells (c*l))->Ext w w'->w'.heap.size=w.heap.size+1->K (cg f d (.slice (some ⟨w.heap.size,0,none⟩) m c)) w'):R1 P n S k ⟨some d,.makeSlice t x y,ty,pos,aft,gd⟩ K f w:=by
 refine ph (T:=e) (cs:=madeCells z.cells (c*l)) (v:=.slice (some ⟨w.heap.size,0,none⟩) m c) q ?_ h;obtain⟨u,j⟩:=o;cases hi:P.info? e with
 |none=>rw[hi]at j;simp at j
 |some i=>
  rw[hi]at j;simp at j;obtain⟨q,l,o⟩:=j;have h:=run_make (P:=P) w t e i z u hi q .i64 .i64 (m:Int) (c:Int) aq aq (by rw[o,<-Int.natCast_mul];exact Int.ofNat_le.2 A) aq;simp only[Int.toNat_natCast,l]at h;simp only[execOp,s,r,Sem.run_bind,h,Result.andThen_ok,Sem.run_pure]
theorem DH(xs:Array Value)(h:xs.size=2){v0 v1:Value}:(xs.setIfInBounds 0 v0).setIfInBounds 1 v1=#[v0,v1]:=by
 obtain⟨l⟩:=xs
 match l,h with
 |[_,_],_=>rfl
theorem wq{e h:Nat}{z v0 v1:Value}{l j:Operand}(s:dh P t e 1 h z)(q:z.oneCell'=true)(u:k=2\/k=1/\∀w',Ext w w'->S w w')(A:ev n f l=v0)(h1:ev n f j=v1)(o:v0.oneCell'=true)(m:v1.oneCell'=true)
 (h:∀w',bg w' w.heap.size e #[v0,v1]->Ext w w'->w'.heap.size=w.heap.size+1->K (cg f d (.slice (some ⟨w.heap.size,0,none⟩) 2 2)) w'):R1 P n S k ⟨some d,.buildSlice t 2 #[(0,l),(1,j)],ty,pos,aft,gd⟩ K f w:=by
 refine ph (T:=e) (cs:=#[v0,v1]) (v:=.slice (some ⟨w.heap.size,0,none⟩) 2 2) u ?_ h;obtain⟨r,c⟩:=s;cases hi:P.info? e with
 |none=>rw[hi]at c;simp at c
 |some i=>
  rw[hi]at c;simp at c;obtain⟨j,h,l⟩:=c;simp[execOp,Instr.buildSlice,run_underlying r,sizeOf,typeInfo,hi,h,zeroValue,j,A,h1,Instr.fill,eh o,eh m,eh q,newRow,Array.range];rw[DH _ (by simp[h])]
theorem jC{e i h m c:Nat}{z:Value}{A:Option Addr}(j:dh P t e i h z)(i:ev n f x=.slice A m c)(h:K (cg f d (.int .i64 (m:Int))) w):
 R1 P n S k ⟨some d,.call { callee:=.builtin .len,args:=#[x],argTypes:=#[t] },ty,pos,aft,gd⟩ K f w:=by
 refine cH (v:=.int .i64 (m:Int)) (λw=>?_) h;simp[execOp,resolve,invoke,builtin,Builtin.len_,run_underlying j.LZ,i,goInt]
theorem lJ{e j h:Nat}{z:Value}(c:(P.info? e).map (λi=>(i.zero,i.size,i.bytes))=some (some z,j,h))(w:World):(sizeOf e).run P w=.ok j w:=by
 cases hi:P.info? e with
 |none=>rw[hi]at c;simp at c
 |some i=>
  rw[hi]at c;simp at c;simp[sizeOf,typeInfo,hi,c.2.1]
theorem fh{e i h m c j:Nat}{z:Value}{ad:Addr}(l:dh P t e i h z)(q:ev n f x=.slice (some ad) m c)(o:ev n f y=.int .i64 (j:Int))(h:j<m)
 (h:K (cg f d (.pointer (some (ad.add (j*i))))) w):R1 P n S k ⟨some d,.indexAddr t x y,ty,pos,aft,gd⟩ K f w:=by
 refine cH (v:=.pointer (some (ad.add (j*i)))) (λw=>?_) h;have h:(0:Int)<=(j:Int)/\(j:Int)<(m:Int):=aq;simp only[execOp,q,o,Instr.indexAt,asIntOf,Sem.run_bind,Sem.run_pure,Result.andThen_ok,run_underlying l.LZ,h,and_self,if_true,lJ l.info,Int.toNat_natCast]
theorem dP{e i h m c j G o:Nat}{z:Value}(s:dh P t e i h z)(q:ev n f x=.slice (some ⟨G,o,none⟩) m c)(l:ev n f y=.int .i64 (j:Int))(r:j<m)
 (h:K (cg f d (.pointer (some ⟨G,o+j*i,none⟩))) w):R1 P n S k ⟨some d,.indexAddr t x y,ty,pos,aft,gd⟩ K f w:=
 fh s q l r (by rw[add_lit];exact h)
theorem dY{e i h m c:Nat}{z:Value}{ad:Addr}(q:dh P t e i h z)(l:ev n f x=.slice (some ad) m c)(o:0<m)
 (h:K (cg f d (.pointer (some (ad.add (0*i))))) w):R1 P n S k ⟨some d,.indexAddr t x (.const (.int .i64 0)),ty,pos,aft,gd⟩ K f w:=
 fh q l (j:=0) F o h
theorem dX{e i h m c G o:Nat}{z:Value}(r:dh P t e i h z)(l:ev n f x=.slice (some ⟨G,o,none⟩) m c)(q:0<m)
 (h:K (cg f d (.pointer (some ⟨G,o+0*i,none⟩))) w):R1 P n S k ⟨some d,.indexAddr t x (.const (.int .i64 0)),ty,pos,aft,gd⟩ K f w:=
 dP r l (j:=0) F q h
theorem CT{e i h m c l r:Nat}{z:Value}{A:Option Addr}{j o:Operand}(q:dh P t e i h z)(B:ev n f x=.slice A m c)(D:ev n f j=.int .i64 (l:Int))(C:ev n f o=.int .i64 (r:Int))(u:l<=r)(s:r<=c)
 (h:K (cg f d (.slice (if c=l then A else A.map (·.add (l*i))) (r-l) (c-l))) w):R1 P n S k ⟨some d,.slice t x (some j) (some o) none,ty,pos,aft,gd⟩ K f w:=by
 refine cH (v:=.slice (if c=l then A else A.map (·.add (l*i))) (r-l) (c-l)) (λw=>?_) h;have h:(0:Int)<=(r:Int)/\(r:Int)<=(c:Int):=aq;have h:(0:Int)<=(l:Int)/\(l:Int)<=(r:Int):=aq;simp[execOp,B,D,C,Instr.sliceAt,run_underlying q.LZ,Instr.slice,Instr.sliceBounds,Instr.sliceBound,asIntOf,lJ q.info,u,s]
theorem rO{e q h m c l r G o:Nat}{z:Value}{i j:Operand}(C:dh P t e q h z)(v:ev n f x=.slice (some ⟨G,o,none⟩) m c)(B:ev n f i=.int .i64 (l:Int))(A:ev n f j=.int .i64 (r:Int))(u:l<=r)(s:r<=c)(h:l<c)
 (h:K (cg f d (.slice (some ⟨G,o+l*q,none⟩) (r-l) (c-l))) w):R1 P n S k ⟨some d,.slice t x (some i) (some j) none,ty,pos,aft,gd⟩ K f w:=
 CT C v B A u s (by rw[aa aq,Option.map_some,add_lit];exact h)
theorem q9{e j h m c r:Nat}{z:Value}{A:Option Addr}{i:Operand}(l:dh P t e j h z)(q:ev n f x=.slice A m c)(s:ev n f i=.int .i64 (r:Int))(o:r<=c)
 (h:K (cg f d (.slice A r c)) w):R1 P n S k ⟨some d,.slice t x none (some i) none,ty,pos,aft,gd⟩ K f w:=by
 refine cH (v:=.slice A r c) (λw=>?_) h;have u:(if c=0 then A else A.map (·.add (0*j)))=A:=by
  split
  ·rfl
  ·cases A<;>simp[add_zero]
 simp[execOp,q,s,Instr.sliceAt,run_underlying l.LZ,Instr.slice,Instr.sliceBounds,Instr.sliceBound,asIntOf,lJ l.info,o];simpa using u
theorem v8{e i h m c l:Nat}{z:Value}{A:Option Addr}{j:Operand}(o:dh P t e i h z)(r:ev n f x=.slice A m c)(s:ev n f j=.int .i64 (l:Int))(q:l<=m)
 (h:K (cg f d (.slice (if c=l then A else A.map (·.add (l*i))) (m-l) (c-l))) w):R1 P n S k ⟨some d,.slice t x (some j) none none,ty,pos,aft,gd⟩ K f w:=by
 refine cH (v:=.slice (if c=l then A else A.map (·.add (l*i))) (m-l) (c-l)) (λw=>?_) h;simp[execOp,r,s,Instr.sliceAt,run_underlying o.LZ,Instr.slice,Instr.sliceBounds,Instr.sliceBound,asIntOf,lJ o.info,q]
theorem Dh{c:Array Value}{i:Nat}{v:Value}(e:ev n f x=.tuple c)(j:c[i]?=some v)(h:K (cg f d v) w):R1 P n S k ⟨some d,.extract x i,ty,pos,aft,gd⟩ K f w:=
 cH (v:=v) (λ_=>by simp[execOp,e,Instr.extract,j]) h
theorem A_{c b:Operand}{i:Nat}(e:ev n f c=.bool true)(l:Nat.blt i n=true)(h:K (mv f d i) w):R1 P n S k ⟨some d,.pick c (.tmp i) b,ty,pos,aft,gd⟩ K f w:=by
 refine cH (v:=ev n f (.tmp i)) (λ_=>by simp[execOp,e,asBool]) ?_;have e:fZ f (some d) (ev n f (.tmp i))=mv f d i:=by funext j;simp[ev,l,fZ,mv,cg]
 rw[e];exact h
theorem Ba{c a:Operand}{i:Nat}(e:ev n f c=.bool false)(l:Nat.blt i n=true)(h:K (mv f d i) w):R1 P n S k ⟨some d,.pick c a (.tmp i),ty,pos,aft,gd⟩ K f w:=by
 refine cH (v:=ev n f (.tmp i)) (λ_=>by simp[execOp,e,asBool]) ?_;have e:fZ f (some d) (ev n f (.tmp i))=mv f d i:=by funext j;simp[ev,l,fZ,mv,cg]
 rw[e];exact h
theorem we{c b:Operand}{v:Value}(e:ev n f c=.bool true)(h:K (cg f d v) w):R1 P n S k ⟨some d,.pick c (.const v) b,ty,pos,aft,gd⟩ K f w:=
 cH (v:=v) (λ_=>by simp[execOp,e,asBool,show ev n f (.const v)=v from F]) h
theorem wg{c a:Operand}{v:Value}(e:ev n f c=.bool false)(h:K (cg f d v) w):R1 P n S k ⟨some d,.pick c a (.const v),ty,pos,aft,gd⟩ K f w:=
 cH (v:=v) (λ_=>by simp[execOp,e,asBool,show ev n f (.const v)=v from F]) h
theorem FW{c b:Operand}{i:Nat}{p:Prop}{e:Decidable p}(l:ev n f c=.bool (@decide p e))(e:p)(j:Nat.blt i n=true)(h:K (mv f d i) w):R1 P n S k ⟨some d,.pick c (.tmp i) b,ty,pos,aft,gd⟩ K f w:=
 A_ (by rw[l,decide_eq_true e]) j h
theorem FX{c a:Operand}{i:Nat}{p:Prop}{e:Decidable p}(l:ev n f c=.bool (@decide p e))(e:¬p)(j:Nat.blt i n=true)(h:K (mv f d i) w):R1 P n S k ⟨some d,.pick c a (.tmp i),ty,pos,aft,gd⟩ K f w:=
 Ba (by rw[l,decide_eq_false e]) j h
theorem CZ{c b:Operand}{v:Value}{p:Prop}{e:Decidable p}(i:ev n f c=.bool (@decide p e))(e:p)(h:K (cg f d v) w):R1 P n S k ⟨some d,.pick c (.const v) b,ty,pos,aft,gd⟩ K f w:=
 we (by rw[i,decide_eq_true e]) h
theorem C4{c a:Operand}{v:Value}{p:Prop}{e:Decidable p}(i:ev n f c=.bool (@decide p e))(e:¬p)(h:K (cg f d v) w):R1 P n S k ⟨some d,.pick c a (.const v),ty,pos,aft,gd⟩ K f w:=
 wg (by rw[i,decide_eq_false e]) h
theorem Nx{b:Bool}(c:ev n f x=.bool b)(h:K (cg f d (.bool !b)) w):R1 P n S k ⟨some d,.unOp .not t x,ty,pos,aft,gd⟩ K f w:=
 cH (v:=.bool !b) (λ_=>by simp[execOp,c,Op.unary]) h
theorem Bh{a:Int}(c:ev n f x=.int .i64 a)(h1:-9223372036854775808<=0-a)(e:0-a<9223372036854775808)(h:K (cg f d (.int .i64 (0-a))) w):R1 P n S k ⟨some d,.unOp .neg t x,ty,pos,aft,gd⟩ K f w:=
 cH (v:=.int .i64 (0-a)) (λ_=>by simp only[execOp,c,Op.unary,Op.intArith,Sem.run_bind,Sem.run_pure,Result.andThen_ok,wrap_i64 h1 e]) h
theorem pj{a:Nat}(c:ev n f x=.int .u64 (a:Int))(e:a<=18446744073709551616)(h:K (cg f d (.int .u64 (((18446744073709551616-a)%18446744073709551616:Nat):Int))) w):R1 P n S k ⟨some d,.unOp .neg t x,ty,pos,aft,gd⟩ K f w:=by
 refine cH (v:=.int .u64 (((18446744073709551616-a)%18446744073709551616:Nat):Int)) (λ_=>?_) h;have e:IntKind.u64.wrap (0-(a:Int))=(((18446744073709551616-a)%18446744073709551616:Nat):Int):=by rw[wrap_u64];omega
 simp only[execOp,c,Op.unary,Op.intArith,Sem.run_bind,Sem.run_pure,Result.andThen_ok,e]
theorem kb{e:TypeDesc}{k1 c:IntKind}{a b:Int}(j:jV P t e)(i:jV P t2 (.int c))(e:ev n f x=.int k1 a)(l:c.wrap a=b)(h:K (cg f d (.int c b)) w):R1 P n S k ⟨some d,.convert t t2 x,ty,pos,aft,gd⟩ K f w:=by
 refine cH (v:=.int c b) (λ_=>?_) h;simp[execOp,e,convert,run_underlying j,run_underlying i,Conv.intToInt,l]
section
variable {a:Nat}
theorem CO(i:jV P t (.int .u32))(e:jV P t2 (.int .u64))(c:ev n f x=.int .u32 (a:Int))(j:a<4294967296)(h:K (cg f d (.int .u64 (a:Int))) w):R1 P n S k ⟨some d,.convert t t2 x,ty,pos,aft,gd⟩ K f w:=
 kb i e c (kf (Nat.lt_trans j aw)) h
theorem CN(i:jV P t (.int .u64))(e:jV P t2 (.int .u32))(c:ev n f x=.int .u64 (a:Int))(h:K (cg f d (.int .u32 ((a%4294967296:Nat):Int))) w):R1 P n S k ⟨some d,.convert t t2 x,ty,pos,aft,gd⟩ K f w:=
 kb i e c (EF _) h
theorem mU(i:jV P t (.int .i64))(e:jV P t2 (.int .u64)){z:Int}(c:ev n f x=.int .i64 z)(h:K (cg f d (.int .u64 ((z%18446744073709551616).toNat:Int))) w):R1 P n S k ⟨some d,.convert t t2 x,ty,pos,aft,gd⟩ K f w:=
 kb i e c (by rw[wrap_u64,Int.toNat_of_nonneg (Int.emod_nonneg _ aw)]) h
theorem tK(j:jV P t (.int .u64))(i:jV P t2 (.int .i64))(e:ev n f x=.int .u64 (a:Int)){z:Int}(c:IntKind.i64.wrap (a:Int)=z)(h:K (cg f d (.int .i64 z)) w):R1 P n S k ⟨some d,.convert t t2 x,ty,pos,aft,gd⟩ K f w:=
 kb j i e c h
end
theorem vX{a:Nat}(i:jV P t (.int .u32))(e:jV P t2 (.int .u8))(c:ev n f x=.int .u32 (a:Int))(h:K (cg f d (.int .u8 ((a%256:Nat):Int))) w):R1 P n S k ⟨some d,.convert t t2 x,ty,pos,aft,gd⟩ K f w:=
 kb i e c (by rw[IntKind.wrap_u8];omega) h
theorem FQ{a:Nat}(i:jV P t (.int .u8))(e:jV P t2 (.int .i64))(c:ev n f x=.int .u8 (a:Int))(h:a<256)(h:K (cg f d (.int .i64 (a:Int))) w):R1 P n S k ⟨some d,.convert t t2 x,ty,pos,aft,gd⟩ K f w:=
 kb i e c (lz aq) h
theorem rP{s:ByteArray}{b:UInt8}{e:IntKind}{j:Nat}(c:jV P t .string)(l:ev n f x=.string s)(i:ev n f y=.int e (j:Int))(e:s[j]?=some b)(h:K (cg f d (.int .u8 (b.toNat:Int))) w):
 R1 P n S k ⟨some d,.index t x y,ty,pos,aft,gd⟩ K f w:=by
 unfold jV at c;refine cH (v:=.int .u8 (b.toNat:Int)) (λw=>?_) h;simp[execOp,l,i,Instr.index,asIntOf,run_underlying c,e]
theorem Lg{e:Fn}{first c:Array Operand}(h:K (cg f d (.func e (first.map (ev n f)) (c.map (ev n f)))) w):R1 P n S k ⟨some d,.makeFunc e first c,ty,pos,aft,gd⟩ K f w:=
 cH (v:=.func e (first.map (ev n f)) (c.map (ev n f))) (λ_=>rfl) h
def cI(P:Program)(t i c:Nat):Prop:=∀a w,(Instr.fieldAt t (.pointer (some a)) i).run P w=.ok (.pointer (some (a.add c))) w
theorem aV{i c G o:Nat}(j:cI P t i c)(e:ev n f x=.pointer (some ⟨G,o,none⟩))(h:K (cg f d (.pointer (some ⟨G,o+c,none⟩))) w):R1 P n S k ⟨some d,.fieldAddr t x i,ty,pos,aft,gd⟩ K f w:=by
 refine cH (v:=.pointer (some ⟨G,o+c,none⟩)) (λw=>?_) h;simp only[execOp,e,Sem.run_bind,j _ w,Result.andThen_ok,Sem.run_pure,add_lit]
def yP(P:Program)(t:Nat)(z:Value):Prop:=∀w,(Instr.build t #[]).run P w=.ok z w
def yO(P:Program)(t:Nat):Prop:=∀e c w,e.oneCell'=true->c.oneCell'=true->(Instr.build t #[(0,e),(1,c)]).run P w=.ok (.agg #[e,c]) w
theorem dR{z:Value}(c:yP P t z)(h:K (cg f d z) w):R1 P n S k ⟨some d,.build t #[],ty,pos,aft,gd⟩ K f w:=by
 refine cH (v:=z) (λw=>?_) h;have:(#[]:Array (Nat×Operand)).map (λ(i,x)=>(i,ev n f x))=#[]:=aA;simp only[execOp,this,Sem.run_bind,c w,Result.andThen_ok,Sem.run_pure]
theorem sf{v0 v1:Value}{e c:Operand}(m:yO P t)(o:ev n f e=v0)(h1:ev n f c=v1)(l:v0.oneCell'=true)(j:v1.oneCell'=true)(h:K (cg f d (.agg #[v0,v1])) w):R1 P n S k ⟨some d,.build t #[(0,e),(1,c)],ty,pos,aft,gd⟩ K f w:=by
 refine cH (v:=.agg #[v0,v1]) (λw=>?_) h;have:(#[(0,e),(1,c)]:Array (Nat×Operand)).map (λ(i,x)=>(i,ev n f x))=#[(0,v0),(1,v1)]:=by simp[o,h1]
 simp only[execOp,this,Sem.run_bind,m v0 v1 w l j,Result.andThen_ok,Sem.run_pure]
def ug(P:Program)(t:Nat):Prop:=∀a b w,(binOp .eql t (.bool a) (.bool b)).run P w=.ok (.bool (a == b)) w/\(binOp .neq t (.bool a) (.bool b)).run P w=.ok (.bool (a != b)) w
theorem Bn{a b:Bool}(i:ug P t)(e:ev n f x=.bool a)(c:ev n f y=.bool b)(h:K (cg f d (.bool (a == b))) w):R1 P n S k ⟨some d,.binOp .eql t x y t2,ty,pos,aft,gd⟩ K f w:=
 cw e c (λ_=>by simp[eqGuard,go_sem]) (λw=>(i a b w).1) h
theorem Bg{a b:Bool}(i:ug P t)(e:ev n f x=.bool a)(c:ev n f y=.bool b)(h:K (cg f d (.bool (a != b))) w):R1 P n S k ⟨some d,.binOp .neq t x y t2,ty,pos,aft,gd⟩ K f w:=
 cw e c (λ_=>by simp[eqGuard,go_sem]) (λw=>(i a b w).2) h
theorem rq(h:P.underlying t=some .bool)(c:Nat)(a b:Bool)(w:World):(Op.equalIn (c+1) t (.bool a) (.bool b)).run P w=.ok (a == b) w:=by
 simp[Op.equalIn,run_underlying h]
theorem FO(h:jV P t .bool):ug P t:=by
 unfold jV at h;intro a b w;constructor
 ·simp only[binOp];simp[Op.equal,Op.maxDepth,rq h 9999]
 ·simp only[binOp];simp[Op.equal,Op.maxDepth,rq h 9999];cases a<;>cases b<;>rfl
def Enters(P:Program)(g:FuncId):Prop:=∀c w,(callFunc g c).run P w=.ok (.enter g c) w
def Et(c:Value->World->Prop):Ending->World->Prop:=λe w'=>∃v,e=.returned v/\c v w'
structure aT(P:Program)(g:FuncId)(args:Array Value)(w:World)(post:Value->World->Prop):Prop where
 enters:Enters P g
 calls:Calls P g args w (Et post)
theorem aT.mono{g:FuncId}{args:Array Value}{e c:Value->World->Prop}(h:aT P g args w e)(i:∀v w',e v w'->c v w'):aT P g args w c:=
 ⟨h.enters,h.calls.mono λ_ w' ⟨v,e,c⟩=>⟨v,e,i v w' c⟩⟩
theorem enters_of {g : FuncId} {e : Func} {c : Code} (j : P.funcs[g]? = some e) (l : e.body = some c) (i : (e.name == "runtime.NumGoroutine") = false) : Enters P g := by
 intro h w;have h : ¬ e.name = "runtime.NumGoroutine" := by simpa using i
 simp[callFunc,program,Sem.run,j,l,h]
theorem se{g:FuncId}{args:Array Operand}{e:Array TypeId}{i:Array Value}{c:Value->World->Prop}(m:k=2\/k=1)(l:args.map (ev n f)=i)(j:aT P g i w c)
 (h:∀v w',c v w'->(k=1->S w w')/\K (cg f d v) w'):R1 P n S k ⟨some d,.call { callee:=.value (.func g),args:=args,argTypes:=e },ty,pos,aft,gd⟩ K f w:=by
 refine Bo m (g:=g) (args:=i) ?_ j.calls λe w' ⟨v,e,c⟩=>⟨v,e,h v w' c⟩;simp[execOp,resolve,ev,Deferred.ofValue,invoke,l,j.enters i w]
theorem aJ{g:FuncId}{l:List Operand}{e:Array TypeId}{c:Value->World->Prop}(i:aT P g (l.map (ev n f)).toArray w c)
 (h:∀v w',c v w'->K (cg f d v) w'):R1 P n S 2 ⟨some d,.call { callee:=.value (.func g),args:=l.toArray,argTypes:=e },ty,pos,aft,gd⟩ K f w:=
 se (.inl F) aA i λv w' c=>⟨(λh=>absurd h aw),h v w' c⟩
theorem aM{g:FuncId}{l:List Operand}{e:Array TypeId}{c:Value->World->Prop}(i:aT P g (l.map (ev n f)).toArray w c)
 (h:∀v w',c v w'->Ext w w'/\K (cg f d v) w'):R1 P n Ext 1 ⟨some d,.call { callee:=.value (.func g),args:=l.toArray,argTypes:=e },ty,pos,aft,gd⟩ K f w:=
 se (.inr F) aA i λv w' c=>⟨λ_=>(h v w' c).1,(h v w' c).2⟩
theorem ue{g:FuncId}{x:Operand}{args:Array Operand}{j:Array TypeId}{first c i:Array Value}{e:Value->World->Prop}(o:k=2\/k=1)(l:ev n f x=.func (.func g) first c)(m:first++args.map (ev n f)++c=i)(c:aT P g i w e)
 (h:∀v w',e v w'->(k=1->S w w')/\K (cg f d v) w'):R1 P n S k ⟨some d,.call { callee:=.value x,args:=args,argTypes:=j },ty,pos,aft,gd⟩ K f w:=by
 refine Bo o (g:=g) (args:=i) ?_ c.calls λe w' ⟨v,j,e⟩=>⟨v,j,h v w' e⟩;simp[execOp,resolve,l,Deferred.ofValue,invoke,m,c.enters i w]
theorem Nj{Q:Exit->Fr->World->Prop}{e:Nat}{l:List Oper}{c:Code}(h:Rl P n l.toArray (W P n c Q) l f w):W P n (.seq (.region e l.toArray false) c) Q f w:=
 aN (A4 (by rw[kg];exact h))
theorem Ol{Q:Exit->Fr->World->Prop}{c:Nat}{l:List Oper}(h:Rl P n l.toArray (Q .normal) l f w):W P n (.region c l.toArray false) Q f w:=A4 h
theorem ri:∀a b c:World,Ext a b->Ext b c->Ext a c:=λ_ _ _ h k=>h.trans k
theorem b_{Q:Exit->Fr->World->Prop}{l:Nat}{e:Array Oper}{c:Code}(i:List (Nat×Nat))(m:P.follows .mixedOrders=true)
 (j:(i.length == e.size&&Region.noSelect e&&jI e (uh i) i (Array.replicate e.size false))=true)
 (h:∀w',Ext w w'->w'.heap=w.heap->Ro P n e Ext (W P n c Q) i f w'):W P n (.seq (.region l e true) c) Q f w:=
 aN (tE Ext ri i m j (by rw[kg];exact h _ (mI w) F))
theorem cP{Q:Exit->Fr->World->Prop}{j:Nat}{c:Array Oper}(e:List (Nat×Nat))(l:P.follows .mixedOrders=true)
 (i:(e.length == c.size&&Region.noSelect c&&jI c (uh e) e (Array.replicate c.size false))=true)
 (h:∀w',Ext w w'->w'.heap=w.heap->Ro P n c Ext (Q .normal) e f w'):W P n (.region j c true) Q f w:=
 tE Ext ri e l i (h _ (mI w) F)
theorem bF{e:Func}{t:Tmp}{c:Value->World->Prop}{v:Value}(j:e.results=#[.tmp t])(i:ev n f (.tmp t)=v)(h:c v w):bodyPost P e (Et c) .ret (act n f) w:=by
 refine bodyPost_ret (results_tmp j _ _ _) F ⟨v,?_,h⟩;have:=congrFun (cO n f) (.tmp t);simp only[Act.eval]at this;rw[this,i]
theorem eZ{e:Func}{t:Tmp}{T G:Nat}{c:Value->World->Prop}{x y:Value}(l:e.results=#[.cell t T])(m:eP P T 2=true)(j:ev n f (.tmp t)=.pointer (some ⟨G,0,none⟩))(i:bg w G T #[x,y])(h:c (.agg #[x,y]) w):bodyPost P e (Et c) .ret (act n f) w:=by
 refine bodyPost_ret (v:=.agg #[x,y]) ?_ F ⟨_,F,h⟩;have e:=congrFun (cO n f) (.tmp t);simp only[Act.eval]at e;have o:w.cell? ⟨G,0,none⟩=some x:=by rw[i.cell];rfl
 have h:w.cell? ((⟨G,0,none⟩ : Addr).add 1)=some y:=by rw[add_lit,i.cell];rfl
 have c:=dB (P:=P) m o h;simp only[Instr.loadAt,Instr.sureAddr,Sem.run_bind,Sem.run_pure,Result.andThen_ok]at c;have h:(act n f).tmps[t]?.getD undef=.pointer (some ⟨G,0,none⟩):=by rw[<-j,<-e];simp
 simp[results,l,h,asAddr,c]
theorem lP{e:Func}{c:Value->World->Prop}(i:e.results=#[])(h:c (.tuple #[]) w):bodyPost P e (Et c) .normal (act n f) w:=
 bodyPost_end (results_none i _ _ _) F ⟨_,F,h⟩
theorem cU{e:Func}{t u:Tmp}{c:Value->World->Prop}{v v':Value}(l:e.results=#[.tmp t,.tmp u])(j:ev n f (.tmp t)=v)(i:ev n f (.tmp u)=v')(h:c (.tuple #[v,v']) w):bodyPost P e (Et c) .ret (act n f) w:=by
 refine bodyPost_ret (results_tmp2 l _ _ _) F ⟨_,?_,h⟩;have e:=congrFun (cO n f) (.tmp t);have c:=congrFun (cO n f) (.tmp u);simp only[Act.eval]at e c;rw[e,c,j,i]
theorem bo {g : FuncId} {i : Func} {c : Code} {args : Array Value} {j : Value → World → Prop} (l : P.funcs[g]? = some i) (m : i.body = some c) (q : i.ntmps = n) (o : (i.name == "runtime.NumGoroutine") = false) (r : args.size ≤ n)
 (h:W P n c (λe f w=>bodyPost P i (Et j) e (act n f) w) (λi=>args.getD i undef) w):aT P g args w j:=
 ⟨enters_of l m o,KH l m q r h⟩
theorem mT{o:Oper}(h:R1 P n S k o K f w):R1 P n S k o K f w:=h
theorem IN{c:BinOp}{e:Option Nat}(h:R1 P n S k ⟨e,.binOp c t x y t2,ty,pos,aft,gd⟩ K f w):R1 P n S k ⟨e,.binOp c t x y t2,ty,pos,aft,gd⟩ K f w:=h
theorem F0{c:Option Nat}(h:R1 P n S k ⟨c,.load t x,ty,pos,aft,gd⟩ K f w):R1 P n S k ⟨c,.load t x,ty,pos,aft,gd⟩ K f w:=h
theorem C7{c:Option Nat}(h:R1 P n S k ⟨c,.indexAddr t x y,ty,pos,aft,gd⟩ K f w):R1 P n S k ⟨c,.indexAddr t x y,ty,pos,aft,gd⟩ K f w:=h
theorem Lf{c:Option Nat}{i:Nat}(h:R1 P n S k ⟨c,.fieldAddr t x i,ty,pos,aft,gd⟩ K f w):R1 P n S k ⟨c,.fieldAddr t x i,ty,pos,aft,gd⟩ K f w:=h
theorem F1{c:Option Nat}(h:R1 P n S k ⟨c,.convert t t2 x,ty,pos,aft,gd⟩ K f w):R1 P n S k ⟨c,.convert t t2 x,ty,pos,aft,gd⟩ K f w:=h
theorem F4{e:Option Nat}{c:Call}(h:R1 P n S k ⟨e,.call c,ty,pos,aft,gd⟩ K f w):R1 P n S k ⟨e,.call c,ty,pos,aft,gd⟩ K f w:=h
theorem N9{c:Array Oper}{l:List Oper}(h:Rl P n c K l f w):Rl P n c K l f w:=h
theorem O5{c:Array Oper}{l:List (Nat×Nat)}(h:Ro P n c S K l f w):Ro P n c S K l f w:=h
theorem Pr{c:Code}{Q:Exit->Fr->World->Prop}(h:W P n c Q f w):W P n c Q f w:=h
end
attribute [irreducible] gz eP jV fo cI yP yO ug
end
end Go.cW
namespace Go.Proofs.Qq
section
open Go Go.cW Go.ChangeShapes Go.WideShapes Go.ChangeAt Go.RowKit
theorem O0:ownKnob Tryz.prog.godebug=none:=by kernel_rfl
theorem N8:laidOutB Tryz.prog=true:=by kernel_rfl
theorem xX{w w':World}(h:Ext w w'):Below w.heap.size w w':=⟨h.os,h.tape,h.output,h.size,λ_ a=>h.mb a⟩
section
variable {H:Type}{enc:TypeId×Value->H}{P:Program}
theorem oC(k:laidOutB P=true){W W':World}{i:Nat->Bool}:∀{c:List TypeId} {g:List Value} {l:List (DataW H)} {d:List MemPlace},(c.all λt=>P.readableRec t&&decide (t<P.types.size))=true->
 DataW.TrodAll enc P W 0 (λ_=>true) true c g l d->(∀p∈d,W.sameAt W' p)->(∀p∈d,i p.block=true)->DataW.TrodAll enc P W' 0 i true c g l d
 |[],_,_,_,_,h,_,_=>by
  obtain⟨rfl,rfl,rfl⟩:=trodAll_nil h;exact trodAll_mk0
 |t::c,_,_,_,e,h,j,f=>by
  obtain⟨v,c,d,c,a,b,rfl,rfl,rfl,d,c⟩:=trodAll_cons h;simp only[List.all_cons,Bool.and_eq_true,decide_eq_true_eq]at e;refine⟨a,b,WideElems.Trod_stays k e.1.1 e.1.2 d (λp a=>j p (by simp[a])) (λp a=>f p (by simp[a])),?_,F⟩;exact oC k (by simpa using e.2) c (λp a=>j p (by simp[a])) (λp a=>f p (by simp[a]))
theorem Hl{g:Func}{s:ChangeSpec}{W W':World}{args:Array Value}{j i:List (DataW H)}{c:List MemPlace}{b:TypeId}(A:laidOutB P=true)
 (y:(g.params.toList.all λt=>P.readableRec t&&decide (t<P.types.size))=true) (n:s.vars=[])
 (d:DataW.Whole enc P g.params.toList s.vars false W args.toList j i c) (m:s.fn H (j++i)={ results:=[.lit (.bool true)],args:=j })
 (o:g.resultTypes=#[b]) (r:P.underlying b=some .bool) (u:Ext W W'):s.post enc P g false true false false W args (.bool true) W':=by
 have h:=d;obtain⟨p,q,B,f,e,v,z⟩:=d;rw[n]at f;obtain⟨rfl,rfl⟩:=trodVars_none f;have l:=xX u;have k:∀x∈p,x.block<W.heap.size:=λx d=>by
  have:=h.lt x (by rw[e];simp[d]);simpa using this
 have i:∀f:Nat->Bool,(∀x∈c,f x.block=true)->DataW.TrodAll enc P W' 0 f true g.params.toList args.toList j p:=λf b=>
  oC A y B (λx d=>l.same (k x d)) (λx d=>b x (by rw[e];simp[d]))
 have k:∀(b:Nat) (f:Nat->Bool) (q:Bool),DataW.TrodAll enc P W' b f q g.resultTypes.toList ((Value.bool true).resultList g.resultTypes.size) [.lit (.bool true)] []:=λb f q=>by
  rw[o];exact trodAll_mk1 (shut_bool r true)
 have g:∀f:Nat->Bool,DataW.TrodVars enc P W' f s.vars [] []:=λf=>by rw[n];rfl
 have f:∀x∈c,(λb=>decide (b<W.heap.size)) x.block=true:=λx d=>by simpa using h.lt x d
 refine⟨j,[],c,[],p,[],h,?_,?_,?_,World.keptBut_mono (λx d=>⟨d,?_⟩) (l.frame _),λ_=>?_⟩
 ·rw[m];exact k _ _ _
 ·rw[m];exact i _ f
 ·rw[m];exact g _
 ·rw[e,List.mem_append]at d;exact Or.inr d
 ·refine⟨ok_one o F (okWide_bool_mk r true),_,_,([]++p)++[],⟨[]++p,[],trodAll_append (i _ λ_ _=>rfl) (k _ _ _),g _,rfl,?_,?_⟩,?_⟩
  ·intro b f i;have g:MemPlace.cell b f∈c:=by rw[e];simpa using i
   rw[World.frozen?_of_block (w:=W) (a:=⟨b,f,none⟩) (u.mb (show b<W.heap.size from h.lt _ g))];exact v b f g
  ·intro b;have:=z b;rw[e]at this;simpa using this
  ·intro x d _;rw[e];simpa using d
