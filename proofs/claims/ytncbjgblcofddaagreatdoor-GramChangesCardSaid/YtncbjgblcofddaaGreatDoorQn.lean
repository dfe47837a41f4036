/- Joined: Api, Sel, Raj. -/
import Derived.Test.YtncbjgblcofddaaGreatDoorQj
import Derived.Test.YtncbjgblcofddaaGreatDoorQm
/- append of one element of one cell onto a list of the call's own,exactly: the room behind the elements holds zeros. -/
namespace Go.Proofs.YtncbjgblcofddaaGreatDoor
open Go Go.Eng Go.Num Go.Proofs
def Gr1 (e:Nat) (z:Value) (w:World) (v:Value) (m:Nat) (h:Nat→Value):Prop :=
 (m = 0∧v = .slice none 0 0) ∨ ∃ g cap,v = .slice (some ⟨g,0,none⟩) m cap∧m≤cap∧cap < 9223372036854775808∧Blk w g e (arr cap fun k=>if k < m then h k else z)
section
variable {e m:Nat} {z v:Value} {w w':World} {h h':Nat→Value}
theorem Gr1.nil:Gr1 e z w (.slice none 0 0) 0 h:=.inl ⟨rfl,rfl⟩
theorem Gr1.ch {MM:Nat→Prop} (hg:Gr1 e z w v m h) (hC:Ch MM w w') (hn:∀ b,some b = v.ownBlock→¬ MM b):Gr1 e z w' v m h:=by
 rcases hg with hg | ⟨g,cap,rfl,h1,h2,h3⟩
 · exact .inl hg
 · exact .inr ⟨g,cap,rfl,h1,h2,h3.ch hC (hn g rfl)⟩
theorem Gr1.ext (hg:Gr1 e z w v m h) (hE:Ext w w'):Gr1 e z w' v m h:=hg.ch hE (fun _ _=>id)
theorem Gr1.lt (hg:Gr1 e z w v m h) {b:Nat} (hb:some b = v.ownBlock):b < w.heap.size:=by
 rcases hg with ⟨_,rfl⟩ | ⟨g,cap,rfl,h1,h2,h3⟩
 · cases hb
 · injection hb with e; rw [e]; exact h3.lt
theorem Gr1.congr (hg:Gr1 e z w v m h) (he:∀ k,k < m→h k = h' k):Gr1 e z w v m h':=by
 rcases hg with hg | ⟨g,cap,rfl,h1,h2,h3⟩
 · exact .inl hg
 · refine .inr ⟨g,cap,rfl,h1,h2,?_⟩
   rw [arr_congr (h':=fun k=>if k < m then h k else z)]
   · exact h3
   · intro k _
     by_cases hk:k < m
     · rw [if_pos hk,if_pos hk,he k hk]
     · rw [if_neg hk,if_neg hk]
theorem Gr1.slice (hg:Gr1 e z w v m h):∃ A c,v = .slice A m c∧m≤c∧c < 9223372036854775808:=by
 rcases hg with ⟨rfl,rfl⟩ | ⟨g,cap,rfl,h1,h2,h3⟩
 · exact ⟨_,_,rfl,by omega,by omega⟩
 · exact ⟨_,_,rfl,h1,h2⟩
theorem Gr1.at (hg:Gr1 e z w v m h) {k:Nat} (hk:k < m):∃ g cap,v = .slice (some ⟨g,0,none⟩) m cap∧w.cell? ⟨g,0 + k * 1,none⟩ = some (h k):=by
 rcases hg with ⟨rfl,_⟩ | ⟨g,cap,rfl,h1,h2,h3⟩
 · omega
 · exact ⟨g,cap,rfl,by rw [h3.cell,arr_at (by omega),Nat.zero_add,Nat.mul_one,if_pos hk]⟩
theorem Gr1.noU {cap:Nat} (hh:∀ k,k < m→∀ a,h k ≠ .int .u32 a) (hz:∀ a,z ≠ .int .u32 a):NoU (arr cap fun k=>if k < m then h k else z):=by
 intro i a hi
 by_cases hc:i < cap
 · rw [arr_at hc] at hi
   have hi:=Option.some.inj hi
   by_cases hm:i < m
   · rw [if_pos hm] at hi; exact hh i hm a hi
   · rw [if_neg hm] at hi; exact hz a hi
 · rw [Array.getElem?_eq_none (by rw [arr_size]; omega)] at hi; cases hi
end
theorem zeroCells1_at {z:Value} (n k:Nat) (h:k < n):(Builtin.zeroCells #[z] n)[k]? = some z:=by
 simp only [Builtin.zeroCells]
 rw [show (#[z]:Array Value).size = 1 from rfl]
 simp [h,Nat.mod_one]
theorem append_run1 {w:World} {v:Value} {m ty t e bytes:Nat} {z u:Value} {h:Nat→Value} {a:Addr} {c:Nat} (hT:SliceTy Tryz.prog t e 1 bytes z) (hz1:z.oneCell' = true) (hG:Gr1 e z w v m h)
 (h0:w.cell? (a.add 0) = some u) (hu1:u.oneCell' = true) (hm:m < 1048576) (hby0:bytes≤64)
 (hh:∀ k,k < m→∀ a,h k ≠ .int .u32 a) (hz:∀ a,z ≠ .int .u32 a) :
 ∃ v' w',(Builtin.append_ #[t,t] ty #[v,.slice (some a) 1 c]).run Tryz.prog w = .ok v' w'∧Gr1 e z w' v' (m + 1) (fun j=>if j = m then u else h j)∧Kp w w' ∧
  Ch (fun b=>some b = v.ownBlock) w w'∧(v'.ownBlock = v.ownBlock ∨ v'.ownBlock = some w.heap.size):=by
 obtain ⟨hu,hinfo⟩:=hT
 cases hi:Tryz.prog.info? e with
 | none=>rw [hi] at hinfo; simp at hinfo
 | some i =>
  rw [hi] at hinfo
  simp at hinfo
  obtain ⟨hzz,hsz,hby⟩:=hinfo
  have hnews:∀ (j:Nat) (x:Value),([u]:List Value)[j]? = some x→w.cell? (a.add j) = some x:=fun j x hj=>by
   match j,hj with
   | 0,hj=>simp at hj; rw [← hj]; exact h0
  have hc:maxLen = 9223372036854775807:=rfl
  have hzc:z.cells = #[z]:=oneCell_cells hz1
  have hbb:∀ q,q≤1048577→q * i.bytes≤140737488355328:=fun q hq=>by
   rw [hby]
   exact Nat.le_trans (Nat.mul_le_mul hq hby0) (by decide)
  rcases hG with ⟨rfl,rfl⟩ | ⟨g,cap,rfl,hmc,hcap,hB⟩
  · have hr:=run_append_nil (P:=Tryz.prog) w t ty e i _ hu hi hzz a 1 c [u] (by rw [hsz]; rfl) hnews (by omega) (by omega) (by have:=hbb 1 (by omega); omega)
    rw [hzc] at hr
    have hge:=grownCap_ge w 1 0 e
    have hle:=grownCap_le_maxLen w 1 0 e (by rw [hc]; omega)
    have hE:=ext_drew w (.cells ([u].toArray ++ Builtin.zeroCells #[z] (grownCap w 1 0 e - 1)) e)
    refine ⟨_,_,hr,.inr ⟨w.heap.size,_,rfl,by omega,by omega,?_⟩,kp_ext hE,hE.mono (fun _ _ h=>h.elim),.inr rfl⟩
    have hb:Blk (w.drew.alloc (.cells ([u].toArray ++ Builtin.zeroCells #[z] (grownCap w 1 0 e - 1)) e)) w.heap.size e ([u].toArray ++ Builtin.zeroCells #[z] (grownCap w 1 0 e - 1)):=heap_alloc_new w.drew _
    have e1:([u].toArray ++ Builtin.zeroCells #[z] (grownCap w 1 0 e - 1)) = arr (grownCap w 1 0 e) fun k=>if k < 0 + 1 then (if k = 0 then u else h k) else z:=by
     apply Array.ext_getElem?
     intro k
     by_cases hk:k < grownCap w 1 0 e
     · rw [arr_at hk]
       by_cases hk0:k = 0
       · subst hk0; rw [Array.getElem?_append_left (by simp)]; rfl
       · rw [Array.getElem?_append_right (by simp; omega),if_neg (by omega),zeroCells1_at _ _ (by simp; omega)]
     · rw [Array.getElem?_eq_none (by rw [Array.size_append,size_zeroCells]; simp; omega),Array.getElem?_eq_none (by rw [arr_size]; omega)]
    rw [e1] at hb
    rw [e1]
    exact hb
  · by_cases hroom:m + 1≤cap
    · have hr:=run_append_room (P:=Tryz.prog) w t ty e i hu hi g m cap _ hB a 1 c [u] (by rw [hsz]; rfl) hnews (fun x hx=>by
       rcases List.mem_cons.1 hx with rfl | hx
       · exact hu1
       · cases hx) hroom (by rw [hsz,arr_size]; simp; exact hroom)
      rw [hsz] at hr
      have hcs:((arr cap fun k=>if k < m then h k else z).toList.take (m * 1) ++ [u] ++ (arr cap fun k=>if k < m then h k else z).toList.drop (m * 1 + [u].length)).toArray = arr cap (fun k=>if k < m + 1 then (if k = m then u else h k) else z):=by
       apply Array.ext_getElem?
       intro k
       rw [Nat.mul_one]
       by_cases hk:k < cap
       · rw [arr_at hk]
         simp only [List.getElem?_toArray]
         rcases Nat.lt_or_ge k m with h1 | h1
         · rw [List.append_assoc,List.getElem?_append_left (by simp [arr]; omega),if_pos (by omega),if_neg (by omega)]
           simp [arr,h1,hk]
         · have hmin:min m cap = m:=by omega
           rcases Nat.lt_or_ge k (m + 1) with h2 | h2
           · obtain rfl:k = m:=by omega
             rw [List.getElem?_append_left (by simp [arr]; omega),List.getElem?_append_right (by simp [arr]; omega)]
             simp only [List.length_take,arr,Array.length_toList,Array.size_map,Array.size_range,hmin]
             rw [Nat.sub_self,if_pos (by omega)]; rfl
           · rw [List.getElem?_append_right (by simp [arr]; omega),if_neg (by omega)]
             simp only [List.length_append,List.length_take,arr,Array.length_toList,Array.size_map,Array.size_range,hmin,List.length_cons,List.length_nil,List.getElem?_drop]
             rw [show m + (0 + 1) + (k - (m + (0 + 1))) = k by omega]
             simp [hk]; omega
       · rw [Array.getElem?_eq_none (by simp [arr]; omega),Array.getElem?_eq_none (by rw [arr_size]; omega)]
      rw [hcs] at hr
      have hk:=kp_ch hB (Gr1.noU hh hz) (ch_setRow w g (arr cap (fun k=>if k < m + 1 then (if k = m then u else h k) else z)))
      exact ⟨_,_,hr,.inr ⟨g,cap,rfl,hroom,hcap,setRow_heap w g _ _ _ _ hB⟩,hk,(ch_setRow w g _).mono (fun b _ hb=>by rw [hb]; rfl),.inl rfl⟩
    · obtain rfl:m = cap:=by omega
      have hr:=run_append_grow (P:=Tryz.prog) w t ty e i _ hu hi hzz ⟨g,0,none⟩ m m ((List.range m).map h) (by rw [hsz]; simp) (fun j x hj=>by
       rw [add_lit,hB.cell,Nat.zero_add]
       by_cases hjm:j < m
       · rw [arr_at hjm,if_pos hjm]; simpa [hjm] using hj
       · rw [List.getElem?_eq_none (by simp; omega)] at hj; cases hj) a 1 c [u] (by rw [hsz]; rfl) hnews (by omega) (by omega) (growslice_fits (by omega) (hbb _ (by omega)))
      rw [hzc] at hr
      have hge:=grownCap_ge w (m + 1) m e
      have hle:=grownCap_le_maxLen w (m + 1) m e (by rw [hc]; omega)
      have hE:=ext_drew w (.cells (((List.range m).map h).toArray ++ [u].toArray ++ Builtin.zeroCells #[z] (grownCap w (m + 1) m e - (m + 1))) e)
      refine ⟨_,_,hr,.inr ⟨w.heap.size,_,rfl,by omega,by omega,?_⟩,kp_ext hE,hE.mono (fun _ _ h=>h.elim),.inr rfl⟩
      have hb:Blk (w.drew.alloc (.cells (((List.range m).map h).toArray ++ [u].toArray ++ Builtin.zeroCells #[z] (grownCap w (m + 1) m e - (m + 1))) e)) w.heap.size e (((List.range m).map h).toArray ++ [u].toArray ++ Builtin.zeroCells #[z] (grownCap w (m + 1) m e - (m + 1))):=heap_alloc_new w.drew _
      have e1:(((List.range m).map h).toArray ++ [u].toArray ++ Builtin.zeroCells #[z] (grownCap w (m + 1) m e - (m + 1))) = arr (grownCap w (m + 1) m e) fun k=>if k < m + 1 then (if k = m then u else h k) else z:=by
       apply Array.ext_getElem?
       intro k
       by_cases hk:k < grownCap w (m + 1) m e
       · rw [arr_at hk]
         rcases Nat.lt_or_ge k m with h1 | h1
         · rw [Array.getElem?_append_left (by simp; omega),Array.getElem?_append_left (by simp; omega),if_pos (by omega),if_neg (by omega)]
           simp [h1]
         · rcases Nat.lt_or_ge k (m + 1) with h2 | h2
           · obtain rfl:k = m:=by omega
             rw [Array.getElem?_append_left (by simp),Array.getElem?_append_right (by simp),if_pos (by omega),if_pos rfl]
             simp
           · rw [Array.getElem?_append_right (by simp; omega),if_neg (by omega),zeroCells1_at _ _ (by simp; omega)]
       · rw [Array.getElem?_eq_none (by rw [Array.size_append,size_zeroCells]; simp; omega),Array.getElem?_eq_none (by rw [arr_size]; omega)]
      rw [e1] at hb
      rw [e1]
      exact hb
theorem R1_app1 {n:Nat} {S:World→World→Prop} {k:Nat} {K:Fr→World→Prop} {f:Fr} {w:World} {d ty:Nat} {xo yo:Operand} {pos:String} {aft:Array Edge} {gd:Option (Nat × Bool)}
 {v:Value} {m c t e bytes:Nat} {z u:Value} {h:Nat→Value} {a:Addr} (hT:SliceTy Tryz.prog t e 1 bytes z) (hz1:z.oneCell' = true)
 (hk:k = 2 ∨ k = 1∧∀ w',Ch (fun b=>some b = v.ownBlock) w w'→S w w') (hx:ev n f xo = v) (hy:ev n f yo = .slice (some a) 1 c) (hG:Gr1 e z w v m h)
 (h0:w.cell? (a.add 0) = some u) (hu1:u.oneCell' = true) (hm:m < 1048576) (hby0:bytes≤64)
 (hh:∀ k,k < m→∀ a,h k ≠ .int .u32 a) (hz:∀ a,z ≠ .int .u32 a)
 (hK:∀ v' w',Gr1 e z w' v' (m + 1) (fun j=>if j = m then u else h j)→Kp w w'→Ch (fun b=>some b = v.ownBlock) w w'→(v'.ownBlock = v.ownBlock ∨ v'.ownBlock = some w.heap.size)→K (upd f d v') w') :
 R1 Tryz.prog n S k ⟨some d,.call { callee:=.builtin .append,args:=#[xo,yo],argTypes:=#[t,t] },ty,pos,aft,gd⟩ K f w:=by
 obtain ⟨v',w',hrun,h2,h3,h4,h5⟩:=append_run1 (ty:=ty) (c:=c) hT hz1 hG h0 hu1 hm hby0 hh hz
 refine R1_loud (w':=w') (v:=v') (hk.imp id fun h=>⟨h.1,h.2 _ h4⟩) ?_ (hK v' w' h2 h3 h4 h5)
 simp only [execOp,resolve,invoke,builtin,Sem.run_bind,Sem.run_pure,Result.andThen_ok,List.map_toArray,List.map_cons,List.map_nil,hx,hy,hrun]
end Go.Proofs.YtncbjgblcofddaaGreatDoor
namespace Go.Proofs.YtncbjgblcofddaaGreatDoor
open Go Go.Eng Go.Num Go.Proofs
def IntsE (w:World) (v:Value) (c:Nat) (g:Nat→Int):Prop :=
 ∃ A cap,v = .slice A c cap∧c≤cap∧cap < 9223372036854775808∧∀ j,j < c→∃ ad,A = some ad∧w.cell? (ad.add (j * 1)) = some (.int .i64 (g j))
def IntsN (w:World) (v:Value) (c:Nat) (g:Nat→Nat):Prop:=IntsE w v c fun k=>((g k:Nat):Int)
theorem IntsE.ext {w w':World} {v:Value} {c:Nat} {g:Nat→Int} (h:IntsE w v c g) (hE:Ext w w'):IntsE w' v c g:=by
 obtain ⟨A,cap,e,h1,h2,h3⟩:=h
 refine ⟨A,cap,e,h1,h2,fun j hj=>?_⟩
 obtain ⟨ad,e,hc⟩:=h3 j hj
 exact ⟨ad,e,cell_ext hE hc⟩
theorem IntsN.ext {w w':World} {v:Value} {c:Nat} {g:Nat→Nat} (h:IntsN w v c g) (hE:Ext w w'):IntsN w' v c g:=IntsE.ext h hE
theorem GrowB.rowE {w:World} {v:Value} {m N:Nat} {cn:Bool} {M:Nat→Int} (h:GrowB w v m cn N M):RowE (EI N) w v m M:=by
 rcases h with ⟨rfl,rfl⟩ | ⟨g,cap,rfl,h1,h2,h3⟩
 · exact ⟨_,_,rfl,Nat.le_refl _,by omega,fun j hj=>absurd hj (by omega)⟩
 · refine ⟨_,_,rfl,h1,h2,fun j hj=>?_⟩
   obtain ⟨x,y,e1,e2,hv⟩:=h3.at (j:=j) (by omega)
   unfold cutR at hv
   rw [if_pos hj] at hv
   exact ⟨_,x,y,rfl,by rw [add_lit]; exact e1,by rw [add_lit]; exact e2,hv.1⟩
theorem GrowB.rowC {w:World} {v:Value} {m N:Nat} {M:Nat→Int} (h:GrowB w v m true N M):RowE (EC N) w v m M:=by
 rcases h with ⟨rfl,rfl⟩ | ⟨g,cap,rfl,h1,h2,h3⟩
 · exact ⟨_,_,rfl,Nat.le_refl _,by omega,fun j hj=>absurd hj (by omega)⟩
 · refine ⟨_,_,rfl,h1,h2,fun j hj=>?_⟩
   obtain ⟨x,y,e1,e2,hv⟩:=h3.at (j:=j) (by omega)
   unfold cutR at hv
   rw [if_pos hj] at hv
   exact ⟨_,x,y,rfl,by rw [add_lit]; exact e1,by rw [add_lit]; exact e2,hv.2 rfl,hv.bd⟩
theorem gr_mat {e:Nat} {z v:Value} {w:World} {r c N:Nat} {cn:Bool} {rv:Nat→Value} {M:Nat→Nat→Int} (hg:Gr1 e z w v r rv) (hr:∀ k,k < r→GrowB w (rv k) c cn N (M k)):MatE (EI N) w v r (fun _=>c) M:=by
 obtain ⟨A,cp,rfl,h1,h2⟩:=hg.slice
 refine ⟨A,cp,rfl,h1,h2,fun i hi=>?_⟩
 obtain ⟨g,cap,e,hc⟩:=hg.at hi
 injection e with e _ _
 exact ⟨_,rv i,e,by rw [add_lit,hc],(hr i hi).rowE⟩
set_option maxHeartbeats 16000000 in
theorem rselect_ok (v vr vc:Value) (r c nr nc N:Nat) (rs cs:Nat→Nat) (M:Nat→Nat→Int) (w:World) (h:MatE (EI N) w v r (fun _=>c) M) (hr:IntsN w vr nr rs) (hc:IntsN w vc nc cs) (h1:∀ k,k < nr→rs k < r) (h2:∀ k,k < nc→cs k < c) (hnr:nr≤1000000) (hnc:nc≤1000000) :
 Meets Tryz.prog 142 #[v,vr,vc] w fun u w'=>Ext w w'∧MatE (EI N) w' u nr (fun _=>nc) (fun i j=>M (rs i) (cs j)):=by
 obtain ⟨A,cap,rfl,hrc,hcap,hrow⟩:=h
 obtain ⟨Ar,cr,rfl,hr1,hr2,hr3⟩:=hr
 obtain ⟨Ac,cc,rfl,hc1,hc2,hc3⟩:=hc
 refine fn_W (n:=42) Tryz.func142 rfl rfl (by kernel_rfl) (by simp) ?_
 refine gg ?_
 refine W_seqM (fun f w'=>∃ v,f 7 = v∧Ext w w'∧MatE (EI N) w' v nr (fun _=>nc) (fun i j=>M (rs i) (cs j))) ?_ ?_
 · refine gg ?_
   refine W_loop (fun m f w'=>∃ i vO rv,m = nr - i∧i≤nr∧f 0 = .slice A r cap∧f 2 = .slice Ac nc cc∧f 7 = vO∧f 13 = .slice Ar nr cr∧f 14 = .int .i64 ((nr:Nat):Int)∧f 15 = .int .i64 ((i:Nat):Int)∧Ext w w'∧Gr1 46 (.slice none 0 0) w' vO i rv∧(∀ k,k < i→GrowB w' (rv k) nc false N (fun j=>M (rs k) (cs j))) ∧
    (∀ k,k < i→∀ b,some b = (rv k).ownBlock→w.heap.size≤b∧some b ≠ vO.ownBlock)∧∀ b,some b = vO.ownBlock→w.heap.size≤b)
    nr ⟨0,.slice none 0 0,fun _=>undef,rfl,Nat.zero_le _,rfl,rfl,rfl,rfl,rfl,rfl,Ext.refl _,Gr1.nil,fun k hk=>absurd hk (by omega),fun k hk=>absurd hk (by omega),fun b hb=>by cases hb⟩ ?_
   rintro m f w1 ⟨i,vO,rv,rfl,hi,hf0,hf2,hf7,hf13,hf14,hf15,hE,hO,hrv,hsep,hown⟩
   rw [ui hf0,ui hf2,ui hf7,ui hf13,ui hf14,ui hf15]
   clear hf0 hf2 hf7 hf13 hf14 hf15
   by_cases hlt:i < nr
   · obtain ⟨ar,rfl,har⟩:=hr3 i hlt
     have har1:=cell_ext hE har
     refine gg ?_
     refine W_seqM (fun f w'=>∃ vR,f 0 = .slice A r cap∧f 2 = .slice Ac nc cc∧f 7 = vO∧f 13 = .slice (some ar) nr cr∧f 14 = .int .i64 ((nr:Nat):Int)∧f 15 = .int .i64 ((i:Nat):Int)∧f 10 = vR∧Ext w w'∧Gr1 46 (.slice none 0 0) w' vO i rv∧(∀ k,k < i→GrowB w' (rv k) nc false N (fun j=>M (rs k) (cs j))) ∧
      GrowB w' vR nc false N (fun q=>M (rs i) (cs q))∧(∀ b,some b = vR.ownBlock→w.heap.size≤b∧some b ≠ vO.ownBlock∧∀ k,k < i→some b ≠ (rv k).ownBlock)) ?_ ?_
     · refine gg ?_
       refine W_loop (fun m f w'=>∃ j vR,m = nc - j∧j≤nc∧f 0 = .slice A r cap∧f 2 = .slice Ac nc cc∧f 7 = vO∧f 13 = .slice (some ar) nr cr∧f 14 = .int .i64 ((nr:Nat):Int)∧f 15 = .int .i64 ((i:Nat):Int)∧f 9 = .int .i64 ((rs i:Nat):Int)∧f 10 = vR∧f 19 = .slice Ac nc cc∧f 20 = .int .i64 ((nc:Nat):Int)∧f 21 = .int .i64 ((j:Nat):Int)∧Ext w w'∧Gr1 46 (.slice none 0 0) w' vO i rv∧(∀ k,k < i→GrowB w' (rv k) nc false N (fun j=>M (rs k) (cs j))) ∧
        GrowB w' vR j false N (fun q=>M (rs i) (cs q))∧(∀ b,some b = vR.ownBlock→w.heap.size≤b∧some b ≠ vO.ownBlock∧∀ k,k < i→some b ≠ (rv k).ownBlock))
        nc ⟨0,.slice none 0 0,rfl,Nat.zero_le _,rfl,rfl,rfl,rfl,rfl,rfl,rfl,rfl,rfl,rfl,rfl,hE,hO,hrv,GrowB.nil,fun b hb=>by cases hb⟩ ?_
       clear hE hO hrv har1 w1
       rintro m f w1 ⟨j,vR,rfl,hj,hf0,hf2,hf7,hf13,hf14,hf15,hf9,hf10,hf19,hf20,hf21,hE,hO,hrv,hG,hR⟩
       rw [ui hf0,ui hf2,ui hf7,ui hf13,ui hf14,ui hf15,ui hf9,ui hf10,ui hf19,ui hf20,ui hf21]
       clear hf0 hf2 hf7 hf13 hf14 hf15 hf9 hf10 hf19 hf20 hf21
       by_cases hjl:j < nc
       · obtain ⟨ac,rfl,hac⟩:=hc3 j hjl
         have hac1:=cell_ext hE hac
         have hri:=h1 i hlt
         have hcj:=h2 j hjl
         obtain ⟨ad,u,rfl,hx,hru⟩:=hrow (rs i) hri
         obtain ⟨Ai,capi,rfl,hci,hcapi,hent⟩:=id hru
         obtain ⟨ad',x,y,rfl,hx0,hy0,hv⟩:=hent (cs j) hcj
         have hx1:=cell_ext hE hx
         replace hx0:=cell_ext hE hx0
         replace hy0:=cell_ext hE hy0
         replace hv:IV w1 N x y (M (rs i) (cs j)):=IV.ext hv hE
         refine gg ?_
         refine R1_sliceE1 (.inl rfl) rfl ?_
         intro w6 hB6 hE6 hs6
         obtain ⟨p1,p2⟩:=blkP hB6
         refine gg ?_
         refine R1_appE (.inl rfl) rfl rfl (hG.ext hE6) p1 p2 ⟨hv.ext hE6,fun e=>by cases e⟩ (by omega) ?_
         intro v' w7 hG7 hk7 hC7 hv7
         have hG7:GrowB w7 v' (j + 1) false N (fun q=>M (rs i) (cs q)):=hG7.congr fun q _=>by
          split
          · rename_i e; rw [e]
          · rfl
         have hEs:=hE.size
         refine gg ?_
         refine ⟨_,?_,j + 1,v',rfl,by omega,rfl,rfl,rfl,rfl,rfl,rfl,rfl,rfl,rfl,rfl,rfl,hC7.ext_of (hE.trans hE6) (fun b hb=>(hR b hb).1),(hO.ext hE6).ch hC7 (fun b hb e=>(hR b e).2.1 hb),fun k hk=>((hrv k hk).ext hE6).kp hk7 hC7 (fun b hb e=>(hR b e).2.2 k hk hb),hG7,fun b hb=>?_⟩
         · omega
         · rcases hv7 with e | e
           · rw [e] at hb; exact hR b hb
           · rw [e] at hb
             injection hb with hb
             have h6:=hE6.size
             refine ⟨by omega,fun hb'=>?_,fun k hk hb'=>?_⟩
             · have:=(hO.ext hE6).lt hb'; omega
             · have:=((hrv k hk).ext hE6).lt hb'; omega
       · obtain rfl:j = nc:=by omega
         refine gg ?_
         exact ⟨vR,rfl,rfl,rfl,rfl,rfl,rfl,rfl,hE,hO,hrv,hG,hR⟩
     clear hE hO hrv har1 w1
     rintro f w1 ⟨vR,hf0,hf2,hf7,hf13,hf14,hf15,hf10,hE,hO,hrv,hG,hR⟩
     rw [ui hf0,ui hf2,ui hf7,ui hf13,ui hf14,ui hf15,ui hf10]
     clear hf0 hf2 hf7 hf13 hf14 hf15 hf10
     obtain ⟨A',c',e⟩:=hG.slice
     refine gg ?_
     refine R1_build1 (v0:=vR) sl_sInt rfl (.inl rfl) rfl (by rw [e]; rfl) ?_
     intro w2 hB2 hE2 hs2
     have hc2:=blkS hB2
     refine gg ?_
     refine R1_app1 sl_sInt rfl (.inl rfl) rfl rfl (hO.ext hE2) hc2 (by rw [e]; rfl) (by omega) (by decide) (fun k hk a=>by obtain ⟨A,c,e⟩:=(hrv k hk).slice; rw [e]; simp) (fun _=>by simp) ?_
     intro v' w3 hG3 hk3 hC3 hv3
     have hEs:=hE.size
     have h2s:=hE2.size
     refine gg ?_
     refine ⟨_,?_,i + 1,v',fun q=>if q = i then vR else rv q,rfl,by omega,rfl,rfl,rfl,rfl,rfl,rfl,hC3.ext_of (hE.trans hE2) hown,hG3,fun k hk=>?_,fun k hk b hb=>?_,fun b hb=>?_⟩
     · omega
     · by_cases ek:k = i
       · subst ek
         simp only [if_true]
         exact (hG.ext hE2).kp hk3 hC3 (fun b hb e=>(hR b hb).2.1 e)
       · simp only [if_neg ek]
         exact ((hrv k (by omega)).ext hE2).kp hk3 hC3 (fun b hb e=>(hsep k (by omega) b hb).2 e)
     · have key:w.heap.size≤b∧some b ≠ vO.ownBlock∧b < w2.heap.size:=by
        by_cases ek:k = i
        · simp only [if_pos ek] at hb
          exact ⟨(hR b hb).1,(hR b hb).2.1,(hG.ext hE2).lt hb⟩
        · simp only [if_neg ek] at hb
          have:=hsep k (by omega) b hb
          exact ⟨this.1,this.2,((hrv k (by omega)).ext hE2).lt hb⟩
       refine ⟨key.1,fun hb'=>?_⟩
       rcases hv3 with e | e
       · rw [e] at hb'; exact key.2.1 hb'
       · rw [e] at hb'; injection hb' with hb'; omega
     · rcases hv3 with e | e
       · rw [e] at hb; exact hown b hb
       · rw [e] at hb; injection hb with hb; omega
   · refine gg ?_
     obtain rfl:i = nr:=by omega
     exact ⟨vO,rfl,hE,gr_mat hO hrv⟩
 rintro f w1 ⟨v,hf7,hE,hI⟩
 rw [ui hf7]
 clear hf7
 refine gg ?_
 exact ret1 rfl rfl ⟨hE,hI⟩
end Go.Proofs.YtncbjgblcofddaaGreatDoor
namespace Go.Proofs.YtncbjgblcofddaaGreatDoor
open Go Go.Eng Go.Num Go.Proofs
theorem Nb_le16 (N k:Nat) (hk:k≤16):Nb N k≤Nb N 16:=by
 have hmono:∀ d k,Nb N k≤Nb N (k + d):=fun d=>by
  induction d with
  | zero=>intro k; exact Nat.le_refl _
  | succ d ih=>intro k; exact Nat.le_trans (ih k) (Nb_mono N (k + d))
 have:=hmono (16 - k) k
 rwa [show k + (16 - k) = 16 by omega] at this
end Go.Proofs.YtncbjgblcofddaaGreatDoor
