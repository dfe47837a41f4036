/- Joined: Ape, Gma, Cpy, Rdt. -/
import Derived.Test.YtncbjgblcofddaaGreatDoorQd
import Derived.Test.YtncbjgblcofddaaGreatDoorQf
/- append of one Int onto a row of the call's own. -/
namespace Go.Proofs.YtncbjgblcofddaaGreatDoor
open Go Go.Eng Go.Num Go.Proofs
def cutR (m:Nat) (M:Nat→Int):Nat→Int:=fun j=>if j < m then M j else 0
def GrowB (w:World) (v:Value) (m:Nat) (cn:Bool) (N:Nat) (M:Nat→Int):Prop :=
 (m = 0∧v = .slice none 0 0) ∨ ∃ g cap,v = .slice (some ⟨g,0,none⟩) m cap∧m≤cap∧cap < 9223372036854775808∧RowB w g cap cn (fun _=>N) (cutR m M)
theorem arr_of {cs:Array Value} {n:Nat} (h:cs.size = n):cs = arr n (fun k=>(cs[k]?).getD undef):=by
 apply Array.ext_getElem?
 intro i
 by_cases hi:i < n
 · rw [arr_at hi]
   have:cs[i]? = some cs[i]:=Array.getElem?_eq_getElem (by omega)
   rw [this]; rfl
 · rw [Array.getElem?_eq_none (by omega),Array.getElem?_eq_none (by rw [arr_size]; omega)]
theorem EV.zero (w:World) (N:Nat) (cn:Bool):EV w N cn (.bool false) (.slice none 0 0) 0:=(CV.zero w).ev cn (by unfold Bd; exact B_pos N)
theorem zeroCells_at (n k:Nat) (h:k < n * 2):(Builtin.zeroCells #[Value.bool false,Value.slice none 0 0] n)[k]? = some (if k % 2 = 0 then .bool false else .slice none 0 0):=by
 have hm:=Nat.mod_lt k (show 0 < 2 by decide)
 simp only [Builtin.zeroCells]
 rw [show (#[Value.bool false,Value.slice none 0 0]:Array Value).size = 2 from rfl]
 simp [h]
 rcases Nat.mod_two_eq_zero_or_one k with e | e <;> simp [e]
theorem rowB_of {w:World} {g cap m N:Nat} {cn:Bool} {M:Nat→Int} {cs:Array Value} (hb:Blk w g 41 cs) (hs:cs.size = cap * 2)
 (h1:∀ j,j < m→∃ x y,cs[j * 2]? = some x∧cs[j * 2 + 1]? = some y∧EV w N cn x y (M j))
 (h2:∀ j,m≤j→j < cap→cs[j * 2]? = some (.bool false)∧cs[j * 2 + 1]? = some (.slice none 0 0)):RowB w g cap cn (fun _=>N) (cutR m M):=by
 refine ⟨fun k=>(cs[k]?).getD undef,by rw [← arr_of hs]; exact hb,fun j hj=>?_⟩
 unfold cutR
 by_cases hjm:j < m
 · obtain ⟨x,y,e1,e2,hv⟩:=h1 j hjm
   rw [if_pos hjm]
   show EV w N cn ((cs[j * 2]?).getD undef) ((cs[j * 2 + 1]?).getD undef) (M j)
   rw [e1,e2]; exact hv
 · obtain ⟨e1,e2⟩:=h2 j (by omega) hj
   rw [if_neg hjm]
   show EV w N cn ((cs[j * 2]?).getD undef) ((cs[j * 2 + 1]?).getD undef) 0
   rw [e1,e2]; exact EV.zero _ _ _
theorem ext_drew (w:World) (o:Obj):Ext w (w.drew.alloc o):=⟨rfl,rfl,rfl,by simp,fun _ hb _=>heap_alloc_old w.drew _ hb⟩
theorem zc_at (n k:Nat) (h:k < n):(Builtin.zeroCells #[Value.bool false,Value.slice none 0 0] n)[k * 2]? = some (.bool false)∧(Builtin.zeroCells #[Value.bool false,Value.slice none 0 0] n)[k * 2 + 1]? = some (.slice none 0 0):=by
 rw [zeroCells_at n (k * 2) (by omega),zeroCells_at n (k * 2 + 1) (by omega),if_pos (by omega),if_neg (by omega)]
 exact ⟨rfl,rfl⟩
theorem grown_row {w:World} {g m K N:Nat} {cn:Bool} {M:Nat→Int} {olds:List Value} {x y:Value} {z:Int} (hb:Blk w g 41 (olds.toArray ++ [x,y].toArray ++ Builtin.zeroCells #[Value.bool false,Value.slice none 0 0] K)) (hl:olds.length = m * 2)
 (ho:∀ j,j < m→∃ x y,olds[j * 2]? = some x∧olds[j * 2 + 1]? = some y∧EV w N cn x y (M j)) (hv:EV w N cn x y z):RowB w g (m + 1 + K) cn (fun _=>N) (cutR (m + 1) fun j=>if j = m then z else M j):=by
 refine rowB_of hb ?_ (fun j hj=>?_) (fun j hj hj2=>?_)
 · rw [Array.size_append,Array.size_append,size_zeroCells]
   simp only [List.size_toArray,List.length_cons,List.length_nil,hl]
   omega
 · by_cases e:j = m
   · subst e
     refine ⟨x,y,?_,?_,by rw [if_pos rfl]; exact hv⟩
     · rw [Array.getElem?_append_left (by simp [hl]),Array.getElem?_append_right (by simp [hl])]
       simp [hl]
     · rw [Array.getElem?_append_left (by simp [hl]),Array.getElem?_append_right (by simp [hl])]
       simp [hl]
   · obtain ⟨x',y',e1,e2,hv'⟩:=ho j (by omega)
     refine ⟨x',y',?_,?_,by rw [if_neg e]; exact hv'⟩
     · rw [Array.getElem?_append_left (by simp [hl]; omega),Array.getElem?_append_left (by simp [hl]; omega)]
       simpa using e1
     · rw [Array.getElem?_append_left (by simp [hl]; omega),Array.getElem?_append_left (by simp [hl]; omega)]
       simpa using e2
 · obtain ⟨e1,e2⟩:=zc_at K (j - (m + 1)) (by omega)
   rw [Array.getElem?_append_right (by simp [hl]; omega),Array.getElem?_append_right (by simp [hl]; omega)]
   rw [show j * 2 - (olds.toArray ++ [x,y].toArray).size = (j - (m + 1)) * 2 by simp [hl]; omega,show j * 2 + 1 - (olds.toArray ++ [x,y].toArray).size = (j - (m + 1)) * 2 + 1 by simp [hl]; omega]
   exact ⟨e1,e2⟩
theorem append_run {w:World} {v:Value} {m N ty:Nat} {cn:Bool} {M:Nat→Int} {a:Addr} {c:Nat} {x y:Value} {z:Int} (hG:GrowB w v m cn N M)
 (h0:w.cell? (a.add 0) = some x) (h1:w.cell? (a.add 1) = some y) (hv:EV w N cn x y z) (hm:m < 1099511627776) :
 ∃ v' w',(Builtin.append_ #[46,46] ty #[v,.slice (some a) 1 c]).run Tryz.prog w = .ok v' w'∧GrowB w' v' (m + 1) cn N (fun j=>if j = m then z else M j)∧Kp w w' ∧
  Ch (fun b=>some b = v.ownBlock) w w'∧(v'.ownBlock = v.ownBlock ∨ v'.ownBlock = some w.heap.size):=by
 obtain ⟨hu,hinfo⟩:=sl_Int
 cases hi:Tryz.prog.info? 41 with
 | none=>rw [hi] at hinfo; simp at hinfo
 | some i =>
  rw [hi] at hinfo
  simp at hinfo
  obtain ⟨hz,hsz,hby⟩:=hinfo
  have hnews:∀ (j:Nat) (u:Value),([x,y]:List Value)[j]? = some u→w.cell? (a.add j) = some u:=fun j u hj=>by
   match j,hj with
   | 0,hj=>simp at hj; rw [← hj]; exact h0
   | 1,hj=>simp at hj; rw [← hj]; exact h1
  have hc:maxLen = 9223372036854775807:=rfl
  have hzc:(Value.agg #[Value.bool false,Value.slice none 0 0]).cells = #[Value.bool false,Value.slice none 0 0]:=rfl
  rcases hG with ⟨rfl,rfl⟩ | ⟨g,cap,rfl,hmc,hcap,hR⟩
  · have hr:=run_append_nil (P:=Tryz.prog) w 46 ty 41 i _ hu hi hz a 1 c [x,y] (by rw [hsz]; rfl) hnews (by omega) (by omega) (by rw [hby]; omega)
    rw [hzc] at hr
    have hge:=grownCap_ge w 1 0 41
    have hle:=grownCap_le_maxLen w 1 0 41 (by rw [hc]; omega)
    have hE:=ext_drew w (.cells ([x,y].toArray ++ Builtin.zeroCells #[Value.bool false,Value.slice none 0 0] (grownCap w 1 0 41 - 1)) 41)
    have hg:=grown_row (w:=w.drew.alloc (.cells ([x,y].toArray ++ Builtin.zeroCells #[Value.bool false,Value.slice none 0 0] (grownCap w 1 0 41 - 1)) 41)) (g:=w.heap.size) (m:=0) (K:=grownCap w 1 0 41 - 1) (N:=N) (cn:=cn) (M:=M) (olds:=[]) (x:=x) (y:=y) (z:=z) (by
     rw [show ([]:List Value).toArray ++ [x,y].toArray = [x,y].toArray by simp]; exact heap_alloc_new w.drew _) rfl (fun j hj=>absurd hj (by omega)) (hv.kp (kp_ext hE))
    rw [show 0 + 1 + (grownCap w 1 0 41 - 1) = grownCap w 1 0 41 by omega] at hg
    exact ⟨_,_,hr,.inr ⟨w.heap.size,_,rfl,by omega,by omega,hg⟩,kp_ext hE,hE.mono (fun _ _ h=>h.elim),.inr rfl⟩
  · obtain ⟨hh,hB,hcc⟩:=hR
    have hold:∀ j,j < m→EV w N cn (hh (j * 2)) (hh (j * 2 + 1)) (M j):=fun j hj=>by
     have:=hcc j (by omega)
     unfold cutR at this
     rw [if_pos hj] at this
     exact this
    by_cases hroom:m + 1≤cap
    · have hr:=run_append_room (P:=Tryz.prog) w 46 ty 41 i hu hi g m cap (arr (cap * 2) hh) hB a 1 c [x,y] (by rw [hsz]; rfl) hnews (fun u hu=>by
       rcases List.mem_cons.1 hu with rfl | hu
       · exact hv.1.one0
       · rcases List.mem_cons.1 hu with rfl | hu
         · exact hv.1.one1
         · cases hu) hroom (by rw [hsz,arr_size]; simp; omega)
      rw [hsz] at hr
      have hcs:((arr (cap * 2) hh).toList.take (m * 2) ++ [x,y] ++ (arr (cap * 2) hh).toList.drop (m * 2 + [x,y].length)).toArray = arr (cap * 2) (fun k=>if k = m * 2 then x else if k = m * 2 + 1 then y else hh k):=by
       apply Array.ext_getElem?
       intro k
       by_cases hk:k < cap * 2
       · rw [arr_at hk]
         simp only [List.getElem?_toArray]
         rcases Nat.lt_or_ge k (m * 2) with h1 | h1
         · rw [List.append_assoc,List.getElem?_append_left (by simp [arr]; omega),if_neg (by omega),if_neg (by omega)]
           simp [arr,h1,hk]
         · rcases Nat.lt_or_ge k (m * 2 + 2) with h2 | h2
           · rw [List.getElem?_append_left (by simp [arr]; omega),List.getElem?_append_right (by simp [arr]; omega)]
             have hmin:min (m * 2) (cap * 2) = m * 2:=by omega
             simp only [List.length_take,arr,Array.length_toList,Array.size_map,Array.size_range,hmin]
             rcases Nat.lt_or_ge k (m * 2 + 1) with h3 | h3
             · obtain rfl:k = m * 2:=by omega
               rw [if_pos rfl,Nat.sub_self]; rfl
             · obtain rfl:k = m * 2 + 1:=by omega
               rw [if_neg (by omega),if_pos rfl,show m * 2 + 1 - m * 2 = 1 by omega]; rfl
           · rw [List.getElem?_append_right (by simp [arr]; omega),if_neg (by omega),if_neg (by omega)]
             have hmin:min (m * 2) (cap * 2) = m * 2:=by omega
             simp only [List.length_append,List.length_take,arr,Array.length_toList,Array.size_map,Array.size_range,hmin,List.length_cons,List.length_nil,List.getElem?_drop]
             rw [show m * 2 + (0 + 1 + 1) + (k - (m * 2 + (0 + 1 + 1))) = k by omega]
             simp [hk]
       · rw [Array.getElem?_eq_none (by simp [arr]; omega),Array.getElem?_eq_none (by rw [arr_size]; omega)]
      rw [hcs] at hr
      have hk:=kp_ch hB (rowB_noInt hcc).noU (ch_setRow w g (arr (cap * 2) fun k=>if k = m * 2 then x else if k = m * 2 + 1 then y else hh k))
      refine ⟨_,_,hr,.inr ⟨g,cap,rfl,hroom,hcap,_,setRow_heap w g _ _ _ _ hB,fun j hj=>?_⟩,hk,(ch_setRow w g _).mono (fun b _ hb=>by rw [hb]; rfl),.inl rfl⟩
      show EV _ N cn (if j * 2 = m * 2 then x else if j * 2 = m * 2 + 1 then y else hh (j * 2)) (if j * 2 + 1 = m * 2 then x else if j * 2 + 1 = m * 2 + 1 then y else hh (j * 2 + 1)) (if j < m + 1 then (if j = m then z else M j) else 0)
      by_cases e:j = m
      · subst e
        rw [if_pos rfl,if_neg (by omega),if_pos rfl,if_pos (by omega),if_pos rfl]
        exact hv.kp hk
      · rw [if_neg (by omega),if_neg (by omega),if_neg (by omega),if_neg (by omega),if_neg e]
        have:=hcc j hj
        unfold cutR at this
        by_cases hjm:j < m
        · rw [if_pos hjm] at this; rw [if_pos (by omega)]; exact this.kp hk
        · rw [if_neg hjm] at this; rw [if_neg (by omega)]; exact this.kp hk
    · obtain rfl:m = cap:=by omega
      have hr:=run_append_grow (P:=Tryz.prog) w 46 ty 41 i _ hu hi hz ⟨g,0,none⟩ m m ((List.range (m * 2)).map hh) (by rw [hsz]; simp) (fun j u hj=>by
       rw [add_lit,hB.cell,Nat.zero_add]
       by_cases hjm:j < m * 2
       · rw [arr_at hjm]; simpa [hjm] using hj
       · rw [List.getElem?_eq_none (by simp; omega)] at hj; cases hj) a 1 c [x,y] (by rw [hsz]; rfl) hnews (by omega) (by omega) (growslice_fits (by omega) (by rw [hby]; omega))
      rw [hzc] at hr
      have hge:=grownCap_ge w (m + 1) m 41
      have hle:=grownCap_le_maxLen w (m + 1) m 41 (by rw [hc]; omega)
      have hE:=ext_drew w (.cells (((List.range (m * 2)).map hh).toArray ++ [x,y].toArray ++ Builtin.zeroCells #[Value.bool false,Value.slice none 0 0] (grownCap w (m + 1) m 41 - (m + 1))) 41)
      have hg:=grown_row (w:=w.drew.alloc (.cells (((List.range (m * 2)).map hh).toArray ++ [x,y].toArray ++ Builtin.zeroCells #[Value.bool false,Value.slice none 0 0] (grownCap w (m + 1) m 41 - (m + 1))) 41)) (g:=w.heap.size) (m:=m) (K:=grownCap w (m + 1) m 41 - (m + 1)) (N:=N) (cn:=cn) (M:=M) (olds:=(List.range (m * 2)).map hh) (x:=x) (y:=y) (z:=z)
       (heap_alloc_new w.drew _) (by simp) (fun j hj=>⟨hh (j * 2),hh (j * 2 + 1),by simp [show j * 2 < m * 2 by omega],by simp [show j * 2 + 1 < m * 2 by omega],(hold j hj).kp (kp_ext hE)⟩) (hv.kp (kp_ext hE))
      rw [show m + 1 + (grownCap w (m + 1) m 41 - (m + 1)) = grownCap w (m + 1) m 41 by omega] at hg
      exact ⟨_,_,hr,.inr ⟨w.heap.size,_,rfl,by omega,by omega,hg⟩,kp_ext hE,hE.mono (fun _ _ h=>h.elim),.inr rfl⟩
theorem R1_appE {n:Nat} {S:World→World→Prop} {k:Nat} {K:Fr→World→Prop} {f:Fr} {w:World} {d ty:Nat} {xo yo:Operand} {pos:String} {aft:Array Edge} {gd:Option (Nat × Bool)}
 {v:Value} {m N c:Nat} {cn:Bool} {M:Nat→Int} {a:Addr} {x y:Value} {z:Int}
 (hk:k = 2 ∨ k = 1∧∀ w',Ch (fun b=>some b = v.ownBlock) w w'→S w w') (hx:ev n f xo = v) (hy:ev n f yo = .slice (some a) 1 c) (hG:GrowB w v m cn N M)
 (h0:w.cell? (a.add 0) = some x) (h1:w.cell? (a.add 1) = some y) (hv:EV w N cn x y z) (hm:m < 1099511627776)
 (h:∀ v' w',GrowB w' v' (m + 1) cn N (fun j=>if j = m then z else M j)→Kp w w'→Ch (fun b=>some b = v.ownBlock) w w'→(v'.ownBlock = v.ownBlock ∨ v'.ownBlock = some w.heap.size)→K (upd f d v') w') :
 R1 Tryz.prog n S k ⟨some d,.call { callee:=.builtin .append,args:=#[xo,yo],argTypes:=#[46,46] },ty,pos,aft,gd⟩ K f w:=by
 obtain ⟨v',w',hrun,h2,h3,h4,h5⟩:=append_run (ty:=ty) (c:=c) hG h0 h1 hv hm
 refine R1_loud (w':=w') (v:=v') (hk.imp id fun h=>⟨h.1,h.2 _ h4⟩) ?_ (h v' w' h2 h3 h4 h5)
 simp only [execOp,resolve,invoke,builtin,Sem.run_bind,Sem.run_pure,Result.andThen_ok,List.map_toArray,List.map_cons,List.map_nil,hx,hy,hrun]
end Go.Proofs.YtncbjgblcofddaaGreatDoor
namespace Go.Proofs.YtncbjgblcofddaaGreatDoor
open Go Go.Eng Go.Num Go.Proofs
def RowG (w:World) (g c cp:Nat) (cn:Bool) (bn:Nat→Nat) (M:Nat→Int):Prop :=
 c≤cp∧cp < 9223372036854775808∧∃ h,Blk w g 41 (arr (cp * 2) h)∧NoInt (arr (cp * 2) h)∧∀ j,j < c→EV w (bn j) cn (h (j * 2)) (h (j * 2 + 1)) (M j)
section
variable {w w':World} {g c cp:Nat} {cn:Bool} {bn bn':Nat→Nat} {M M':Nat→Int}
theorem RowG.lt (h:RowG w g c cp cn bn M):g < w.heap.size:=by obtain ⟨_,_,_,hb,_⟩:=h; exact hb.lt
theorem RowG.kp {MM:Nat→Prop} (h:RowG w g c cp cn bn M) (hk:Kp w w') (hC:Ch MM w w') (hn:¬ MM g):RowG w' g c cp cn bn M:=by
 obtain ⟨h1,h2,h,hb,hN,hc⟩:=h
 exact ⟨h1,h2,h,hb.ch hC hn,hN,fun j hj=>(hc j hj).kp hk⟩
theorem RowG.ext (h:RowG w g c cp cn bn M) (hE:Ext w w'):RowG w' g c cp cn bn M:=h.kp (kp_ext hE) hE id
theorem RowG.congr (h:RowG w g c cp cn bn M) (e:∀ j,j < c→bn j≤bn' j∧M j = M' j):RowG w g c cp cn bn' M':=by
 obtain ⟨h1,h2,h,hb,hN,hc⟩:=h
 exact ⟨h1,h2,h,hb,hN,fun j hj=>by rw [← (e j hj).2]; exact (hc j hj).mono (e j hj).1⟩
theorem RowG.at {j:Nat} (h:RowG w g c cp cn bn M) (hj:j < c) :
 ∃ x y,w.cell? ⟨g,0 + j * 2,none⟩ = some x∧w.cell? ((⟨g,0 + j * 2,none⟩ : Addr).add 1) = some y∧EV w (bn j) cn x y (M j):=by
 obtain ⟨h1,h2,h,hb,hN,hc⟩:=h
 refine ⟨_,_,?_,?_,hc j hj⟩
 · rw [hb.cell,arr_at (by omega),Nat.zero_add]
 · rw [add_lit,hb.cell,arr_at (by omega),Nat.zero_add]
theorem RowB.rg {m:Nat} (h:RowB w g cp cn bn M) (hm:m≤cp) (hc:cp < 9223372036854775808):RowG w g m cp cn bn M:=by
 obtain ⟨hh,hb,hcc⟩:=h
 exact ⟨hm,hc,hh,hb,rowB_noInt hcc,fun j hj=>hcc j (by omega)⟩
end
section
variable {n:Nat} {S:World→World→Prop} {k:Nat} {K:Fr→World→Prop} {f:Fr} {w:World}
 {d ty t t2:Nat} {x y:Operand} {pos:String} {aft:Array Edge} {gd:Option (Nat × Bool)}
theorem R1_storeG {g c cp j N:Nat} {cn:Bool} {bn:Nat→Nat} {M:Nat→Int} {z:Int} {a b:Value} (h0:k = 2 ∨ k = 1∧∀ w',Ch (fun b=>b = g) w w'→S w w') (hx:ev n f x = .pointer (some ⟨g,0 + j * 2,none⟩)) (hy:ev n f y = .agg #[a,b]) (hr:RowG w g c cp cn bn M) (hj:j < c) (hv:EV w N cn a b z)
 (h:∀ w',RowG w' g c cp cn (setN bn j N) (setZ M j z)→Ch (fun b=>b = g) w w'→Kp w w'→w'.heap.size = w.heap.size→K f w') :
 R1 Tryz.prog n S k ⟨none,.store 41 x y,ty,pos,aft,gd⟩ K f w:=by
 obtain ⟨h1,h2,hh,hB,hN,hc⟩:=hr
 refine R1_store2 agg_Int h0 hx hy hv.1.one0 hv.1.one1 hB (by rw [arr_size]; omega) ?_
 intro w' hB' hC hs
 have hk:=kp_ch hB hN.noU hC
 refine h w' ⟨h1,h2,_,by rw [arr_set,arr_set] at hB'; exact hB',?_,fun q hq=>?_⟩ hC hk hs
 · obtain ⟨neg,A,l,cc,e0,e1,_⟩:=hv.1
   intro i kd zz hz
   by_cases hi:i < cp * 2
   · rw [arr_at hi,Nat.zero_add] at hz
     have hz:=Option.some.inj hz
     by_cases e:i = j * 2 + 1
     · subst e; rw [upd_self,e1] at hz; cases hz
     · rw [upd_ne _ _ e] at hz
       by_cases e':i = j * 2
       · subst e'; rw [upd_self,e0] at hz; cases hz
       · rw [upd_ne _ _ e'] at hz
         exact hN i kd zz (by rw [arr_at hi,hz])
   · rw [Array.getElem?_eq_none (by rw [arr_size]; omega)] at hz; cases hz
 by_cases hqj:q = j
 · subst hqj
   rw [Nat.zero_add,upd_ne _ _ (show q * 2 ≠ q * 2 + 1 by omega),upd_self,upd_self]
   simp only [setZ,setN,if_true]
   exact hv.kp hk
 · rw [Nat.zero_add,upd_ne _ _ (by omega),upd_ne _ _ (by omega),upd_ne _ _ (by omega),upd_ne _ _ (by omega)]
   simp only [setZ,setN,if_neg hqj]
   exact (hc q hq).kp hk
end
structure GMat (w:World) (gO:Nat) (gs cp:Nat→Nat) (r c:Nat) (cn:Bool) (bn:Nat→Nat→Nat) (M:Nat→Nat→Int):Prop where
 outer:Blk w gO 46 (arr r fun i=>.slice (some ⟨gs i,0,none⟩) c (cp i))
 row:∀ i,i < r→RowG w (gs i) c (cp i) cn (bn i) (M i)
 ne:∀ i,i < r→gs i ≠ gO
 inj:∀ i j,i < r→j < r→gs i = gs j→i = j
section
variable {w w':World} {gO r c:Nat} {gs cp:Nat→Nat} {cn:Bool} {bn bn':Nat→Nat→Nat} {M M':Nat→Nat→Int}
theorem GMat.kp {MM:Nat→Prop} (h:GMat w gO gs cp r c cn bn M) (hk:Kp w w') (hC:Ch MM w w') (hn:¬ MM gO) (hr:∀ i,i < r→¬ MM (gs i)):GMat w' gO gs cp r c cn bn M :=
 ⟨h.outer.ch hC hn,fun i hi=>(h.row i hi).kp hk hC (hr i hi),h.ne,h.inj⟩
theorem GMat.ext (h:GMat w gO gs cp r c cn bn M) (hE:Ext w w'):GMat w' gO gs cp r c cn bn M:=h.kp (kp_ext hE) hE id (fun _ _=>id)
theorem GMat.congr (h:GMat w gO gs cp r c cn bn M) (e:∀ i j,i < r→j < c→bn i j≤bn' i j∧M i j = M' i j):GMat w gO gs cp r c cn bn' M' :=
 ⟨h.outer,fun i hi=>(h.row i hi).congr (fun j hj=>e i j hi hj),h.ne,h.inj⟩
theorem GMat.at (h:GMat w gO gs cp r c cn bn M) {i:Nat} (hi:i < r):w.cell? ⟨gO,0 + i * 1,none⟩ = some (.slice (some ⟨gs i,0,none⟩) c (cp i)):=by
 rw [h.outer.cell,arr_at (by omega),Nat.zero_add,Nat.mul_one]
theorem GMat.lt (h:GMat w gO gs cp r c cn bn M):gO < w.heap.size:=h.outer.lt
theorem GMat.noInt (_:GMat w gO gs cp r c cn bn M):NoInt (arr r fun i=>Value.slice (some ⟨gs i,0,none⟩) c (cp i)):=noInt_rows fun _ _=>⟨_,_,_,rfl⟩
theorem GMat.put {i j N:Nat} {z:Int} (h:GMat w gO gs cp r c cn bn M) (hi:i < r) (hr:RowG w' (gs i) c (cp i) cn (setN (bn i) j N) (setZ (M i) j z)) (hC:Ch (fun b=>b = gs i) w w') (hk:Kp w w') :
 GMat w' gO gs cp r c cn (set2 bn i j N) (set2 M i j z):=by
 refine ⟨h.outer.ch hC (Ne.symm (h.ne i hi)),fun a ha=>?_,h.ne,h.inj⟩
 by_cases e:a = i
 · subst e
   rw [set2_row,set2_row]
   exact hr
 · rw [set2_ne _ _ _ e,set2_ne _ _ _ e]
   exact (h.row a ha).kp hk hC (fun e'=>e (h.inj a i ha hi e'))
theorem GMat.swap {k p b:Nat} (h:GMat w gO gs cp r c cn (fun _ _=>b) M) (hk:k < r) (hp:p < r) (hC:Ch (fun b=>b = gO) w w') (hkp:Kp w w')
 (hO:Blk w' gO 46 (arr r fun i=>.slice (some ⟨swp k p gs i,0,none⟩) c (swp k p cp i))):GMat w' gO (swp k p gs) (swp k p cp) r c cn (fun _ _=>b) (swp k p M):=by
 have key:∀ i,i < r→∃ j,j < r∧swp k p gs i = gs j∧swp k p cp i = cp j∧swp k p M i = M j∧j = swp k p id i:=fun i hi=>by
  simp only [swp]
  split
  · exact ⟨p,hp,rfl,rfl,rfl,rfl⟩
  · split
    · exact ⟨k,hk,rfl,rfl,rfl,rfl⟩
    · exact ⟨i,hi,rfl,rfl,rfl,rfl⟩
 refine ⟨hO,fun i hi=>?_,fun i hi=>?_,fun i j hi hj e=>?_⟩
 · obtain ⟨j,hj,e1,e2,e3,_⟩:=key i hi
   rw [e1,e2,e3]
   exact (h.row j hj).kp hkp hC (h.ne j hj)
 · obtain ⟨j,hj,e1,_⟩:=key i hi
   rw [e1]; exact h.ne j hj
 · obtain ⟨a,ha,e1,_,_,e3⟩:=key i hi
   obtain ⟨b,hb,f1,_,_,f3⟩:=key j hj
   rw [e1,f1] at e
   have:=h.inj a b ha hb e
   subst this
   rw [e3] at f3
   simp only [swp,id] at f3
   split at f3 <;> split at f3 <;> (try split at f3) <;> (try split at f3) <;> omega
theorem GMat.read {N:Nat} (h:GMat w gO gs cp r c cn (fun _ _=>N) M) (hr:r < 9223372036854775808) (_hc:c < 9223372036854775808):MatE (EI N) w (.slice (some ⟨gO,0,none⟩) r r) r (fun _=>c) M :=
 ⟨_,_,rfl,Nat.le_refl _,hr,fun i hi=>⟨_,_,rfl,by rw [add_lit]; exact h.at hi,by
  obtain ⟨h1,h2,_⟩:=h.row i hi
  refine ⟨_,_,rfl,h1,h2,fun j hj=>?_⟩
  obtain ⟨x,y,e1,e2,hv⟩:=(h.row i hi).at hj
  exact ⟨_,x,y,rfl,by rw [add_lit]; exact e1,by rw [add_lit]; exact e2,hv.1⟩⟩⟩
end
end Go.Proofs.YtncbjgblcofddaaGreatDoor
namespace Go.Proofs.YtncbjgblcofddaaGreatDoor
open Go Go.Eng Go.Num Go.Proofs
theorem GrowB.kp {w w':World} {v:Value} {m N:Nat} {cn:Bool} {M:Nat→Int} {MM:Nat→Prop} (h:GrowB w v m cn N M) (hk:Kp w w') (hC:Ch MM w w') (hn:∀ b,some b = v.ownBlock→¬ MM b):GrowB w' v m cn N M:=by
 rcases h with h | ⟨g,cap,rfl,h1,h2,h3⟩
 · exact .inl h
 · exact .inr ⟨g,cap,rfl,h1,h2,h3.kp hk hC (hn g rfl)⟩
theorem GrowB.ext {w w':World} {v:Value} {m N:Nat} {cn:Bool} {M:Nat→Int} (h:GrowB w v m cn N M) (hE:Ext w w'):GrowB w' v m cn N M:=h.kp (kp_ext hE) hE (fun _ _=>id)
theorem GrowB.congr {w:World} {v:Value} {m N:Nat} {cn:Bool} {M M':Nat→Int} (h:GrowB w v m cn N M) (e:∀ j,j < m→M j = M' j):GrowB w v m cn N M':=by
 rcases h with h | ⟨g,cap,rfl,h1,h2,h3⟩
 · exact .inl h
 · refine .inr ⟨g,cap,rfl,h1,h2,h3.congr fun j hj=>⟨Nat.le_refl _,?_⟩⟩
   unfold cutR
   split
   · rename_i hlt; exact e j hlt
   · rfl
theorem GrowB.lt {w:World} {v:Value} {m N:Nat} {cn:Bool} {M:Nat→Int} (h:GrowB w v m cn N M) {b:Nat} (hb:some b = v.ownBlock):b < w.heap.size:=by
 rcases h with ⟨_,rfl⟩ | ⟨g,cap,rfl,h1,h2,h3⟩
 · cases hb
 · injection hb with e; rw [e]; exact h3.lt
theorem GrowB.slice {w:World} {v:Value} {m N:Nat} {cn:Bool} {M:Nat→Int} (h:GrowB w v m cn N M):∃ A c,v = .slice A m c:=by
 rcases h with ⟨rfl,rfl⟩ | ⟨g,cap,rfl,h1,h2,h3⟩
 · exact ⟨_,_,rfl⟩
 · exact ⟨_,_,rfl⟩
theorem GrowB.rg {w:World} {v:Value} {m N:Nat} {cn:Bool} {M:Nat→Int} (h:GrowB w v m cn N M) (hm:1≤m):∃ g cp,v = .slice (some ⟨g,0,none⟩) m cp∧RowG w g m cp cn (fun _=>N) M:=by
 rcases h with ⟨rfl,rfl⟩ | ⟨g,cap,rfl,h1,h2,h3⟩
 · omega
 · refine ⟨g,cap,rfl,(h3.rg h1 h2).congr fun j hj=>⟨Nat.le_refl _,?_⟩⟩
   unfold cutR; rw [if_pos hj]
theorem GrowB.nil {w:World} {N:Nat} {cn:Bool} {M:Nat→Int}:GrowB w (.slice none 0 0) 0 cn N M:=.inl ⟨rfl,rfl⟩
section
variable {n:Nat} {S:World→World→Prop} {k:Nat} {K:Fr→World→Prop} {f:Fr} {w:World}
 {d ty t t2:Nat} {x y:Operand} {pos:String} {aft:Array Edge} {gd:Option (Nat × Bool)}
theorem R1_sliceE1 {a b:Value} {y0:Operand} (hS:k = 2 ∨ k = 1∧∀ w',Ext w w'→S w w') (h0:ev n f y0 = .agg #[a,b])
 (h:∀ w',Blk w' w.heap.size 41 #[a,b]→Ext w w'→w'.heap.size = w.heap.size + 1→K (upd f d (.slice (some ⟨w.heap.size,0,none⟩) 1 1)) w'):R1 Tryz.prog n S k ⟨some d,.buildSlice 46 1 #[(0,y0)],ty,pos,aft,gd⟩ K f w:=by
 refine R1_new (T:=41) (cs:=#[a,b]) (v:=.slice (some ⟨w.heap.size,0,none⟩) 1 1) hS ?_ h
 obtain ⟨hu,hinfo⟩:=sl_Int
 cases hi:Tryz.prog.info? 41 with
 | none=>rw [hi] at hinfo; simp at hinfo
 | some i =>
  rw [hi] at hinfo
  simp at hinfo
  obtain ⟨hz',hsz,hby⟩:=hinfo
  simp [execOp,Instr.buildSlice,run_underlying hu,sizeOf,typeInfo,hi,hsz,zeroValue,hz',h0,Instr.fill,Value.cells,newRow,Array.range]
  rw [set_two _ (by simp [hsz])]
end
def RG (w:World) (r c N:Nat) (M:Nat→Nat→Int) (v:Value) (w':World):Prop :=
 Ext w w'∧∃ gO gs cp,v = .slice (some ⟨gO,0,none⟩) r r∧w.heap.size≤gO∧(∀ i,i < r→w.heap.size≤gs i)∧(∀ i,i < r→gO < gs i)∧GMat w' gO gs cp r c true (fun _ _=>N) M
def outC (i c:Nat) (gs cp:Nat→Nat) (v:Value):Nat→Value:=fun k=>if k < i then .slice (some ⟨gs k,0,none⟩) c (cp k) else if k = i then v else .slice none 0 0
theorem GrowB.slice' {w:World} {v:Value} {m N:Nat} {cn:Bool} {M:Nat→Int} (h:GrowB w v m cn N M):∃ A m c,v = .slice A m c:=by
 obtain ⟨A,c,e⟩:=h.slice; exact ⟨A,_,c,e⟩
theorem outC_slice {i c r:Nat} {gs cp:Nat→Nat} {v:Value} (hv:∃ A m c,v = .slice A m c):∀ k,k < r→∃ A m c',outC i c gs cp v k = .slice A m c':=fun k _=>by
 unfold outC
 split
 · exact ⟨_,_,_,rfl⟩
 · split
   · exact hv
   · exact ⟨_,_,_,rfl⟩
set_option maxHeartbeats 16000000 in
theorem rcopy_ok (v:Value) (r c N:Nat) (M:Nat→Nat→Int) (w:World) (h:MatE (EI N) w v r (fun _=>c) M) (hr:r≤1048576) (hc1:1≤c) (hc:c≤1048576) (hN:N < 1099511627776) :
 Meets Tryz.prog 29 #[v] w (RG w r c N M):=by
 obtain ⟨A,cap,rfl,hrc,hcap,hrow⟩:=h
 refine fn_W (n:=38) Tryz.func29 rfl rfl (by kernel_rfl) (by simp) ?_
 refine gg ?_
 refine R1_make sl_sInt (.inl rfl) rfl rfl (Nat.le_refl _) (by omega) (by omega) ?_
 intro w2 hB2 hE2 hs2
 obtain ⟨gO,hgO⟩ : ∃ g,g = w.heap.size:=⟨_,rfl⟩
 rw [← hgO] at hB2 ⊢
 have hO2:Blk w2 gO 46 (arr r (outC 0 c (fun _=>0) (fun _=>0) (.slice none 0 0))):=by
  have e:outC 0 c (fun _=>0) (fun _=>0) (.slice none 0 0) = fun _=>.slice none 0 0:=by funext k; simp [outC]
  rw [e]
  have hh:=hB2
  rw [arr_made] at hh
  rw [Nat.mul_one] at hh
  have e2:(fun k=>(Value.slice none 0 0).cells[k % (Value.slice none 0 0).cells.size]!) = fun _=>Value.slice none 0 0:=by
   funext k; simp [Value.cells,Nat.mod_one]
  rw [e2] at hh; exact hh
 clear hB2
 refine gg ?_
 refine W_seqM (fun f w'=>∃ gs cp,f 3 = .slice (some ⟨gO,0,none⟩) r r∧Ext w w'∧GMat w' gO gs cp r c true (fun _ _=>N) M∧∀ k,k < r→gO < gs k) ?_ ?_
 · refine gg ?_
   refine W_loop (fun m f w'=>∃ i gs cp,m = r - i∧i≤r∧f 0 = .slice A r cap∧f 3 = .slice (some ⟨gO,0,none⟩) r r∧f 11 = .int .i64 ((r:Nat):Int)∧f 12 = .int .i64 ((i:Nat):Int)∧Ext w w'∧Blk w' gO 46 (arr r (outC i c gs cp (.slice none 0 0)))∧(∀ k,k < i→RowG w' (gs k) c (cp k) true (fun _=>N) (M k)∧gO < gs k)∧(∀ k k',k < i→k' < i→gs k = gs k'→k = k'))
    r ⟨0,fun _=>0,fun _=>0,rfl,Nat.zero_le _,rfl,rfl,rfl,rfl,hE2,hO2,fun k hk=>absurd hk (by omega),fun k k' hk=>absurd hk (by omega)⟩ ?_
   clear hO2 hE2 hs2
   rintro m f w1 ⟨i,gs,cp,rfl,hi,hf0,hf3,hf11,hf12,hE,hO,hrows,hinj⟩
   rw [ui hf0,ui hf3,ui hf11,ui hf12]
   clear hf0 hf3 hf11 hf12
   by_cases hlt:i < r
   · obtain ⟨ad,u,rfl,hx,hru⟩:=hrow i hlt
     obtain ⟨Ai,capi,rfl,hci,hcapi,hri⟩:=id hru
     have hx1:=cell_ext hE hx
     refine gg ?_
     refine W_loop (fun m f w'=>∃ j v,m = c - j∧j≤c∧f 0 = .slice (some ad) r cap∧f 3 = .slice (some ⟨gO,0,none⟩) r r∧f 11 = .int .i64 ((r:Nat):Int)∧f 12 = .int .i64 ((i:Nat):Int)∧f 4 = .int .i64 ((i:Nat):Int)∧f 18 = .slice Ai c capi∧f 19 = .int .i64 ((c:Nat):Int)∧f 20 = .int .i64 ((j:Nat):Int)∧Ext w w'∧Blk w' gO 46 (arr r (outC i c gs cp v))∧(∀ k,k < i→RowG w' (gs k) c (cp k) true (fun _=>N) (M k)∧gO < gs k) ∧
      GrowB w' v j true N (M i)∧(∀ b,some b = v.ownBlock→gO < b∧∀ k,k < i→gs k ≠ b))
      c ⟨0,.slice none 0 0,rfl,Nat.zero_le _,rfl,rfl,rfl,rfl,rfl,rfl,rfl,rfl,hE,hO,hrows,GrowB.nil,fun b hb=>by cases hb⟩ ?_
     clear hE hO hrows hx1 w1
     rintro m f w1 ⟨j,v,rfl,hj,hf0,hf3,hf11,hf12,hf4,hf18,hf19,hf20,hE,hO,hrows,hG,hown⟩
     rw [ui hf0,ui hf3,ui hf11,ui hf12,ui hf4,ui hf18,ui hf19,ui hf20]
     clear hf0 hf3 hf11 hf12 hf4 hf18 hf19 hf20
     by_cases hjl:j < c
     · obtain ⟨ad',x,y,rfl,hx0,hy0,hv⟩:=hri j hjl
       have hx0:=cell_ext hE hx0
       have hy0:=cell_ext hE hy0
       have hv:IV w1 N x y (M i j):=IV.ext hv hE
       refine gg ?_
       refine R1_alloc (.inl rfl) z_Int ?_
       intro w2 hB2 hE2 hs2
       have hb2:Bx w2 w1.heap.size N false 0:=Bx.zero false hB2
       obtain ⟨gb,hgb⟩ : ∃ g,g = w1.heap.size:=⟨_,rfl⟩
       rw [← hgb] at hb2 ⊢
       have hEs:=hE.size
       have hgOl:=hO.lt
       refine gg ?_
       refine R1_storeBx (.inl rfl) rfl rfl hb2 (N':=N) (z':=M i j) ⟨hv.ext hE2,fun e=>by cases e⟩ ?_
       intro w3 hb3 hC3 hk3 hs3
       have hown2:∀ b,some b = v.ownBlock→b ≠ gb:=fun b hb=>by have:=hG.lt hb; omega
       have hE3:Ext w1 w3:=hC3.ext_of hE2 (fun b hb=>by omega)
       have hO:=hO.ext hE3
       have hG:=hG.ext hE3
       have hrows:∀ k,k < i→RowG w3 (gs k) c (cp k) true (fun _=>N) (M k)∧gO < gs k:=fun k hk=>⟨(hrows k hk).1.ext hE3,(hrows k hk).2⟩
       have hE:=hE.trans hE3
       obtain ⟨bx,by',hbB,hbv⟩:=hb3
       clear hb2 hB2 hE2 hs2 hC3 hk3 hx0 hy0 hv
       refine gg ?_
       refine W_regDM (fun b=>some b = v.ownBlock) [(0,3),(1,3),(2,3),(3,3),(4,3),(5,0),(6,0),(7,1),(8,1),(9,1),(10,3),(11,2)] mixed (by kernel_rfl) (fun w4 hE4 _=>?_)
       have hO4:=hO.ext hE4
       have hx4:w4.cell? ⟨gO,0 + i * 1,none⟩ = some v:=by
        rw [hO4.cell,arr_at (by omega),Nat.zero_add,Nat.mul_one]; simp [outC]
       refine gg ?_
       refine R1_load1M (by decide) (one_of rfl) rfl hx4 (fun hb=>by have:=(hown gO hb).1; omega) ?_
       refine gg ?_
       refine R1_load2M (by decide) agg_Int rfl (hbB.ext hE4) (fun hb=>hown2 gb hb rfl) ?_
       refine gg ?_
       refine R1_callS (rnormalize_ok _ _ _ N w4 (hbv.1.ext hE4) hN) ?_
       rintro _ w5 ⟨hE5,x',y',rfl,hcv⟩
       refine ⟨hE5.ch,?_⟩
       refine gg ?_
       refine R1_sliceE1 (.inr ⟨rfl,fun _ h=>h.ch⟩) rfl ?_
       intro w6 hB6 hE6 hs6
       have hE46:=hE4.trans (hE5.trans hE6)
       obtain ⟨p1,p2⟩:=blkP hB6
       refine gg ?_
       refine R1_appE (.inr ⟨rfl,fun _ h=>h⟩) rfl rfl (hG.ext hE46) p1 p2 ((hcv.ext hE6).ev true hbv.bd) (by omega) ?_
       intro v' w7 hG7 hk7 hC7 hv7
       have hG7:GrowB w7 v' (j + 1) true N (M i):=hG7.congr fun q _=>by
        split
        · rename_i e; rw [e]
        · rfl
       obtain ⟨A',c',rfl⟩:=hG7.slice
       have hO7:=(hO.ext hE46).ch hC7 (fun hb=>by have:=(hown gO hb).1; omega)
       have hs6':=hE46.size
       have hE7:Ext w w7:=hC7.ext_of (hE.trans hE46) (fun b hb=>by have:=(hown b hb).1; omega)
       refine gg ?_
       refine R1_storeS (one_of rfl) (.inl rfl) rfl rfl hO7 (by rw [arr_size]; omega) ?_
       intro w8 hO8 hC8 hs8
       have hk8:=kp_ch hO7 (noInt_rows (outC_slice hG.slice')).noU hC8
       have hO8:Blk w8 gO 46 (arr r (outC i c gs cp (.slice A' (j + 1) c'))):=by
        rw [arr_set] at hO8
        have e:upd (outC i c gs cp v) (0 + i * 1) (.slice A' (j + 1) c') = outC i c gs cp (.slice A' (j + 1) c'):=by
         funext k
         by_cases e:k = i
         · subst e; rw [Nat.zero_add,Nat.mul_one,upd_self]; simp [outC]
         · rw [Nat.zero_add,Nat.mul_one,upd_ne _ _ e]; simp [outC,e]
        rw [e] at hO8; exact hO8
       have hown':∀ b,some b = (Value.slice A' (j + 1) c').ownBlock→gO < b∧∀ k,k < i→gs k ≠ b:=fun b hb=>by
        rcases hv7 with e | e
        · rw [e] at hb; exact hown b hb
        · rw [e] at hb
          injection hb with hb
          refine ⟨by have:=hO.lt; omega,fun k hk=>?_⟩
          have:=(hrows k hk).1.lt
          omega
       refine gg ?_
       refine ⟨_,?_,j + 1,.slice A' (j + 1) c',rfl,by omega,rfl,rfl,rfl,rfl,rfl,rfl,rfl,rfl,hC8.ext_of hE7 (fun b hb=>by omega),hO8,fun k hk=>?_,hG7.kp hk8 hC8 (fun b hb e=>by have:=(hown' b hb).1; omega),hown'⟩
       · omega
       · obtain ⟨h1,h2⟩:=hrows k hk
         exact ⟨((h1.ext hE46).kp hk7 hC7 (fun hb=>(hown _ hb).2 k hk rfl)).kp hk8 hC8 (by omega),h2⟩
     · obtain rfl:j = c:=by omega
       obtain ⟨g,cp',rfl,hRG⟩:=hG.rg hc1
       obtain ⟨hg1,hg2⟩:=hown g rfl
       refine gg ?_
       refine ⟨_,?_,i + 1,setN gs i g,setN cp i cp',rfl,by omega,rfl,rfl,rfl,rfl,hE,?_,fun k hk=>?_,fun k k' hk hk' e=>?_⟩
       · omega
       · have e:outC (i + 1) j (setN gs i g) (setN cp i cp') (.slice none 0 0) = outC i j gs cp (.slice (some ⟨g,0,none⟩) j cp'):=by
          funext k
          simp only [outC,setN]
          by_cases e1:k = i
          · subst e1; simp
          · by_cases e2:k < i
            · rw [if_pos (by omega),if_pos e2,if_neg e1,if_neg e1]
            · rw [if_neg (by omega),if_neg e2,if_neg e1]; simp
         rw [e]; exact hO
       · by_cases e1:k = i
         · subst e1; simp only [setN,if_true]; exact ⟨hRG,hg1⟩
         · simp only [setN,if_neg e1]; exact hrows k (by omega)
       · simp only [setN] at e
         split at e <;> split at e
         · omega
         · exact absurd e.symm (hg2 k' (by omega))
         · exact absurd e (hg2 k (by omega))
         · exact hinj k k' (by omega) (by omega) e
   · refine gg ?_
     obtain rfl:i = r:=by omega
     refine ⟨gs,cp,rfl,hE,⟨?_,fun k hk=>(hrows k hk).1,fun k hk=>by have:=(hrows k hk).2; omega,hinj⟩,fun k hk=>(hrows k hk).2⟩
     rw [arr_congr (h':=outC i c gs cp (.slice none 0 0)) (fun k hk=>by simp [outC,hk])]
     exact hO
 clear hO2 hE2 hs2
 rintro f w1 ⟨gs,cp,hf3,hE,hG,hgs⟩
 rw [ui hf3]
 clear hf3
 refine gg ?_
 exact ret1 rfl rfl ⟨hE,gO,gs,cp,rfl,by omega,fun i hi=>by have:=hgs i hi; omega,hgs,hG⟩
end Go.Proofs.YtncbjgblcofddaaGreatDoor
namespace Go.Proofs.YtncbjgblcofddaaGreatDoor
open Go Go.Eng Go.Num Go.Proofs
set_option maxHeartbeats 16000000 in
theorem rdet_ok (v:Value) (n N:Nat) (M:Nat→Nat→Int) (w:World) (h:MatE (EI N) w v n (fun _=>n) M) (hn2:n≤16) (hN1:1≤N) (hN:N < 1048576) :
 Meets Tryz.prog 86 #[v] w (RI w (detB n M)):=by
 obtain ⟨c,hc1,hnc,hcn,hc16,hMat⟩ : ∃ c,1≤c∧n≤c∧(1≤n→c = n)∧c≤16∧MatE (EI N) w v n (fun _=>c) M:=by
  rcases Nat.eq_zero_or_pos n with rfl | hp
  · obtain ⟨A,cap,e,h1,h2,h3⟩:=h
    exact ⟨1,by omega,by omega,by omega,by omega,A,cap,e,h1,h2,fun i hi=>absurd hi (by omega)⟩
  · exact ⟨n,by omega,by omega,fun _=>rfl,hn2,h⟩
 clear h
 obtain ⟨A,cap,rfl,_⟩:=id hMat
 refine fn_W (n:=125) Tryz.func86 rfl rfl (by kernel_rfl) (by simp) ?_
 refine gg ?_
 refine R1_alloc (.inl rfl) z_Int ?_
 intro w1 hB1 hE1 hs1
 have hR1:Bx w1 w.heap.size 1 true 0:=Bx.zero true hB1
 clear hB1
 obtain ⟨gR,hgR⟩ : ∃ g,g = w.heap.size:=⟨_,rfl⟩
 rw [← hgR] at hR1 ⊢
 refine gg ?_
 refine R1_call2 (rcopy_ok _ n c N M w1 (hMat.ext hE1) (by omega) hc1 (by omega) (by omega)) ?_
 rintro _ w2 ⟨hE2,gO,gs,cp,rfl,hgO,hgs0,hgs,hW⟩
 have hRO:gR < gO:=by omega
 have hR:=hR1.ext hE2
 have hE:=hE1.trans hE2
 clear hR1 hE1 hE2 hgO hgs0
 refine gg ?_
 refine R1_call2 (rsmall_ok 1 w2 (by omega) (by omega)) ?_
 rintro _ w3 ⟨hE3,x,y,rfl,hcv⟩
 refine gg ?_
 refine R1_alloc (.inl rfl) z_Int ?_
 intro w4 hB4 hE4 hs4
 have hL4:Bx w4 w3.heap.size 1 true 0:=Bx.zero true hB4
 obtain ⟨gL,hgL⟩ : ∃ g,g = w3.heap.size:=⟨_,rfl⟩
 rw [← hgL] at hL4 ⊢
 refine gg ?_
 refine R1_storeBx (.inl rfl) rfl rfl hL4 ((hcv.ext hE4).ev true (N:=N) (Bd.mono (N:=1) (show (1:Int).natAbs < B ^ 1 by decide) hN1)) ?_
 intro w5 hL5 hC5 hk5 hs5
 have hW3:=hW.ext hE3
 have hgsL:∀ k,k < n→gs k < gL:=fun k hk=>by have:=(hW3.row k hk).lt; omega
 have hOL:gO < gL:=by have:=hW3.lt; omega
 have hW5:=(hW3.ext hE4).kp hk5 hC5 (by omega) (fun k hk=>by have:=hgsL k hk; omega)
 have hR5:=((hR.ext hE3).ext hE4).kp hk5 hC5 (by omega)
 have hE5:Ext w w5:=hC5.ext_of (hE.trans (hE3.trans hE4)) (fun b hb=>by omega)
 have hgs2:∀ k,k < n→gO < gs k∧gs k < gL:=fun k hk=>⟨hgs k hk,hgsL k hk⟩
 clear hgsL hgs hW hW3 hR hE3 hE4 hcv hB4 hL4 hC5 hk5 hs5 hs4 hgL hE hs1 w1 w2 w3 w4
 refine gg ?_
 refine W_seqM (fun f w'=>∃ neg last,f 2 = .pointer (some ⟨gR,0,none⟩)∧f 6 = .bool neg∧f 5 = .pointer (some ⟨gL,0,none⟩)∧Ext w w'∧Bx w' gR 1 true 0∧Bx w' gL (Nb N n) true last∧(if neg then -last else last) = detB n M) ?_ ?_
 · refine gg ?_
   refine W_loop (fun m f w'=>∃ k gs cp Mk neg last,m = n - k∧k≤n∧f 2 = .pointer (some ⟨gR,0,none⟩)∧f 3 = .slice (some ⟨gO,0,none⟩) n n∧f 4 = .int .i64 ((n:Nat):Int)∧f 5 = .pointer (some ⟨gL,0,none⟩)∧f 6 = .bool (neg)∧f 7 = .int .i64 ((k:Nat):Int) ∧
    Ext w w'∧Bx w' gR 1 true 0∧Bx w' gL (Nb N k) true last∧last ≠ 0∧GMat w' gO gs cp n c true (fun _ _=>Nb N k) Mk∧(∀ i,i < n→gO < gs i∧gs i < gL)∧detGo n (n - k) k Mk neg last = detB n M)
    n ⟨0,gs,cp,M,false,1,rfl,Nat.zero_le _,rfl,rfl,rfl,rfl,rfl,rfl,hE5,hR5,hL5,by decide,hW5,hgs2,rfl⟩ ?_
   clear hE5 hR5 hL5 hW5 hgs2 w5 gs cp
   rintro m f w1 ⟨k,gs,cp,Mk,neg,last,rfl,hk,hf2,hf3,hf4,hf5,hf6,hf7,hE,hR,hL,hl0,hW,hgs,hdet⟩
   rw [ui hf2,ui hf3,ui hf4,ui hf5,ui hf6,ui hf7]
   clear hf2 hf3 hf4 hf5 hf6 hf7
   have hNk:Nb N k < 68719476736:=Nb_big hN (by omega)
   refine W_seq ?_
   by_cases hlt:k < n
   · have hcn:=hcn (by omega)
     subst hcn
     refine gg ?_
     refine W_seqM (fun f w'=>∃ p,k≤p∧p≤c∧f 2 = .pointer (some ⟨gR,0,none⟩)∧f 3 = .slice (some ⟨gO,0,none⟩) c c∧f 4 = .int .i64 ((c:Nat):Int)∧f 5 = .pointer (some ⟨gL,0,none⟩)∧f 6 = .bool (neg)∧f 7 = .int .i64 ((k:Nat):Int)∧f 8 = .int .i64 ((p:Nat):Int)∧Ext w1 w'∧p = pivot c k Mk∧(p < c→Mk p k ≠ 0)) ?_ ?_
     · refine gg ?_
       refine W_loop (fun m f w'=>∃ p,m = c - p∧k≤p∧p≤c∧f 2 = .pointer (some ⟨gR,0,none⟩)∧f 3 = .slice (some ⟨gO,0,none⟩) c c∧f 4 = .int .i64 ((c:Nat):Int)∧f 5 = .pointer (some ⟨gL,0,none⟩)∧f 6 = .bool (neg)∧f 7 = .int .i64 ((k:Nat):Int)∧f 8 = .int .i64 ((p:Nat):Int)∧Ext w1 w'∧findP c k Mk (c - p) p = pivot c k Mk)
        (c - k) ⟨k,rfl,Nat.le_refl _,hk,rfl,rfl,rfl,rfl,rfl,rfl,rfl,Ext.refl _,rfl⟩ ?_
       rintro m f w2 ⟨p,rfl,hkp,hpn,hf2,hf3,hf4,hf5,hf6,hf7,hf8,hE2,hp⟩
       rw [ui hf2,ui hf3,ui hf4,ui hf5,ui hf6,ui hf7,ui hf8]
       clear hf2 hf3 hf4 hf5 hf6 hf7 hf8
       by_cases hpl:p < c
       · have hx:=(hW.ext hE2).at hpl
         obtain ⟨x,y,hx1,hx2,hv⟩:=((hW.ext hE2).row p hpl).at hlt
         refine W_seq ?_
         refine gg ?_
         refine R1_call2 (rsign_ok _ _ _ _ w2 hv.1 (by omega)) ?_
         rintro _ w3 ⟨hE3,rfl⟩
         by_cases hz:Mk p k = 0
         · have hs:(Mk p k).sign = 0:=by rw [hz]; rfl
           refine gg ?_
           refine ⟨_,?_,p + 1,rfl,by omega,by omega,rfl,rfl,rfl,rfl,rfl,rfl,rfl,hE2.trans hE3,?_⟩
           · omega
           · rw [← findP_step ⟨hpl,hz⟩]; exact hp
         · have hs:¬ (Mk p k).sign = 0:=fun e=>hz (Int.sign_eq_zero_iff_zero.1 e)
           refine gg ?_
           refine ⟨p,hkp,hpn,rfl,rfl,rfl,rfl,rfl,rfl,rfl,hE2.trans hE3,?_,fun _=>hz⟩
           rw [← hp,findP_stop (fun h=>hz h.2)]
       · refine W_seq ?_
         refine gg ?_
         refine ⟨p,hkp,hpn,rfl,rfl,rfl,rfl,rfl,rfl,rfl,hE2,?_,fun h=>absurd h hpl⟩
         rw [← hp,findP_stop (fun h=>hpl h.1)]
     rintro f w2 ⟨p,hkp,hpn,hf2,hf3,hf4,hf5,hf6,hf7,hf8,hE2,hp,hpz⟩
     rw [ui hf2,ui hf3,ui hf4,ui hf5,ui hf6,ui hf7,ui hf8]
     clear hf2 hf3 hf4 hf5 hf6 hf7 hf8
     have hdet':=hdet
     rw [show c - k = (c - (k + 1)) + 1 by omega,detGo,← hp] at hdet'
     refine W_seq ?_
     refine W_seq ?_
     by_cases hpn':p = c
     · rw [if_pos hpn'] at hdet'
       refine gg ?_
       refine R1_bld0 b0_Int ?_
       refine gg ?_
       refine R1_storeBx (N':=1) (.inl rfl) rfl rfl (hR.ext hE2) ((CV.zero w2).ev true (Bd.zero 1)) ?_
       intro w3 hR3 hC3 hk3 hs3
       refine gg ?_
       obtain ⟨x,y,hB,hv⟩:=hR3
       refine retC rfl agg_Int rfl hB ⟨hC3.ext_of (hE.trans hE2) (fun b hb=>by omega),x,y,rfl,?_⟩
       rw [← hdet']; exact hv.2 rfl
     rw [if_neg hpn'] at hdet'
     have hpl:p < c:=by omega
     have hE':=hE.trans hE2
     have hR':=hR.ext hE2
     have hL':=hL.ext hE2
     have hW':=hW.ext hE2
     clear hR hL hW hE hE2 hdet w1
     refine gg ?_
     refine W_seqM (fun f w'=>∃ gs' cp',f 2 = .pointer (some ⟨gR,0,none⟩)∧f 3 = .slice (some ⟨gO,0,none⟩) c c∧f 4 = .int .i64 ((c:Nat):Int)∧f 5 = .pointer (some ⟨gL,0,none⟩)∧f 6 = .bool (neg != decide (p ≠ k))∧f 7 = .int .i64 ((k:Nat):Int) ∧
      Ext w w'∧Bx w' gR 1 true 0∧Bx w' gL (Nb N k) true last∧GMat w' gO gs' cp' c c true (fun _ _=>Nb N k) (swp k p Mk)∧(∀ i,i < c→gO < gs' i∧gs' i < gL)) ?_ ?_
     · refine W_seq ?_
       by_cases hpk:p = k
       · refine gg ?_
         refine ⟨gs,cp,rfl,rfl,rfl,rfl,?_,rfl,hE',hR',hL',?_,hgs⟩
         · show Value.bool neg = _
           simp [hpk]
         · rw [hpk,swp_self]; exact hW'
       · refine gg ?_
         refine W_seqD [(0,3),(1,3),(2,3),(3,3),(4,3),(5,3),(6,3),(7,0),(8,3),(9,3),(10,3),(11,0),(12,3),(13,2),(14,3),(15,2)] mixed (by kernel_rfl) (fun w3 hE3 _=>?_)
         have hW3:=hW'.ext hE3
         have hxp:=hW3.at hpl
         have hxk:=hW3.at hlt
         have hO3:=hW3.outer
         refine gg ?_
         refine R1_storeS (one_of rfl) (.inl rfl) rfl rfl hO3 (by rw [arr_size]; omega) ?_
         intro w4 hO4 hC4 hs4
         rw [arr_set] at hO4
         refine gg ?_
         refine R1_storeS (one_of rfl) (.inl rfl) rfl rfl hO4 (by rw [arr_size]; omega) ?_
         intro w5 hO5 hC5 hs5
         rw [arr_set] at hO5
         have hC45:=hC4.trans hC5
         have hk45:=kp_ch hO3 hW3.noInt.noU hC45
         have e:upd (upd (fun i=>Value.slice (some ⟨gs i,0,none⟩) c (cp i)) (0 + p * 1) (.slice (some ⟨gs k,0,none⟩) c (cp k))) (0 + k * 1) (.slice (some ⟨gs p,0,none⟩) c (cp p)) = fun i=>Value.slice (some ⟨swp k p gs i,0,none⟩) c (swp k p cp i):=by
          funext i
          rw [Nat.zero_add,Nat.zero_add,Nat.mul_one,Nat.mul_one]
          simp only [swp]
          by_cases h2:i = k
          · subst h2; rw [upd_self,if_pos rfl,if_pos rfl]
          · rw [upd_ne _ _ h2,if_neg h2,if_neg h2]
            by_cases h1:i = p
            · subst h1; rw [upd_self,if_pos rfl,if_pos rfl]
            · rw [upd_ne _ _ h1,if_neg h1,if_neg h1]
         rw [e] at hO5
         have hW5:=hW3.swap hlt hpl hC45 hk45 hO5
         refine gg ?_
         refine ⟨swp k p gs,swp k p cp,rfl,rfl,rfl,rfl,?_,rfl,hC45.ext_of (hE'.trans hE3) (fun b hb=>by omega),(hR'.ext hE3).kp hk45 hC45 (by omega),(hL'.ext hE3).kp hk45 hC45 (by omega),hW5,fun i hi=>?_⟩
         · show Value.bool (!neg) = _
           simp [hpk]
         · simp only [swp]
           split
           · exact hgs p hpl
           · split
             · exact hgs k hlt
             · exact hgs i hi
     clear hW' hL' hR' hE' hgs w2 gs cp
     rintro f w1 ⟨gs,cp,hf2,hf3,hf4,hf5,hf6,hf7,hE,hR,hL,hW,hgs⟩
     rw [ui hf2,ui hf3,ui hf4,ui hf5,ui hf6,ui hf7]
     clear hf2 hf3 hf4 hf5 hf6 hf7
     obtain ⟨Ms,hMs⟩ : ∃ Ms,Ms = swp k p Mk:=⟨_,rfl⟩
     rw [← hMs] at hW hdet'
     have hpiv:Ms k k ≠ 0:=by rw [hMs]; simp only [swp,if_true]; exact hpz hpl
     have hRw:w.heap.size≤gR:=by omega
     refine W_seqM (fun f w'=>f 2 = .pointer (some ⟨gR,0,none⟩)∧f 3 = .slice (some ⟨gO,0,none⟩) c c∧f 4 = .int .i64 ((c:Nat):Int)∧f 5 = .pointer (some ⟨gL,0,none⟩)∧f 6 = .bool (neg != decide (p ≠ k))∧f 7 = .int .i64 ((k:Nat):Int) ∧
      Ext w w'∧Bx w' gR 1 true 0∧Bx w' gL (Nb N k) true last∧GMat w' gO gs cp c c true (fun _ _=>Nb N (k + 1)) (elim k last Ms)∧Bd (Nb N k) (Ms k k)) ?_ ?_
     · refine gg ?_
       have hbd:Bd (Nb N k) (Ms k k):=by
        obtain ⟨x,y,_,_,hv⟩:=(hW.row k hlt).at hlt
        exact hv.bd
       refine W_loop (fun m f w'=>∃ i,m = c - i∧k < i∧i≤c∧f 2 = .pointer (some ⟨gR,0,none⟩)∧f 3 = .slice (some ⟨gO,0,none⟩) c c∧f 4 = .int .i64 ((c:Nat):Int)∧f 5 = .pointer (some ⟨gL,0,none⟩)∧f 6 = .bool (neg != decide (p ≠ k))∧f 7 = .int .i64 ((k:Nat):Int)∧f 9 = .int .i64 ((i:Nat):Int) ∧
        Ext w w'∧Bx w' gR 1 true 0∧Bx w' gL (Nb N k) true last∧GMat w' gO gs cp c c true (fun a b=>if k < a∧k < b∧a < i then Nb N (k + 1) else Nb N k) (fun a b=>if k < a∧k < b∧a < i then elim k last Ms a b else Ms a b))
        (c - (k + 1)) ⟨k + 1,rfl,by omega,by omega,rfl,rfl,rfl,rfl,rfl,rfl,rfl,hE,hR,hL,hW.congr (fun a b ha hb=>⟨by rw [if_neg (by omega)]; exact Nat.le_refl _,by rw [if_neg (by omega)]⟩)⟩ ?_
       clear hE hR hL hW w1
       rintro m f w1 ⟨i,rfl,hki,hin,hf2,hf3,hf4,hf5,hf6,hf7,hf9,hE,hR,hL,hW⟩
       rw [ui hf2,ui hf3,ui hf4,ui hf5,ui hf6,ui hf7,ui hf9]
       clear hf2 hf3 hf4 hf5 hf6 hf7 hf9
       refine W_seq ?_
       by_cases hil:i < c
       · refine W_seq ?_
         refine gg ?_
         refine W_loop (fun m f w'=>∃ j,m = c - j∧k < j∧j≤c∧f 2 = .pointer (some ⟨gR,0,none⟩)∧f 3 = .slice (some ⟨gO,0,none⟩) c c∧f 4 = .int .i64 ((c:Nat):Int)∧f 5 = .pointer (some ⟨gL,0,none⟩)∧f 6 = .bool (neg != decide (p ≠ k))∧f 7 = .int .i64 ((k:Nat):Int)∧f 9 = .int .i64 ((i:Nat):Int)∧f 10 = .int .i64 ((j:Nat):Int) ∧
          Ext w w'∧Bx w' gR 1 true 0∧Bx w' gL (Nb N k) true last∧GMat w' gO gs cp c c true (fun a b=>if k < a∧k < b∧(a < i ∨ a = i∧b < j) then Nb N (k + 1) else Nb N k) (fun a b=>if k < a∧k < b∧(a < i ∨ a = i∧b < j) then elim k last Ms a b else Ms a b))
          (c - (k + 1)) ⟨k + 1,rfl,by omega,by omega,rfl,rfl,rfl,rfl,rfl,rfl,rfl,rfl,hE,hR,hL,hW.congr (fun a b ha hb=>⟨?_,?_⟩)⟩ ?_
         · by_cases h1:k < a∧k < b∧a < i
           · rw [if_pos h1,if_pos (by omega)]; exact Nat.le_refl _
           · rw [if_neg h1,if_neg (by omega)]; exact Nat.le_refl _
         · by_cases h1:k < a∧k < b∧a < i
           · rw [if_pos h1,if_pos (by omega)]
           · rw [if_neg h1,if_neg (by omega)]
         clear hE hR hL hW w1
         rintro m f w1 ⟨j,rfl,hkj,hjn,hf2,hf3,hf4,hf5,hf6,hf7,hf9,hf10,hE,hR,hL,hW⟩
         rw [ui hf2,ui hf3,ui hf4,ui hf5,ui hf6,ui hf7,ui hf9,ui hf10]
         clear hf2 hf3 hf4 hf5 hf6 hf7 hf9 hf10
         refine W_seq ?_
         by_cases hjl:j < c
         · refine gg ?_
           refine W_regD [(0,3),(1,3),(2,3),(3,0),(4,3),(5,3),(6,3),(7,3),(8,0),(9,3),(10,3),(11,0),(12,3),(13,3),(14,3),(15,0),(16,3),(17,3),(18,0),(20,3),(21,3),(22,3),(23,0),(24,3),(25,3),(26,0),(27,3),(28,3),(29,3),(30,0),(31,3),(32,3),(33,0),(36,0),(19,1),(34,1),(35,1),(37,1),(38,3),(39,2)] mixed (by kernel_rfl) (fun w2 hE2 _=>?_)
           have hW2:=hW.ext hE2
           have hoi:=hW2.at hil
           have hok:=hW2.at hlt
           obtain ⟨x0,y0,hx0,hy0,hv0⟩:=(hW2.row k hlt).at hlt
           obtain ⟨x1,y1,hx1,hy1,hv1⟩:=(hW2.row i hil).at hjl
           obtain ⟨x2,y2,hx2,hy2,hv2⟩:=(hW2.row i hil).at hlt
           obtain ⟨x3,y3,hx3,hy3,hv3⟩:=(hW2.row k hlt).at hjl
           obtain ⟨lx,ly,hLB,hLv⟩:=hL.ext hE2
           obtain ⟨hl1,hl2⟩:=blkP hLB
           simp only at hv0 hv1 hv2 hv3
           rw [if_neg (by omega),if_neg (by omega)] at hv0 hv1 hv2 hv3
           refine gg ?_
           refine R1_call1 (rmul_ok _ _ _ _ _ _ (Nb N k) w2 hv0.1 hv1.1 (by omega)) ?_
           rintro _ w3 ⟨hE3,a1,b1,rfl,hc1⟩
           refine ⟨hE3,?_⟩
           refine gg ?_
           refine R1_call1 (rmul_ok _ _ _ _ _ _ (Nb N k) w3 (hv2.ext hE3).1 (hv3.ext hE3).1 (by omega)) ?_
           rintro _ w4 ⟨hE4,a2,b2,rfl,hc2⟩
           refine ⟨hE4,?_⟩
           have m1:=(hv0.bd).mul hv1.bd
           have m2:=(hv2.bd).mul hv3.bd
           refine gg ?_
           refine R1_call1 (rsub_ok _ _ _ _ _ _ (Nb N k + Nb N k) w4 ((hc1.ext hE4).iv m1) (hc2.iv m2) (by omega)) ?_
           rintro _ w5 ⟨hE5,a3,b3,rfl,hc3⟩
           refine ⟨hE5,?_⟩
           have m3:=m1.sub m2
           have e3:Nb N k + Nb N k + 1 = Nb N (k + 1):=by simp only [Nb]; omega
           rw [e3] at m3
           have hNk1:Nb N (k + 1) < 68719476736:=Nb_big hN (by omega)
           refine gg ?_
           refine R1_call1 (rquo_ok _ _ _ _ _ _ (Nb N (k + 1)) w5 (hc3.iv m3) (((hLv.ext (hE3.trans (hE4.trans hE5))).mono (Nb_mono N k)).1) (by omega)) ?_
           rintro _ w6 ⟨hE6,qx,qy,rfl,hq⟩
           refine ⟨hE6,?_⟩
           have hE26:=hE3.trans (hE4.trans (hE5.trans hE6))
           refine gg ?_
           refine R1_storeG (.inl rfl) rfl rfl ((hW2.ext hE26).row i hil) hjl (hq.ev true (N:=Nb N (k + 1)) m3.ediv) ?_
           intro w13 hR13 hC13 hk13 hs13
           have hW13:=(hW2.ext hE26).put hil hR13 hC13 hk13
           have hgi:=hgs i hil
           have hE2':=hE2.trans hE26
           refine gg ?_
           refine ⟨_,?_,j + 1,rfl,by omega,by omega,rfl,rfl,rfl,rfl,rfl,rfl,rfl,rfl,hC13.ext_of (hE.trans hE2') (fun b hb=>by omega),(hR.ext hE2').kp hk13 hC13 (by omega),(hL.ext hE2').kp hk13 hC13 (by omega),hW13.congr (fun a b ha hb=>⟨?_,?_⟩)⟩
           · omega
           · simp only [set2]
             by_cases e:a = i∧b = j
             · rw [if_pos e,if_pos (by omega)]; exact Nat.le_refl _
             · rw [if_neg e]
               by_cases h1:k < a∧k < b∧(a < i ∨ a = i∧b < j)
               · rw [if_pos h1,if_pos (by omega)]; exact Nat.le_refl _
               · rw [if_neg h1,if_neg (by omega)]; exact Nat.le_refl _
           · simp only [set2]
             by_cases e:a = i∧b = j
             · obtain ⟨rfl,rfl⟩:=e
               rw [if_pos ⟨rfl,rfl⟩,if_pos (by omega),elim,if_pos ⟨hki,hkj⟩]
             · rw [if_neg e]
               by_cases h1:k < a∧k < b∧(a < i ∨ a = i∧b < j)
               · rw [if_pos h1,if_pos (by omega)]
               · rw [if_neg h1,if_neg (by omega)]
         · refine gg ?_
           refine ⟨_,?_,i + 1,rfl,by omega,by omega,rfl,rfl,rfl,rfl,rfl,rfl,rfl,hE,hR,hL,hW.congr (fun a b ha hb=>⟨?_,?_⟩)⟩
           · omega
           · by_cases h1:k < a∧k < b∧a < i + 1
             · rw [if_pos (by omega),if_pos h1]; exact Nat.le_refl _
             · rw [if_neg (by omega),if_neg h1]; exact Nat.le_refl _
           · by_cases h1:k < a∧k < b∧a < i + 1
             · rw [if_pos (by omega),if_pos h1]
             · rw [if_neg (by omega),if_neg h1]
       · refine gg ?_
         refine ⟨rfl,rfl,rfl,rfl,rfl,rfl,hE,hR,hL,hW.congr (fun a b ha hb=>⟨?_,?_⟩),hbd⟩
         · have:=Nb_mono N k
           split <;> omega
         · by_cases h1:k < a∧k < b∧a < i
           · rw [if_pos h1]
           · rw [if_neg h1,elim,if_neg (by omega)]
     · clear hE hR hL hW w1
       rintro f w1 ⟨hf2,hf3,hf4,hf5,hf6,hf7,hE,hR,hL,hW,hbd⟩
       rw [ui hf2,ui hf3,ui hf4,ui hf5,ui hf6,ui hf7]
       clear hf2 hf3 hf4 hf5 hf6 hf7
       have hx:=hW.at hlt
       obtain ⟨x,y,hx1,hx2,hv⟩:=(hW.row k hlt).at hlt
       have hek:elim k last Ms k k = Ms k k:=by rw [elim,if_neg (by omega)]
       rw [hek] at hv
       refine gg ?_
       refine R1_storeBx (.inl rfl) rfl rfl hL hv ?_
       intro w2 hL2 hC2 hk2 hs2
       refine gg ?_
       refine ⟨_,?_,k + 1,gs,cp,elim k last Ms,neg != decide (p ≠ k),Ms k k,rfl,by omega,rfl,rfl,rfl,rfl,rfl,rfl,hC2.ext_of hE (fun b hb=>by omega),hR.kp hk2 hC2 (by omega),hL2,hpiv,hW.kp hk2 hC2 (by omega) (fun i hi=>by have:=hgs i hi; omega),hgs,hdet'⟩
       omega
   · refine gg ?_
     have:k = n:=by omega
     subst this
     rw [Nat.sub_self,detGo] at hdet
     exact ⟨neg,last,rfl,rfl,rfl,hE,hR,hL,hdet⟩
 clear hE5 hR5 hL5 hW5 hgs2 w5 gs cp
 rintro f w1 ⟨neg,last,hf2,hf6,hf5,hE,hR,hL,hdet⟩
 rw [ui hf2,ui hf6,ui hf5]
 clear hf2 hf6 hf5
 have hNn:Nb N n < 68719476736:=Nb_big hN hn2
 obtain ⟨x,y,hLB,hLv⟩:=hL
 obtain ⟨hx1,hx2⟩:=blkP hLB
 refine W_seq ?_
 cases neg with
 | true =>
  refine W_seq ?_
  refine gg ?_
  refine R1_call2 (rneg_ok _ _ _ _ w1 hLv.1 (by omega)) ?_
  rintro _ w2 ⟨hE2,x',y',rfl,hcv⟩
  refine gg ?_
  refine R1_storeBx (N':=Nb N n) (.inl rfl) rfl rfl (hR.ext hE2) (hcv.ev true hLv.bd.neg) ?_
  intro w3 hR3 hC3 hk3 hs3
  refine gg ?_
  obtain ⟨x,y,hB,hv⟩:=hR3
  refine retC rfl agg_Int rfl hB ⟨hC3.ext_of (hE.trans hE2) (fun b hb=>by omega),x,y,rfl,?_⟩
  rw [← hdet]; exact hv.2 rfl
 | false =>
  refine W_seq ?_
  refine gg ?_
  refine R1_storeBx (N':=Nb N n) (.inl rfl) rfl rfl hR hLv ?_
  intro w3 hR3 hC3 hk3 hs3
  refine gg ?_
  obtain ⟨x,y,hB,hv⟩:=hR3
  refine retC rfl agg_Int rfl hB ⟨hC3.ext_of hE (fun b hb=>by omega),x,y,rfl,?_⟩
  rw [← hdet]; exact hv.2 rfl
end Go.Proofs.YtncbjgblcofddaaGreatDoor
