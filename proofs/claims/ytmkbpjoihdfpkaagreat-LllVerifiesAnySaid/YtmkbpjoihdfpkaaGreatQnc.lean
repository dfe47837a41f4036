/- Joined: Lle, Llf, Llg. -/
import Derived.Test.YtmkbpjoihdfpkaaGreatQzc
import Derived.Test.YtmkbpjoihdfpkaaGreatQr
import Derived.Test.YtmkbpjoihdfpkaaGreatQna
import Derived.Test.YtmkbpjoihdfpkaaGreatQnb
/- lll: nearest,combine; planes in memory; unbalanced. -/
namespace Go.Proofs.YtmkbpjoihdfpkaaGreat
open Go Go.Eng Go.Num Go.Proofs
open Go.Det (nearZ)
def RowT (T:Nat) (w:World) (g c:Nat) (bn:Nat→Nat) (M:Nat→Int):Prop :=
 ∃ h,Blk w g T (arr (c * 2) h)∧∀ j,j < c→EV w (bn j) true (h (j * 2)) (h (j * 2 + 1)) (M j)
section
variable {T:Nat} {w w':World} {g c:Nat} {bn bn':Nat→Nat} {M M':Nat→Int}
theorem RowT.lt (h:RowT T w g c bn M):g < w.heap.size:=by obtain ⟨_,hB,_⟩:=h; exact hB.lt
theorem RowT.kp {MM:Nat→Prop} (h:RowT T w g c bn M) (hk:Kp w w') (hC:Ch MM w w') (hn:¬ MM g):RowT T w' g c bn M:=by
 obtain ⟨hh,hB,hc⟩:=h
 exact ⟨hh,hB.ch hC hn,fun j hj=>(hc j hj).kp hk⟩
theorem RowT.ext (h:RowT T w g c bn M) (hE:Ext w w'):RowT T w' g c bn M:=h.kp (kp_ext hE) hE id
theorem RowT.congr (h:RowT T w g c bn M) (e:∀ j,j < c→bn j≤bn' j∧M j = M' j):RowT T w g c bn' M':=by
 obtain ⟨hh,hB,hc⟩:=h
 exact ⟨hh,hB,fun j hj=>by rw [← (e j hj).2]; exact (hc j hj).mono (e j hj).1⟩
theorem RowT.at {j:Nat} (h:RowT T w g c bn M) (hj:j < c) :
 ∃ x y,w.cell? ⟨g,0 + j * 2,none⟩ = some x∧w.cell? ((⟨g,0 + j * 2,none⟩ : Addr).add 1) = some y∧EV w (bn j) true x y (M j):=by
 obtain ⟨hh,hB,hc⟩:=h
 refine ⟨hh (j * 2),hh (j * 2 + 1),?_,?_,hc j hj⟩
 · rw [hB.cell,Nat.zero_add,arr_at (by omega)]
 · rw [add_lit,hB.cell,Nat.zero_add,arr_at (by omega)]
theorem RowT.at2 {j:Nat} (h:RowT T w g c bn M) (hj:j + 1 < c) :
 ∃ x y x' y',w.cell? ⟨g,0 + j * 2,none⟩ = some x∧w.cell? ((⟨g,0 + j * 2,none⟩ : Addr).add 1) = some y∧w.cell? ((⟨g,0 + j * 2,none⟩ : Addr).add 2) = some x'∧w.cell? ((⟨g,0 + j * 2,none⟩ : Addr).add 3) = some y'∧EV w (bn j) true x y (M j)∧EV w (bn (j + 1)) true x' y' (M (j + 1)):=by
 obtain ⟨hh,hB,hc⟩:=h
 refine ⟨hh (j * 2),hh (j * 2 + 1),hh ((j + 1) * 2),hh ((j + 1) * 2 + 1),?_,?_,?_,?_,hc j (by omega),hc (j + 1) hj⟩
 · rw [hB.cell,Nat.zero_add,arr_at (by omega)]
 · rw [add_lit,hB.cell,Nat.zero_add,arr_at (by omega)]
 · rw [add_lit,hB.cell,Nat.zero_add,arr_at (by omega),show j * 2 + 2 = (j + 1) * 2 by omega]
 · rw [add_lit,hB.cell,Nat.zero_add,arr_at (by omega),show j * 2 + 3 = (j + 1) * 2 + 1 by omega]
end
section
variable {n:Nat} {S:World→World→Prop} {k:Nat} {K:Fr→World→Prop} {f:Fr} {w:World} {d ty t t2:Nat} {x y:Operand} {pos:String} {aft:Array Edge} {gd:Option (Nat × Bool)}
theorem R1_storeIT {T g c j N:Nat} {bn:Nat→Nat} {M:Nat→Int} {z:Int} {a b:Value} (h0:k = 2 ∨ k = 1∧∀ w',Ch (fun b=>b = g) w w'→S w w') (hx:ev n f x = .pointer (some ⟨g,0 + j * 2,none⟩)) (hy:ev n f y = .agg #[a,b]) (hr:RowT T w g c bn M) (hj:j < c) (hv:EV w N true a b z)
 (h:∀ w',RowT T w' g c (setN bn j N) (setZ M j z)→Ch (fun b=>b = g) w w'→Kp w w'→w'.heap.size = w.heap.size→K f w') :
 R1 Tryz.prog n S k ⟨none,.store 47 x y,ty,pos,aft,gd⟩ K f w:=by
 obtain ⟨hh,hB,hc⟩:=hr
 refine R1_store2 agg_Int h0 hx hy hv.1.one0 hv.1.one1 hB (by rw [arr_size]; omega) ?_
 intro w' hB' hC hs
 have hk:=kp_ch hB (rowB_noInt hc).noU hC
 refine h w' ⟨_,by rw [arr_set,arr_set] at hB'; exact hB',fun q hq=>?_⟩ hC hk hs
 by_cases hqj:q = j
 · subst hqj
   rw [Nat.zero_add,upd_ne _ _ (show q * 2 ≠ q * 2 + 1 by omega),upd_self,upd_self]
   simp only [setZ,setN,if_true]
   exact hv.kp hk
 · rw [Nat.zero_add,upd_ne _ _ (by omega),upd_ne _ _ (by omega),upd_ne _ _ (by omega),upd_ne _ _ (by omega)]
   simp only [setZ,setN,if_neg hqj]
   exact (hc q hq).kp hk
theorem agg_Arr:aggTy Tryz.prog 115 4 = true:=by kernel_rfl
theorem R1_storeAT {T g c j N:Nat} {bn:Nat→Nat} {M:Nat→Int} {z z':Int} {a b a' b':Value} (h0:k = 2 ∨ k = 1∧∀ w',Ch (fun b=>b = g) w w'→S w w') (hx:ev n f x = .pointer (some ⟨g,0 + j * 2,none⟩)) (hy:ev n f y = .agg #[a,b,a',b']) (hr:RowT T w g c bn M) (hj:j + 1 < c) (hv:EV w N true a b z) (hv':EV w N true a' b' z')
 (h:∀ w',RowT T w' g c (setN (setN bn j N) (j + 1) N) (setZ (setZ M j z) (j + 1) z')→Ch (fun b=>b = g) w w'→Kp w w'→w'.heap.size = w.heap.size→K f w') :
 R1 Tryz.prog n S k ⟨none,.store 115 x y,ty,pos,aft,gd⟩ K f w:=by
 obtain ⟨hh,hB,hc⟩:=hr
 refine R1_store4 agg_Arr h0 hx hy hv.1.one0 hv.1.one1 hv'.1.one0 hv'.1.one1 hB (by rw [arr_size]; omega) ?_
 intro w' hB' hC hs
 have hk:=kp_ch hB (rowB_noInt hc).noU hC
 refine h w' ⟨_,by rw [arr_set,arr_set,arr_set,arr_set] at hB'; exact hB',fun q hq=>?_⟩ hC hk hs
 by_cases h1:q = j + 1
 · subst h1
   rw [Nat.zero_add,upd_ne _ _ (show (j + 1) * 2 ≠ j * 2 + 3 by omega),show (j + 1) * 2 = j * 2 + 2 by omega,upd_self,show j * 2 + 2 + 1 = j * 2 + 3 by omega,upd_self]
   simp only [setZ,setN,if_true]
   exact hv'.kp hk
 · by_cases h2:q = j
   · subst h2
     rw [Nat.zero_add,upd_ne _ _ (show q * 2 ≠ q * 2 + 3 by omega),upd_ne _ _ (show q * 2 ≠ q * 2 + 2 by omega),upd_ne _ _ (show q * 2 ≠ q * 2 + 1 by omega),upd_self,upd_ne _ _ (show q * 2 + 1 ≠ q * 2 + 3 by omega),upd_ne _ _ (show q * 2 + 1 ≠ q * 2 + 2 by omega),upd_self]
     simp only [setZ,setN,if_true,if_neg h1]
     exact hv.kp hk
   · rw [Nat.zero_add,upd_ne _ _ (by omega),upd_ne _ _ (by omega),upd_ne _ _ (by omega),upd_ne _ _ (by omega),upd_ne _ _ (by omega),upd_ne _ _ (by omega),upd_ne _ _ (by omega),upd_ne _ _ (by omega)]
     simp only [setZ,setN,if_neg h1,if_neg h2]
     exact (hc q hq).kp hk
theorem R1_indexArr {j G o:Nat} (hx:ev n f x = .pointer (some ⟨G,o,none⟩)) (hy:ev n f y = .int .i64 ((j:Nat):Int)) (hj:j < 2)
 (h:K (upd f d (.pointer (some ⟨G,o + j * 2,none⟩))) w):R1 Tryz.prog n S k ⟨some d,.indexAddr 115 x y,ty,pos,aft,gd⟩ K f w:=by
 refine R1_pure (v:=.pointer (some ⟨G,o + j * 2,none⟩)) (fun w=>?_) h
 have h1:(0:Int)≤(j:Int)∧(j:Int) < ((2:Nat):Int):=by omega
 simp only [execOp,hx,hy,Instr.indexAt,asIntOf,Sem.run_bind,Sem.run_pure,Result.andThen_ok,run_underlying Tryz.underlying115,Instr.sureAddr,Int.toNat_natCast]
 rw [if_pos h1]
 simp only [Sem.run_bind,Sem.run_pure,Result.andThen_ok,size_agg agg_Int,add_lit]
theorem R1_indexV0 {a b c e:Value} (hx:ev n f x = .agg #[a,b,c,e]) (hy:ev n f y = .int .i64 (((0:Nat)):Int)) (h:K (upd f d (.agg #[a,b])) w):R1 Tryz.prog n S k ⟨some d,.index 115 x y,ty,pos,aft,gd⟩ K f w:=by
 refine R1_pure (v:=.agg #[a,b]) (fun w=>?_) h
 simp [execOp,hx,hy,Instr.index,asIntOf,run_underlying Tryz.underlying115,part,size_agg agg_Int,run_isAgg_agg agg_Int]
theorem R1_indexV1 {a b c e:Value} (hx:ev n f x = .agg #[a,b,c,e]) (hy:ev n f y = .int .i64 (((1:Nat)):Int)) (h:K (upd f d (.agg #[c,e])) w):R1 Tryz.prog n S k ⟨some d,.index 115 x y,ty,pos,aft,gd⟩ K f w:=by
 refine R1_pure (v:=.agg #[c,e]) (fun w=>?_) h
 simp [execOp,hx,hy,Instr.index,asIntOf,run_underlying Tryz.underlying115,part,size_agg agg_Int,run_isAgg_agg agg_Int]
end
set_option maxHeartbeats 8000000 in
theorem nearest_ok (x1 y1 x2 y2:Value) (z1 z2:Int) (N:Nat) (w:World) (h1:IV w N x1 y1 z1) (h2:IV w N x2 y2 z2) (hN:N < 1000000000) (hz:0 < z2) :
 Meets Tryz.prog 137 #[.agg #[x1,y1],.agg #[x2,y2]] w (RI w (nearZ z1 z2)):=by
 refine fn_W (n:=22) Tryz.func137 rfl rfl (by kernel_rfl) (by simp) ?_
 have hX:Ext w w:=Ext.refl w
 refine gg ?_
 refine R1_box (v:=.agg _) (.inl rfl) rfl ?_
 intro w_1 hB0_ hE_ hs_
 have hA:Blk w_1 w.heap.size 47 #[x1,y1]:=hB0_
 obtain ⟨gA,hg_⟩ : ∃ g,g = w.heap.size:=⟨_,rfl⟩
 rw [← hg_] at hA ⊢
 have hfr_gA:w.heap.size≤gA:=by have:=hX.size; omega
 replace h1:=h1.ext hE_
 replace h2:=h2.ext hE_
 replace hX:=hX.trans hE_
 clear hB0_ hs_ hg_ hE_
 refine gg ?_
 refine R1_box (v:=.agg _) (.inl rfl) rfl ?_
 intro w_2 hB0_ hE_ hs_
 have hB:Blk w_2 w_1.heap.size 47 #[x2,y2]:=hB0_
 obtain ⟨gB,hg_⟩ : ∃ g,g = w_1.heap.size:=⟨_,rfl⟩
 rw [← hg_] at hB ⊢
 have hfr_gB:w.heap.size≤gB:=by have:=hX.size; omega
 have hne_gB_gA:gB ≠ gA:=by have:=hA.lt; omega
 replace h1:=h1.ext hE_
 replace h2:=h2.ext hE_
 replace hA:=hA.ext hE_
 replace hX:=hX.trans hE_
 clear hB0_ hs_ hg_ hE_
 refine gg ?_
 refine R1_alloc (.inl rfl) z_Int ?_
 intro w_3 hB0_ hE_ hs_
 have hR:=Bx.zero (N:=1) true hB0_
 obtain ⟨gR,hg_⟩ : ∃ g,g = w_2.heap.size:=⟨_,rfl⟩
 rw [← hg_] at hR ⊢
 have hfr_gR:w.heap.size≤gR:=by have:=hX.size; omega
 have hne_gR_gA:gR ≠ gA:=by have:=hA.lt; omega
 have hne_gR_gB:gR ≠ gB:=by have:=hB.lt; omega
 replace h1:=h1.ext hE_
 replace h2:=h2.ext hE_
 replace hA:=hA.ext hE_
 replace hB:=hB.ext hE_
 replace hX:=hX.trans hE_
 clear hB0_ hs_ hg_ hE_
 refine gg ?_
 refine W_seqG [(0,0),(1,0),(3,0),(5,0),(6,0)] [(2,[],[]),(13,[],[]),(14,[],[]),(4,[],[2]),(7,[],[4]),(8,[(9,3),(10,3),(11,3),(12,3)],[4,7])] [(15,2),(16,2),(17,3)] mixed (by kernel_rfl) (fun w_4 hE_ _=>?_)
 replace h1:=h1.ext hE_
 replace h2:=h2.ext hE_
 replace hA:=hA.ext hE_
 replace hB:=hB.ext hE_
 replace hR:=hR.ext hE_
 replace hX:=hX.trans hE_
 clear hE_
 obtain ⟨p0,p1⟩:=blkP hA
 obtain ⟨q0,q1⟩:=blkP hB
 have b1:=h1.bd
 have b2:=h2.bd
 refine gg ?_
 refine Rg_float [(2,[]),(4,[]),(7,[]),(8,[(9,3),(10,3),(11,3),(12,3)])] [fA 13 5 47 (.agg #[.bool false,.slice none 0 0]),fA 14 6 47 (.agg #[.bool false,.slice none 0 0])] [11,13,16,17,8,18,19,20,5,6] (by kernel_rfl) (fun a ha f' w' _ _=>by
  rcases List.mem_cons.1 ha with rfl | ha
  · exact flt_alloc z_Int rfl f' w'
  · skip
    rcases List.mem_singleton.1 ha with rfl
    exact flt_alloc z_Int rfl f' w') ?_
 have hltq_gA:=hA.lt
 have hltq_gB:=hB.lt
 have hltq_gR:=hR.lt
 have hszq:=hX.size
 clear p0 p1 q0 q1
 refine gg ?_
 refine Rc_cons (fun w_5 hE_=>?_)
 replace h1:=h1.ext hE_
 replace h2:=h2.ext hE_
 replace hA:=hA.ext hE_
 replace hB:=hB.ext hE_
 replace hR:=hR.ext hE_
 replace hX:=hX.trans hE_
 clear hE_
 refine gg ?_
 refine R1_call1 (add_ok _ _ _ _ _ _ N w_5 h1 h1 (by omega)) ?_
 rintro _ w_6 ⟨hE_,a0,a1,rfl,hc1⟩
 refine ⟨hE_,?_⟩
 replace h1:=h1.ext hE_
 replace h2:=h2.ext hE_
 replace hA:=hA.ext hE_
 replace hB:=hB.ext hE_
 replace hR:=hR.ext hE_
 replace hX:=hX.trans hE_
 clear hE_
 refine gg ?_
 refine Rc_cons (fun w_7 hE_=>?_)
 replace h1:=h1.ext hE_
 replace h2:=h2.ext hE_
 replace hA:=hA.ext hE_
 replace hB:=hB.ext hE_
 replace hR:=hR.ext hE_
 replace hc1:=hc1.ext hE_
 replace hX:=hX.trans hE_
 clear hE_
 refine gg ?_
 refine R1_call1 (add_ok _ _ _ _ _ _ (N + 1) w_7 (hc1.iv (b1.add b1)) (h2.mono (by omega)) (by omega)) ?_
 rintro _ w_8 ⟨hE_,a2,a3,rfl,hc2⟩
 refine ⟨hE_,?_⟩
 replace h1:=h1.ext hE_
 replace h2:=h2.ext hE_
 replace hA:=hA.ext hE_
 replace hB:=hB.ext hE_
 replace hR:=hR.ext hE_
 replace hc1:=hc1.ext hE_
 replace hX:=hX.trans hE_
 clear hE_
 refine gg ?_
 refine Rc_cons (fun w_9 hE_=>?_)
 replace h1:=h1.ext hE_
 replace h2:=h2.ext hE_
 replace hA:=hA.ext hE_
 replace hB:=hB.ext hE_
 replace hR:=hR.ext hE_
 replace hc1:=hc1.ext hE_
 replace hc2:=hc2.ext hE_
 replace hX:=hX.trans hE_
 clear hE_
 refine gg ?_
 refine R1_call1 (add_ok _ _ _ _ _ _ N w_9 h2 h2 (by omega)) ?_
 rintro _ w_10 ⟨hE_,a4,a5,rfl,hc3⟩
 refine ⟨hE_,?_⟩
 replace h1:=h1.ext hE_
 replace h2:=h2.ext hE_
 replace hA:=hA.ext hE_
 replace hB:=hB.ext hE_
 replace hR:=hR.ext hE_
 replace hc1:=hc1.ext hE_
 replace hc2:=hc2.ext hE_
 replace hX:=hX.trans hE_
 clear hE_
 have b3:Bd (N + 2) (z1 + z1 + z2):=(b1.add b1).add (b2.mono (by omega))
 have b4:Bd (N + 2) (z2 + z2):=(b2.add b2).mono (by omega)
 refine gg ?_
 refine Rc_cons (fun w_11 hE_=>?_)
 replace h1:=h1.ext hE_
 replace h2:=h2.ext hE_
 replace hA:=hA.ext hE_
 replace hB:=hB.ext hE_
 replace hR:=hR.ext hE_
 replace hc1:=hc1.ext hE_
 replace hc2:=hc2.ext hE_
 replace hc3:=hc3.ext hE_
 replace hX:=hX.trans hE_
 clear hE_
 refine gg ?_
 refine R1_call1 (divMod_ok _ _ _ _ _ _ (N + 2) w_11 (hc2.iv b3) (hc3.iv b4) (by omega) (by omega)) ?_
 rintro _ w_12 ⟨hE_,d0,d1,d2,d3,rfl,hq,hr⟩
 refine ⟨hE_,?_⟩
 replace h1:=h1.ext hE_
 replace h2:=h2.ext hE_
 replace hA:=hA.ext hE_
 replace hB:=hB.ext hE_
 replace hR:=hR.ext hE_
 replace hc1:=hc1.ext hE_
 replace hc2:=hc2.ext hE_
 replace hc3:=hc3.ext hE_
 replace hX:=hX.trans hE_
 clear hE_
 refine gg ?_
 refine Rc_nil (fun w_13 hE_ bs hbs hdis=>?_)
 replace h1:=h1.ext hE_
 replace h2:=h2.ext hE_
 replace hA:=hA.ext hE_
 replace hB:=hB.ext hE_
 replace hR:=hR.ext hE_
 replace hc1:=hc1.ext hE_
 replace hc2:=hc2.ext hE_
 replace hc3:=hc3.ext hE_
 replace hq:=hq.ext hE_
 replace hr:=hr.ext hE_
 replace hX:=hX.trans hE_
 clear hE_
 obtain ⟨hge_g5,hB_g5⟩:=hbs _ List.mem_cons_self
 have hge_g5:w_4.heap.size≤bs 5:=hge_g5
 have h5:Bx w_13 (bs 5) 1 true 0:=Bx.zero true hB_g5
 obtain ⟨hge_g6,hB_g6⟩:=hbs _ (List.mem_cons_of_mem _ List.mem_cons_self)
 have hge_g6:w_4.heap.size≤bs 6:=hge_g6
 have h6:Bx w_13 (bs 6) 1 true 0:=Bx.zero true hB_g6
 have hne_g6_g5:bs 6 ≠ bs 5:=hdis _ _ (List.mem_cons_of_mem _ List.mem_cons_self) List.mem_cons_self (show (6:Nat) ≠ 5 by decide)
 show Ro _ _ _ _ _ _ (upd (upd _ 6 (.pointer (some ⟨bs 6,0,none⟩))) 5 (.pointer (some ⟨bs 5,0,none⟩))) _
 generalize bs 5 = g5 at *
 generalize bs 6 = g6 at *
 have hfr_g5:w.heap.size≤g5:=by omega
 have hne_g5_gA:g5 ≠ gA:=by omega
 have hne_g5_gB:g5 ≠ gB:=by omega
 have hne_g5_gR:g5 ≠ gR:=by omega
 have hfr_g6:w.heap.size≤g6:=by omega
 have hne_g6_gA:g6 ≠ gA:=by omega
 have hne_g6_gB:g6 ≠ gB:=by omega
 have hne_g6_gR:g6 ≠ gR:=by omega
 clear hbs hdis hszq hB_g5 hge_g5 hB_g6 hge_g6 hltq_gA hltq_gB hltq_gR
 refine gg ?_
 refine R1_storeBx (by first | exact .inl rfl | exact .inr ⟨rfl,fun _ h=>h.mono fun b _ e=>by omega⟩) rfl rfl h5 (hq.ev true b3.ediv) ?_
 intro w_14 h5 hC_ hk_ hs_
 replace h1:=h1.kp hk_
 replace h2:=h2.kp hk_
 replace hA:=hA.ch hC_ (by omega)
 replace hB:=hB.ch hC_ (by omega)
 replace hR:=hR.kp hk_ hC_ (by first | omega | assumption)
 replace hc1:=hc1.kp hk_
 replace hc2:=hc2.kp hk_
 replace hc3:=hc3.kp hk_
 replace hq:=hq.kp hk_
 replace hr:=hr.kp hk_
 replace h6:=h6.kp hk_ hC_ (by first | omega | assumption)
 replace hX:=hC_.ext_of hX (fun b hb=>by omega)
 clear hC_ hk_ hs_
 have b5:Bd (N + 2) ((z1 + z1 + z2) % (z2 + z2)):=Bd.emod b4 (by omega)
 refine gg ?_
 refine R1_storeBx (by first | exact .inl rfl | exact .inr ⟨rfl,fun _ h=>h.mono fun b _ e=>by omega⟩) rfl rfl h6 (hr.ev true b5) ?_
 intro w_15 h6 hC_ hk_ hs_
 replace h1:=h1.kp hk_
 replace h2:=h2.kp hk_
 replace hA:=hA.ch hC_ (by omega)
 replace hB:=hB.ch hC_ (by omega)
 replace hR:=hR.kp hk_ hC_ (by first | omega | assumption)
 replace hc1:=hc1.kp hk_
 replace hc2:=hc2.kp hk_
 replace hc3:=hc3.kp hk_
 replace hq:=hq.kp hk_
 replace hr:=hr.kp hk_
 replace h5:=h5.kp hk_ hC_ (by first | omega | assumption)
 replace hX:=hC_.ext_of hX (fun b hb=>by omega)
 clear hC_ hk_ hs_
 obtain ⟨h5_u,h5_v,h5_B,h5_V⟩:=id h5
 obtain ⟨h5_0,h5_1⟩:=blkP h5_B
 refine gg ?_
 refine R1_storeBx (by first | exact .inl rfl | exact .inr ⟨rfl,fun _ h=>h.mono fun b _ e=>by omega⟩) rfl rfl hR (h5_V) ?_
 intro w_16 hR hC_ hk_ hs_
 replace h1:=h1.kp hk_
 replace h2:=h2.kp hk_
 replace hA:=hA.ch hC_ (by omega)
 replace hB:=hB.ch hC_ (by omega)
 replace hc1:=hc1.kp hk_
 replace hc2:=hc2.kp hk_
 replace hc3:=hc3.kp hk_
 replace hq:=hq.kp hk_
 replace hr:=hr.kp hk_
 replace h5:=h5.kp hk_ hC_ (by first | omega | assumption)
 replace h6:=h6.kp hk_ hC_ (by first | omega | assumption)
 replace hX:=hC_.ext_of hX (fun b hb=>by omega)
 clear hC_ hk_ hs_
 obtain ⟨u,v,hU,hV⟩:=hR
 refine gg ?_
 exact retC rfl agg_Int rfl hU ⟨hX,u,v,rfl,hV.2 rfl⟩
set_option maxHeartbeats 8000000 in
theorem combine_ok (x0 y0 x1 y1 x2 y2 x3 y3:Value) (v0 v1 z1 z2:Int) (N:Nat) (w:World) (h0:IV w N x0 y0 v0) (h1:IV w N x1 y1 v1) (h2:IV w N x2 y2 z1) (h3:IV w N x3 y3 z2) (hN:N < 1000000000) :
 Meets Tryz.prog 142 #[.agg #[x0,y0,x1,y1],.agg #[x2,y2],.agg #[x3,y3]] w (RI w (v0 * z1 + v1 * z2)):=by
 refine fn_W (n:=16) Tryz.func142 rfl rfl (by kernel_rfl) (by simp) ?_
 have hX:Ext w w:=Ext.refl w
 refine gg ?_
 refine R1_box (v:=.agg _) (.inl rfl) rfl ?_
 intro w_1 hB0_ hE_ hs_
 have hA:Blk w_1 w.heap.size 115 #[x0,y0,x1,y1]:=hB0_
 obtain ⟨gA,hg_⟩ : ∃ g,g = w.heap.size:=⟨_,rfl⟩
 rw [← hg_] at hA ⊢
 have hfr_gA:w.heap.size≤gA:=by have:=hX.size; omega
 replace h0:=h0.ext hE_
 replace h1:=h1.ext hE_
 replace h2:=h2.ext hE_
 replace h3:=h3.ext hE_
 replace hX:=hX.trans hE_
 clear hB0_ hs_ hg_ hE_
 refine gg ?_
 refine R1_box (v:=.agg _) (.inl rfl) rfl ?_
 intro w_2 hB0_ hE_ hs_
 have hB:Blk w_2 w_1.heap.size 47 #[x2,y2]:=hB0_
 obtain ⟨gB,hg_⟩ : ∃ g,g = w_1.heap.size:=⟨_,rfl⟩
 rw [← hg_] at hB ⊢
 have hfr_gB:w.heap.size≤gB:=by have:=hX.size; omega
 have hne_gB_gA:gB ≠ gA:=by have:=hA.lt; omega
 replace h0:=h0.ext hE_
 replace h1:=h1.ext hE_
 replace h2:=h2.ext hE_
 replace h3:=h3.ext hE_
 replace hA:=hA.ext hE_
 replace hX:=hX.trans hE_
 clear hB0_ hs_ hg_ hE_
 refine gg ?_
 refine R1_box (v:=.agg _) (.inl rfl) rfl ?_
 intro w_3 hB0_ hE_ hs_
 have hC:Blk w_3 w_2.heap.size 47 #[x3,y3]:=hB0_
 obtain ⟨gC,hg_⟩ : ∃ g,g = w_2.heap.size:=⟨_,rfl⟩
 rw [← hg_] at hC ⊢
 have hfr_gC:w.heap.size≤gC:=by have:=hX.size; omega
 have hne_gC_gA:gC ≠ gA:=by have:=hA.lt; omega
 have hne_gC_gB:gC ≠ gB:=by have:=hB.lt; omega
 replace h0:=h0.ext hE_
 replace h1:=h1.ext hE_
 replace h2:=h2.ext hE_
 replace h3:=h3.ext hE_
 replace hA:=hA.ext hE_
 replace hB:=hB.ext hE_
 replace hX:=hX.trans hE_
 clear hB0_ hs_ hg_ hE_
 refine gg ?_
 refine R1_alloc (.inl rfl) z_Int ?_
 intro w_4 hB0_ hE_ hs_
 have hR:=Bx.zero (N:=1) true hB0_
 obtain ⟨gR,hg_⟩ : ∃ g,g = w_3.heap.size:=⟨_,rfl⟩
 rw [← hg_] at hR ⊢
 have hfr_gR:w.heap.size≤gR:=by have:=hX.size; omega
 have hne_gR_gA:gR ≠ gA:=by have:=hA.lt; omega
 have hne_gR_gB:gR ≠ gB:=by have:=hB.lt; omega
 have hne_gR_gC:gR ≠ gC:=by have:=hC.lt; omega
 replace h0:=h0.ext hE_
 replace h1:=h1.ext hE_
 replace h2:=h2.ext hE_
 replace h3:=h3.ext hE_
 replace hA:=hA.ext hE_
 replace hB:=hB.ext hE_
 replace hC:=hC.ext hE_
 replace hX:=hX.trans hE_
 clear hB0_ hs_ hg_ hE_
 refine gg ?_
 refine W_seqD [(0,3),(1,0),(2,0),(4,3),(5,0),(6,0),(3,1),(7,1),(8,1),(9,2)] mixed (by kernel_rfl) (fun w_5 hE_ _=>?_)
 replace h0:=h0.ext hE_
 replace h1:=h1.ext hE_
 replace h2:=h2.ext hE_
 replace h3:=h3.ext hE_
 replace hA:=hA.ext hE_
 replace hB:=hB.ext hE_
 replace hC:=hC.ext hE_
 replace hR:=hR.ext hE_
 replace hX:=hX.trans hE_
 clear hE_
 obtain ⟨⟨p0,p1⟩,p2,p3⟩:=blkR hA
 obtain ⟨q0,q1⟩:=blkP hB
 obtain ⟨r0,r1⟩:=blkP hC
 refine gg ?_
 refine R1_indexArr (j:=0) rfl rfl (by decide) ?_
 refine gg ?_
 refine R1_indexArr (j:=1) rfl rfl (by decide) ?_
 have b0:=h0.bd
 have b1:=h1.bd
 have b2:=h2.bd
 have b3:=h3.bd
 refine gg ?_
 refine R1_call1 (mul_ok _ _ _ _ _ _ N w_5 h0 h2 (by omega)) ?_
 rintro _ w_6 ⟨hE_,a0,a1,rfl,hc1⟩
 refine ⟨hE_,?_⟩
 replace h0:=h0.ext hE_
 replace h1:=h1.ext hE_
 replace h2:=h2.ext hE_
 replace h3:=h3.ext hE_
 replace hA:=hA.ext hE_
 replace hB:=hB.ext hE_
 replace hC:=hC.ext hE_
 replace hR:=hR.ext hE_
 replace hX:=hX.trans hE_
 clear hE_
 refine gg ?_
 refine R1_call1 (mul_ok _ _ _ _ _ _ N w_6 h1 h3 (by omega)) ?_
 rintro _ w_7 ⟨hE_,a2,a3,rfl,hc2⟩
 refine ⟨hE_,?_⟩
 replace h0:=h0.ext hE_
 replace h1:=h1.ext hE_
 replace h2:=h2.ext hE_
 replace h3:=h3.ext hE_
 replace hA:=hA.ext hE_
 replace hB:=hB.ext hE_
 replace hC:=hC.ext hE_
 replace hR:=hR.ext hE_
 replace hc1:=hc1.ext hE_
 replace hX:=hX.trans hE_
 clear hE_
 refine gg ?_
 refine R1_call1 (add_ok _ _ _ _ _ _ (N + N) w_7 (hc1.iv (b0.mul b2)) (hc2.iv (b1.mul b3)) (by omega)) ?_
 rintro _ w_8 ⟨hE_,a4,a5,rfl,hc3⟩
 refine ⟨hE_,?_⟩
 replace h0:=h0.ext hE_
 replace h1:=h1.ext hE_
 replace h2:=h2.ext hE_
 replace h3:=h3.ext hE_
 replace hA:=hA.ext hE_
 replace hB:=hB.ext hE_
 replace hC:=hC.ext hE_
 replace hR:=hR.ext hE_
 replace hc1:=hc1.ext hE_
 replace hc2:=hc2.ext hE_
 replace hX:=hX.trans hE_
 clear hE_
 clear p0 p1 p2 p3 q0 q1 r0 r1
 refine gg ?_
 refine R1_storeBx (by first | exact .inl rfl | exact .inr ⟨rfl,fun _ h=>h.mono fun b _ e=>by omega⟩) rfl rfl hR (hc3.ev true ((b0.mul b2).add (b1.mul b3))) ?_
 intro w_9 hR hC_ hk_ hs_
 replace h0:=h0.kp hk_
 replace h1:=h1.kp hk_
 replace h2:=h2.kp hk_
 replace h3:=h3.kp hk_
 replace hA:=hA.ch hC_ (by omega)
 replace hB:=hB.ch hC_ (by omega)
 replace hC:=hC.ch hC_ (by omega)
 replace hc1:=hc1.kp hk_
 replace hc2:=hc2.kp hk_
 replace hc3:=hc3.kp hk_
 replace hX:=hC_.ext_of hX (fun b hb=>by omega)
 clear hC_ hk_ hs_
 obtain ⟨u,v,hU,hV⟩:=hR
 refine gg ?_
 exact retC rfl agg_Int rfl hU ⟨hX,u,v,rfl,hV.2 rfl⟩
theorem agg_Plane:aggTy Tryz.prog 117 14 = true:=by kernel_rfl
def pz (a b c f0 f1 g0 g1:Int):Nat→Int
 | 0=>a
 | 1=>b
 | 2=>c
 | 3=>f0
 | 4=>f1
 | 5=>g0
 | _=>g1
theorem pz_ext {M:Nat→Int} {a b c f0 f1 g0 g1:Int} (h0:M 0 = a) (h1:M 1 = b) (h2:M 2 = c) (h3:M 3 = f0) (h4:M 4 = f1) (h5:M 5 = g0) (h6:M 6 = g1):∀ j,j < 7→M j = pz a b c f0 f1 g0 g1 j:=fun j hj=>by
 have:j = 0 ∨ j = 1 ∨ j = 2 ∨ j = 3 ∨ j = 4 ∨ j = 5 ∨ j = 6:=by omega
 rcases this with rfl | rfl | rfl | rfl | rfl | rfl | rfl
 · exact h0
 · exact h1
 · exact h2
 · exact h3
 · exact h4
 · exact h5
 · exact h6
def PlB (w:World) (g N:Nat) (z:Nat→Int):Prop:=RowT 117 w g 7 (fun _=>N) z
theorem PlB.kp {w w':World} {g N:Nat} {z:Nat→Int} {MM:Nat→Prop} (h:PlB w g N z) (hk:Kp w w') (hC:Ch MM w w') (hn:¬ MM g):PlB w' g N z:=RowT.kp h hk hC hn
theorem PlB.ext {w w':World} {g N:Nat} {z:Nat→Int} (h:PlB w g N z) (hE:Ext w w'):PlB w' g N z:=RowT.ext h hE
theorem PlB.lt {w:World} {g N:Nat} {z:Nat→Int} (h:PlB w g N z):g < w.heap.size:=RowT.lt h
theorem PlB.congr {w:World} {g N N':Nat} {z z':Nat→Int} (h:PlB w g N z) (hN:N≤N') (e:∀ j,j < 7→z j = z' j):PlB w g N' z':=RowT.congr h fun j hj=>⟨hN,e j hj⟩
theorem fa_Plane0:FieldA Tryz.prog 117 0 0:=by
 unfold FieldA; intro a w
 simp [Instr.fieldAt,run_underlying Tryz.underlying117,Instr.sureAddr,fieldPlace,size_agg agg_Int]
theorem fa_Plane1:FieldA Tryz.prog 117 1 2:=by
 unfold FieldA; intro a w
 simp [Instr.fieldAt,run_underlying Tryz.underlying117,Instr.sureAddr,fieldPlace,size_agg agg_Int]
theorem fa_Plane2:FieldA Tryz.prog 117 2 4:=by
 unfold FieldA; intro a w
 simp [Instr.fieldAt,run_underlying Tryz.underlying117,Instr.sureAddr,fieldPlace,size_agg agg_Int]
theorem fa_Plane3:FieldA Tryz.prog 117 3 6:=by
 unfold FieldA; intro a w
 simp [Instr.fieldAt,run_underlying Tryz.underlying117,Instr.sureAddr,fieldPlace,size_agg agg_Arr]
theorem fa_Plane4:FieldA Tryz.prog 117 4 10:=by
 unfold FieldA; intro a w
 simp [Instr.fieldAt,run_underlying Tryz.underlying117,Instr.sureAddr,fieldPlace,size_agg agg_Arr]
set_option maxHeartbeats 8000000 in
theorem unbalanced_ok (g N:Nat) (z:Nat→Int) (w:World) (hP:PlB w g N z) (hN:N < 1000000000) :
 Meets Tryz.prog 103 #[.pointer (some ⟨g,0,none⟩)] w fun v w'=>Ext w w'∧v = .bool (decide (4 * z 2 < 3 * z 0)):=by
 refine fn_W (n:=21) Tryz.func103 rfl rfl (by kernel_rfl) (by simp) ?_
 have hX:Ext w w:=Ext.refl w
 have hb4:Bd 1 4:=by unfold Bd; decide
 have hb3:Bd 1 3:=by unfold Bd; decide
 refine gg ?_
 refine R1_call2 (small_ok 4 w (by decide) (by decide)) ?_
 rintro _ w_1 ⟨hE_,a0,a1,rfl,hc4⟩
 replace hX:=hX.trans hE_
 clear hE_
 refine gg ?_
 refine R1_call2 (small_ok 3 w_1 (by decide) (by decide)) ?_
 rintro _ w_2 ⟨hE_,a2,a3,rfl,hc3⟩
 replace hc4:=hc4.ext hE_
 replace hX:=hX.trans hE_
 clear hE_
 refine gg ?_
 refine R1_alloc (.inl rfl) z_Int ?_
 intro w_3 hB0_ hE_ hs_
 have h4:=Bx.zero (N:=1) true hB0_
 obtain ⟨g4,hg_⟩ : ∃ g,g = w_2.heap.size:=⟨_,rfl⟩
 rw [← hg_] at h4 ⊢
 have hfr_g4:w.heap.size≤g4:=by have:=hX.size; omega
 replace hc4:=hc4.ext hE_
 replace hc3:=hc3.ext hE_
 replace hX:=hX.trans hE_
 clear hB0_ hs_ hg_ hE_
 refine gg ?_
 refine R1_alloc (.inl rfl) z_Int ?_
 intro w_4 hB0_ hE_ hs_
 have h3:=Bx.zero (N:=1) true hB0_
 obtain ⟨g3,hg_⟩ : ∃ g,g = w_3.heap.size:=⟨_,rfl⟩
 rw [← hg_] at h3 ⊢
 have hfr_g3:w.heap.size≤g3:=by have:=hX.size; omega
 have hne_g3_g4:g3 ≠ g4:=by have:=h4.lt; omega
 replace hc4:=hc4.ext hE_
 replace hc3:=hc3.ext hE_
 replace h4:=h4.ext hE_
 replace hX:=hX.trans hE_
 clear hB0_ hs_ hg_ hE_
 refine gg ?_
 refine R1_storeBx (by first | exact .inl rfl | exact .inr ⟨rfl,fun _ h=>h.mono fun b _ e=>by omega⟩) rfl rfl h4 (hc4.ev true hb4) ?_
 intro w_5 h4 hC_ hk_ hs_
 replace hc4:=hc4.kp hk_
 replace hc3:=hc3.kp hk_
 replace h3:=h3.kp hk_ hC_ (by first | omega | assumption)
 replace hX:=hC_.ext_of hX (fun b hb=>by omega)
 clear hC_ hk_ hs_
 refine gg ?_
 refine R1_storeBx (by first | exact .inl rfl | exact .inr ⟨rfl,fun _ h=>h.mono fun b _ e=>by omega⟩) rfl rfl h3 (hc3.ev true hb3) ?_
 intro w_6 h3 hC_ hk_ hs_
 replace hc4:=hc4.kp hk_
 replace hc3:=hc3.kp hk_
 replace h4:=h4.kp hk_ hC_ (by first | omega | assumption)
 replace hX:=hC_.ext_of hX (fun b hb=>by omega)
 clear hC_ hk_ hs_
 refine gg ?_
 refine W_seqD [(0,0),(1,3),(2,3),(3,3),(4,0),(6,0),(7,3),(8,3),(9,3),(10,0),(5,1),(11,1),(12,1),(13,3),(14,3)] mixed (by kernel_rfl) (fun w_7 hE_ _=>?_)
 replace hc4:=hc4.ext hE_
 replace hc3:=hc3.ext hE_
 replace h4:=h4.ext hE_
 replace h3:=h3.ext hE_
 replace hX:=hX.trans hE_
 clear hE_
 have hPc:=hP.ext hX
 obtain ⟨x0,y0,e0,e0',v0⟩:=RowT.at hPc (j:=0) (by decide)
 obtain ⟨x2,y2,e2,e2',v2⟩:=RowT.at hPc (j:=2) (by decide)
 obtain ⟨h4_u,h4_v,h4_B,h4_V⟩:=id h4
 obtain ⟨h4_0,h4_1⟩:=blkP h4_B
 obtain ⟨h3_u,h3_v,h3_B,h3_V⟩:=id h3
 obtain ⟨h3_0,h3_1⟩:=blkP h3_B
 have w4:=h4_V.1
 have w3:=h3_V.1
 replace v0:=v0.1
 replace v2:=v2.1
 refine gg ?_
 refine R1_fieldAddr fa_Plane2 rfl ?_
 refine gg ?_
 refine R1_fieldAddr fa_Plane0 rfl ?_
 refine gg ?_
 clear e0 e0' e2 e2' h4_0 h4_1 h3_0 h3_1
 have b0:=IV.bd v0
 have b2:=IV.bd v2
 refine gg ?_
 refine R1_call1 (mul_ok _ _ _ _ _ _ (N + 1) w_7 (w4.mono (by omega)) (v2.mono (by omega)) (by omega)) ?_
 rintro _ w_8 ⟨hE_,a4,a5,rfl,hm1⟩
 refine ⟨hE_,?_⟩
 replace hc4:=hc4.ext hE_
 replace hc3:=hc3.ext hE_
 replace h4:=h4.ext hE_
 replace h3:=h3.ext hE_
 replace v0:=v0.ext hE_
 replace v2:=v2.ext hE_
 replace w4:=w4.ext hE_
 replace w3:=w3.ext hE_
 replace hX:=hX.trans hE_
 clear hE_
 refine gg ?_
 refine R1_call1 (mul_ok _ _ _ _ _ _ (N + 1) w_8 (w3.mono (by omega)) (v0.mono (by omega)) (by omega)) ?_
 rintro _ w_9 ⟨hE_,a6,a7,rfl,hm2⟩
 refine ⟨hE_,?_⟩
 replace hc4:=hc4.ext hE_
 replace hc3:=hc3.ext hE_
 replace h4:=h4.ext hE_
 replace h3:=h3.ext hE_
 replace v0:=v0.ext hE_
 replace v2:=v2.ext hE_
 replace w4:=w4.ext hE_
 replace w3:=w3.ext hE_
 replace hm1:=hm1.ext hE_
 replace hX:=hX.trans hE_
 clear hE_
 refine gg ?_
 refine R1_call1 (cmp_ok _ _ _ _ _ _ (1 + N) w_9 (hm1.iv (hb4.mul b2)) (hm2.iv (hb3.mul b0)) (by omega)) ?_
 rintro _ w_10 ⟨hE_,rfl⟩
 refine ⟨hE_,?_⟩
 replace hc4:=hc4.ext hE_
 replace hc3:=hc3.ext hE_
 replace h4:=h4.ext hE_
 replace h3:=h3.ext hE_
 replace v0:=v0.ext hE_
 replace v2:=v2.ext hE_
 replace w4:=w4.ext hE_
 replace w3:=w3.ext hE_
 replace hm1:=hm1.ext hE_
 replace hm2:=hm2.ext hE_
 replace hX:=hX.trans hE_
 clear hE_
 have hcm:decide (cmpI (4 * z 2) (3 * z 0) < 0) = decide (4 * z 2 < 3 * z 0):=by
  unfold cmpI
  by_cases h:4 * z 2 < 3 * z 0
  · rw [if_pos h,decide_eq_true h]; rfl
  · rw [if_neg h,decide_eq_false h]
    by_cases h':3 * z 0 < 4 * z 2
    · rw [if_pos h']; rfl
    · rw [if_neg h']; rfl
 refine gg ?_
 exact ret1 (v:=.bool _) rfl rfl ⟨hX,by rw [← hcm]⟩
end Go.Proofs.YtmkbpjoihdfpkaaGreat
namespace Go.Proofs.YtmkbpjoihdfpkaaGreat
open Go Go.Eng Go.Num Go.Proofs
open Go.Det (nearZ)
section
variable {n:Nat} {S:World→World→Prop} {k:Nat} {K:Fr→World→Prop} {f:Fr} {w:World} {d ty t t2:Nat} {x y:Operand} {pos:String} {aft:Array Edge} {gd:Option (Nat × Bool)}
theorem R1_indexV {a b c e:Value} {j:Nat} {v:Value} (hj:j < 2) (hv:v = if j = 0 then .agg #[a,b] else .agg #[c,e]) (hx:ev n f x = .agg #[a,b,c,e]) (hy:ev n f y = .int .i64 (((j:Nat)):Int)) (h:K (upd f d v) w):R1 Tryz.prog n S k ⟨some d,.index 115 x y,ty,pos,aft,gd⟩ K f w:=by
 have:j = 0 ∨ j = 1:=by omega
 rcases this with rfl | rfl
 · rw [if_pos rfl] at hv; subst hv; exact R1_indexV0 hx hy h
 · rw [if_neg (by decide)] at hv; subst hv; exact R1_indexV1 hx hy h
end
theorem nearZ_bd {N:Nat} {a b:Int} (ha:Bd N a) (hb:0 < b):Bd (N + 1) (nearZ a b):=by
 have h:=Go.Det.nearZ_abs (a:=a) (b:=b) (U:=((a.natAbs:Nat):Int)) hb (by
  have:=Int.mul_le_mul_of_nonneg_left (show (1:Int)≤b by omega) (show (0:Int)≤((a.natAbs:Nat):Int) by omega)
  omega) (by
  have:=Int.mul_le_mul_of_nonneg_left (show (1:Int)≤b by omega) (show (0:Int)≤((a.natAbs:Nat):Int) by omega)
  omega)
 unfold Bd at *
 have h2:=two_B N
 have h3:=B_pos N
 omega
structure PStep (J:Int→Int→Int→Int→Int→Int→Int→Prop) (N:Nat):Prop where
 step:∀ a b c f0 f1 g0 g1,J a b c f0 f1 g0 g1→4 * c < 3 * a→J c (b - nearZ b c * c) (a - nearZ b c * (b + (b - nearZ b c * c))) g0 g1 (f0 - nearZ b c * g0) (f1 - nearZ b c * g1)
 pos:∀ a b c f0 f1 g0 g1,J a b c f0 f1 g0 g1→0 < a∧0 < c
 bd:∀ a b c f0 f1 g0 g1,J a b c f0 f1 g0 g1→Bd N a∧Bd N b∧Bd N c∧Bd N f0∧Bd N f1∧Bd N g0∧Bd N g1
set_option maxHeartbeats 32000000 in
theorem planeReduce_ok (J:Int→Int→Int→Int→Int→Int→Int→Prop) (g N:Nat) (a b c f0 f1 g0 g1:Int) (w:World) (hP:PlB w g N (pz a b c f0 f1 g0 g1)) (hJ:PStep J N) (hj:J a b c f0 f1 g0 g1) (hN:N < 100000000) :
 Meets Tryz.prog 141 #[.pointer (some ⟨g,0,none⟩)] w fun v w'=>v = .tuple #[]∧Ch (fun b=>b = g) w w'∧Kp w w'∧∃ a b c f0 f1 g0 g1,PlB w' g N (pz a b c f0 f1 g0 g1)∧J a b c f0 f1 g0 g1∧¬ 4 * c < 3 * a:=by
 refine fn_W (n:=100) Tryz.func141 rfl rfl (by kernel_rfl) (by simp) ?_
 refine gg ?_
 refine W_loop (fun m f w'=>∃ a b c f0 f1 g0 g1,m = a.toNat∧f 0 = .pointer (some ⟨g,0,none⟩)∧Ch (fun b=>b = g) w w'∧Kp w w'∧PlB w' g N (pz a b c f0 f1 g0 g1)∧J a b c f0 f1 g0 g1) a.toNat ⟨a,b,c,f0,f1,g0,g1,rfl,rfl,Ch.refl _ _,Kp.refl _,hP,hj⟩ ?_
 clear hP hj
 clear a b c f0 f1 g0 g1
 rintro m f w1 ⟨a,b,c,f0,f1,g0,g1,rfl,hf0,hCw,hkw,hP,hj⟩
 rw [ui hf0]
 clear hf0
 obtain ⟨ha,hc⟩:=hJ.pos _ _ _ _ _ _ _ hj
 obtain ⟨ba,bb,bc,bf0,bf1,bg0,bg1⟩:=hJ.bd _ _ _ _ _ _ _ hj
 refine W_seq ?_
 have hX:Ext w1 w1:=Ext.refl w1
 refine gg ?_
 refine R1_call2 (unbalanced_ok g N _ w1 hP (by omega)) ?_
 rintro _ w_1 ⟨hE_,rfl⟩
 replace hP:=hP.ext hE_
 replace hX:=hX.trans hE_
 clear hE_
 by_cases hu:4 * pz a b c f0 f1 g0 g1 2 < 3 * pz a b c f0 f1 g0 g1 0
 rotate_left
 · refine gg ?_
   exact ret0 rfl ⟨rfl,hCw.trans (hX.mono fun _ _ h=>h.elim),hkw.trans (kp_ext hX),a,b,c,f0,f1,g0,g1,hP,hj,hu⟩
 have hu':4 * c < 3 * a:=hu
 refine gg ?_
 refine gg ?_
 refine W_seqD [(0,3),(1,3),(2,3),(3,3),(4,3),(5,0),(6,3),(7,3),(8,3),(9,0),(10,3),(11,3),(12,2),(13,3),(14,3),(15,2)] mixed (by kernel_rfl) (fun w_2 hE_ _=>?_)
 replace hP:=hP.ext hE_
 replace hX:=hX.trans hE_
 clear hE_
 obtain ⟨x0,y0,e0,e0',v0⟩:=RowT.at hP (j:=0) (by decide)
 obtain ⟨x2,y2,e2,e2',v2⟩:=RowT.at hP (j:=2) (by decide)
 have hC1:Ch (fun b=>b = g) w w_2:=hCw.trans (hX.mono fun _ _ h=>h.elim)
 have hk1:Kp w w_2:=hkw.trans (kp_ext hX)
 clear hX
 refine gg ?_
 refine R1_fieldAddr fa_Plane2 rfl ?_
 refine gg ?_
 refine R1_fieldAddr fa_Plane0 rfl ?_
 refine gg ?_
 refine R1_fieldAddr fa_Plane0 rfl ?_
 refine gg ?_
 refine R1_storeIT (j:=0) (.inl rfl) rfl rfl hP (by decide) v2 ?_
 intro w2 hP2 hC2 hk2 hs2
 replace v0:=v0.kp hk2
 clear e0 e0' e2 e2' hP
 refine gg ?_
 refine R1_fieldAddr fa_Plane2 rfl ?_
 refine gg ?_
 refine R1_storeIT (j:=2) (.inl rfl) rfl rfl hP2 (by decide) v0 ?_
 intro w3 hP3 hC3 hk3 hs3
 have hP:PlB w3 g N (pz c b a f0 f1 g0 g1):=RowT.congr hP3 fun j hj=>⟨by simp only [setN]; split <;> (first | exact Nat.le_refl _ | (split <;> exact Nat.le_refl _)),by
  revert j; exact pz_ext rfl rfl rfl rfl rfl rfl rfl⟩
 replace hC1:=hC1.trans (hC2.trans hC3)
 replace hk1:=hk1.trans (hk2.trans hk3)
 clear hP2 hP3 hC2 hC3 hk2 hk3 v0 v2
 refine gg ?_
 have hX:Ext w3 w3:=Ext.refl w3
 refine gg ?_
 refine W_seqD [(0,3),(1,3),(2,3),(3,3),(4,3),(5,0),(6,3),(7,3),(8,3),(9,0),(10,3),(11,3),(12,2),(13,3),(14,3),(15,2)] mixed (by kernel_rfl) (fun w_3 hE_ _=>?_)
 replace hP:=hP.ext hE_
 replace hX:=hX.trans hE_
 clear hE_
 obtain ⟨u0,u1,u2,u3,k0,k1,k2,k3,v0,v1⟩:=RowT.at2 hP (j:=3) (by decide)
 obtain ⟨s0,s1,s2,s3,l0,l1,l2,l3,v2,v3⟩:=RowT.at2 hP (j:=5) (by decide)
 replace hC1:Ch (fun b=>b = g) w w_3:=hC1.trans (hX.mono fun _ _ h=>h.elim)
 replace hk1:Kp w w_3:=hk1.trans (kp_ext hX)
 clear hX
 refine gg ?_
 refine R1_fieldAddr fa_Plane4 rfl ?_
 refine gg ?_
 refine R1_load4E (by decide) agg_Arr rfl l0 l1 l2 l3 ?_
 refine gg ?_
 refine R1_fieldAddr fa_Plane3 rfl ?_
 refine gg ?_
 refine R1_load4E (by decide) agg_Arr rfl k0 k1 k2 k3 ?_
 refine gg ?_
 refine R1_fieldAddr fa_Plane3 rfl ?_
 refine gg ?_
 refine R1_storeAT (j:=3) (.inl rfl) rfl rfl hP (by decide) v2 v3 ?_
 intro w4 hP4 hC2 hk2 hs2
 replace v0:=v0.kp hk2
 replace v1:=v1.kp hk2
 clear k0 k1 k2 k3 l0 l1 l2 l3 hP
 refine gg ?_
 refine R1_fieldAddr fa_Plane4 rfl ?_
 refine gg ?_
 refine R1_storeAT (j:=5) (.inl rfl) rfl rfl hP4 (by decide) v0 v1 ?_
 intro w5 hP5 hC3 hk3 hs3
 have hP:PlB w5 g N (pz c b a g0 g1 f0 f1):=RowT.congr hP5 fun j hj=>⟨by simp only [setN]; repeat (first | exact Nat.le_refl _ | split),by
  revert j; exact pz_ext rfl rfl rfl rfl rfl rfl rfl⟩
 replace hC1:=hC1.trans (hC2.trans hC3)
 replace hk1:=hk1.trans (hk2.trans hk3)
 clear hP4 hP5 hC2 hC3 hk2 hk3 v0 v1 v2 v3
 refine gg ?_
 have hX:Ext w5 w5:=Ext.refl w5
 refine gg ?_
 refine W_seqG [(0,3),(1,3),(2,3),(3,0),(4,3),(5,3),(6,3),(7,0)] [(8,[],[]),(9,[],[])] [(10,2)] mixed (by kernel_rfl) (fun w_4 hE_ _=>?_)
 replace hP:=hP.ext hE_
 replace hX:=hX.trans hE_
 clear hE_
 obtain ⟨x0,y0,e0,e0',v0⟩:=RowT.at hP (j:=0) (by decide)
 obtain ⟨x1,y1,e1,e1',v1⟩:=RowT.at hP (j:=1) (by decide)
 refine gg ?_
 refine R1_fieldAddr fa_Plane1 rfl ?_
 refine gg ?_
 refine R1_fieldAddr fa_Plane0 rfl ?_
 replace v0:=v0.1
 replace v1:=v1.1
 refine gg ?_
 refine Rg_float [(8,[])] [fA 9 2 47 (.agg #[.bool false,.slice none 0 0])] [44,2] (by kernel_rfl) (fun a ha f' w' _ _=>by
  rcases List.mem_singleton.1 ha with rfl
  exact flt_alloc z_Int rfl f' w') ?_
 have hltq_g:=hP.lt
 have hszq:=hX.size
 clear e0 e0' e1 e1'
 obtain ⟨q,hq⟩ : ∃ q,q = nearZ b c:=⟨_,rfl⟩
 have bq:Bd (N + 1) q:=by rw [hq]; exact nearZ_bd bb hc
 refine gg ?_
 refine Rc_cons (fun w_5 hE_=>?_)
 replace hP:=hP.ext hE_
 replace v0:=v0.ext hE_
 replace v1:=v1.ext hE_
 replace hX:=hX.trans hE_
 clear hE_
 refine gg ?_
 refine R1_call1 (nearest_ok _ _ _ _ b c N w_5 v1 v0 (by omega) hc) ?_
 rintro _ w_6 ⟨hE_,a0,a1,rfl,hcq⟩
 refine ⟨hE_,?_⟩
 replace hP:=hP.ext hE_
 replace v0:=v0.ext hE_
 replace v1:=v1.ext hE_
 replace hX:=hX.trans hE_
 clear hE_
 rw [← hq] at hcq
 refine gg ?_
 refine Rc_nil (fun w_7 hE_ bs hbs hdis=>?_)
 replace hP:=hP.ext hE_
 replace v0:=v0.ext hE_
 replace v1:=v1.ext hE_
 replace hcq:=hcq.ext hE_
 replace hX:=hX.trans hE_
 clear hE_
 obtain ⟨hge_gF,hB_gF⟩:=hbs _ List.mem_cons_self
 have hge_gF:w_4.heap.size≤bs 2:=hge_gF
 have hF:Bx w_7 (bs 2) 1 true 0:=Bx.zero true hB_gF
 show Ro _ _ _ _ _ _ (upd _ 2 (.pointer (some ⟨bs 2,0,none⟩))) _
 generalize bs 2 = gF at *
 have hfr_gF:w5.heap.size≤gF:=by omega
 have hne_gF_g:gF ≠ g:=by omega
 clear hbs hdis hszq hB_gF hge_gF hltq_g
 refine gg ?_
 refine R1_storeBx (by first | exact .inl rfl | exact .inr ⟨rfl,fun _ h=>h.mono fun b _ e=>by omega⟩) rfl rfl hF (hcq.ev true bq) ?_
 intro w_8 hF hC_ hk_ hs_
 replace hP:=hP.kp hk_ hC_ (by first | omega | assumption)
 replace v0:=v0.kp hk_
 replace v1:=v1.kp hk_
 replace hcq:=hcq.kp hk_
 replace hX:=hC_.ext_of hX (fun b hb=>by omega)
 clear hC_ hk_ hs_
 refine gg ?_
 refine W_seqG [(0,3),(1,3),(2,3),(3,0),(4,0),(5,3),(6,3),(7,3),(8,0)] [(9,[],[]),(11,[],[]),(10,[],[9])] [(12,2)] mixed (by kernel_rfl) (fun w_9 hE_ _=>?_)
 replace hP:=hP.ext hE_
 replace hF:=hF.ext hE_
 replace hX:=hX.trans hE_
 clear hE_
 obtain ⟨x0,y0,e0,e0',v0⟩:=RowT.at hP (j:=0) (by decide)
 obtain ⟨x1,y1,e1,e1',v1⟩:=RowT.at hP (j:=1) (by decide)
 obtain ⟨hF_u,hF_v,hF_B,hF_V⟩:=id hF
 obtain ⟨hF_0,hF_1⟩:=blkP hF_B
 have vF:=hF_V.1
 refine gg ?_
 refine R1_fieldAddr fa_Plane1 rfl ?_
 refine gg ?_
 refine R1_fieldAddr fa_Plane0 rfl ?_
 replace v0:=v0.1
 replace v1:=v1.1
 refine gg ?_
 refine Rg_float [(9,[]),(10,[])] [fA 11 3 47 (.agg #[.bool false,.slice none 0 0])] [54,55,3] (by kernel_rfl) (fun a ha f' w' _ _=>by
  rcases List.mem_singleton.1 ha with rfl
  exact flt_alloc z_Int rfl f' w') ?_
 have hltq_g:=hP.lt
 have hltq_gF:=hF.lt
 have hszq:=hX.size
 clear e0 e0' e1 e1' hF_0 hF_1
 refine gg ?_
 refine Rc_cons (fun w_10 hE_=>?_)
 replace hP:=hP.ext hE_
 replace hF:=hF.ext hE_
 replace v0:=v0.ext hE_
 replace v1:=v1.ext hE_
 replace vF:=vF.ext hE_
 replace hX:=hX.trans hE_
 clear hE_
 refine gg ?_
 refine R1_call1 (mul_ok _ _ _ _ _ _ (N + 1) w_10 vF (v0.mono (by omega)) (by omega)) ?_
 rintro _ w_11 ⟨hE_,a2,a3,rfl,hm⟩
 refine ⟨hE_,?_⟩
 replace hP:=hP.ext hE_
 replace hF:=hF.ext hE_
 replace v0:=v0.ext hE_
 replace v1:=v1.ext hE_
 replace vF:=vF.ext hE_
 replace hX:=hX.trans hE_
 clear hE_
 have bm:=bq.mul bc
 refine gg ?_
 refine Rc_cons (fun w_12 hE_=>?_)
 replace hP:=hP.ext hE_
 replace hF:=hF.ext hE_
 replace v0:=v0.ext hE_
 replace v1:=v1.ext hE_
 replace vF:=vF.ext hE_
 replace hm:=hm.ext hE_
 replace hX:=hX.trans hE_
 clear hE_
 refine gg ?_
 refine R1_call1 (sub_ok _ _ _ _ _ _ (N + 1 + N) w_12 (v1.mono (by omega)) (hm.iv bm) (by omega)) ?_
 rintro _ w_13 ⟨hE_,a4,a5,rfl,hb'⟩
 refine ⟨hE_,?_⟩
 replace hP:=hP.ext hE_
 replace hF:=hF.ext hE_
 replace v0:=v0.ext hE_
 replace v1:=v1.ext hE_
 replace vF:=vF.ext hE_
 replace hm:=hm.ext hE_
 replace hX:=hX.trans hE_
 clear hE_
 obtain ⟨b',hbd⟩ : ∃ b',b' = b - q * c:=⟨_,rfl⟩
 have hb':CV w_13 a4 a5 b':=by rw [hbd]; exact hb'
 have bb2:Bd (N + 1 + N + 1) b':=by rw [hbd]; exact (bb.mono (by omega)).sub bm
 refine gg ?_
 refine Rc_nil (fun w_14 hE_ bs hbs hdis=>?_)
 replace hP:=hP.ext hE_
 replace hF:=hF.ext hE_
 replace v0:=v0.ext hE_
 replace v1:=v1.ext hE_
 replace vF:=vF.ext hE_
 replace hm:=hm.ext hE_
 replace hb':=hb'.ext hE_
 replace hX:=hX.trans hE_
 clear hE_
 obtain ⟨hge_gB,hB_gB⟩:=hbs _ List.mem_cons_self
 have hge_gB:w_9.heap.size≤bs 3:=hge_gB
 have hB:Bx w_14 (bs 3) 1 true 0:=Bx.zero true hB_gB
 show Ro _ _ _ _ _ _ (upd _ 3 (.pointer (some ⟨bs 3,0,none⟩))) _
 generalize bs 3 = gB at *
 have hfr_gB:w5.heap.size≤gB:=by omega
 have hne_gB_g:gB ≠ g:=by omega
 have hne_gB_gF:gB ≠ gF:=by omega
 clear hbs hdis hszq hB_gB hge_gB hltq_g hltq_gF
 refine gg ?_
 refine R1_storeBx (by first | exact .inl rfl | exact .inr ⟨rfl,fun _ h=>h.mono fun b _ e=>by omega⟩) rfl rfl hB (hb'.ev true bb2) ?_
 intro w_15 hB hC_ hk_ hs_
 replace hP:=hP.kp hk_ hC_ (by first | omega | assumption)
 replace hF:=hF.kp hk_ hC_ (by first | omega | assumption)
 replace v0:=v0.kp hk_
 replace v1:=v1.kp hk_
 replace vF:=vF.kp hk_
 replace hm:=hm.kp hk_
 replace hb':=hb'.kp hk_
 replace hX:=hC_.ext_of hX (fun b hb=>by omega)
 clear hC_ hk_ hs_
 refine gg ?_
 refine W_seqD [(0,3),(1,3),(2,3),(3,3),(4,0),(5,0),(6,3),(7,3),(8,3),(9,0),(10,0),(11,1),(12,1),(13,1),(14,3),(15,3),(16,2)] mixed (by kernel_rfl) (fun w_16 hE_ _=>?_)
 replace hP:=hP.ext hE_
 replace hF:=hF.ext hE_
 replace hB:=hB.ext hE_
 replace hX:=hX.trans hE_
 clear hE_
 obtain ⟨x2,y2,e2,e2',v2⟩:=RowT.at hP (j:=2) (by decide)
 obtain ⟨x1,y1,e1,e1',v1⟩:=RowT.at hP (j:=1) (by decide)
 obtain ⟨hF_u,hF_v,hF_B,hF_V⟩:=id hF
 obtain ⟨hF_0,hF_1⟩:=blkP hF_B
 obtain ⟨hB_u,hB_v,hB_B,hB_V⟩:=id hB
 obtain ⟨hB_0,hB_1⟩:=blkP hB_B
 have vF:=hF_V.1
 have vB:=hB_V.1
 replace v2:IV w_16 N x2 y2 a:=v2.1
 replace v1:IV w_16 N x1 y1 b:=v1.1
 refine gg ?_
 refine R1_fieldAddr fa_Plane2 rfl ?_
 refine gg ?_
 refine R1_fieldAddr fa_Plane1 rfl ?_
 refine gg ?_
 refine R1_call1 (add_ok _ _ _ _ _ _ (N + 1 + N + 1) w_16 (v1.mono (by omega)) vB (by omega)) ?_
 rintro _ w_17 ⟨hE_,a2,a3,rfl,hs1⟩
 refine ⟨hE_,?_⟩
 replace hP:=hP.ext hE_
 replace hF:=hF.ext hE_
 replace hB:=hB.ext hE_
 replace v1:=v1.ext hE_
 replace v2:=v2.ext hE_
 replace vF:=vF.ext hE_
 replace vB:=vB.ext hE_
 replace hX:=hX.trans hE_
 clear hE_
 clear e2 e2' e1 e1' hF_0 hF_1 hB_0 hB_1
 have bs1:Bd (N + 1 + N + 1 + 1) (b + b'):=(bb.mono (by omega)).add bb2
 refine gg ?_
 refine R1_call1 (mul_ok _ _ _ _ _ _ (N + 1 + N + 1 + 1) w_17 (vF.mono (by omega)) (hs1.iv bs1) (by omega)) ?_
 rintro _ w_18 ⟨hE_,a4,a5,rfl,hm2⟩
 refine ⟨hE_,?_⟩
 replace hP:=hP.ext hE_
 replace hF:=hF.ext hE_
 replace hB:=hB.ext hE_
 replace v1:=v1.ext hE_
 replace v2:=v2.ext hE_
 replace vF:=vF.ext hE_
 replace vB:=vB.ext hE_
 replace hs1:=hs1.ext hE_
 replace hX:=hX.trans hE_
 clear hE_
 have bm2:=bq.mul bs1
 refine gg ?_
 refine R1_call1 (sub_ok _ _ _ _ _ _ (N + 1 + (N + 1 + N + 1 + 1)) w_18 (v2.mono (by omega)) (hm2.iv bm2) (by omega)) ?_
 rintro _ w_19 ⟨hE_,a6,a7,rfl,hc'⟩
 refine ⟨hE_,?_⟩
 replace hP:=hP.ext hE_
 replace hF:=hF.ext hE_
 replace hB:=hB.ext hE_
 replace v1:=v1.ext hE_
 replace v2:=v2.ext hE_
 replace vF:=vF.ext hE_
 replace vB:=vB.ext hE_
 replace hs1:=hs1.ext hE_
 replace hm2:=hm2.ext hE_
 replace hX:=hX.trans hE_
 clear hE_
 have hj':=hJ.step _ _ _ _ _ _ _ hj hu'
 rw [← hq,← hbd] at hj'
 obtain ⟨ba',bb',bc',bf0',bf1',bg0',bg1'⟩:=hJ.bd _ _ _ _ _ _ _ hj'
 refine gg ?_
 refine R1_fieldAddr fa_Plane2 rfl ?_
 refine gg ?_
 refine R1_storeIT (N:=N) (j:=2) (.inl rfl) rfl rfl hP (by decide) (hc'.ev true bc') ?_
 intro w_20 hP hC_ hk_ hs_
 replace hF:=hF.kp hk_ hC_ (by first | omega | assumption)
 replace hB:=hB.kp hk_ hC_ (by first | omega | assumption)
 replace hc':=hc'.kp hk_
 obtain ⟨c',hcd⟩ : ∃ c',c' = a - q * (b + b'):=⟨_,rfl⟩
 rw [← hcd] at hP hj' bc'
 replace hC1:=hC1.trans ((hX.mono fun _ _ h=>h.elim).trans hC_)
 replace hk1:=hk1.trans ((kp_ext hX).trans hk_)
 replace hP:PlB w_20 g N (pz c b c' g0 g1 f0 f1):=RowT.congr hP fun j hj=>⟨by simp only [setN]; split <;> exact Nat.le_refl _,by
  revert j; exact pz_ext rfl rfl rfl rfl rfl rfl rfl⟩
 clear hC_ hk_ hs_ hc'
 clear hX
 have hX:Ext w_20 w_20:=Ext.refl _
 obtain ⟨hB_u,hB_v,hB_B,hB_V⟩:=id hB
 obtain ⟨hB_0,hB_1⟩:=blkP hB_B
 have vB:EV w_20 N true hB_u hB_v b':=(hB_V.2 rfl).ev true bb'
 refine gg ?_
 refine R1_fieldAddr fa_Plane1 rfl ?_
 clear hB_V
 refine gg ?_
 refine R1_storeIT (N:=N) (j:=1) (.inl rfl) rfl rfl hP (by decide) vB ?_
 intro w_21 hP hC_ hk_ hs_
 replace hF:=hF.kp hk_ hC_ (by first | omega | assumption)
 replace hC1:=hC1.trans ((hX.mono fun _ _ h=>h.elim).trans hC_)
 replace hk1:=hk1.trans ((kp_ext hX).trans hk_)
 replace hP:PlB w_21 g N (pz c b' c' g0 g1 f0 f1):=RowT.congr hP fun j hj=>⟨by simp only [setN]; split <;> exact Nat.le_refl _,by
  revert j; exact pz_ext rfl rfl rfl rfl rfl rfl rfl⟩
 clear hC_ hk_ hs_ vB hB hB_0 hB_1
 clear hX
 have hX:Ext w_21 w_21:=Ext.refl _
 obtain ⟨u0,u1,u2,u3,k0,k1,k2,k3,v0,v1⟩:=RowT.at2 hP (j:=3) (by decide)
 refine gg ?_
 refine R1_fieldAddr fa_Plane3 rfl ?_
 refine gg ?_
 refine R1_load4F (by decide) agg_Arr rfl k0 k1 k2 k3 ?_
 clear k0 k1 k2 k3
 obtain ⟨wL,hwL⟩ : ∃ wL,wL = w_21:=⟨_,rfl⟩
 rw [← hwL] at hC1 hk1 hP v0 v1 hF ⊢
 clear hX
 have hgF:gF ≠ g:=by omega
 refine gg ?_
 refine W_loop (fun m f w'=>∃ i,m = 2 - i∧i≤2∧f 0 = .pointer (some ⟨g,0,none⟩)∧f 2 = .pointer (some ⟨gF,0,none⟩)∧f 79 = .agg #[u0,u1,u2,u3]∧f 80 = .int .i64 ((i:Nat):Int)∧Ch (fun b=>b = g) w w'∧Kp w w'∧PlB w' g N (pz c b' c' g0 g1 (if 0 < i then f0 - q * g0 else f0) (if 1 < i then f1 - q * g1 else f1))∧Bx w' gF (N + 1) true q∧EV w' N true u0 u1 g0∧EV w' N true u2 u3 g1)
  2 ⟨0,rfl,by decide,rfl,rfl,rfl,rfl,hC1,hk1,hP,hF,v0,v1⟩ ?_
 clear hC1 hk1 hP hF v0 v1
 rintro m f w6 ⟨i,rfl,hi,hf0,hf2,hf79,hf80,hC1,hk1,hP,hF,v0,v1⟩
 rw [ui hf0,ui hf2,ui hf79,ui hf80]
 clear hf0 hf2 hf79 hf80
 by_cases hil:i < 2
 rotate_left
 · obtain rfl:i = 2:=by omega
   rw [if_pos (by decide),if_pos (by decide)] at hP
   refine gg ?_
   refine ⟨_,?_,_,_,_,_,_,_,_,rfl,rfl,hC1,hk1,hP,hj'⟩
   omega
 obtain ⟨ex,ey,hval,hev⟩ : ∃ ex ey,Value.agg #[ex,ey] = (if i = 0 then Value.agg #[u0,u1] else Value.agg #[u2,u3])∧EV w6 N true ex ey (if i = 0 then g0 else g1):=by
  by_cases e:i = 0
  · rw [if_pos e,if_pos e]; exact ⟨_,_,rfl,v0⟩
  · rw [if_neg e,if_neg e]; exact ⟨_,_,rfl,v1⟩
 obtain ⟨gx,hgx⟩ : ∃ gx:Int,gx = if i = 0 then g0 else g1:=⟨_,rfl⟩
 rw [← hgx] at hev
 have hX:Ext w6 w6:=Ext.refl w6
 refine gg ?_
 refine R1_indexV hil hval rfl rfl ?_
 refine gg ?_
 refine R1_alloc (.inl rfl) z_Int ?_
 intro w7 hB0 hE7 hs7
 have hI:=Bx.zero (N:=1) true hB0
 obtain ⟨gI,hgI⟩ : ∃ g,g = w6.heap.size:=⟨_,rfl⟩
 rw [← hgI] at hI ⊢
 have hIg:gI ≠ g∧gI ≠ gF:=by have:=hP.lt; have:=hF.lt; omega
 refine gg ?_
 refine R1_storeBx (N':=N) (.inl rfl) rfl rfl hI (hev.ext hE7) ?_
 intro w8 hI hC_ hk_ hs_
 have hE68:Ext w6 w8:=hC_.ext_of hE7 (fun b hb=>by omega)
 replace hP:=hP.ext hE68
 replace hF:=hF.ext hE68
 replace v0:=v0.ext hE68
 replace v1:=v1.ext hE68
 replace hX:=hX.trans hE68
 clear hB0 hE7 hs7 hC_ hk_ hs_ hev hE68
 refine gg ?_
 refine gg ?_
 refine W_regD [(0,3),(1,3),(2,3),(3,3),(4,3),(5,3),(6,3),(7,0),(8,0),(9,0),(12,3),(13,3),(10,1),(11,1),(14,3),(15,2)] mixed (by kernel_rfl) (fun w_22 hE_ _=>?_)
 replace hP:=hP.ext hE_
 replace hF:=hF.ext hE_
 replace hI:=hI.ext hE_
 replace v0:=v0.ext hE_
 replace v1:=v1.ext hE_
 replace hX:=hX.trans hE_
 clear hE_
 obtain ⟨x5,y5,e5,e5',v5⟩:=RowT.at hP (j:=5 + i) (by omega)
 obtain ⟨fx,hfx⟩ : ∃ fx:Int,fx = if i = 0 then f0 else f1:=⟨_,rfl⟩
 have ev5:pz c b' c' g0 g1 (if 0 < i then f0 - q * g0 else f0) (if 1 < i then f1 - q * g1 else f1) (5 + i) = fx:=by
  have:i = 0 ∨ i = 1:=by omega
  rcases this with rfl | rfl
  · rw [hfx]; rfl
  · rw [hfx]; rfl
 rw [ev5] at v5
 rw [show 0 + (5 + i) * 2 = 0 + 10 + i * 2 by omega] at e5 e5'
 obtain ⟨hF_u,hF_v,hF_B,hF_V⟩:=id hF
 obtain ⟨hF_0,hF_1⟩:=blkP hF_B
 obtain ⟨hI_u,hI_v,hI_B,hI_V⟩:=id hI
 obtain ⟨hI_0,hI_1⟩:=blkP hI_B
 have vF:=hF_V.1
 have vI:=hI_V.1
 replace v5:=v5.1
 refine gg ?_
 refine R1_fieldAddr fa_Plane4 rfl ?_
 refine gg ?_
 refine R1_indexArr rfl rfl hil ?_
 refine gg ?_
 refine R1_fieldAddr fa_Plane4 rfl ?_
 have bgx:Bd N gx:=by rw [hgx]; split <;> assumption
 have bfx:Bd N fx:=by rw [hfx]; split <;> assumption
 refine gg ?_
 refine R1_call1 (mul_ok _ _ _ _ _ _ (N + 1) w_22 vF (vI.mono (by omega)) (by omega)) ?_
 rintro _ w_23 ⟨hE_,a2,a3,rfl,hm⟩
 refine ⟨hE_,?_⟩
 replace hP:=hP.ext hE_
 replace hF:=hF.ext hE_
 replace hI:=hI.ext hE_
 replace v0:=v0.ext hE_
 replace v1:=v1.ext hE_
 replace v5:=v5.ext hE_
 replace vF:=vF.ext hE_
 replace vI:=vI.ext hE_
 replace hX:=hX.trans hE_
 clear hE_
 clear e5 e5' hF_0 hF_1 hI_0 hI_1
 refine gg ?_
 refine R1_call1 (sub_ok _ _ _ _ _ _ (N + 1 + N) w_23 (v5.mono (by omega)) (hm.iv (bq.mul bgx)) (by omega)) ?_
 rintro _ w_24 ⟨hE_,a4,a5,rfl,hs'⟩
 refine ⟨hE_,?_⟩
 replace hP:=hP.ext hE_
 replace hF:=hF.ext hE_
 replace hI:=hI.ext hE_
 replace v0:=v0.ext hE_
 replace v1:=v1.ext hE_
 replace v5:=v5.ext hE_
 replace vF:=vF.ext hE_
 replace vI:=vI.ext hE_
 replace hm:=hm.ext hE_
 replace hX:=hX.trans hE_
 clear hE_
 have bs':Bd N (fx - q * gx):=by
  rw [hfx,hgx]
  split <;> assumption
 refine gg ?_
 refine R1_indexArr rfl rfl hil ?_
 refine gg ?_
 rw [show 0 + 10 + i * 2 = 0 + (5 + i) * 2 by omega]
 refine gg ?_
 refine R1_storeIT (N:=N) (j:=5 + i) (.inl rfl) rfl rfl hP (by omega) (hs'.ev true bs') ?_
 intro w_25 hP hC_ hk_ hs_
 replace hF:=hF.kp hk_ hC_ (by first | omega | assumption)
 replace hI:=hI.kp hk_ hC_ (by first | omega | assumption)
 replace v0:=v0.kp hk_
 replace v1:=v1.kp hk_
 replace hC1:=hC1.trans ((hX.mono fun _ _ h=>h.elim).trans hC_)
 replace hk1:=hk1.trans ((kp_ext hX).trans hk_)
 replace hP:PlB w_25 g N (pz c b' c' g0 g1 (if 0 < i + 1 then f0 - q * g0 else f0) (if 1 < i + 1 then f1 - q * g1 else f1)):=RowT.congr hP fun j hj=>⟨by simp only [setN]; split <;> exact Nat.le_refl _,by
  have:i = 0 ∨ i = 1:=by omega
  rcases this with rfl | rfl
  · rw [if_pos rfl] at hfx hgx
    subst hfx hgx
    revert j; exact pz_ext rfl rfl rfl rfl rfl rfl rfl
  · rw [if_neg (by decide)] at hfx hgx
    subst hfx hgx
    revert j; exact pz_ext rfl rfl rfl rfl rfl rfl rfl⟩
 refine gg ?_
 refine ⟨_,?_,i + 1,rfl,by omega,rfl,rfl,rfl,rfl,hC1,hk1,hP,hF,v0,v1⟩
 omega
end Go.Proofs.YtmkbpjoihdfpkaaGreat
namespace Go.Proofs.YtmkbpjoihdfpkaaGreat
open Go Go.Eng Go.Num Go.Proofs
open Go.Det (nearZ)
structure Ids where
 gS:Nat
 gM:Nat
 gL:Nat
 gB:Nat
 gl:Nat→Nat
 gb:Nat→Nat
structure Ids.ok (I:Ids) (n:Nat):Prop where
 SM:I.gS ≠ I.gM
 SL:I.gS ≠ I.gL
 SB:I.gS ≠ I.gB
 ML:I.gM ≠ I.gL
 MB:I.gM ≠ I.gB
 LB:I.gL ≠ I.gB
 l:∀ i,i < n→I.gl i ≠ I.gS∧I.gl i ≠ I.gM∧I.gl i ≠ I.gL∧I.gl i ≠ I.gB
 b:∀ i,i < n→I.gb i ≠ I.gS∧I.gb i ≠ I.gM∧I.gb i ≠ I.gL∧I.gb i ≠ I.gB
 lb:∀ i j,i < n→j < n→I.gl i ≠ I.gb j
 ll:∀ i j,i < n→j < n→I.gl i = I.gl j→i = j
def StBlk (I:Ids) (n:Nat) (b:Nat):Prop:=b = I.gS ∨ b = I.gM ∨ b = I.gL ∨ b = I.gB ∨ ∃ i,i < n∧(b = I.gl i ∨ b = I.gb i)
def StMod (I:Ids) (n:Nat) (b:Nat):Prop:=b = I.gM ∨ ∃ i,i < n∧(b = I.gl i ∨ b = I.gb i)
theorem StMod.blk {I:Ids} {n b:Nat} (h:StMod I n b):StBlk I n b:=by
 rcases h with h | h
 · exact .inr (.inl h)
 · exact .inr (.inr (.inr (.inr h)))
structure StB (w:World) (I:Ids) (n N:Nat) (d:Nat→Int) (l T:Nat→Nat→Int):Prop where
 st:Blk w I.gS 80 #[.slice (some ⟨I.gM,0,none⟩) (n + 1) (n + 1),.slice (some ⟨I.gL,0,none⟩) n n,.slice (some ⟨I.gB,0,none⟩) n n,.func (.func 101) #[.pointer (some ⟨I.gS,0,none⟩)] #[]]
 mi:RowB w I.gM (n + 1) true (fun _=>N) d
 lo:Blk w I.gL 49 (arr n fun i=>.slice (some ⟨I.gl i,0,none⟩) i i)
 la:∀ i,i < n→RowB w (I.gl i) i true (fun _=>N) (l i)
 ba:WMat w I.gB I.gb n n true (fun _ _=>N) T
section
variable {w w':World} {I:Ids} {n N N':Nat} {d d':Nat→Int} {l l' T T':Nat→Nat→Int}
theorem StB.kp {MM:Nat→Prop} (h:StB w I n N d l T) (hk:Kp w w') (hC:Ch MM w w') (hn:∀ b,MM b→¬ StBlk I n b):StB w' I n N d l T where
 st:=h.st.ch hC fun e=>hn _ e (.inl rfl)
 mi:=h.mi.kp hk hC fun e=>hn _ e (.inr (.inl rfl))
 lo:=h.lo.ch hC fun e=>hn _ e (.inr (.inr (.inl rfl)))
 la:=fun i hi=>(h.la i hi).kp hk hC fun e=>hn _ e (.inr (.inr (.inr (.inr ⟨i,hi,.inl rfl⟩))))
 ba:=h.ba.kp hk hC (fun e=>hn _ e (.inr (.inr (.inr (.inl rfl))))) (fun i hi e=>hn _ e (.inr (.inr (.inr (.inr ⟨i,hi,.inr rfl⟩)))))
theorem StB.ext (h:StB w I n N d l T) (hE:Ext w w'):StB w' I n N d l T:=h.kp (kp_ext hE) hE fun _ e=>e.elim
theorem StB.congr (h:StB w I n N d l T) (hN:N≤N') (e1:∀ m,m≤n→d m = d' m) (e2:∀ i c,c < i→i < n→l i c = l' i c) (e3:∀ i c,i < n→c < n→T i c = T' i c):StB w I n N' d' l' T' where
 st:=h.st
 mi:=h.mi.congr fun j hj=>⟨hN,e1 j (by omega)⟩
 lo:=h.lo
 la:=fun i hi=>(h.la i hi).congr fun j hj=>⟨hN,e2 i j hj hi⟩
 ba:=h.ba.congr fun i j hi hj=>⟨hN,e3 i j hi hj⟩
theorem StB.blk (h:StB w I n N d l T) {b:Nat} (hb:StBlk I n b):b < w.heap.size:=by
 rcases hb with rfl | rfl | rfl | rfl | ⟨i,hi,rfl | rfl⟩
 · exact h.st.lt
 · exact h.mi.lt
 · exact h.lo.lt
 · exact h.ba.lt
 · exact (h.la i hi).lt
 · exact (h.ba.row i hi).lt
theorem StB.c0 (h:StB w I n N d l T):w.cell? ⟨I.gS,0 + 0,none⟩ = some (.slice (some ⟨I.gM,0,none⟩) (n + 1) (n + 1)):=by rw [h.st.cell]; rfl
theorem StB.c1 (h:StB w I n N d l T):w.cell? ⟨I.gS,0 + 1,none⟩ = some (.slice (some ⟨I.gL,0,none⟩) n n):=by rw [h.st.cell]; rfl
theorem StB.c2 (h:StB w I n N d l T):w.cell? ⟨I.gS,0 + 2,none⟩ = some (.slice (some ⟨I.gB,0,none⟩) n n):=by rw [h.st.cell]; rfl
theorem StB.c3 (h:StB w I n N d l T):w.cell? ⟨I.gS,0 + 3,none⟩ = some (.func (.func 101) #[.pointer (some ⟨I.gS,0,none⟩)] #[]):=by rw [h.st.cell]; rfl
theorem StB.lrow (h:StB w I n N d l T) {i:Nat} (hi:i < n):w.cell? ⟨I.gL,0 + i * 1,none⟩ = some (.slice (some ⟨I.gl i,0,none⟩) i i):=by
 rw [h.lo.cell,show 0 + i * 1 = i by omega,arr_at hi]
theorem StB.putB {i j:Nat} {z:Int} (h:StB w I n N d l T) (hI:I.ok n) (hi:i < n) (hr:RowB w' (I.gb i) n true (setN (fun _=>N) j N) (setZ (T i) j z)) (hC:Ch (fun b=>b = I.gb i) w w') (hk:Kp w w'):StB w' I n N d l (set2 T i j z) where
 st:=h.st.ch hC (hI.b i hi).1.symm
 mi:=h.mi.kp hk hC (hI.b i hi).2.1.symm
 lo:=h.lo.ch hC (hI.b i hi).2.2.1.symm
 la:=fun q hq=>(h.la q hq).kp hk hC (hI.lb q i hq hi)
 ba:=(h.ba.put hi hr hC hk).congr fun a b _ _=>⟨by simp only [set2]; split <;> exact Nat.le_refl _,rfl⟩
theorem StB.putL {i j:Nat} {z:Int} (h:StB w I n N d l T) (hI:I.ok n) (hi:i < n) (hr:RowB w' (I.gl i) i true (setN (fun _=>N) j N) (setZ (l i) j z)) (hC:Ch (fun b=>b = I.gl i) w w') (hk:Kp w w'):StB w' I n N d (set2 l i j z) T where
 st:=h.st.ch hC (hI.l i hi).1.symm
 mi:=h.mi.kp hk hC (hI.l i hi).2.1.symm
 lo:=h.lo.ch hC (hI.l i hi).2.2.1.symm
 la:=fun q hq=>by
  by_cases e:q = i
  · subst e
    refine hr.congr fun b _=>⟨by simp only [setN]; split <;> exact Nat.le_refl _,?_⟩
    rw [set2_row]; rfl
  · rw [set2_ne _ _ _ e]
    exact (h.la q hq).kp hk hC fun e'=>e (hI.ll q i hq hi e')
 ba:=h.ba.kp hk hC (hI.l i hi).2.2.2.symm fun q hq=>(hI.lb i q hi hq).symm
theorem StB.putM {j:Nat} {z:Int} (h:StB w I n N d l T) (hI:I.ok n) (hr:RowB w' I.gM (n + 1) true (setN (fun _=>N) j N) (setZ d j z)) (hC:Ch (fun b=>b = I.gM) w w') (hk:Kp w w'):StB w' I n N (setZ d j z) l T where
 st:=h.st.ch hC hI.SM
 mi:=hr.congr fun b _=>⟨by simp only [setN]; split <;> exact Nat.le_refl _,rfl⟩
 lo:=h.lo.ch hC hI.ML.symm
 la:=fun q hq=>(h.la q hq).kp hk hC (hI.l q hq).2.1
 ba:=h.ba.kp hk hC hI.MB.symm fun q hq=>(hI.b q hq).2.1
theorem _root_.Go.Eng.Ch.add {M:Nat→Prop} {w w1 w2:World} (h:Ch M w w1) (hE:Ext w1 w2):Ch M w w2:=h.trans (hE.mono fun _ _ e=>e.elim)
end
section
variable {n:Nat} {S:World→World→Prop} {k:Nat} {K:Fr→World→Prop} {f:Fr} {w:World} {dd ty t t2:Nat} {x y:Operand} {pos:String} {aft:Array Edge} {gd:Option (Nat × Bool)}
variable {I:Ids} {m N:Nat} {d:Nat→Int} {l T:Nat→Nat→Int}
theorem R1_storeSB {i j:Nat} {z:Int} {a b:Value} (h0:k = 2 ∨ k = 1∧∀ w',Ch (fun b=>b = I.gb i) w w'→S w w') (hx:ev n f x = .pointer (some ⟨I.gb i,0 + j * 2,none⟩)) (hy:ev n f y = .agg #[a,b]) (hS:StB w I m N d l T) (hI:I.ok m) (hi:i < m) (hj:j < m) (hv:EV w N true a b z)
 (h:∀ w',StB w' I m N d l (set2 T i j z)→Ch (StMod I m) w w'→Kp w w'→w'.heap.size = w.heap.size→K f w') :
 R1 Tryz.prog n S k ⟨none,.store 47 x y,ty,pos,aft,gd⟩ K f w :=
 R1_storeE h0 hx hy (hS.ba.row i hi) hj hv fun w' hr hC hk hs=>h w' (hS.putB hI hi hr hC hk) (hC.mono fun _b _ e=>.inr ⟨i,hi,.inr e⟩) hk hs
theorem R1_storeSL {i j:Nat} {z:Int} {a b:Value} (h0:k = 2 ∨ k = 1∧∀ w',Ch (fun b=>b = I.gl i) w w'→S w w') (hx:ev n f x = .pointer (some ⟨I.gl i,0 + j * 2,none⟩)) (hy:ev n f y = .agg #[a,b]) (hS:StB w I m N d l T) (hI:I.ok m) (hi:i < m) (hj:j < i) (hv:EV w N true a b z)
 (h:∀ w',StB w' I m N d (set2 l i j z) T→Ch (StMod I m) w w'→Kp w w'→w'.heap.size = w.heap.size→K f w') :
 R1 Tryz.prog n S k ⟨none,.store 47 x y,ty,pos,aft,gd⟩ K f w :=
 R1_storeE h0 hx hy (hS.la i hi) hj hv fun w' hr hC hk hs=>h w' (hS.putL hI hi hr hC hk) (hC.mono fun _b _ e=>.inr ⟨i,hi,.inl e⟩) hk hs
theorem R1_storeSM {j:Nat} {z:Int} {a b:Value} (h0:k = 2 ∨ k = 1∧∀ w',Ch (fun b=>b = I.gM) w w'→S w w') (hx:ev n f x = .pointer (some ⟨I.gM,0 + j * 2,none⟩)) (hy:ev n f y = .agg #[a,b]) (hS:StB w I m N d l T) (hI:I.ok m) (hj:j < m + 1) (hv:EV w N true a b z)
 (h:∀ w',StB w' I m N (setZ d j z) l T→Ch (StMod I m) w w'→Kp w w'→w'.heap.size = w.heap.size→K f w') :
 R1 Tryz.prog n S k ⟨none,.store 47 x y,ty,pos,aft,gd⟩ K f w :=
 R1_storeE h0 hx hy hS.mi hj hv fun w' hr hC hk hs=>h w' (hS.putM hI hr hC hk) (hC.mono fun _b _ e=>.inl e) hk hs
end
theorem fa_St0:FieldA Tryz.prog 80 0 0:=by
 unfold FieldA; intro a w
 simp [Instr.fieldAt,run_underlying Tryz.underlying80,Instr.sureAddr,fieldPlace,size_one (one_of (t:=49) rfl)]
theorem fa_St1:FieldA Tryz.prog 80 1 1:=by
 unfold FieldA; intro a w
 simp [Instr.fieldAt,run_underlying Tryz.underlying80,Instr.sureAddr,fieldPlace,size_one (one_of (t:=35) rfl)]
theorem fa_St2:FieldA Tryz.prog 80 2 2:=by
 unfold FieldA; intro a w
 simp [Instr.fieldAt,run_underlying Tryz.underlying80,Instr.sureAddr,fieldPlace,size_one (one_of (t:=35) rfl)]
theorem ret0R {P:Program} {n:Nat} {f:Fr} {w:World} {fn:Func} {post:Value→World→Prop} (hr:fn.results = #[]) (h:post (.tuple #[]) w):bodyPost P fn (Ret post) .ret (act n f) w:=by
 exact bodyPost_ret (results_none hr _ _ _) rfl ⟨_,rfl,h⟩
theorem cmpI_le {a b:Int}:cmpI a b≤0 ↔ a≤b:=by
 unfold cmpI
 constructor
 · intro h
   by_cases h1:a < b
   · omega
   · rw [if_neg h1] at h
     by_cases h2:b < a
     · rw [if_pos h2] at h; omega
     · omega
 · intro h
   by_cases h1:a < b
   · rw [if_pos h1]; decide
   · rw [if_neg h1,if_neg (by omega)]; decide
theorem gh {G G':Prop} (h:G') (t:Gw G'→G:=by intro hgg; (repeat (first | (first | (refine R1_isR1 ?_; (first | refine R1_moveT rfl ?_ | refine R1_assignT rfl ?_ | refine R1_moveCi ?_ | refine R1_assignCi ?_ | refine R1_moveC ?_ | refine R1_assignC ?_ | (refine R1_isBin ?_; (first | refine R1_lss_i64_c rfl ?_ | refine R1_lss_i64 rfl rfl ?_ | refine R1_add_i64_c rfl (by omega) ?_ | refine R1_add_i64 rfl rfl (by omega) ?_ | refine R1_sub_i64_c rfl (by omega) (by omega) ?_ | refine R1_sub_i64 rfl rfl (by omega) (by omega) ?_ | refine R1_gtr_i64_c rfl ?_ | refine R1_gtr_i64 rfl rfl ?_ | refine R1_leq_i64_c rfl ?_ | refine R1_leq_i64 rfl rfl ?_ | refine R1_geq_i64_c rfl ?_ | refine R1_geq_i64 rfl rfl ?_ | refine R1_eql_i64_c rfl ?_ | refine R1_eql_i64 rfl rfl ?_ | refine R1_neq_i64_c rfl ?_ | refine R1_neq_i64 rfl rfl ?_ | refine R1_mul_i64_l rfl (by omega) ?_ | refine R1_mul_i64_c rfl (by omega) ?_ | refine R1_add_u64 rfl rfl (by omega) ?_ | refine R1_shr_u64_c rfl (by omega) ?_ | refine R1_shl_u64_c rfl (by omega) ?_ | refine R1_sub_u64_c rfl (by omega) (by omega) ?_ | refine R1_sub_i64_l rfl (by omega) (by omega) ?_ | refine R1_add_i64_l rfl (by omega) ?_ | refine R1_sub_z rfl rfl (by omega) (by omega) ?_ | refine R1_add_z rfl rfl (by omega) (by omega) ?_ | refine R1_geq_z rfl rfl ?_ | refine R1_lss_z rfl rfl ?_ | refine R1_gtr_z rfl rfl ?_ | refine R1_leq_z rfl rfl ?_ | refine R1_eql_z rfl rfl ?_ | refine R1_neq_z rfl rfl ?_ | refine R1_eql_bool ty_bool rfl rfl ?_ | refine R1_neq_bool ty_bool rfl rfl ?_ | refine R1_eql_u32_c rfl ?_ | refine R1_eql_u32 rfl rfl ?_ | refine R1_neq_u32_c rfl ?_ | refine R1_neq_u32 rfl rfl ?_ | refine R1_lss_u32 rfl rfl ?_ | refine R1_gtr_u32 rfl rfl ?_ | refine R1_eql_u64_c rfl ?_ | refine R1_eql_u64 rfl rfl ?_ | refine R1_neq_u64_c rfl ?_ | refine R1_neq_u64 rfl rfl ?_ | refine R1_lss_u64_c rfl ?_ | refine R1_lss_u64 rfl rfl ?_ | refine R1_gtr_u64_c rfl ?_ | refine R1_gtr_u64 rfl rfl ?_ | refine R1_leq_u64_c rfl ?_ | refine R1_leq_u64 rfl rfl ?_)) | (refine R1_isIndex ?_; (first | refine R1_index0B sl_sInt rfl (by omega) ?_ | refine R1_index0 sl_sInt rfl (by omega) ?_ | refine R1_index0B sl_si64 rfl (by omega) ?_ | refine R1_index0 sl_si64 rfl (by omega) ?_ | refine R1_indexB sl_u32 rfl rfl (by omega) ?_ | refine R1_indexB sl_Int rfl rfl (by omega) ?_ | refine R1_indexB sl_sInt rfl rfl (by omega) ?_ | refine R1_indexB sl_i64 rfl rfl (by omega) ?_ | refine R1_indexB sl_si64 rfl rfl (by omega) ?_ | refine R1_indexB sl_int rfl rfl (by omega) ?_ | refine R1_index sl_u32 rfl rfl (by omega) ?_ | refine R1_index sl_Int rfl rfl (by omega) ?_ | refine R1_index sl_sInt rfl rfl (by omega) ?_ | refine R1_index sl_i64 rfl rfl (by omega) ?_ | refine R1_index sl_si64 rfl rfl (by omega) ?_ | refine R1_index sl_int rfl rfl (by omega) ?_ | refine R1_index sl_i8 rfl rfl (by omega) ?_)) | (refine R1_isLoad ?_; (first | refine R1_load1F (by decide) (one_of rfl) rfl (by assumption) ?_ | refine R1_load1E (by decide) (one_of rfl) rfl (by assumption) ?_ | refine R1_load2F (by decide) agg_Int rfl (by assumption) (by assumption) ?_ | refine R1_load2E (by decide) agg_Int rfl (by assumption) (by assumption) ?_)) | (refine R1_isCall ?_; (first | refine R1_len sl_u32 rfl ?_ | refine R1_len sl_Int rfl ?_ | refine R1_len sl_sInt rfl ?_ | refine R1_len sl_i64 rfl ?_ | refine R1_len sl_si64 rfl ?_ | refine R1_len sl_int rfl ?_ | refine R1_len sl_i8 rfl ?_)) | (refine R1_isFA ?_; (first | refine R1_fieldAddr fa_Int0 rfl ?_ | refine R1_fieldAddr fa_Int1 rfl ?_ | refine R1_fieldAddr fa_Tape0 rfl ?_ | refine R1_fieldAddr fa_Tape1 rfl ?_ | refine R1_fieldAddr fa_Grid0 rfl ?_ | refine R1_fieldAddr fa_Grid1 rfl ?_ | refine R1_fieldAddr fa_Grid2 rfl ?_)) | refine R1_nilCheck rfl ?_ | (refine R1_isConv ?_; (first | refine R1_u32_u64 ty_u32 ty_u64 rfl (by omega) ?_ | refine R1_u64_u32 ty_u64 ty_u32 rfl ?_ | refine R1_u8_i64 ty_u8 ty_int rfl (by omega) ?_)) | refine R1_extract rfl rfl ?_ | refine R1_pickT rfl rfl ?_ | refine R1_pickF rfl rfl ?_ | refine R1_pickTC rfl ?_ | refine R1_pickFC rfl ?_ | refine R1_pickTD rfl (by omega) rfl ?_ | refine R1_pickFD rfl (by omega) rfl ?_ | refine R1_pickTCD rfl (by omega) ?_ | refine R1_pickFCD rfl (by omega) ?_ | refine R1_not rfl ?_ | refine R1_sliceH sl_u32 rfl rfl (by omega) ?_)) | (refine isRl ?_; (first | refine Rl_head rfl ?_ | refine Rl_nil ?_ | refine Rl_yes rfl rfl rfl rfl ?_ | refine Rl_no rfl rfl rfl rfl rfl ?_ | refine Rl_yesT rfl rfl rfl rfl (by omega) ?_ | refine Rl_noT rfl rfl rfl rfl (by omega) ?_ | refine Rl_yesF rfl rfl rfl rfl (by omega) ?_ | refine Rl_noF rfl rfl rfl rfl (by omega) ?_)) | (refine isRo ?_; (first | refine Ro_headL rfl rfl ?_ | refine Ro_nil ?_ | refine Ro_yesL rfl rfl rfl rfl rfl ?_ | refine Ro_noL rfl rfl rfl rfl rfl rfl ?_ | refine Ro_yesT rfl rfl rfl rfl rfl (by omega) ?_ | refine Ro_noT rfl rfl rfl rfl rfl (by omega) ?_ | refine Ro_yesF rfl rfl rfl rfl rfl (by omega) ?_ | refine Ro_noF rfl rfl rfl rfl rfl (by omega) ?_)) | (refine isW ?_; (first | refine W_seqR ?_ | refine W_seqB1 ?_ | refine W_seqB2 ?_ | refine W_seqB3 ?_ | refine W_reg ?_ | refine W_block ?_ | refine W_skip ?_ | refine W_exit ?_ | refine W_ret ?_ | refine W_testT rfl (by omega) ?_ | refine W_testF rfl (by omega) ?_ | refine W_decT rfl (by omega) ?_ | refine W_decF rfl (by omega) ?_ | refine W_true rfl ?_ | refine W_false rfl ?_)) | refine T_normal ?_ | refine T_exit ?_ | refine T_ret ?_ | refine B_normal ?_ | refine B_ret ?_ | refine B_same ?_ | refine B_other rfl ?_) | (refine R1_isR1 ?_; (first | refine R1_load1N (by decide) (one_of rfl) rfl (by assumption) ?_ | refine R1_load2N (by decide) agg_Int rfl (by assumption) (by assumption) ?_ | refine R1_fieldAddr fa_St0 rfl ?_ | refine R1_fieldAddr fa_St1 rfl ?_ | refine R1_fieldAddr fa_St2 rfl ?_ | refine R1_fieldAddr fa_Plane0 rfl ?_ | refine R1_fieldAddr fa_Plane1 rfl ?_ | refine R1_fieldAddr fa_Plane2 rfl ?_ | refine R1_fieldAddr fa_Plane3 rfl ?_ | refine R1_fieldAddr fa_Plane4 rfl ?_)))); exact hgg.out):G:=t ⟨h⟩
def subRow (T:Nat→Nat→Int) (q:Int) (i j:Nat):Nat→Nat→Int:=fun a c=>if a = i then T i c - q * T j c else T a c
def subLam (d:Nat→Int) (l:Nat→Nat→Int) (q:Int) (i j:Nat):Nat→Nat→Int:=fun a c=>if a = i then (if c < j then l i c - q * l j c else if c = j then l i j - q * d (j + 1) else l i c) else l a c
end Go.Proofs.YtmkbpjoihdfpkaaGreat
