/- Joined: Vec, Opu. -/
import Derived.Test.YtncbjgblcofddaaGreatDoorQn
import Derived.Test.YtncbjgblcofddaaGreatDoorQo
import Derived.Test.YtncbjgblcofddaaGreatDoorQm
import Derived.Test.YtncbjgblcofddaaGreatDoorQe
import Derived.Deep.CondSized
/- quadformmake: Vector,Column; both Apply functions. -/
namespace Go.Proofs.YtncbjgblcofddaaGreatDoor
open Go Go.Eng Go.Num Go.Proofs
set_option maxHeartbeats 8000000 in
theorem vector_ok (A:Option Addr) (m cap n:Nat) (ns:Nat→Int) (w:World) (hN:Nums w A m ns) (hn:n≤1048576) :
 Meets Tryz.prog 91 #[.slice A m cap,.int .i64 ((n:Nat):Int)] w fun v w'=>Ext w w'∧∃ g,v = .slice (some ⟨g,0,none⟩) n n∧w.heap.size≤g∧RowW w' g n (tp m ns):=by
 refine fn_W (n:=25) Tryz.func91 rfl rfl (by kernel_rfl) (by simp) ?_
 refine gg ?_
 refine R1_bldTape rfl ?_
 refine gg ?_
 refine R1_box (v:=.agg _) (.inl rfl) rfl ?_
 intro w1 hB1 hE1 hs1
 have hT1:TapeB w1 w.heap.size A m cap 0:=by unfold TapeB; rw [Nat.zero_min]; exact hB1
 obtain ⟨gT,hgT⟩ : ∃ g,g = w.heap.size:=⟨_,rfl⟩
 rw [← hgT] at hT1 ⊢
 refine gg ?_
 refine R1_make sl_i64 (.inl rfl) rfl rfl (Nat.le_refl _) (by omega) (by omega) ?_
 intro w2 hB2 hE2 hs2
 have hr2:=rowW_made hB2
 obtain ⟨g,hg⟩ : ∃ g,g = w1.heap.size:=⟨_,rfl⟩
 rw [← hg] at hr2 ⊢
 have hgT':gT < g:=by omega
 have hgw:w.heap.size≤gT:=by omega
 have hE2':=hE1.trans hE2
 have hT2:TapeB w2 gT A m cap 0:=hT1.ext hE2
 clear hB1 hB2 hE1 hE2 hT1 hs1 hs2 hg hgT
 refine gg ?_
 refine W_seqM (fun f w'=>f 6 = .slice (some ⟨g,0,none⟩) n n∧Ext w w'∧RowW w' g n (tp m ns)) ?_ ?_
 · refine gg ?_
   refine W_loop (fun q f w'=>∃ i,q = n - i∧i≤n∧f 5 = .pointer (some ⟨gT,0,none⟩)∧f 6 = .slice (some ⟨g,0,none⟩) n n∧f 14 = .int .i64 ((n:Nat):Int)∧f 15 = .int .i64 ((i:Nat):Int)∧Ext w w'∧TapeB w' gT A m cap i∧RowW w' g n (fun k=>if k < i then tp m ns k else 0))
    n ⟨0,rfl,Nat.zero_le _,rfl,rfl,rfl,rfl,hE2',hT2,hr2.congr fun _ _=>by rw [if_neg (by omega)]⟩ ?_
   clear hE2' hT2 hr2
   rintro q f w3 ⟨i,rfl,hi,hf5,hf6,hf14,hf15,hE,hT,hr⟩
   rw [ui hf5,ui hf6,ui hf14,ui hf15]
   clear hf5 hf6 hf14 hf15
   by_cases hlt:i < n
   · refine gg ?_
     refine R1_call2 (next_ok gT A m cap i ns w w3 hE hN hgw hT) ?_
     rintro _ w4 ⟨rfl,hT4,hC4,_⟩
     have hE4:Ext w w4:=hC4.ext_of hE (fun b hb=>by omega)
     have hr4:RowW w4 g n _:=Blk.ch hr hC4 (by omega)
     refine gg ?_
     refine R1_storeI (one_of rfl) (.inl rfl) rfl rfl hr4 (by rw [arr_size]; omega) ?_
     intro w5 hB5 hC5 hs5
     have hr5:=RowW.set hB5
     refine gg ?_
     refine ⟨_,?_,i + 1,rfl,by omega,rfl,rfl,rfl,rfl,hC5.ext_of hE4 (fun b hb=>by omega),Blk.ch hT4 hC5 (by omega),hr5.congr fun k _=>?_⟩
     · omega
     · simp only [setZ]
       by_cases e:k = i
       · rw [if_pos e,if_pos (by omega),e]
       · rw [if_neg e]
         by_cases h1:k < i
         · rw [if_pos h1,if_pos (by omega)]
         · rw [if_neg h1,if_neg (by omega)]
   · refine gg ?_
     exact ⟨rfl,hE,hr.congr fun k hk=>by rw [if_pos (by omega)]⟩
 clear hE2' hT2 hr2
 rintro f w3 ⟨hf6,hE,hr⟩
 rw [ui hf6]
 clear hf6
 refine gg ?_
 exact ret1 rfl rfl ⟨hE,g,rfl,by omega,hr⟩
set_option maxHeartbeats 8000000 in
theorem column_ok (A:Option Addr) (m cap n:Nat) (ns:Nat→Int) (w:World) (hN:Nums w A m ns) (hn:n≤1048576) :
 Meets Tryz.prog 36 #[.slice A m cap,.int .i64 ((n:Nat):Int)] w fun v w'=>Ext w w'∧GrowB w' v n true 1 (tp m ns)∧∀ b,some b = v.ownBlock→w.heap.size≤b:=by
 refine fn_W (n:=23) Tryz.func36 rfl rfl (by kernel_rfl) (by simp) ?_
 refine gg ?_
 refine W_seqM (fun f w'=>∃ v,f 5 = v∧Ext w w'∧GrowB w' v n true 1 (tp m ns)∧∀ b,some b = v.ownBlock→w.heap.size≤b) ?_ ?_
 · refine gg ?_
   refine R1_call2 (vector_ok A m cap n ns w hN hn) ?_
   rintro _ w1 ⟨hE1,g,rfl,hg,hr⟩
   refine gg ?_
   refine W_loop (fun q f w'=>∃ i v,q = n - i∧i≤n∧f 5 = v∧f 10 = .slice (some ⟨g,0,none⟩) n n∧f 11 = .int .i64 ((n:Nat):Int)∧f 12 = .int .i64 ((i:Nat):Int)∧Ext w1 w'∧GrowB w' v i true 1 (tp m ns)∧∀ b,some b = v.ownBlock→w1.heap.size≤b)
    n ⟨0,.slice none 0 0,rfl,Nat.zero_le _,rfl,rfl,rfl,rfl,Ext.refl _,GrowB.nil,fun b hb=>by cases hb⟩ ?_
   rintro q f w2 ⟨i,v,rfl,hi,hf5,hf10,hf11,hf12,hE,hG,hown⟩
   rw [ui hf5,ui hf10,ui hf11,ui hf12]
   clear hf5 hf10 hf11 hf12
   by_cases hlt:i < n
   · have hx:=RowW.at (Blk.ext hr hE) hlt
     have htr:=tp_range hN i
     have hb1:Bd 1 (tp m ns i):=by
      unfold Bd
      have:B ^ 1 = 4294967296:=by decide
      omega
     refine gg ?_
     refine R1_call2 (rsmall_ok (tp m ns i) w2 (by omega) (by omega)) ?_
     rintro _ w3 ⟨hE3,x,y,rfl,hcv⟩
     refine gg ?_
     refine R1_sliceE1 (.inl rfl) rfl ?_
     intro w4 hB4 hE4 hs4
     obtain ⟨p1,p2⟩:=blkP hB4
     refine gg ?_
     refine R1_appE (.inl rfl) rfl rfl (hG.ext (hE3.trans hE4)) p1 p2 ((hcv.ext hE4).ev true hb1) (by omega) ?_
     intro v' w5 hG5 hk5 hC5 hv5
     have hs:=(hE.trans (hE3.trans hE4)).size
     refine gg ?_
     refine ⟨_,?_,i + 1,v',rfl,by omega,rfl,rfl,rfl,rfl,hC5.ext_of (hE.trans (hE3.trans hE4)) hown,hG5.congr fun k _=>?_,fun b hb=>?_⟩
     · omega
     · split
       · rename_i e; rw [e]
       · rfl
     · rcases hv5 with e | e
       · rw [e] at hb; exact hown b hb
       · rw [e] at hb; injection hb with hb; omega
   · refine gg ?_
     obtain rfl:i = n:=by omega
     exact ⟨v,rfl,hE1.trans hE,hG,fun b hb=>by have:=hown b hb; have:=hE1.size; omega⟩
 rintro f w1 ⟨v,hf5,hE,hG,hown⟩
 rw [ui hf5]
 clear hf5
 refine gg ?_
 exact ret1 rfl rfl ⟨hE,hG,hown⟩
def appM (n:Nat) (M:Nat→Nat→Int) (b:Nat→Int):Nat→Int:=fun i=>sumTo n fun j=>M i j * b j
def okApp (r:Nat) (len:Nat→Nat) (c:Nat):Bool:=okM r len && decide (c = len 0)
def RVB (w:World) (ok:Bool) (r N:Nat) (g:Nat→Int) (v:Value) (w':World):Prop :=
 Ext w w'∧∃ A m cp,v = .tuple #[.slice A m cp,.bool ok]∧RowE (EC N) w' (.slice A m cp) (if ok then r else 0) g
theorem appM_bd {n N:Nat} {M:Nat→Nat→Int} {b:Nat→Int} {i k:Nat} (hk:k≤n) (hn:n≤16) (hM:∀ j,j < n→Bd N (M i j)) (hb:∀ j,j < n→Bd N (b j)):Bd (N + N + 1) (sumTo k fun j=>M i j * b j) :=
 sumTo_bd (by omega) fun t ht=>(hM t (by omega)).mul (hb t (by omega))
theorem rowE_nil (E:World→Value→Value→Int→Prop) (w:World) (g:Nat→Int):RowE E w (.slice none 0 0) 0 g:=⟨none,0,rfl,Nat.le_refl _,by omega,fun j hj=>absurd hj (by omega)⟩
theorem rvb_bad {w w':World} {ok:Bool} {r N:Nat} {g:Nat→Int} (h:ok = false) (hE:Ext w w'):RVB w ok r N g (.tuple #[.slice none 0 0,.bool false]) w':=by
 subst h; exact ⟨hE,_,_,_,rfl,rowE_nil _ _ _⟩
theorem RowB.rowC {w:World} {g c N:Nat} {M:Nat→Int} (h:RowB w g c true (fun _=>N) M) (hc:c < 9223372036854775808):RowE (EC N) w (.slice (some ⟨g,0,none⟩) c c) c M:=by
 refine ⟨_,_,rfl,Nat.le_refl _,hc,fun j hj=>?_⟩
 obtain ⟨x,y,e1,e2,hv⟩:=h.at hj
 exact ⟨_,x,y,rfl,by rw [add_lit]; exact e1,by rw [add_lit]; exact e2,hv.2 rfl,hv.bd⟩
theorem RowE.bd {w:World} {v:Value} {c N j:Nat} {g:Nat→Int} (h:RowE (EI N) w v c g) (hj:j < c):Bd N (g j):=by
 obtain ⟨A,cap,rfl,h1,h2,h3⟩:=h
 obtain ⟨ad,x,y,e,hx,hy,hv⟩:=h3 j hj
 exact IV.bd hv
set_option maxHeartbeats 16000000 in
theorem apply_ok (va vb:Value) (r c N:Nat) (len:Nat→Nat) (M:Nat→Nat→Int) (b:Nat→Int) (w:World) (ha:MatE (EI N) w va r len M) (hb:RowE (EI N) w vb c b) (hN:N < 34359738368) :
 Meets Tryz.prog 92 #[va,vb] w (RVB w (okApp r len c) r (N + N + 1) (appM c M b)):=by
 obtain ⟨A,cap,rfl,_⟩:=id ha
 obtain ⟨Ab,capb,rfl,hcb,hcapb,hbe⟩:=id hb
 refine fn_W (n:=61) Tryz.func92 rfl rfl (by kernel_rfl) (by simp) ?_
 refine gg ?_
 refine R1_call2 (shape_ok _ _ r len M w ha) ?_
 rintro _ _ ⟨rfl,rfl⟩
 obtain ⟨s1,c1,ok1,e1,h1⟩:=shapeV_cases r len
 rw [e1]
 rcases h1 with ⟨hok,rfl,rfl,rfl⟩ | ⟨hok,rfl,rfl,rfl⟩
 rotate_left
 · refine gg ?_
   refine W_seq ?_
   refine gg ?_
   exact ret2 rfl rfl rfl (rvb_bad (by unfold okApp; rw [hok]; rfl) (Ext.refl _))
 by_cases hcl:c = len 0
 rotate_left
 · refine gg ?_
   refine W_seq ?_
   refine gg ?_
   exact ret2 rfl rfl rfl (rvb_bad (by unfold okApp; rw [decide_eq_false hcl,Bool.and_false]) (Ext.refl _))
 obtain ⟨⟨hr1,hr2,hl1,hl2⟩,hlen⟩:=okM_iff.1 hok
 have hM:=ha.sq (c:=c) (fun i hi=>by rw [hlen i hi,hcl])
 have hokA:okApp s1 len c = true:=by unfold okApp; rw [hok,decide_eq_true hcl]; rfl
 have hc16:c≤16:=by omega
 have hbM:∀ i j,i < s1→j < c→Bd N (M i j):=fun i j hi hj=>hM.bd hi hj
 have hbb:∀ j,j < c→Bd N (b j):=fun j hj=>hb.bd hj
 obtain ⟨r,hr⟩ : ∃ r,r = s1:=⟨_,rfl⟩
 rw [← hr] at hokA hbM hM hr1 hr2 ⊢
 clear ha hok hlen e1 hl1 hl2
 obtain ⟨A',cap',e,hrc,hcap,hrow⟩:=id hM
 injection e with e1 _ e3
 subst e1 e3
 refine gg ?_
 refine W_seq ?_
 refine gg ?_
 refine R1_make sl_Int (.inl rfl) rfl rfl (Nat.le_refl _) (by omega) (by omega) ?_
 intro w1 hB1 hE1 hs1
 have hy1:=rowB_made true (N + N + 1) hB1
 obtain ⟨g,hg⟩ : ∃ g,g = w.heap.size:=⟨_,rfl⟩
 rw [← hg] at hy1 ⊢
 clear hB1
 refine gg ?_
 refine W_seqM (fun f w'=>f 9 = .slice (some ⟨g,0,none⟩) r r∧Ext w w'∧RowB w' g r true (fun _=>N + N + 1) (appM c M b)) ?_ ?_
 · refine gg ?_
   refine W_loop (fun q f w'=>∃ i,q = r - i∧i≤r∧f 0 = .slice A r cap∧f 1 = .slice Ab c capb∧f 9 = .slice (some ⟨g,0,none⟩) r r∧f 30 = .slice A r cap∧f 31 = .int .i64 ((r:Nat):Int)∧f 32 = .int .i64 ((i:Nat):Int)∧Ext w w'∧RowB w' g r true (fun _=>N + N + 1) (fun k=>if k < i then appM c M b k else 0))
    r ⟨0,rfl,Nat.zero_le _,rfl,rfl,rfl,rfl,rfl,rfl,hE1,hy1.congr fun _ _=>⟨Nat.le_refl _,by rw [if_neg (by omega)]⟩⟩ ?_
   clear hE1 hy1
   rintro q f w2 ⟨i,rfl,hi,hf0,hf1,hf9,hf30,hf31,hf32,hE,hy⟩
   rw [ui hf0,ui hf1,ui hf9,ui hf30,ui hf31,ui hf32]
   clear hf0 hf1 hf9 hf30 hf31 hf32
   by_cases hlt:i < r
   · obtain ⟨ad,u,rfl,hx,hru⟩:=hrow i hlt
     obtain ⟨Ai,capi,rfl,hci,hcapi,hri⟩:=id hru
     have hx1:=cell_ext hE hx
     refine gg ?_
     refine W_loop (fun q f w'=>∃ j,q = c - j∧j≤c∧f 0 = .slice (some ad) r cap∧f 1 = .slice Ab c capb∧f 9 = .slice (some ⟨g,0,none⟩) r r∧f 30 = .slice (some ad) r cap∧f 31 = .int .i64 ((r:Nat):Int)∧f 32 = .int .i64 ((i:Nat):Int)∧f 10 = .int .i64 ((i:Nat):Int)∧f 37 = .slice Ai c capi∧f 38 = .int .i64 ((c:Nat):Int)∧f 39 = .int .i64 ((j:Nat):Int)∧Ext w w'∧RowB w' g r true (fun _=>N + N + 1) (fun k=>if k < i then appM c M b k else if k = i then sumTo j (fun t=>M i t * b t) else 0))
      c ⟨0,rfl,Nat.zero_le _,rfl,rfl,rfl,rfl,rfl,rfl,rfl,rfl,rfl,rfl,hE,hy.congr fun k _=>⟨Nat.le_refl _,?_⟩⟩ ?_
     · by_cases h1:k < i
       · rw [if_pos h1,if_pos h1]
       · rw [if_neg h1,if_neg h1]; split <;> rfl
     clear hE hy hx1 w2
     rintro q f w2 ⟨j,rfl,hj,hf0,hf1,hf9,hf30,hf31,hf32,hf10,hf37,hf38,hf39,hE,hy⟩
     rw [ui hf0,ui hf1,ui hf9,ui hf30,ui hf31,ui hf32,ui hf10,ui hf37,ui hf38,ui hf39]
     clear hf0 hf1 hf9 hf30 hf31 hf32 hf10 hf37 hf38 hf39
     by_cases hjl:j < c
     · obtain ⟨ad',x,y,rfl,hx0,hy0,hv⟩:=hri j hjl
       obtain ⟨adb,xb,yb,rfl,hxb,hyb,hvb⟩:=hbe j hjl
       have hx0:=cell_ext hE hx0
       have hy0:=cell_ext hE hy0
       have hv:IV w2 N x y (M i j):=IV.ext hv hE
       refine gg ?_
       refine R1_alloc (.inl rfl) z_Int ?_
       intro w3 hB3 hE3 hs3
       have hb3:Bx w3 w2.heap.size N false 0:=Bx.zero false hB3
       obtain ⟨gb,hgb⟩ : ∃ g,g = w2.heap.size:=⟨_,rfl⟩
       rw [← hgb] at hb3 ⊢
       have hEs:=hE.size
       have hgl:=hy.lt
       refine gg ?_
       refine R1_storeBx (.inl rfl) rfl rfl hb3 (N':=N) (z':=M i j) ⟨hv.ext hE3,fun e=>by cases e⟩ ?_
       intro w4 hb4 hC4 hk4 hs4
       have hE4:Ext w2 w4:=hC4.ext_of hE3 (fun b hb=>by omega)
       replace hE:=hE.trans hE4
       replace hy:=hy.ext hE4
       obtain ⟨bx,by',hbB,hbv⟩:=hb4
       clear hb3 hB3 hE3 hs3 hC4 hk4 hs4 hE4 hx0 hy0 hv
       refine gg ?_
       refine W_regD [(0,3),(1,3),(2,3),(3,3),(4,3),(5,0),(6,0),(7,3),(8,3),(9,3),(10,0),(11,1),(12,1),(13,3),(14,2)] mixed (by kernel_rfl) (fun w5 hE5 _=>?_)
       obtain ⟨yx,yy,hyx,hyy,hyv⟩:=(hy.ext hE5).at hlt
       obtain ⟨p1,p2⟩:=blkP (hbB.ext hE5)
       have hxb':=cell_ext (hE.trans hE5) hxb
       have hyb':=cell_ext (hE.trans hE5) hyb
       have hvb':IV w5 N xb yb (b j):=IV.ext hvb (hE.trans hE5)
       simp only at hyv
       rw [if_neg (by omega),if_pos trivial] at hyv
       refine gg ?_
       refine R1_call1 (mul_ok _ _ _ _ _ _ N w5 (hbv.1.ext hE5) hvb' (by omega)) ?_
       rintro _ w6 ⟨hE6,mx,my,rfl,hcm⟩
       refine ⟨hE6,?_⟩
       have hbm:Bd (N + N) (M i j * b j):=(hbM i j hlt hjl).mul (hbb j hjl)
       refine gg ?_
       refine R1_call1 (add_ok _ _ _ _ _ _ (N + N + 1) w6 (hyv.1.ext hE6) ((hcm.iv hbm).mono (by omega)) (by omega)) ?_
       rintro _ w7 ⟨hE7,sx,sy,rfl,hcs⟩
       refine ⟨hE7,?_⟩
       have es:sumTo (j + 1) (fun t=>M i t * b t) = sumTo j (fun t=>M i t * b t) + M i j * b j:=rfl
       rw [← es] at hcs
       refine gg ?_
       refine R1_storeE (.inl rfl) rfl rfl (hy.ext (hE5.trans (hE6.trans hE7))) hlt (hcs.ev true (N:=N + N + 1) (appM_bd (by omega) hc16 (fun t ht=>hbM i t hlt ht) hbb)) ?_
       intro w8 hy8 hC8 hk8 hs8
       refine gg ?_
       refine ⟨_,?_,j + 1,rfl,by omega,rfl,rfl,rfl,rfl,rfl,rfl,rfl,rfl,rfl,rfl,hC8.ext_of (hE.trans (hE5.trans (hE6.trans hE7))) (fun b hb=>by omega),hy8.congr fun k _=>⟨?_,?_⟩⟩
       · omega
       · simp only [setN]; split <;> omega
       · simp only [setZ]
         by_cases e:k = i
         · rw [if_pos e,if_neg (by omega),if_pos e]
         · rw [if_neg e,if_neg e,if_neg e]
     · refine gg ?_
       obtain rfl:j = c:=by omega
       refine ⟨_,?_,i + 1,rfl,by omega,rfl,rfl,rfl,rfl,rfl,rfl,hE,hy.congr fun k _=>⟨Nat.le_refl _,?_⟩⟩
       · omega
       · by_cases h1:k < i
         · rw [if_pos h1,if_pos (by omega)]
         · rw [if_neg h1]
           by_cases h2:k = i
           · rw [if_pos h2,if_pos (by omega),h2]; rfl
           · rw [if_neg h2,if_neg (by omega)]
   · refine gg ?_
     exact ⟨rfl,hE,hy.congr fun k hk=>⟨Nat.le_refl _,by rw [if_pos (by omega)]⟩⟩
 clear hE1 hy1
 rintro f w2 ⟨hf9,hE,hy⟩
 rw [ui hf9]
 clear hf9
 refine gg ?_
 refine ret2 (v:=.slice _ _ _) (v':=.bool _) rfl rfl rfl ?_
 unfold RVB
 rw [hokA,if_pos rfl]
 exact ⟨hE,_,_,_,rfl,hy.rowC (by omega)⟩
end Go.Proofs.YtncbjgblcofddaaGreatDoor
