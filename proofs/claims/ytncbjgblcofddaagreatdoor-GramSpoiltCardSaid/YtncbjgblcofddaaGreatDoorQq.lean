/- Joined: Vec, Opu. -/
import Derived.Test.YtncbjgblcofddaaGreatDoorQn
import Derived.Test.YtncbjgblcofddaaGreatDoorQo
import Derived.Test.YtncbjgblcofddaaGreatDoorQm
import Derived.Test.YtncbjgblcofddaaGreatDoorQe
import Derived.Deep.CondSized
/- quadformmake: Vector,Column; both Apply functions. -/
namespace Go.Proofs.YtncbjgblcofddaaGreatDoor
open Go Go.Eng Go.Num Go.Proofs
set_option maxHeartbeats 8000000 in
theorem vector_ok (A:Option Addr) (m cap n:Nat) (ns:Nat→Int) (w:World) (hN:Nums w A m ns) (hn:n≤1048576) :
 Meets Tryz.prog 91 #[.slice A m cap,.int .i64 ((n:Nat):Int)] w fun v w'=>Ext w w'∧∃ g,v = .slice (some ⟨g,0,none⟩) n n∧w.heap.size≤g∧RowW w' g n (tp m ns):=by
 refine fn_W (n:=25) Tryz.func91 rfl rfl (by kernel_rfl) (by simp) ?_
 refine gg ?_
 refine R1_bldTape rfl ?_
 refine gg ?_
 refine R1_box (v:=.agg _) (.inl rfl) rfl ?_
 intro w1 hB1 hE1 hs1
 have hT1:TapeB w1 w.heap.size A m cap 0:=by unfold TapeB; rw [Nat.zero_min]; exact hB1
 obtain ⟨gT,hgT⟩ : ∃ g,g = w.heap.size:=⟨_,rfl⟩
 rw [← hgT] at hT1 ⊢
 refine gg ?_
 refine R1_make sl_i64 (.inl rfl) rfl rfl (Nat.le_refl _) (by omega) (by omega) ?_
 intro w2 hB2 hE2 hs2
 have hr2:=rowW_made hB2
 obtain ⟨g,hg⟩ : ∃ g,g = w1.heap.size:=⟨_,rfl⟩
 rw [← hg] at hr2 ⊢
 have hgT':gT < g:=by omega
 have hgw:w.heap.size≤gT:=by omega
 have hE2':=hE1.trans hE2
 have hT2:TapeB w2 gT A m cap 0:=hT1.ext hE2
 clear hB1 hB2 hE1 hE2 hT1 hs1 hs2 hg hgT
 refine gg ?_
 refine W_seqM (fun f w'=>f 6 = .slice (some ⟨g,0,none⟩) n n∧Ext w w'∧RowW w' g n (tp m ns)) ?_ ?_
 · refine gg ?_
   refine W_loop (fun q f w'=>∃ i,q = n - i∧i≤n∧f 5 = .pointer (some ⟨gT,0,none⟩)∧f 6 = .slice (some ⟨g,0,none⟩) n n∧f 14 = .int .i64 ((n:Nat):Int)∧f 15 = .int .i64 ((i:Nat):Int)∧Ext w w'∧TapeB w' gT A m cap i∧RowW w' g n (fun k=>if k < i then tp m ns k else 0))
    n ⟨0,rfl,Nat.zero_le _,rfl,rfl,rfl,rfl,hE2',hT2,hr2.congr fun _ _=>by rw [if_neg (by omega)]⟩ ?_
   clear hE2' hT2 hr2
   rintro q f w3 ⟨i,rfl,hi,hf5,hf6,hf14,hf15,hE,hT,hr⟩
   rw [ui hf5,ui hf6,ui hf14,ui hf15]
   clear hf5 hf6 hf14 hf15
   by_cases hlt:i < n
   · refine gg ?_
     refine R1_call2 (next_ok gT A m cap i ns w w3 hE hN hgw hT) ?_
     rintro _ w4 ⟨rfl,hT4,hC4,_⟩
     have hE4:Ext w w4:=hC4.ext_of hE (fun b hb=>by omega)
     have hr4:RowW w4 g n _:=Blk.ch hr hC4 (by omega)
     refine gg ?_
     refine R1_storeI (one_of rfl) (.inl rfl) rfl rfl hr4 (by rw [arr_size]; omega) ?_
     intro w5 hB5 hC5 hs5
     have hr5:=RowW.set hB5
     refine gg ?_
     refine ⟨_,?_,i + 1,rfl,by omega,rfl,rfl,rfl,rfl,hC5.ext_of hE4 (fun b hb=>by omega),Blk.ch hT4 hC5 (by omega),hr5.congr fun k _=>?_⟩
     · omega
     · simp only [setZ]
       by_cases e:k = i
       · rw [if_pos e,if_pos (by omega),e]
       · rw [if_neg e]
         by_cases h1:k < i
         · rw [if_pos h1,if_pos (by omega)]
         · rw [if_neg h1,if_neg (by omega)]
   · refine gg ?_
     exact ⟨rfl,hE,hr.congr fun k hk=>by rw [if_pos (by omega)]⟩
 clear hE2' hT2 hr2
 rintro f w3 ⟨hf6,hE,hr⟩
 rw [ui hf6]
 clear hf6
 refine gg ?_
 exact ret1 rfl rfl ⟨hE,g,rfl,by omega,hr⟩
set_option maxHeartbeats 8000000 in
theorem column_ok (A:Option Addr) (m cap n:Nat) (ns:Nat→Int) (w:World) (hN:Nums w A m ns) (hn:n≤1048576) :
 Meets Tryz.prog 36 #[.slice A m cap,.int .i64 ((n:Nat):Int)] w fun v w'=>Ext w w'∧GrowB w' v n true 1 (tp m ns)∧∀ b,some b = v.ownBlock→w.heap.size≤b:=by
 refine fn_W (n:=23) Tryz.func36 rfl rfl (by kernel_rfl) (by simp) ?_
 refine gg ?_
 refine W_seqM (fun f w'=>∃ v,f 5 = v∧Ext w w'∧GrowB w' v n true 1 (tp m ns)∧∀ b,some b = v.ownBlock→w.heap.size≤b) ?_ ?_
 · refine gg ?_
   refine R1_call2 (vector_ok A m cap n ns w hN hn) ?_
   rintro _ w1 ⟨hE1,g,rfl,hg,hr⟩
   refine gg ?_
   refine W_loop (fun q f w'=>∃ i v,q = n - i∧i≤n∧f 5 = v∧f 10 = .slice (some ⟨g,0,none⟩) n n∧f 11 = .int .i64 ((n:Nat):Int)∧f 12 = .int .i64 ((i:Nat):Int)∧Ext w1 w'∧GrowB w' v i true 1 (tp m ns)∧∀ b,some b = v.ownBlock→w1.heap.size≤b)
    n ⟨0,.slice none 0 0,rfl,Nat.zero_le _,rfl,rfl,rfl,rfl,Ext.refl _,GrowB.nil,fun b hb=>by cases hb⟩ ?_
   rintro q f w2 ⟨i,v,rfl,hi,hf5,hf10,hf11,hf12,hE,hG,hown⟩
   rw [ui hf5,ui hf10,ui hf11,ui hf12]
   clear hf5 hf10 hf11 hf12
   by_cases hlt:i < n
   · have hx:=RowW.at (Blk.ext hr hE) hlt
     have htr:=tp_range hN i
     have hb1:Bd 1 (tp m ns i):=by
      unfold Bd
      have:B ^ 1 = 4294967296:=by decide
      omega
     refine gg ?_
     refine R1_call2 (rsmall_ok (tp m ns i) w2 (by omega) (by omega)) ?_
     rintro _ w3 ⟨hE3,x,y,rfl,hcv⟩
     refine gg ?_
     refine R1_sliceE1 (.inl rfl) rfl ?_
     intro w4 hB4 hE4 hs4
     obtain ⟨p1,p2⟩:=blkP hB4
     refine gg ?_
     refine R1_appE (.inl rfl) rfl rfl (hG.ext (hE3.trans hE4)) p1 p2 ((hcv.ext hE4).ev true hb1) (by omega) ?_
     intro v' w5 hG5 hk5 hC5 hv5
     have hs:=(hE.trans (hE3.trans hE4)).size
     refine gg ?_
     refine ⟨_,?_,i + 1,v',rfl,by omega,rfl,rfl,rfl,rfl,hC5.ext_of (hE.trans (hE3.trans hE4)) hown,hG5.congr fun k _=>?_,fun b hb=>?_⟩
     · omega
     · split
       · rename_i e; rw [e]
       · rfl
     · rcases hv5 with e | e
       · rw [e] at hb; exact hown b hb
       · rw [e] at hb; injection hb with hb; omega
   · refine gg ?_
     obtain rfl:i = n:=by omega
     exact ⟨v,rfl,hE1.trans hE,hG,fun b hb=>by have:=hown b hb; have:=hE1.size; omega⟩
 rintro f w1 ⟨v,hf5,hE,hG,hown⟩
 rw [ui hf5]
 clear hf5
 refine gg ?_
 exact ret1 rfl rfl ⟨hE,hG,hown⟩
def appM (n:Nat) (M:Nat→Nat→Int) (b:Nat→Int):Nat→Int:=fun i=>sumTo n fun j=>M i j * b j
def okApp (r:Nat) (len:Nat→Nat) (c:Nat):Bool:=okM r len && decide (c = len 0)
def RVB (w:World) (ok:Bool) (r N:Nat) (g:Nat→Int) (v:Value) (w':World):Prop :=
 Ext w w'∧∃ A m cp,v = .tuple #[.slice A m cp,.bool ok]∧RowE (EC N) w' (.slice A m cp) (if ok then r else 0) g
theorem appM_bd {n N:Nat} {M:Nat→Nat→Int} {b:Nat→Int} {i k:Nat} (hk:k≤n) (hn:n≤16) (hM:∀ j,j < n→Bd N (M i j)) (hb:∀ j,j < n→Bd N (b j)):Bd (N + N + 1) (sumTo k fun j=>M i j * b j) :=
 sumTo_bd (by omega) fun t ht=>(hM t (by omega)).mul (hb t (by omega))
theorem rowE_nil (E:World→Value→Value→Int→Prop) (w:World) (g:Nat→Int):RowE E w (.slice none 0 0) 0 g:=⟨none,0,rfl,Nat.le_refl _,by omega,fun j hj=>absurd hj (by omega)⟩
theorem rvb_bad {w w':World} {ok:Bool} {r N:Nat} {g:Nat→Int} (h:ok = false) (hE:Ext w w'):RVB w ok r N g (.tuple #[.slice none 0 0,.bool false]) w':=by
 subst h; exact ⟨hE,_,_,_,rfl,rowE_nil _ _ _⟩
theorem RowB.rowC {w:World} {g c N:Nat} {M:Nat→Int} (h:RowB w g c true (fun _=>N) M) (hc:c < 9223372036854775808):RowE (EC N) w (.slice (some ⟨g,0,none⟩) c c) c M:=by
 refine ⟨_,_,rfl,Nat.le_refl _,hc,fun j hj=>?_⟩
 obtain ⟨x,y,e1,e2,hv⟩:=h.at hj
 exact ⟨_,x,y,rfl,by rw [add_lit]; exact e1,by rw [add_lit]; exact e2,hv.2 rfl,hv.bd⟩
theorem RowE.bd {w:World} {v:Value} {c N j:Nat} {g:Nat→Int} (h:RowE (EI N) w v c g) (hj:j < c):Bd N (g j):=by
 obtain ⟨A,cap,rfl,h1,h2,h3⟩:=h
 obtain ⟨ad,x,y,e,hx,hy,hv⟩:=h3 j hj
 exact IV.bd hv
set_option maxHeartbeats 16000000 in
theorem apply_ok (va vb:Value) (r c N:Nat) (len:Nat→Nat) (M:Nat→Nat→Int) (b:Nat→Int) (w:World) (ha:MatE (EI N) w va r len M) (hb:RowE (EI N) w vb c b) (hN:N < 34359738368) :
 Meets Tryz.prog 92 #[va,vb] w (RVB w (okApp r len c) r (N + N + 1) (appM c M b)):=by
 obtain ⟨A,cap,rfl,_⟩:=id ha
 obtain ⟨Ab,capb,rfl,hcb,hcapb,hbe⟩:=id hb
 refine fn_W (n:=61) Tryz.func92 rfl rfl (by kernel_rfl) (by simp) ?_
 refine gg ?_
 refine R1_call2 (shape_ok _ _ r len M w ha) ?_
 rintro _ _ ⟨rfl,rfl⟩
 obtain ⟨s1,c1,ok1,e1,h1⟩:=shapeV_cases r len
 rw [e1]
 rcases h1 with ⟨hok,rfl,rfl,rfl⟩ | ⟨hok,rfl,rfl,rfl⟩
 rotate_left
 · refine gg ?_
   refine W_seq ?_
   refine gg ?_
   exact ret2 rfl rfl rfl (rvb_bad (by unfold okApp; rw [hok]; rfl) (Ext.refl _))
 by_cases hcl:c = len 0
 rotate_left
 · refine gg ?_
   refine W_seq ?_
   refine gg ?_
   exact ret2 rfl rfl rfl (rvb_bad (by unfold okApp; rw [decide_eq_false hcl,Bool.and_false]) (Ext.refl _))
 obtain ⟨⟨hr1,hr2,hl1,hl2⟩,hlen⟩:=okM_iff.1 hok
 have hM:=ha.sq (c:=c) (fun i hi=>by rw [hlen i hi,hcl])
 have hokA:okApp s1 len c = true:=by unfold okApp; rw [hok,decide_eq_true hcl]; rfl
 have hc16:c≤16:=by omega
 have hbM:∀ i j,i < s1→j < c→Bd N (M i j):=fun i j hi hj=>hM.bd hi hj
 have hbb:∀ j,j < c→Bd N (b j):=fun j hj=>hb.bd hj
 obtain ⟨r,hr⟩ : ∃ r,r = s1:=⟨_,rfl⟩
 rw [← hr] at hokA hbM hM hr1 hr2 ⊢
 clear ha hok hlen e1 hl1 hl2
 obtain ⟨A',cap',e,hrc,hcap,hrow⟩:=id hM
 injection e with e1 _ e3
 subst e1 e3
 refine gg ?_
 refine W_seq ?_
 refine gg ?_
 refine R1_make sl_Int (.inl rfl) rfl rfl (Nat.le_refl _) (by omega) (by omega) ?_
 intro w1 hB1 hE1 hs1
 have hy1:=rowB_made true (N + N + 1) hB1
 obtain ⟨g,hg⟩ : ∃ g,g = w.heap.size:=⟨_,rfl⟩
 rw [← hg] at hy1 ⊢
 clear hB1
 refine gg ?_
 refine W_seqM (fun f w'=>f 9 = .slice (some ⟨g,0,none⟩) r r∧Ext w w'∧RowB w' g r true (fun _=>N + N + 1) (appM c M b)) ?_ ?_
 · refine gg ?_
   refine W_loop (fun q f w'=>∃ i,q = r - i∧i≤r∧f 0 = .slice A r cap∧f 1 = .slice Ab c capb∧f 9 = .slice (some ⟨g,0,none⟩) r r∧f 30 = .slice A r cap∧f 31 = .int .i64 ((r:Nat):Int)∧f 32 = .int .i64 ((i:Nat):Int)∧Ext w w'∧RowB w' g r true (fun _=>N + N + 1) (fun k=>if k < i then appM c M b k else 0))
    r ⟨0,rfl,Nat.zero_le _,rfl,rfl,rfl,rfl,rfl,rfl,hE1,hy1.congr fun _ _=>⟨Nat.le_refl _,by rw [if_neg (by omega)]⟩⟩ ?_
   clear hE1 hy1
   rintro q f w2 ⟨i,rfl,hi,hf0,hf1,hf9,hf30,hf31,hf32,hE,hy⟩
   rw [ui hf0,ui hf1,ui hf9,ui hf30,ui hf31,ui hf32]
   clear hf0 hf1 hf9 hf30 hf31 hf32
   by_cases hlt:i < r
   · obtain ⟨ad,u,rfl,hx,hru⟩:=hrow i hlt
     obtain ⟨Ai,capi,rfl,hci,hcapi,hri⟩:=id hru
     have hx1:=cell_ext hE hx
     refine gg ?_
     refine W_loop (fun q f w'=>∃ j,q = c - j∧j≤c∧f 0 = .slice (some ad) r cap∧f 1 = .slice Ab c capb∧f 9 = .slice (some ⟨g,0,none⟩) r r∧f 30 = .slice (some ad) r cap∧f 31 = .int .i64 ((r:Nat):Int)∧f 32 = .int .i64 ((i:Nat):Int)∧f 10 = .int .i64 ((i:Nat):Int)∧f 37 = .slice Ai c capi∧f 38 = .int .i64 ((c:Nat):Int)∧f 39 = .int .i64 ((j:Nat):Int)∧Ext w w'∧RowB w' g r true (fun _=>N + N + 1) (fun k=>if k < i then appM c M b k else if k = i then sumTo j (fun t=>M i t * b t) else 0))
      c ⟨0,rfl,Nat.zero_le _,rfl,rfl,rfl,rfl,rfl,rfl,rfl,rfl,rfl,rfl,hE,hy.congr fun k _=>⟨Nat.le_refl _,?_⟩⟩ ?_
     · by_cases h1:k < i
       · rw [if_pos h1,if_pos h1]
       · rw [if_neg h1,if_neg h1]; split <;> rfl
     clear hE hy hx1 w2
     rintro q f w2 ⟨j,rfl,hj,hf0,hf1,hf9,hf30,hf31,hf32,hf10,hf37,hf38,hf39,hE,hy⟩
     rw [ui hf0,ui hf1,ui hf9,ui hf30,ui hf31,ui hf32,ui hf10,ui hf37,ui hf38,ui hf39]
     clear hf0 hf1 hf9 hf30 hf31 hf32 hf10 hf37 hf38 hf39
     by_cases hjl:j < c
     · obtain ⟨ad',x,y,rfl,hx0,hy0,hv⟩:=hri j hjl
       obtain ⟨adb,xb,yb,rfl,hxb,hyb,hvb⟩:=hbe j hjl
       have hx0:=cell_ext hE hx0
       have hy0:=cell_ext hE hy0
       have hv:IV w2 N x y (M i j):=IV.ext hv hE
       refine gg ?_
       refine R1_alloc (.inl rfl) z_Int ?_
       intro w3 hB3 hE3 hs3
       have hb3:Bx w3 w2.heap.size N false 0:=Bx.zero false hB3
       obtain ⟨gb,hgb⟩ : ∃ g,g = w2.heap.size:=⟨_,rfl⟩
       rw [← hgb] at hb3 ⊢
       have hEs:=hE.size
       have hgl:=hy.lt
       refine gg ?_
       refine R1_storeBx (.inl rfl) rfl rfl hb3 (N':=N) (z':=M i j) ⟨hv.ext hE3,fun e=>by cases e⟩ ?_
       intro w4 hb4 hC4 hk4 hs4
       have hE4:Ext w2 w4:=hC4.ext_of hE3 (fun b hb=>by omega)
       replace hE:=hE.trans hE4
       replace hy:=hy.ext hE4
       obtain ⟨bx,by',hbB,hbv⟩:=hb4
       clear hb3 hB3 hE3 hs3 hC4 hk4 hs4 hE4 hx0 hy0 hv
       refine gg ?_
       refine W_regD [(0,3),(1,3),(2,3),(3,3),(4,3),(5,0),(6,0),(7,3),(8,3),(9,3),(10,0),(11,1),(12,1),(13,3),(14,2)] mixed (by kernel_rfl) (fun w5 hE5 _=>?_)
       obtain ⟨yx,yy,hyx,hyy,hyv⟩:=(hy.ext hE5).at hlt
       obtain ⟨p1,p2⟩:=blkP (hbB.ext hE5)
       have hxb':=cell_ext (hE.trans hE5) hxb
       have hyb':=cell_ext (hE.trans hE5) hyb
       have hvb':IV w5 N xb yb (b j):=IV.ext hvb (hE.trans hE5)
       simp only at hyv
       rw [if_neg (by omega),if_pos trivial] at hyv
       refine gg ?_
       refine R1_call1 (mul_ok _ _ _ _ _ _ N w5 (hbv.1.ext hE5) hvb' (by omega)) ?_
       rintro _ w6 ⟨hE6,mx,my,rfl,hcm⟩
       refine ⟨hE6,?_⟩
       have hbm:Bd (N + N) (M i j * b j):=(hbM i j hlt hjl).mul (hbb j hjl)
       refine gg ?_
       refine R1_call1 (add_ok _ _ _ _ _ _ (N + N + 1) w6 (hyv.1.ext hE6) ((hcm.iv hbm).mono (by omega)) (by omega)) ?_
       rintro _ w7 ⟨hE7,sx,sy,rfl,hcs⟩
       refine ⟨hE7,?_⟩
       have es:sumTo (j + 1) (fun t=>M i t * b t) = sumTo j (fun t=>M i t * b t) + M i j * b j:=rfl
       rw [← es] at hcs
       refine gg ?_
       refine R1_storeE (.inl rfl) rfl rfl (hy.ext (hE5.trans (hE6.trans hE7))) hlt (hcs.ev true (N:=N + N + 1) (appM_bd (by omega) hc16 (fun t ht=>hbM i t hlt ht) hbb)) ?_
       intro w8 hy8 hC8 hk8 hs8
       refine gg ?_
       refine ⟨_,?_,j + 1,rfl,by omega,rfl,rfl,rfl,rfl,rfl,rfl,rfl,rfl,rfl,rfl,hC8.ext_of (hE.trans (hE5.trans (hE6.trans hE7))) (fun b hb=>by omega),hy8.congr fun k _=>⟨?_,?_⟩⟩
       · omega
       · simp only [setN]; split <;> omega
       · simp only [setZ]
         by_cases e:k = i
         · rw [if_pos e,if_neg (by omega),if_pos e]
         · rw [if_neg e,if_neg e,if_neg e]
     · refine gg ?_
       obtain rfl:j = c:=by omega
       refine ⟨_,?_,i + 1,rfl,by omega,rfl,rfl,rfl,rfl,rfl,rfl,hE,hy.congr fun k _=>⟨Nat.le_refl _,?_⟩⟩
       · omega
       · by_cases h1:k < i
         · rw [if_pos h1,if_pos (by omega)]
         · rw [if_neg h1]
           by_cases h2:k = i
           · rw [if_pos h2,if_pos (by omega),h2]; rfl
           · rw [if_neg h2,if_neg (by omega)]
   · refine gg ?_
     exact ⟨rfl,hE,hy.congr fun k hk=>⟨Nat.le_refl _,by rw [if_pos (by omega)]⟩⟩
 clear hE1 hy1
 rintro f w2 ⟨hf9,hE,hy⟩
 rw [ui hf9]
 clear hf9
 refine gg ?_
 refine ret2 (v:=.slice _ _ _) (v':=.bool _) rfl rfl rfl ?_
 unfold RVB
 rw [hokA,if_pos rfl]
 exact ⟨hE,_,_,_,rfl,hy.rowC (by omega)⟩
set_option maxHeartbeats 16000000 in
theorem rapply_ok (va vb:Value) (r c N:Nat) (len:Nat→Nat) (M:Nat→Nat→Int) (b:Nat→Int) (w:World) (ha:MatE (EI N) w va r len M) (hb:RowE (EI N) w vb c b) (hN:N < 34359738368) :
 Meets Tryz.prog 95 #[va,vb] w (RVB w (okApp r len c) r (N + N + 1) (appM c M b)):=by
 obtain ⟨A,cap,rfl,_⟩:=id ha
 obtain ⟨Ab,capb,rfl,hcb,hcapb,hbe⟩:=id hb
 refine fn_W (n:=40) Tryz.func95 rfl rfl (by kernel_rfl) (by simp) ?_
 refine gg ?_
 refine R1_call2 (rshape_ok _ _ r len M w ha) ?_
 rintro _ w0 ⟨hE0,rfl⟩
 obtain ⟨s1,c1,ok1,e1,h1⟩:=shapeV_cases r len
 rw [e1]
 rcases h1 with ⟨hok,rfl,rfl,rfl⟩ | ⟨hok,rfl,rfl,rfl⟩
 rotate_left
 · refine gg ?_
   refine W_seq ?_
   refine gg ?_
   exact ret2 rfl rfl rfl (rvb_bad (by unfold okApp; rw [hok]; rfl) hE0)
 by_cases hcl:c = len 0
 rotate_left
 · refine gg ?_
   refine W_seq ?_
   refine gg ?_
   exact ret2 rfl rfl rfl (rvb_bad (by unfold okApp; rw [decide_eq_false hcl,Bool.and_false]) hE0)
 obtain ⟨⟨hr1,hr2,hl1,hl2⟩,hlen⟩:=okM_iff.1 hok
 have hM:=ha.sq (c:=c) (fun i hi=>by rw [hlen i hi,hcl])
 have hokA:okApp s1 len c = true:=by unfold okApp; rw [hok,decide_eq_true hcl]; rfl
 have hc16:c≤16:=by omega
 have hbM:∀ i j,i < s1→j < c→Bd N (M i j):=fun i j hi hj=>hM.bd hi hj
 have hbb:∀ j,j < c→Bd N (b j):=fun j hj=>hb.bd hj
 obtain ⟨r,hr⟩ : ∃ r,r = s1:=⟨_,rfl⟩
 rw [← hr] at hokA hbM hM hr1 hr2 ⊢
 clear ha hok hlen e1 hl1 hl2
 obtain ⟨A',cap',e,hrc,hcap,hrow⟩:=id hM
 injection e with e1 _ e3
 subst e1 e3
 refine gg ?_
 refine W_seq ?_
 refine gg ?_
 refine W_seqM (fun f w'=>∃ v,f 9 = v∧Ext w0 w'∧GrowB w' v r true (N + N + 1) (appM c M b)) ?_ ?_
 · refine gg ?_
   refine W_loop (fun q f w'=>∃ i v,q = r - i∧i≤r∧f 1 = .slice Ab c capb∧f 9 = v∧f 26 = .slice A r cap∧f 27 = .int .i64 ((r:Nat):Int)∧f 28 = .int .i64 ((i:Nat):Int)∧Ext w0 w'∧GrowB w' v i true (N + N + 1) (appM c M b)∧∀ b,some b = v.ownBlock→w0.heap.size≤b)
    r ⟨0,.slice none 0 0,rfl,Nat.zero_le _,rfl,rfl,rfl,rfl,rfl,Ext.refl _,GrowB.nil,fun b hb=>by cases hb⟩ ?_
   rintro q f w2 ⟨i,v,rfl,hi,hf1,hf9,hf26,hf27,hf28,hE,hG,hown⟩
   rw [ui hf1,ui hf9,ui hf26,ui hf27,ui hf28]
   clear hf1 hf9 hf26 hf27 hf28
   by_cases hlt:i < r
   · obtain ⟨ad,u,rfl,hx,hru⟩:=hrow i hlt
     have hx1:=cell_ext (hE0.trans hE) hx
     refine gg ?_
     refine R1_call2 (dot_ok u _ c N (M i) b w2 (hru.ext (hE0.trans hE)) (hb.ext (hE0.trans hE)) (by omega) (by omega)) ?_
     rintro _ w3 ⟨hE3,x,y,rfl,hcv⟩
     refine gg ?_
     refine R1_sliceE1 (.inl rfl) rfl ?_
     intro w4 hB4 hE4 hs4
     obtain ⟨p1,p2⟩:=blkP hB4
     refine gg ?_
     refine R1_appE (.inl rfl) rfl rfl (hG.ext (hE3.trans hE4)) p1 p2 ((hcv.ext hE4).ev true (appM_bd (Nat.le_refl _) hc16 (fun t ht=>hbM i t hlt ht) hbb)) (by omega) ?_
     intro v' w5 hG5 hk5 hC5 hv5
     have hs:=(hE.trans (hE3.trans hE4)).size
     refine gg ?_
     refine ⟨_,?_,i + 1,v',rfl,by omega,rfl,rfl,rfl,rfl,rfl,hC5.ext_of (hE.trans (hE3.trans hE4)) hown,hG5.congr fun k _=>?_,fun b hb=>?_⟩
     · omega
     · split
       · rename_i e; rw [e]; rfl
       · rfl
     · rcases hv5 with e | e
       · rw [e] at hb; exact hown b hb
       · rw [e] at hb; injection hb with hb; omega
   · refine gg ?_
     obtain rfl:i = r:=by omega
     exact ⟨v,rfl,hE,hG⟩
 rintro f w2 ⟨v,hf9,hE,hy⟩
 rw [ui hf9]
 clear hf9
 obtain ⟨Av,cv,rfl⟩:=hy.slice
 refine gg ?_
 refine ret2 (v:=.slice _ _ _) (v':=.bool _) rfl rfl rfl ?_
 unfold RVB
 rw [hokA,if_pos rfl]
 exact ⟨hE0.trans hE,_,_,_,rfl,hy.rowC⟩
end Go.Proofs.YtncbjgblcofddaaGreatDoor
namespace Go.Proofs.YtncbjgblcofddaaGreatDoor
open Go Go.Eng Go.Num Go.Proofs
section
variable {H:Type} {enc:TypeId × Value→H} {w:World} {sp:Nat→Bool} {hd:Bool}
theorem bulk_one (d:DataW H):1≤Rows.uptoBulk d:=by
 cases d with
 | lit l=>cases l <;> simp [Rows.uptoBulk]
 | nil=>simp [Rows.uptoBulk]
 | ptr d=>simp [Rows.uptoBulk]
 | slice elems spare=>simp [Rows.uptoBulk]
 | agg parts=>simp [Rows.uptoBulk]
 | iface t d=>simp [Rows.uptoBulk]
 | map entries=>simp [Rows.uptoBulk]
 | held h=>simp [Rows.uptoBulk]
theorem bulk_part {d:DataW H} {l:List (DataW H)} (h:d ∈ l):Rows.uptoBulk d≤Rows.uptoBulkAll l:=by
 induction l with
 | nil=>cases h
 | cons x r ih =>
  simp only [Rows.uptoBulkAll]
  cases List.mem_cons.1 h with
  | inl e=>subst e; omega
  | inr e=>have:=ih e; omega
theorem bulk_length (l:List (DataW H)):l.length≤Rows.uptoBulkAll l:=by
 induction l with
 | nil=>simp [Rows.uptoBulkAll]
 | cons x r ih=>have:=bulk_one x; simp only [Rows.uptoBulkAll,List.length_cons]; omega
theorem bulk_slice (elems spare:List (DataW H)):elems.length + spare.length + 1≤Rows.uptoBulk (.slice elems spare):=by
 have h1:=bulk_length elems
 have h2:=bulk_length spare
 simp only [Rows.uptoBulk]
 omega
theorem bulk_of {l:List (DataW H)} {j:Nat} {d:DataW H} (hk:Rows.uptoSmall H l = true) (hj:l[j]? = some d):Rows.uptoBulk d≤1048576:=by
 have h:Rows.uptoBulkAll l≤1048576:=of_decide_eq_true hk
 exact Nat.le_trans (bulk_part (List.mem_of_getElem? hj)) h
theorem open_magB {fuel:Nat} {cs:List Value} {x:DataW H × List MemPlace} (h:DataW.trod enc Tryz.prog w 0 sp hd fuel 39 cs = some x) (hw:Wt 39 x.1) :
 ∃ A l c,cs = [.slice A l.length c]∧l.length≤c∧c < 9223372036854775808∧Mag w A l∧l.length≤140737488355328∧l.length≤Rows.uptoBulk x.1:=by
 rcases ChangeShapes.open_ints Tryz.underlying39 Tryz.underlying107 cells_u32 h with ⟨rfl,rfl⟩ | ⟨a,len,cap,zs,rfl,_,hl,hm,hz,rfl,hc,hwf⟩
 · exact ⟨none,[],0,rfl,Nat.le_refl _,by decide,Mag.nil _ _,by simp,by simp⟩
 · have hlen:len≤zs.length:=by rw [hz]; split <;> omega
   have hlim:∀ i,i < len→0≤zs.getD i 0∧zs.getD i 0 < 4294967296:=fun i hi=>by
    have:zs.getD i 0 ∈ zs:=by
     have hi':i < zs.length:=by omega
     simp [List.getD,hi']
    exact u32_of_wf (hwf _ this)
   have hww:=(wt_slice Tryz.underlying39 hw).1
   rw [bytes_u32] at hww
   have hle:(ChangeShapes.lits (H:=H) .u32 (zs.take len)).length = len:=by simp [ChangeShapes.lits,Nat.min_eq_left hlen]
   rw [hle] at hww
   refine ⟨some a,(List.range len).map (fun i=>(zs.getD i 0).toNat),cap,by simp,by simpa using hl,by have:maxLen = 9223372036854775807:=rfl; omega,⟨?_,?_⟩,?_,?_⟩
   · intro y hy
     obtain ⟨i,hi,rfl⟩:=List.mem_map.1 hy
     have:=hlim i (by simpa using hi)
     omega
   · intro j hj
     have hj:j < len:=by simpa using hj
     refine ⟨a,rfl,?_⟩
     have hg:((List.range len).map (fun i=>(zs.getD i 0).toNat)).getD j 0 = (zs.getD j 0).toNat:=by
      rw [List.getD_eq_getElem?_getD,List.getElem?_map,List.getElem?_range hj]; rfl
     rw [Nat.mul_one,hc j (by omega),hg,Int.toNat_of_nonneg (hlim j hj).1]
   · rw [List.length_map,List.length_range]; omega
   · have h1:=bulk_slice (ChangeShapes.lits (H:=H) .u32 (zs.take len)) (ChangeShapes.lits (H:=H) .u32 (zs.drop len))
     rw [List.length_map,List.length_range]
     rw [hle] at h1
     show len≤Rows.uptoBulk (DataW.slice (ChangeShapes.lits (H:=H) .u32 (zs.take len)) (ChangeShapes.lits (H:=H) .u32 (zs.drop len)))
     omega
theorem open_IntB {fuel:Nat} {cs:List Value} {x:DataW H × List MemPlace} (h:DataW.trod enc Tryz.prog w 0 sp hd fuel 41 cs = some x) (hw:Wt 41 x.1) :
 ∃ a b n z,cs = [a,b]∧IVL w n a b z∧n≤Rows.uptoBulk x.1:=by
 obtain ⟨y0,y1,n,rfl,hl,h0,h1⟩:=ChangeShapes.trod_struct2 Tryz.underlying41 h
 rw [cells_Int] at hl
 obtain ⟨a,b,rfl⟩:=two_of_len hl
 have h0:DataW.trod enc Tryz.prog w 0 sp hd n 4 (([a,b].drop 0).take (Tryz.prog.cellsOf 4)) = some y0:=h0
 have h1:DataW.trod enc Tryz.prog w 0 sp hd n 39 (([a,b].drop 1).take (Tryz.prog.cellsOf 39)) = some y1:=h1
 rw [cells_bool] at h0
 rw [cells_su32] at h1
 have h0:DataW.trod enc Tryz.prog w 0 sp hd n 4 [a] = some y0:=h0
 have h1:DataW.trod enc Tryz.prog w 0 sp hd n 39 [b] = some y1:=h1
 have hw1:Wt 39 y1.1:=fun m hm=>hw m (by
  have e:DataW.weights Tryz.prog 41 (.agg [y0.1,y1.1]) = DataW.weights Tryz.prog 4 y0.1 ++ (DataW.weights Tryz.prog 39 y1.1 ++ []):=by rw [DataW.weights,Tryz.underlying41]; rfl
  rw [e]
  exact List.mem_append_right _ (List.mem_append_left _ hm))
 obtain ⟨A,l,c,e,h2,h3,h4,h5,h6⟩:=open_magB h1 hw1
 obtain ⟨b0,rfl⟩ : ∃ b0,a = .bool b0:=by
  cases n with
  | zero=>simp [DataW.trod] at h0
  | succ n =>
   clear h1 hw1 h4
   cases a <;> simp [DataW.trod,Tryz.underlying4] at h0
   exact ⟨_,rfl⟩
 injection e with e
 refine ⟨_,_,l.length,_,rfl,⟨b0,A,l,c,rfl,e,h2,h3,h4,rfl,h5,rfl⟩,?_⟩
 simp only [Rows.uptoBulk,Rows.uptoBulkAll]
 omega
theorem open_rowB {fuel:Nat} {cs:List Value} {x:DataW H × List MemPlace} (h:DataW.trod enc Tryz.prog w 0 sp hd fuel 46 cs = some x) (hw:Wt 46 x.1) :
 ∃ v c M L,cs = [v]∧RowL w v c M L∧∀ j,j < c→L j≤Rows.uptoBulk x.1:=by
 rcases Deep.open_slice Tryz.underlying46 h with ⟨rfl,rfl⟩ | ⟨a,len,cap,m,n,D,Pl,rfl,_,hl,hm,hmm,rfl,hx⟩
 · exact ⟨_,0,fun _=>0,fun _=>0,rfl,⟨none,0,rfl,Nat.le_refl _,by decide,by decide,fun j hj=>absurd hj (by omega)⟩,fun j hj=>absurd hj (by omega)⟩
 · have hlm:len≤m:=by rw [hmm]; split <;> omega
   obtain ⟨hww,hwe⟩:=wt_slice Tryz.underlying46 hw
   rw [bytes_Int,List.length_map,List.length_range] at hww
   have hc:maxLen = 9223372036854775807:=rfl
   have each:∀ j,j < len→∃ q:Int × Nat,∃ x y,w.cell? (a.add (j * 2)) = some x∧w.cell? ((a.add (j * 2)).add 1) = some y∧IVL w q.2 x y q.1∧q.2≤Rows.uptoBulk (D j):=fun j hj=>by
    obtain ⟨cs',h1,h2⟩:=hx j (by omega)
    rw [cells_Int] at h1
    obtain ⟨x,y,n,z,rfl,hv,hn⟩:=open_IntB h2 (hwe _ (List.mem_map.2 ⟨j,by simpa using hj,rfl⟩))
    obtain ⟨_,_,h3⟩:=World.cells?_some h1
    exact ⟨(z,n),x,y,h3 0 (by decide),h3 1 (by decide),hv,hn⟩
   obtain ⟨q,hq⟩:=Deep.choose_lt each
   refine ⟨_,len,fun j=>(q j).1,fun j=>(q j).2,rfl,⟨some a,cap,rfl,hl,by omega,by omega,fun j hj=>?_⟩,fun j hj=>?_⟩
   · obtain ⟨x,y,h1,h2,h3,_⟩:=hq j hj
     exact ⟨a,x,y,rfl,h1,h2,h3⟩
   · obtain ⟨x,y,h1,h2,h3,h4⟩:=hq j hj
     refine Nat.le_trans h4 ?_
     have hmem:D j ∈ (List.range len).map D:=List.mem_map.2 ⟨j,by simpa using hj,rfl⟩
     refine Nat.le_trans (bulk_part hmem) ?_
     simp only [Rows.uptoBulk]
     omega
theorem open_vecB {v:Value} {d:DataW H} {ps:List MemPlace} (h:DataW.Trod enc Tryz.prog w 0 sp hd 46 v d ps) (hw:Wt 46 d) (hv:v.cells.toList = [v]) (hb:Rows.uptoBulk d≤1048576):∃ c M L,RowL w v c M L∧∀ j,j < c→L j≤1048576:=by
 obtain ⟨fuel,h⟩:=h
 rw [hv] at h
 obtain ⟨u,c,M,L,e,hr,hL⟩:=open_rowB h hw
 injection e with e
 subst e
 exact ⟨c,M,L,hr,fun j hj=>Nat.le_trans (hL j hj) hb⟩
end
end Go.Proofs.YtncbjgblcofddaaGreatDoor
