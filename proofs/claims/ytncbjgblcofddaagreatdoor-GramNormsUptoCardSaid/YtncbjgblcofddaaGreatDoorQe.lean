/- Joined: Matj, Matk, Matl, Awa, Lwa, Frm. -/
import Derived.Test.YtncbjgblcofddaaGreatDoorQd
import Derived.Test.YtncbjgblcofddaaGreatDoorRows
import Derived.Test.YtncbjgblcofddaaGreatDoorQa
import Derived.ProofKit
import Derived.SizedLaws
/- matrix.Det,Mul,negated. -/
namespace Go.Proofs.YtncbjgblcofddaaGreatDoor
open Go Go.Eng Go.Num Go.Proofs
theorem retCB {P:Program} {n:Nat} {f:Fr} {w:World} {fn:Func} {t u:Tmp} {T G:Nat} {post:Value→World→Prop} {x y v:Value} (hr:fn.results = #[.cell t T,.tmp u]) (hT:aggTy P T 2 = true) (hv:ev n f (.tmp t) = .pointer (some ⟨G,0,none⟩)) (hb:Blk w G T #[x,y]) (hu:ev n f (.tmp u) = v) (h:post (.tuple #[.agg #[x,y],v]) w) :
 bodyPost P fn (Ret post) .ret (act n f) w:=by
 refine bodyPost_ret (v:=.tuple #[.agg #[x,y],v]) ?_ rfl ⟨_,rfl,h⟩
 have e:=congrFun (act_eval n f) (.tmp t)
 have e2:=congrFun (act_eval n f) (.tmp u)
 simp only [Act.eval] at e e2
 have h0:w.cell? ⟨G,0,none⟩ = some x:=by rw [hb.cell]; rfl
 have h1:w.cell? ((⟨G,0,none⟩ : Addr).add 1) = some y:=by rw [add_lit,hb.cell]; rfl
 have hl:=run_load_two (P:=P) hT h0 h1
 simp only [Instr.loadAt,Instr.sureAddr,Sem.run_bind,Sem.run_pure,Result.andThen_ok] at hl
 have e':(act n f).tmps[t]?.getD undef = .pointer (some ⟨G,0,none⟩):=by rw [← hv,← e]; simp
 have e2':(act n f).tmps[u]?.getD undef = v:=by rw [← hu,← e2]; simp
 simp [results,hr,e',e2',asAddr,hl]
def RIB (w:World) (ok:Bool) (z:Int) (v:Value) (w':World):Prop :=
 Ext w w'∧∃ x y,v = .tuple #[.agg #[x,y],.bool ok]∧CV w' x y (if ok then z else 0)
def okS (r:Nat) (len:Nat→Nat):Bool:=okM r len && decide (r = len 0)
theorem okS_iff {r:Nat} {len:Nat→Nat}:okS r len = true ↔ 1≤r∧r≤16∧∀ i,i < r→len i = r:=by
 simp only [okS,Bool.and_eq_true,decide_eq_true_eq,okM_iff]
 constructor
 · rintro ⟨⟨⟨h1,h2,h3,h4⟩,h5⟩,h6⟩
   exact ⟨h1,h2,fun i hi=>by rw [h5 i hi,← h6]⟩
 · rintro ⟨h1,h2,h3⟩
   have h0:=h3 0 (by omega)
   exact ⟨⟨⟨h1,h2,by omega,by omega⟩,fun i hi=>by rw [h3 i hi,h0]⟩,h0.symm⟩
theorem MatE.sq {E:World→Value→Value→Int→Prop} {w:World} {v:Value} {r c:Nat} {len:Nat→Nat} {M:Nat→Nat→Int} (h:MatE E w v r len M) (hl:∀ i,i < r→len i = c):MatE E w v r (fun _=>c) M:=by
 obtain ⟨A,cap,rfl,h1,h2,h3⟩:=h
 refine ⟨A,cap,rfl,h1,h2,fun i hi=>?_⟩
 obtain ⟨ad,u,e,hu,hr⟩:=h3 i hi
 rw [hl i hi] at hr
 exact ⟨ad,u,e,hu,hr⟩
set_option maxHeartbeats 8000000 in
theorem det_ok (v:Value) (r N:Nat) (len:Nat→Nat) (M:Nat→Nat→Int) (w:World) (h:MatE (EI N) w v r len M) (hN1:1≤N) (hN:N < 1048576) :
 Meets Tryz.prog 100 #[v] w (RIB w (okS r len) (detB r M)):=by
 refine fn_W (n:=23) Tryz.func100 rfl rfl (by kernel_rfl) (by simp) ?_
 refine gg ?_
 refine R1_alloc (.inl rfl) z_Int ?_
 intro w1 hB1 hE1 hs1
 have hR1:Bx w1 w.heap.size 1 true 0:=Bx.zero true hB1
 refine gg ?_
 refine R1_call2 (shape_ok _ v r len M w1 (h.ext hE1)) ?_
 rintro _ _ ⟨rfl,rfl⟩
 have bad:¬ okS r len = true→∀ w2,Ext w1 w2→∀ x y,CV w2 x y 0→RIB w (okS r len) (detB r M) (.tuple #[.agg #[x,y],.bool false]) w2:=fun hb w2 hE2 x y hc=>by
  have:okS r len = false:=by simpa using hb
  rw [this]; exact ⟨hE1.trans hE2,x,y,rfl,hc⟩
 by_cases hok:okM r len = true
 · rw [shapeV_t hok]
   obtain ⟨⟨hr1,hr2,hl1,hl2⟩,hlen⟩:=okM_iff.1 hok
   by_cases hsq:r = len 0
   · have hS:okS r len = true:=by simp [okS,hok,hsq.symm]
     refine gg ?_
     refine W_seq ?_
     refine gg ?_
     refine R1_call2 (determinant_ok v r N M w1 ((h.ext hE1).sq (fun i hi=>by rw [hlen i hi]; exact hsq.symm)) hr1 hr2 hN1 hN) ?_
     rintro _ w2 ⟨hE2,x,y,rfl,hcv⟩
     refine gg ?_
     have hR2:=hR1.ext hE2
     obtain ⟨ox,oy,hoB,hov⟩:=hR2
     refine R1_store2 agg_Int (.inl rfl) rfl rfl hcv.one0 hcv.one1 hoB (by simp) ?_
     intro w3 hB3 hC3 hs3
     have hk3:=kp_ch hoB hov.1.noU hC3
     refine gg ?_
     refine retCB (v:=.bool _) rfl agg_Int rfl hB3 rfl ⟨hC3.ext_of (hE1.trans hE2) (fun b hb=>by omega),x,y,by rw [hS],?_⟩
     rw [hS]; exact hcv.kp hk3
   · have hS:¬ okS r len = true:=by simp [okS,hok,hsq]
     refine gg ?_
     refine W_seq ?_
     refine gg ?_
     refine R1_bld0 b0_Int ?_
     refine gg ?_
     refine R1_storeBx (N':=1) (.inl rfl) rfl rfl hR1 ((CV.zero w1).ev true (Bd.zero 1)) ?_
     intro w3 hR3 hC3 hk3 hs3
     refine gg ?_
     obtain ⟨x,y,hB,hv⟩:=hR3
     have:okS r len = false:=by simpa using hS
     refine retCB (v:=.bool _) rfl agg_Int rfl hB rfl ⟨hC3.ext_of hE1 (fun b hb=>by omega),x,y,by rw [this],?_⟩
     rw [this]; exact hv.2 rfl
 · rw [shapeV_f hok]
   have hS:okS r len = false:=by simp at hok; simp [okS,hok]
   refine gg ?_
   refine W_seq ?_
   refine gg ?_
   refine R1_bld0 b0_Int ?_
   refine gg ?_
   refine R1_storeBx (N':=1) (.inl rfl) rfl rfl hR1 ((CV.zero w1).ev true (Bd.zero 1)) ?_
   intro w3 hR3 hC3 hk3 hs3
   refine gg ?_
   obtain ⟨x,y,hB,hv⟩:=hR3
   refine retCB (v:=.bool _) rfl agg_Int rfl hB rfl ⟨hC3.ext_of hE1 (fun b hb=>by omega),x,y,by rw [hS],?_⟩
   rw [hS]; exact hv.2 rfl
theorem MatE.at {E:World→Value→Value→Int→Prop} {w:World} {v:Value} {r c i:Nat} {M:Nat→Nat→Int} (h:MatE E w v r (fun _=>c) M) (hi:i < r) :
 ∃ ad cap u,v = .slice (some ad) r cap∧w.cell? (ad.add (i * 1)) = some u∧RowE E w u c (M i):=by
 obtain ⟨A,cap,rfl,h1,h2,h3⟩:=h
 obtain ⟨ad,u,rfl,hu,hr⟩:=h3 i hi
 exact ⟨ad,cap,u,rfl,hu,hr⟩
theorem RowE.at {E:World→Value→Value→Int→Prop} {w:World} {v:Value} {c j:Nat} {g:Nat→Int} (h:RowE E w v c g) (hj:j < c) :
 ∃ ad cap x y,v = .slice (some ad) c cap∧w.cell? (ad.add (j * 2)) = some x∧w.cell? ((ad.add (j * 2)).add 1) = some y∧E w x y (g j):=by
 obtain ⟨A,cap,rfl,h1,h2,h3⟩:=h
 obtain ⟨ad,x,y,rfl,hx,hy,he⟩:=h3 j hj
 exact ⟨ad,cap,x,y,rfl,hx,hy,he⟩
theorem MatE.bd {w:World} {v:Value} {r c N i j:Nat} {M:Nat→Nat→Int} (h:MatE (EI N) w v r (fun _=>c) M) (hi:i < r) (hj:j < c):Bd N (M i j):=by
 obtain ⟨_,_,u,_,_,hr⟩:=h.at hi
 obtain ⟨_,_,_,_,_,_,_,hv⟩:=hr.at hj
 exact IV.bd hv
set_option maxHeartbeats 8000000 in
theorem mul1_ok (i j gI gA gB r c q N:Nat) (va vb:Value) (X Y:Nat→Nat→Int) (w:World) (hI:Blk w gI 3 #[.int .i64 ((q:Nat):Int)]) (hA:Blk w gA 22 #[va]) (hB:Blk w gB 22 #[vb])
 (ha:MatE (EI N) w va r (fun _=>q) X) (hb:MatE (EI N) w vb q (fun _=>c) Y) (hi:i < r) (hj:j < c) (hq:q≤16) (hN:N < 68719476736) :
 Meets Tryz.prog 164 #[.int .i64 ((i:Nat):Int),.int .i64 ((j:Nat):Int),.pointer (some ⟨gI,0,none⟩),.pointer (some ⟨gA,0,none⟩),.pointer (some ⟨gB,0,none⟩)] w (RI w (mulM q X Y i j)):=by
 refine fn_W (n:=34) Tryz.func164 rfl rfl (by kernel_rfl) (by simp) ?_
 refine gg ?_
 refine R1_alloc (.inl rfl) z_Int ?_
 intro w1 hB1 hE1 hs1
 have hR1:Bx w1 w.heap.size 1 true 0:=Bx.zero true hB1
 refine gg ?_
 refine R1_bld0 b0_Int ?_
 refine gg ?_
 refine R1_alloc (.inl rfl) z_Int ?_
 intro w2 hB2 hE2 hs2
 have hS2:Bx w2 w1.heap.size 1 true 0:=Bx.zero true hB2
 refine gg ?_
 refine R1_storeBx (N':=N + N + 1) (.inl rfl) rfl rfl hS2 ((CV.zero w2).ev true (Bd.zero _)) ?_
 intro w3 hS3 hC3 hk3 hs3
 obtain ⟨gR,hgR⟩ : ∃ g,g = w.heap.size:=⟨_,rfl⟩
 obtain ⟨gS,hgS⟩ : ∃ g,g = w1.heap.size:=⟨_,rfl⟩
 rw [← hgS] at hS3 hC3 ⊢
 rw [← hgR] at hR1 ⊢
 have hR3:=(hR1.ext hE2).kp hk3 hC3 (by omega)
 have hE3:Ext w w3:=hC3.ext_of (hE1.trans hE2) (fun b hb=>by omega)
 have hI3:=blkS (hI.ext hE3)
 refine gg ?_
 refine W_seq ?_
 refine gg ?_
 refine W_loop (fun m f w'=>∃ k,m = q - k∧k≤q∧f 0 = .int .i64 ((i:Nat):Int)∧f 1 = .int .i64 ((j:Nat):Int)∧f 3 = .pointer (some ⟨gA,0,none⟩)∧f 4 = .pointer (some ⟨gB,0,none⟩)∧f 7 = .pointer (some ⟨gR,0,none⟩)∧f 8 = .pointer (some ⟨gS,0,none⟩)∧f 11 = .int .i64 ((q:Nat):Int)∧f 12 = .int .i64 ((k:Nat):Int) ∧
  Ext w w'∧Bx w' gR 1 true 0∧Bx w' gS (N + N + 1) true (sumTo k fun t=>X i t * Y t j)) q ⟨0,rfl,Nat.zero_le _,rfl,rfl,rfl,rfl,rfl,rfl,rfl,rfl,hE3,hR3,hS3⟩ ?_
 clear hI3 hE3 hR3 hk3 hC3 hS3 hs3 hS2 hB2 hE2 hs2 hR1 hB1 w2 w3
 rintro m f w2 ⟨k,rfl,hk,hf0,hf1,hf3,hf4,hf7,hf8,hf11,hf12,hE,hR,hS⟩
 rw [ui hf0,ui hf1,ui hf3,ui hf4,ui hf7,ui hf8,ui hf11,ui hf12]
 clear hf0 hf1 hf3 hf4 hf7 hf8 hf11 hf12
 by_cases hlt:k < q
 · refine gg ?_
   refine W_regD [(0,0),(1,0),(2,3),(3,3),(4,0),(5,3),(6,3),(7,0),(8,0),(9,3),(10,3),(11,0),(12,3),(13,3),(14,0),(15,1),(16,1),(17,2)] mixed (by kernel_rfl) (fun w3 hE3 _=>?_)
   have hE':=hE.trans hE3
   obtain ⟨sx,sy,hSB,hSv⟩:=hS.ext hE3
   obtain ⟨s1,s2⟩:=blkP hSB
   have hA3:=blkS (hA.ext hE')
   have hB3:=blkS (hB.ext hE')
   obtain ⟨ada,capa,ua,rfl,hua,hra⟩:=(ha.ext hE').at hi
   obtain ⟨adb,capb,ub,rfl,hub,hrb⟩:=(hb.ext hE').at hlt
   obtain ⟨ada',capa',xa,ya,rfl,hxa,hya,hva⟩:=hra.at hlt
   obtain ⟨adb',capb',xb,yb,rfl,hxb,hyb,hvb⟩:=hrb.at hj
   refine gg ?_
   refine R1_call1 (mul_ok _ _ _ _ _ _ N w3 hva hvb (by omega)) ?_
   rintro _ w4 ⟨hE4,a1,b1,rfl,hc1⟩
   refine ⟨hE4,?_⟩
   have hm:Bd (N + N) (X i k * Y k j):=(IV.bd hva).mul (IV.bd hvb)
   refine gg ?_
   refine R1_call1 (add_ok _ _ _ _ _ _ (N + N + 1) w4 (hSv.ext hE4).1 (hc1.iv (hm.mono (by omega))) (by omega)) ?_
   rintro _ w5 ⟨hE5,a2,b2,rfl,hc2⟩
   refine ⟨hE5,?_⟩
   have hsum:Bd (N + N + 1) (sumTo (k + 1) fun t=>X i t * Y t j):=sumTo_bd (by omega) (fun t ht=>?_)
   · refine gg ?_
     refine R1_storeBx (.inl rfl) rfl rfl (hS.ext (hE3.trans (hE4.trans hE5))) (hc2.ev true hsum) ?_
     intro w6 hS6 hC6 hk6 hs6
     have hsz:=hE1.size
     refine gg ?_
     refine ⟨_,?_,k + 1,rfl,by omega,rfl,rfl,rfl,rfl,rfl,rfl,rfl,rfl,hC6.ext_of (hE'.trans (hE4.trans hE5)) (fun b hb=>by omega),(hR.ext (hE3.trans (hE4.trans hE5))).kp hk6 hC6 (by omega),hS6⟩
     omega
   · obtain ⟨_,_,ua,e1,_,hra⟩:=ha.at hi
     obtain ⟨_,_,ub,e2,_,hrb⟩:=hb.at (show t < q by omega)
     obtain ⟨_,_,_,_,_,_,_,h1⟩:=hra.at (show t < q by omega)
     obtain ⟨_,_,_,_,_,_,_,h2⟩:=hrb.at hj
     exact (IV.bd h1).mul (IV.bd h2)
 · have:k = q:=by omega
   subst this
   obtain ⟨sx,sy,hSB,hSv⟩:=hS
   obtain ⟨s1,s2⟩:=blkP hSB
   refine gg ?_
   refine R1_storeBx (.inl rfl) rfl rfl hR hSv ?_
   intro w6 hR6 hC6 hk6 hs6
   refine gg ?_
   obtain ⟨x,y,hB,hv⟩:=hR6
   exact retC rfl agg_Int rfl hB ⟨hC6.ext_of hE (fun b hb=>by omega),x,y,rfl,hv.2 rfl⟩
def okMul (r1 r2:Nat) (len1 len2:Nat→Nat):Bool:=okM r1 len1 && okM r2 len2 && decide (len1 0 = r2)
set_option maxHeartbeats 8000000 in
theorem mul2_ok (va vb:Value) (r1 r2 N:Nat) (len1 len2:Nat→Nat) (X Y:Nat→Nat→Int) (w:World) (ha:MatE (EI N) w va r1 len1 X) (hb:MatE (EI N) w vb r2 len2 Y) (hN:N < 68719476736) :
 Meets Tryz.prog 110 #[va,vb] w (RMB w (okMul r1 r2 len1 len2) r1 (len2 0) (mulM (len1 0) X Y)):=by
 obtain ⟨Aa,capa,hva,_⟩:=id ha
 obtain ⟨Ab,capb,hvb,_⟩:=id hb
 refine fn_W (n:=39) Tryz.func110 rfl rfl (by kernel_rfl) (by simp) ?_
 refine gg ?_
 refine R1_box (v:=va) (.inl rfl) rfl ?_
 intro w1 hB1 hE1 hs1
 refine gg ?_
 refine R1_box (v:=vb) (.inl rfl) rfl ?_
 intro w2 hB2 hE2 hs2
 have hA1:Blk w1 w.heap.size 22 #[va]:=by rw [hva] at hB1 ⊢; exact hB1
 have hA2:Blk w2 w1.heap.size 22 #[vb]:=by rw [hvb] at hB2 ⊢; exact hB2
 have f1:=blkS (hA1.ext hE2)
 refine gg ?_
 refine R1_call2 (shape_ok _ va r1 len1 X w2 (ha.ext (hE1.trans hE2))) ?_
 rintro _ _ ⟨rfl,rfl⟩
 obtain ⟨s1,c1,ok1,e1,h1⟩ : ∃ (s1 c1:Nat) (ok1:Bool),shapeV r1 len1 = .tuple #[.int .i64 ((s1:Nat):Int),.int .i64 ((c1:Nat):Int),.bool ok1]∧((okM r1 len1 = true∧ok1 = true∧s1 = r1∧c1 = len1 0) ∨ (¬ okM r1 len1 = true∧ok1 = false∧c1 = 0)):=by
  by_cases h:okM r1 len1 = true
  · exact ⟨_,_,_,shapeV_t h,.inl ⟨h,rfl,rfl,rfl⟩⟩
  · exact ⟨_,_,_,shapeV_f h,.inr ⟨h,rfl,rfl⟩⟩
 rw [e1]
 refine gg ?_
 refine R1_alloc (.inl rfl) z_int ?_
 intro w3 hB3 hE3 hs3
 refine gg ?_
 refine R1_storeI (one_of rfl) (.inl rfl) rfl rfl hB3 (by decide) ?_
 intro w4 hB4 hC4 hs4
 have hk4:Kp w3 w4:=kp_ch hB3 (fun i z=>by match i with | 0=>simp [Value.cells] | i + 1=>simp [Value.cells]) hC4
 have hI4:Blk w4 w2.heap.size 3 #[.int .i64 ((c1:Nat):Int)]:=hB4
 obtain ⟨gI,hgI⟩ : ∃ g,g = w2.heap.size:=⟨_,rfl⟩
 rw [← hgI] at hI4 hC4 ⊢
 have hA4:Blk w4 w.heap.size 22 #[va]:=((hA1.ext hE2).ext hE3).ch hC4 (by omega)
 have hA4':Blk w4 w1.heap.size 22 #[vb]:=(hA2.ext hE3).ch hC4 (by omega)
 have hE4:Ext w w4:=hC4.ext_of ((hE1.trans hE2).trans hE3) (fun b hb=>by omega)
 have f2:=blkS hA4'
 have f3:=blkS hI4
 refine gg ?_
 refine R1_call2 (shape_ok _ vb r2 len2 Y w4 (hb.ext hE4)) ?_
 rintro _ _ ⟨rfl,rfl⟩
 obtain ⟨s2,c2,ok2,e2,h2⟩ : ∃ (s1 c1:Nat) (ok1:Bool),shapeV r2 len2 = .tuple #[.int .i64 ((s1:Nat):Int),.int .i64 ((c1:Nat):Int),.bool ok1]∧((okM r2 len2 = true∧ok1 = true∧s1 = r2∧c1 = len2 0) ∨ (¬ okM r2 len2 = true∧ok1 = false∧c1 = 0)):=by
  by_cases h:okM r2 len2 = true
  · exact ⟨_,_,_,shapeV_t h,.inl ⟨h,rfl,rfl,rfl⟩⟩
  · exact ⟨_,_,_,shapeV_f h,.inr ⟨h,rfl,rfl⟩⟩
 rw [e2]
 have bad:¬ okMul r1 r2 len1 len2 = true→RMB w (okMul r1 r2 len1 len2) r1 (len2 0) (mulM (len1 0) X Y) (.tuple #[.slice none 0 0,.bool false]) w4:=fun hb=>by unfold RMB; rw [if_neg hb]; exact ⟨hE4,rfl⟩
 rcases h1 with ⟨hok1,rfl,rfl,rfl⟩ | ⟨hok1,rfl,rfl⟩
 · rcases h2 with ⟨hok2,rfl,rfl,rfl⟩ | ⟨hok2,rfl,rfl⟩
   · by_cases hq:len1 0 = s2
     · have hok:okMul s1 s2 len1 len2 = true:=by simp [okMul,hok1,hok2,hq]
       obtain ⟨⟨hr1,hr2,hl1,hl2⟩,hlen⟩:=okM_iff.1 hok1
       obtain ⟨⟨hr1',hr2',hl1',hl2'⟩,hlen'⟩:=okM_iff.1 hok2
       refine gg ?_
       refine W_seq ?_
       refine gg ?_
       refine R1_func0 ?_
       refine gg ?_
       refine R1_call2 (mbuild_ok s1 (len2 0) _ _ (mulM (len1 0) X Y) w4 (by omega) (by omega) (fun i j hi hj w' hE'=>mul1_ok i j gI w.heap.size w1.heap.size s1 (len2 0) (len1 0) N va vb X Y w' (hI4.ext hE') (hA4.ext hE') (hA4'.ext hE') ((ha.ext (hE4.trans hE')).sq hlen) (by rw [hq]; exact (hb.ext (hE4.trans hE')).sq hlen') hi hj (by omega) hN)) ?_
       rintro v w5 ⟨hE5,gO,gs,rfl,hg,hgs,hO⟩
       refine gg ?_
       refine ret2 (v:=.slice _ _ _) (v':=.bool _) rfl rfl rfl ?_
       unfold RMB
       rw [if_pos hok]
       have:=hE4.size
       exact ⟨_,rfl,hE4.trans hE5,gO,gs,rfl,by omega,fun i hi=>by have:=hgs i hi; omega,hO⟩
     · refine gg ?_
       refine W_seq ?_
       refine gg ?_
       exact ret2 (v:=.slice _ _ _) (v':=.bool _) rfl rfl rfl (bad (by simp [okMul,hq]))
   · refine gg ?_
     refine W_seq ?_
     refine gg ?_
     exact ret2 (v:=.slice _ _ _) (v':=.bool _) rfl rfl rfl (bad (by simp [okMul,hok2]))
 · refine gg ?_
   refine W_seq ?_
   refine gg ?_
   exact ret2 (v:=.slice _ _ _) (v':=.bool _) rfl rfl rfl (bad (by simp [okMul,hok1]))
set_option maxHeartbeats 8000000 in
theorem negated1_ok (i j gA r c N:Nat) (va:Value) (X:Nat→Nat→Int) (w:World) (hA:Blk w gA 22 #[va])
 (ha:MatE (EI N) w va r (fun _=>c) X) (hi:i < r) (hj:j < c) (hN:N < 1099511627776) :
 Meets Tryz.prog 200 #[.int .i64 ((i:Nat):Int),.int .i64 ((j:Nat):Int),.pointer (some ⟨gA,0,none⟩)] w (RI w (- X i j)):=by
 refine fn_W (n:=14) Tryz.func200 rfl rfl (by kernel_rfl) (by simp) ?_
 refine gg ?_
 refine R1_alloc (.inl rfl) z_Int ?_
 intro w1 hB1 hE1 hs1
 have hR1:Bx w1 w.heap.size 1 true 0:=Bx.zero true hB1
 have f0:=blkS (hA.ext hE1)
 obtain ⟨ada,capa,ua,rfl,hua,hra⟩:=(ha.ext hE1).at hi
 obtain ⟨ada',capa',xa,ya,rfl,hxa,hya,hva⟩:=hra.at hj
 refine gg ?_
 refine R1_call2 (neg_ok _ _ _ N w1 hva hN) ?_
 rintro _ w2 ⟨hE2,a1,b1,rfl,hc1⟩
 refine gg ?_
 refine R1_storeBx (.inl rfl) rfl rfl (hR1.ext hE2) (hc1.ev true (N:=N) (IV.bd hva).neg) ?_
 intro w6 hR6 hC6 hk6 hs6
 refine gg ?_
 obtain ⟨x,y,hB,hv⟩:=hR6
 exact retC rfl agg_Int rfl hB ⟨hC6.ext_of (hE1.trans hE2) (fun b hb=>by omega),x,y,rfl,hv.2 rfl⟩
set_option maxHeartbeats 8000000 in
theorem negated_ok (va:Value) (r c N:Nat) (X:Nat→Nat→Int) (w:World) (ha:MatE (EI N) w va r (fun _=>c) X) (hr:1≤r) (hr2:r < 1073741824) (hc2:c < 1073741824) (hN:N < 1099511627776) :
 Meets Tryz.prog 181 #[va] w (RM w r c (fun i j=>- X i j)):=by
 obtain ⟨Aa,capa,hva,_⟩:=id ha
 refine fn_W (n:=11) Tryz.func181 rfl rfl (by kernel_rfl) (by simp) ?_
 refine gg ?_
 refine R1_box (v:=va) (.inl rfl) rfl ?_
 intro w1 hB1 hE1 hs1
 have hA1:Blk w1 w.heap.size 22 #[va]:=by rw [hva] at hB1 ⊢; exact hB1
 refine gg ?_
 refine W_seqD [(0,0),(1,3),(2,0),(3,3),(4,0),(5,3),(6,3),(7,1),(8,3)] mixed (by kernel_rfl) (fun w2 hE2 _=>?_)
 have hE':=hE1.trans hE2
 have f0:=blkS (hA1.ext hE2)
 obtain ⟨ad,cap,u,rfl,hu,Au,capu,rfl,hru⟩:=(ha.ext hE').at (show 0 < r by omega)
 have hu0:w2.cell? (ad.add (((0:Nat):Nat) * 1)) = some (.slice Au c capu):=hu
 refine gg ?_
 refine R1_func0 ?_
 refine gg ?_
 refine R1_call1 (mbuild_ok r c _ _ (fun i j=>- X i j) w2 hr2 hc2 (fun i j hi hj w' hE3=>negated1_ok i j w.heap.size r c N _ X w' ((hA1.ext hE2).ext hE3) (ha.ext (hE'.trans hE3)) hi hj hN)) ?_
 rintro v w5 ⟨hE5,gO,gs,rfl,hg,hgs,hO⟩
 refine ⟨hE5,?_⟩
 refine gg ?_
 have:=hE'.size
 exact ret1 (v:=.slice _ _ _) rfl rfl ⟨hE'.trans hE5,gO,gs,rfl,by omega,fun i hi=>by have:=hgs i hi; omega,hO⟩
end Go.Proofs.YtncbjgblcofddaaGreatDoor
namespace Go.Proofs.YtncbjgblcofddaaGreatDoor
open Go Go.Eng Go.Num Go.Proofs
def adjStep (n:Nat) (M:Nat→Nat→Int) (k:Nat) (P:Nat→Nat→Int):Nat→Nat→Int :=
 fun i j=>if i = j then mulM n M P i j + (sumTo n fun t=>mulM n M P t t) / (-(k:Int)) else mulM n M P i j
def adjP (n:Nat) (M:Nat→Nat→Int):Nat→Nat→Nat→Int
 | 0=>scal 1
 | k + 1=>adjStep n M (k + 1) (adjP n M k)
def adjF (n:Nat) (M:Nat→Nat→Int):Nat→Nat→Int:=fun i j=>if n % 2 = 0 then - adjP n M (n - 1) i j else adjP n M (n - 1) i j
theorem mulM_bd {n N N' i j:Nat} {X Y:Nat→Nat→Int} (hn:n≤16) (hX:∀ t,t < n→Bd N (X i t)) (hY:∀ t,t < n→Bd N' (Y t j)):Bd (N + N' + 1) (mulM n X Y i j) :=
 sumTo_bd (by omega) fun t ht=>(hX t ht).mul (hY t ht)
theorem adjStep_bd {n N N' k:Nat} {M P:Nat→Nat→Int} (hn:n≤16) (hM:∀ i j,i < n→j < n→Bd N (M i j)) (hP:∀ i j,i < n→j < n→Bd N' (P i j)):∀ i j,i < n→j < n→Bd (N + N' + 3) (adjStep n M k P i j):=by
 intro i j hi hj
 have h:∀ i j,i < n→j < n→Bd (N + N' + 1) (mulM n M P i j):=fun i j hi hj=>mulM_bd hn (fun t ht=>hM i t hi ht) (fun t ht=>hP t j ht hj)
 unfold adjStep
 split
 · have hs:Bd (N + N' + 1 + 1) (sumTo n fun t=>mulM n M P t t):=sumTo_bd (by omega) fun t ht=>h t t ht ht
   exact ((h i j hi hj).mono (by omega)).add hs.ediv
 · exact (h i j hi hj).mono (by omega)
theorem adjP_bd {n N:Nat} {M:Nat→Nat→Int} (hn:n≤16) (hM:∀ i j,i < n→j < n→Bd N (M i j)):∀ k i j,i < n→j < n→Bd (1 + k * (N + 3)) (adjP n M k i j):=by
 intro k
 induction k with
 | zero =>
  intro i j _ _
  rw [Nat.zero_mul,Nat.add_zero]
  unfold adjP scal Bd
  split <;> decide
 | succ k ih =>
  intro i j hi hj
  have:=adjStep_bd (k:=k + 1) hn hM ih i j hi hj
  rw [Nat.succ_mul]
  exact this.mono (by omega)
theorem okM_const {r c:Nat} (h1:1≤r) (h2:r≤16) (h3:1≤c) (h4:c≤16):okM r (fun _=>c) = true:=okM_iff.2 ⟨⟨h1,h2,h3,h4⟩,fun _ _=>rfl⟩
set_option maxHeartbeats 16000000 in
theorem adjugate_ok (v:Value) (n N:Nat) (M:Nat→Nat→Int) (w:World) (h:MatE (EI N) w v n (fun _=>n) M) (hn:1≤n) (hn2:n≤16) (hN1:1≤N) (hN:N < 1048576) :
 Meets Tryz.prog 141 #[v] w (RM w n n (adjF n M)):=by
 obtain ⟨A,cap,rfl,_⟩:=id h
 have hbd:=adjP_bd (N:=N) (M:=M) hn2 (fun i j hi hj=>h.bd hi hj)
 refine fn_W (n:=78) Tryz.func141 rfl rfl (by kernel_rfl) (by simp) ?_
 refine gg ?_
 refine R1_call2 (small_ok 1 w (by omega) (by omega)) ?_
 rintro _ w1 ⟨hE1,x,y,rfl,hcv⟩
 refine gg ?_
 refine R1_call2 (scalar_ok n 1 x y 1 w1 (hcv.iv (by decide)) (by omega) (by omega) hcv.one0) ?_
 rintro _ w2 ⟨hE2,gO,gs,rfl,hg,hgs,hO⟩
 refine gg ?_
 have hw1:=hE1.size
 refine W_seqM (fun f w'=>∃ gO gs,f 3 = .int .i64 ((n:Nat):Int)∧f 4 = .slice (some ⟨gO,0,none⟩) n n∧Ext w w'∧w.heap.size≤gO∧(∀ i,i < n→w.heap.size≤gs i)∧OMat w' gO gs n n (adjP n M (n - 1))) ?_ ?_
 · refine gg ?_
   refine W_loop (fun m f w'=>∃ k gO gs,m = n - k∧1≤k∧k≤n∧f 0 = .slice A n cap∧f 3 = .int .i64 ((n:Nat):Int)∧f 4 = .slice (some ⟨gO,0,none⟩) n n∧f 5 = .int .i64 ((k:Nat):Int) ∧
    Ext w w'∧w.heap.size≤gO∧(∀ i,i < n→w.heap.size≤gs i)∧OMat w' gO gs n n (adjP n M (k - 1)))
    (n - 1) ⟨1,gO,gs,rfl,Nat.le_refl _,hn,rfl,rfl,rfl,rfl,hE1.trans hE2,by omega,fun i hi=>by have:=hgs i hi; omega,hO⟩ ?_
   clear hO hgs hg hE2 hE1 hcv w2 hw1 gs gO
   rintro m f w1 ⟨k,gO,gs,rfl,hk1,hkn,hf0,hf3,hf4,hf5,hE,hg,hgs,hO⟩
   rw [ui hf0,ui hf3,ui hf4,ui hf5]
   clear hf0 hf3 hf4 hf5
   refine W_seq ?_
   by_cases hlt:k < n
   · have hNk:(k - 1) * (N + 3)≤15 * 1048579:=Nat.mul_le_mul (by omega) (by omega)
     obtain ⟨Np,hNp⟩ : ∃ Np,Np = N + 1 + (k - 1) * (N + 3):=⟨_,rfl⟩
     obtain ⟨P,hP⟩ : ∃ P,P = adjP n M (k - 1):=⟨_,rfl⟩
     have hPb:∀ i j,i < n→j < n→Bd Np (P i j):=fun i j hi hj=>by rw [hP]; exact (hbd (k - 1) i j hi hj).mono (by omega)
     have hMb:∀ i j,i < n→j < n→Bd Np (M i j):=fun i j hi hj=>(h.bd hi hj).mono (by omega)
     rw [← hP] at hO
     have hok:okMul n n (fun _=>n) (fun _=>n) = true:=by simp [okMul,okM_const hn hn2 hn hn2]
     refine gg ?_
     refine R1_call2 (mul2_ok _ _ n n Np (fun _=>n) (fun _=>n) M P w1 ((h.ext hE).mono (by omega)) (hO.read (fun i j hi hj=>hPb i j hi hj) (by omega) (by omega)) (by omega)) ?_
     intro v w2 hv
     unfold RMB at hv
     rw [if_pos hok] at hv
     obtain ⟨u,rfl,hE2,gO',gs',rfl,hg',hgs',hO'⟩:=hv
     clear hO hg hgs gs
     have hw1:=hE.size
     have hE':=hE.trans hE2
     have hQb:∀ i j,i < n→j < n→Bd (Np + Np + 1) (mulM n M P i j):=fun i j hi hj=>mulM_bd hn2 (fun t ht=>hMb i t hi ht) (fun t ht=>hPb t j ht hj)
     obtain ⟨Q,hQ⟩ : ∃ Q,Q = mulM n M P:=⟨_,rfl⟩
     rw [← hQ] at hO' hQb
     refine gg ?_
     refine R1_bld0 b0_Int ?_
     refine gg ?_
     refine R1_alloc (.inl rfl) z_Int ?_
     intro w3 hB3 hE3 hs3
     have hT3:Bx w3 w2.heap.size 1 false 0:=Bx.zero false hB3
     obtain ⟨gT,hgT⟩ : ∃ g,g = w2.heap.size:=⟨_,rfl⟩
     rw [← hgT] at hT3 ⊢
     refine gg ?_
     refine R1_storeBx (N':=Np + Np + 1 + 1) (.inl rfl) rfl rfl hT3 ((CV.zero w3).ev false (Bd.zero _)) ?_
     intro w4 hT4 hC4 hk4 hs4
     have hrl:∀ i,i < n→gs' i < gT:=fun i hi=>by have:=(hO'.row i hi).lt; omega
     have hol:gO' < gT:=by have:=hO'.outer.lt; omega
     have hW2:=hO'.wm true hQb
     have hW4:=(hW2.ext hE3).kp hk4 hC4 (by omega) (fun i hi=>by have:=hrl i hi; omega)
     have hE4:Ext w w4:=hC4.ext_of (hE'.trans hE3) (fun b hb=>by have:=hE'.size; omega)
     have hgO2:w.heap.size≤gO':=by omega
     have hgs2:∀ i,i < n→w.heap.size≤gs' i:=fun i hi=>by have:=hgs' i hi; omega
     have hgT2:w.heap.size≤gT:=by have:=hE'.size; omega
     clear hk4 hC4 hs4 hT3 hB3 hE3 hs3 hW2 hO' hgT hg' hgs' hE' hE2 hw1 hE w1 w2 w3
     refine gg ?_
     refine W_seqM (fun f w'=>f 0 = .slice A n cap∧f 3 = .int .i64 ((n:Nat):Int)∧f 4 = .slice (some ⟨gO',0,none⟩) n n∧f 5 = .int .i64 ((k:Nat):Int)∧f 6 = .pointer (some ⟨gT,0,none⟩) ∧
      Ext w w'∧WMat w' gO' gs' n n true (fun _ _=>Np + Np + 1) Q∧Bx w' gT (Np + Np + 1 + 1) false (sumTo n fun t=>Q t t)) ?_ ?_
     · refine gg ?_
       refine W_loop (fun m f w'=>∃ i,m = n - i∧i≤n∧f 0 = .slice A n cap∧f 3 = .int .i64 ((n:Nat):Int)∧f 4 = .slice (some ⟨gO',0,none⟩) n n∧f 5 = .int .i64 ((k:Nat):Int)∧f 6 = .pointer (some ⟨gT,0,none⟩)∧f 29 = .int .i64 ((n:Nat):Int)∧f 30 = .int .i64 ((i:Nat):Int) ∧
        Ext w w'∧WMat w' gO' gs' n n true (fun _ _=>Np + Np + 1) Q∧Bx w' gT (Np + Np + 1 + 1) false (sumTo i fun t=>Q t t))
        n ⟨0,rfl,Nat.zero_le _,rfl,rfl,rfl,rfl,rfl,rfl,rfl,hE4,hW4,hT4⟩ ?_
       clear hE4 hW4 hT4 w4
       rintro m f w1 ⟨i,rfl,hi,hf0,hf3,hf4,hf5,hf6,hf29,hf30,hE,hW,hT⟩
       rw [ui hf0,ui hf3,ui hf4,ui hf5,ui hf6,ui hf29,ui hf30]
       clear hf0 hf3 hf4 hf5 hf6 hf29 hf30
       by_cases hil:i < n
       · refine gg ?_
         refine W_regD [(0,0),(1,3),(2,3),(3,3),(4,0),(5,3),(6,3),(7,0),(8,1),(9,2)] mixed (by kernel_rfl) (fun w2 hE2 _=>?_)
         have hW2:=hW.ext hE2
         have hx:=hW2.at hil
         obtain ⟨x1,y1,hx1,hy1,hv1⟩:=(hW2.row i hil).at hil
         obtain ⟨tx,ty,hTB,hTv⟩:=hT.ext hE2
         obtain ⟨ht1,ht2⟩:=blkP hTB
         refine gg ?_
         refine R1_call1 (add_ok _ _ _ _ _ _ (Np + Np + 1 + 1) w2 hTv.1 (hv1.mono (by omega)).1 (by omega)) ?_
         rintro _ w3 ⟨hE3,a1,b1,rfl,hc1⟩
         refine ⟨hE3,?_⟩
         refine gg ?_
         refine R1_storeBx (.inl rfl) rfl rfl (hT.ext (hE2.trans hE3)) (hc1.ev false (sumTo_bd (n:=i + 1) (by omega) (fun t ht=>hQb t t (by omega) (by omega)))) ?_
         intro w4 hT4 hC4 hk4 hs4
         refine gg ?_
         refine ⟨_,?_,i + 1,rfl,by omega,rfl,rfl,rfl,rfl,rfl,rfl,rfl,hC4.ext_of (hE.trans (hE2.trans hE3)) (fun b hb=>by omega),(hW2.ext hE3).kp hk4 hC4 (by omega) (fun i hi=>by have:=hrl i hi; omega),hT4⟩
         omega
       · refine gg ?_
         have:i = n:=by omega
         subst this
         exact ⟨rfl,rfl,rfl,rfl,rfl,hE,hW,hT⟩
     clear hE4 hW4 hT4 w4
     rintro f w1 ⟨hf0,hf3,hf4,hf5,hf6,hE,hW,hT⟩
     rw [ui hf0,ui hf3,ui hf4,ui hf5,ui hf6]
     clear hf0 hf3 hf4 hf5 hf6
     refine W_seqG [(0,0),(1,3),(2,3)] [(3,[],[]),(9,[],[]),(10,[],[]),(4,[(5,3),(6,3),(7,3),(8,3)],[3])] [(11,2),(12,2),(13,3)] mixed (by kernel_rfl) (fun w2 hE2 _=>?_)
     obtain ⟨tx,ty,hTB,hTv⟩:=hT.ext hE2
     obtain ⟨ht1,ht2⟩:=blkP hTB
     refine gg ?_
     refine R1_neg_z rfl (by omega) (by omega) ?_
     refine gg ?_
     refine Rg_float [(3,[]),(4,[(5,3),(6,3),(7,3),(8,3)])] [fA 9 8 41 (.agg #[.bool false,.slice none 0 0]),fA 10 9 41 (.agg #[.bool false,.slice none 0 0])] [47,48,43,49,50,51,8,9] (by kernel_rfl) (fun a ha f' w' _ _=>by
      rcases List.mem_cons.1 ha with rfl | ha
      · exact flt_alloc z_Int rfl f' w'
      · rcases List.mem_singleton.1 ha with rfl
        exact flt_alloc z_Int rfl f' w') ?_
     refine Rc_cons (fun w3 hE3=>?_)
     refine gg ?_
     refine R1_call1 (small_ok (0 - (k:Int)) w3 (by omega) (by omega)) ?_
     rintro _ w4 ⟨hE4,a1,b1,rfl,hc1⟩
     refine ⟨hE4,?_⟩
     refine gg ?_
     refine Rc_cons (fun w5 hE5=>?_)
     have hb2:Bd 2 (0 - (k:Int)):=bd_i64 (by omega) (by omega)
     refine gg ?_
     refine R1_call1 (divMod_ok _ _ _ _ _ _ (Np + Np + 1 + 1) w5 (hTv.ext (hE3.trans (hE4.trans hE5))).1 ((hc1.ext hE5).iv (hb2.mono (by omega))) (by omega) (by omega)) ?_
     rintro _ w6 ⟨hE6,qx,qy,rx,ry,rfl,hq,hr⟩
     refine ⟨hE6,?_⟩
     refine gg ?_
     refine Rc_nil (fun w7 hE7 bs hbs hdis=>?_)
     obtain ⟨hge8,hB8⟩:=hbs _ List.mem_cons_self
     obtain ⟨hge9,hB9⟩:=hbs _ (List.mem_cons_of_mem _ List.mem_cons_self)
     have hne:bs 8 ≠ bs 9:=hdis _ _ List.mem_cons_self (List.mem_cons_of_mem _ List.mem_cons_self) (show (8:Nat) ≠ 9 by decide)
     have hM8:Bx w7 (bs 8) 1 false 0:=Bx.zero false hB8
     have hM9:Bx w7 (bs 9) 1 false 0:=Bx.zero false hB9
     have hge8:w2.heap.size≤bs 8:=hge8
     have hge9:w2.heap.size≤bs 9:=hge9
     have hE27:Ext w2 w7:=hE3.trans (hE4.trans (hE5.trans (hE6.trans hE7)))
     show Ro _ _ _ _ _ _ (upd (upd _ 9 (.pointer (some ⟨bs 9,0,none⟩))) 8 (.pointer (some ⟨bs 8,0,none⟩))) _
     generalize bs 8 = g8 at *
     generalize bs 9 = g9 at *
     clear hB8 hB9 hbs hdis
     have hqb:Bd (Np + Np + 1 + 1) ((sumTo n fun t=>Q t t) / (0 - (k:Int))):=hTv.bd.ediv
     have hrb:Bd (Np + Np + 1 + 1) ((sumTo n fun t=>Q t t) % (0 - (k:Int))):=by
      have h1:=Int.emod_nonneg (sumTo n fun t=>Q t t) (show (0 - (k:Int)) ≠ 0 by omega)
      have h2:=Int.emod_lt (sumTo n fun t=>Q t t) (show (0 - (k:Int)) ≠ 0 by omega)
      refine Bd.mono (N:=1) ?_ (by omega)
      unfold Bd
      have:B ^ 1 = 4294967296:=by decide
      omega
     refine gg ?_
     refine R1_storeBx (.inl rfl) rfl rfl hM8 ((hq.ext hE7).ev false hqb) ?_
     intro w8 h88 hC8 hk8 hs8
     refine gg ?_
     refine R1_storeBx (.inl rfl) rfl rfl (hM9.kp hk8 hC8 hne.symm) (((hr.ext hE7).kp hk8).ev false hrb) ?_
     intro w9 h99 hC9 hk9 hs9
     have hW2:=hW.ext hE2
     have hr2:∀ i,i < n→gs' i < w2.heap.size:=fun i hi=>(hW2.row i hi).lt
     have ho2:=hW2.lt
     have hc98:=h88.kp hk9 hC9 hne
     have hW9:=((hW2.ext hE27).kp hk8 hC8 (by omega) (fun i hi=>by have:=hr2 i hi; omega)).kp hk9 hC9 (by omega) (fun i hi=>by have:=hr2 i hi; omega)
     have hE2':=hE.trans hE2
     have hw2:=hE2'.size
     have hE9:Ext w w9:=hC9.ext_of (hC8.ext_of (hE2'.trans hE27) (fun b hb=>by omega)) (fun b hb=>by omega)
     have hr8:∀ i,i < n→gs' i < g8:=fun i hi=>by have:=hr2 i hi; omega
     have ho8:gO' < g8:=by omega
     obtain ⟨cf,hcf⟩ : ∃ cf,cf = (sumTo n fun t=>Q t t) / (0 - (k:Int)):=⟨_,rfl⟩
     rw [← hcf] at hc98 hqb
     clear hE2' h99 hk9 hC9 hs9 hk8 hC8 hs8 h88 hM8 hM9 hge8 hge9 hE27 hne hE7 hE6 hE5 hE4 hE3 hq hr hTB hTv ht1 ht2 hW hT hE hW2 hr2 ho2 hw2
     refine gg ?_
     refine W_loop (fun m f w'=>∃ i,m = n - i∧i≤n∧f 0 = .slice A n cap∧f 3 = .int .i64 ((n:Nat):Int)∧f 4 = .slice (some ⟨gO',0,none⟩) n n∧f 5 = .int .i64 ((k:Nat):Int)∧f 8 = .pointer (some ⟨g8,0,none⟩)∧f 52 = .int .i64 ((n:Nat):Int)∧f 53 = .int .i64 ((i:Nat):Int) ∧
      Ext w w'∧WMat w' gO' gs' n n true (fun a b=>if a = b∧a < i then Np + Np + 1 + 1 + 1 else Np + Np + 1) (fun a b=>if a = b∧a < i then Q a b + cf else Q a b)∧Bx w' g8 (Np + Np + 1 + 1) false cf)
      n ⟨0,rfl,Nat.zero_le _,rfl,rfl,rfl,rfl,rfl,rfl,rfl,hE9,hW9.congr (fun a b _ _=>⟨by simp,by simp⟩),hc98⟩ ?_
     clear hE9 hW9 hc98 w9
     rintro m f w1 ⟨i,rfl,hi,hf0,hf3,hf4,hf5,hf8,hf52,hf53,hE,hW,hT⟩
     rw [ui hf0,ui hf3,ui hf4,ui hf5,ui hf8,ui hf52,ui hf53]
     clear hf0 hf3 hf4 hf5 hf8 hf52 hf53
     by_cases hil:i < n
     · refine gg ?_
       refine W_regD [(0,3),(1,3),(2,3),(3,0),(4,3),(5,3),(6,3),(7,3),(8,0),(9,3),(10,3),(11,0),(12,0),(13,1),(14,3),(15,2)] mixed (by kernel_rfl) (fun w2 hE2 _=>?_)
       have hW2:=hW.ext hE2
       have hx:=hW2.at hil
       obtain ⟨x1,y1,hx1,hy1,hv1⟩:=(hW2.row i hil).at hil
       simp only at hv1
       rw [if_neg (by omega),if_neg (by omega)] at hv1
       obtain ⟨tx,ty,hTB,hTv⟩:=hT.ext hE2
       obtain ⟨ht1,ht2⟩:=blkP hTB
       refine gg ?_
       refine R1_call1 (add_ok _ _ _ _ _ _ (Np + Np + 1 + 1) w2 (hv1.mono (by omega)).1 hTv.1 (by omega)) ?_
       rintro _ w3 ⟨hE3,a1,b1,rfl,hc1⟩
       refine ⟨hE3,?_⟩
       refine gg ?_
       refine R1_storeE (.inl rfl) rfl rfl ((hW2.ext hE3).row i hil) hil (hc1.ev true (N:=Np + Np + 1 + 1 + 1) ((hv1.bd.mono (by omega)).add hqb)) ?_
       intro w4 hR4 hC4 hk4 hs4
       have hW4:=(hW2.ext hE3).put hil hR4 hC4 hk4
       have hgi:=hgs2 i hil
       have hr8i:=hr8 i hil
       refine gg ?_
       refine ⟨_,?_,i + 1,rfl,by omega,rfl,rfl,rfl,rfl,rfl,rfl,rfl,hC4.ext_of (hE.trans (hE2.trans hE3)) (fun b hb=>by omega),hW4.congr (fun a b ha hb=>⟨?_,?_⟩),(hT.ext (hE2.trans hE3)).kp hk4 hC4 (by omega)⟩
       · omega
       · simp only [set2]
         by_cases e:a = i∧b = i
         · rw [if_pos e,if_pos (by omega)]; exact Nat.le_refl _
         · rw [if_neg e]
           by_cases e2:a = b∧a < i
           · rw [if_pos e2,if_pos (by omega)]; exact Nat.le_refl _
           · rw [if_neg e2,if_neg (by omega)]; exact Nat.le_refl _
       · simp only [set2]
         by_cases e:a = i∧b = i
         · obtain ⟨rfl,rfl⟩:=e
           rw [if_pos ⟨rfl,rfl⟩,if_pos (by omega)]
         · rw [if_neg e]
           by_cases e2:a = b∧a < i
           · rw [if_pos e2,if_pos (by omega)]
           · rw [if_neg e2,if_neg (by omega)]
     · refine gg ?_
       refine ⟨_,?_,k + 1,gO',gs',rfl,by omega,by omega,rfl,rfl,rfl,rfl,hE,hgO2,hgs2,?_⟩
       · omega
       · refine (hW.congr (bn':=fun _ _=>Np + Np + 1 + 1 + 1) (M':=adjP n M (k + 1 - 1)) (fun a b ha hb=>⟨by split <;> omega,?_⟩)).o
         obtain ⟨k,rfl⟩ : ∃ k',k = k' + 1:=⟨k - 1,by omega⟩
         simp only [Nat.add_sub_cancel] at hP ⊢
         rw [adjP,adjStep,← hP,← hQ]
         by_cases e:a = b
         · rw [if_pos ⟨e,by omega⟩,if_pos e,hcf,Int.zero_sub]
         · rw [if_neg (fun h=>e h.1),if_neg e]
   · refine gg ?_
     have:k = n:=by omega
     subst this
     exact ⟨gO,gs,rfl,rfl,hE,hg,hgs,hO⟩
 clear hO hgs hg hE2 hE1 hcv w1 w2 hw1 gs gO
 rintro f w1 ⟨gO,gs,hf3,hf4,hE,hg,hgs,hO⟩
 rw [ui hf3,ui hf4]
 clear hf3 hf4
 refine W_seq ?_
 by_cases he:n % 2 = 0
 · refine gg ?_
   refine R1_rem_i64_c rfl (by decide) ?_
   refine gg ?_
   have hNk:(n - 1) * (N + 3)≤15 * 1048579:=Nat.mul_le_mul (by omega) (by omega)
   refine R1_call2 (negated_ok _ n n (1 + (n - 1) * (N + 3)) _ w1 (hO.read (fun i j hi hj=>hbd (n - 1) i j hi hj) (by omega) (by omega)) hn (by omega) (by omega) (by omega)) ?_
   rintro _ w2 ⟨hE2,gO',gs',rfl,hg',hgs',hO'⟩
   refine gg ?_
   have:=hE.size
   refine ret1 (v:=.slice _ _ _) rfl rfl ⟨hE.trans hE2,gO',gs',rfl,by omega,fun i hi=>by have:=hgs' i hi; omega,?_⟩
   have e:(fun i j=>- adjP n M (n - 1) i j) = adjF n M:=by funext i j; rw [adjF,if_pos he]
   rw [← e]; exact hO'
 · refine gg ?_
   refine R1_rem_i64_c rfl (by decide) ?_
   refine gg ?_
   refine ret1 (v:=.slice _ _ _) rfl rfl ⟨hE,gO,gs,rfl,hg,hgs,?_⟩
   have e:adjP n M (n - 1) = adjF n M:=by funext i j; rw [adjF,if_neg he]
   rw [← e]; exact hO
end Go.Proofs.YtncbjgblcofddaaGreatDoor
namespace Go.Proofs.YtncbjgblcofddaaGreatDoor
open Go Go.Eng Go.Num Go.Proofs
theorem detGo_bd {n N:Nat}:∀ (m k:Nat) (M:Nat→Nat→Int) (neg:Bool) (last:Int),(∀ i j,Bd (Nb N k) (M i j))→Bd (Nb N k) last→Bd (Nb N (k + m)) (detGo n m k M neg last):=by
 intro m
 induction m with
 | zero=>intro k M neg last hM hl; unfold detGo; split <;> first | exact hl.neg | exact hl
 | succ m ih =>
  intro k M neg last hM hl
  unfold detGo
  split
  · exact Bd.zero _
  · have hs:∀ i j,Bd (Nb N k) (swp k (pivot n k M) M i j):=fun i j=>by
     simp only [swp]
     split
     · exact hM _ _
     · split <;> exact hM _ _
    have h2:=ih (k + 1) (elim k last (swp k (pivot n k M) M)) (neg != decide (pivot n k M ≠ k)) (swp k (pivot n k M) M k k) (fun i j=>elim_bd hs) ((hs k k).mono (Nb_mono N k))
    rw [show k + (m + 1) = k + 1 + m by omega]
    exact h2
def cut (n:Nat) (M:Nat→Nat→Int):Nat→Nat→Int:=fun i j=>if i < n∧j < n then M i j else 0
theorem findP_congr {n k:Nat} {M M':Nat→Nat→Int} (hk:k < n) (h:∀ i j,i < n→j < n→M i j = M' i j):∀ fuel p,findP n k M fuel p = findP n k M' fuel p:=by
 intro fuel
 induction fuel with
 | zero=>intro p; rfl
 | succ fuel ih =>
  intro p
  simp only [findP]
  by_cases hp:p < n
  · rw [h p k hp hk,ih]
  · rw [if_neg (fun e=>hp e.1),if_neg (fun e=>hp e.1)]
theorem findP_le {n k:Nat} {M:Nat→Nat→Int}:∀ fuel p,p≤n→p≤findP n k M fuel p∧findP n k M fuel p≤n:=by
 intro fuel
 induction fuel with
 | zero=>intro p hp; exact ⟨Nat.le_refl _,hp⟩
 | succ fuel ih =>
  intro p hp
  simp only [findP]
  split
  · rename_i h
    have:=ih (p + 1) (by omega)
    omega
  · omega
theorem detGo_congr {n:Nat}:∀ (m k:Nat) (M M':Nat→Nat→Int) (neg:Bool) (last:Int),k + m = n→(∀ i j,i < n→j < n→M i j = M' i j)→detGo n m k M neg last = detGo n m k M' neg last:=by
 intro m
 induction m with
 | zero=>intro k M M' neg last _ _; rfl
 | succ m ih =>
  intro k M M' neg last hk h
  have hp:pivot n k M = pivot n k M':=findP_congr (by omega) h _ _
  have hpl:pivot n k M'≤n:=(findP_le (n:=n) (k:=k) (M:=M') (n - k) k (by omega)).2
  simp only [detGo,hp]
  split
  · rfl
  · rename_i hne
    have hpl:pivot n k M' < n:=by omega
    have hs:∀ i j,i < n→j < n→swp k (pivot n k M') M i j = swp k (pivot n k M') M' i j:=fun i j hi hj=>by
     simp only [swp]
     split
     · exact h _ _ hpl hj
     · split
       · exact h _ _ (by omega) hj
       · exact h _ _ hi hj
    rw [hs k k (by omega) (by omega)]
    refine ih (k + 1) _ _ _ _ (by omega) (fun i j hi hj=>?_)
    simp only [elim]
    rw [hs k k (by omega) (by omega),hs i j hi hj,hs i k hi (by omega),hs k j (by omega) hj]
theorem detB_congr {n:Nat} {M M':Nat→Nat→Int} (h:∀ i j,i < n→j < n→M i j = M' i j):detB n M = detB n M':=detGo_congr n 0 M M' false 1 (by omega) h
theorem detB_bd {n N:Nat} {M:Nat→Nat→Int} (hN:1≤N) (h:∀ i j,i < n→j < n→Bd N (M i j)):Bd (Nb N n) (detB n M):=by
 have e:detB n M = detB n (cut n M):=detB_congr fun i j hi hj=>by simp [cut,hi,hj]
 rw [e]
 have:=detGo_bd (n:=n) (N:=N) n 0 (cut n M) false 1 (fun i j=>by
  unfold cut
  split
  · rename_i hh; exact h i j hh.1 hh.2
  · exact Bd.zero _) (Bd.mono (N:=1) (show (1:Int).natAbs < B ^ 1 by decide) hN)
 rwa [Nat.zero_add] at this
end Go.Proofs.YtncbjgblcofddaaGreatDoor
namespace Go.Proofs.YtncbjgblcofddaaGreatDoor
open Go Go.Eng Go.Num Go.Proofs
def lit2 (a b c d:Int):Nat→Nat→Int:=fun i j=>if i = 0 then (if j = 0 then a else b) else (if j = 0 then c else d)
theorem rowZ_lit {w:World} {g:Nat} {a b:Int} (h:Blk w g 2 #[.int .i64 a,.int .i64 b]) (ha:-9223372036854775808≤a∧a < 9223372036854775808) (hb:-9223372036854775808≤b∧b < 9223372036854775808):RowZ w (.slice (some ⟨g,0,none⟩) 2 2) 2 (fun j=>if j = 0 then a else b):=by
 refine ⟨_,_,rfl,Nat.le_refl _,by decide,fun j hj=>⟨_,rfl,?_,?_⟩⟩
 · rw [add_lit,h.cell]
   match j,hj with
   | 0,_=>rfl
   | 1,_=>rfl
 · dsimp only
   split
   · exact ha
   · exact hb
theorem matZ_lit {w:World} {gO g0 g1:Nat} {a b c d:Int} (hO:Blk w gO 85 #[.slice (some ⟨g0,0,none⟩) 2 2,.slice (some ⟨g1,0,none⟩) 2 2]) (h0:Blk w g0 2 #[.int .i64 a,.int .i64 b]) (h1:Blk w g1 2 #[.int .i64 c,.int .i64 d])
 (ha:-9223372036854775808≤a∧a < 9223372036854775808) (hb:-9223372036854775808≤b∧b < 9223372036854775808) (hc:-9223372036854775808≤c∧c < 9223372036854775808) (hd:-9223372036854775808≤d∧d < 9223372036854775808) :
 MatZ w (.slice (some ⟨gO,0,none⟩) 2 2) 2 (fun _=>2) (lit2 a b c d):=by
 refine ⟨_,_,rfl,Nat.le_refl _,by decide,fun i hi=>?_⟩
 match i,hi with
 | 0,_=>exact ⟨_,_,rfl,by rw [add_lit,hO.cell]; rfl,rowZ_lit h0 ha hb⟩
 | 1,_=>exact ⟨_,_,rfl,by rw [add_lit,hO.cell]; rfl,rowZ_lit h1 hc hd⟩
theorem okM22:okM 2 (fun _=>2) = true:=by decide
theorem okS22:okS 2 (fun _=>2) = true:=by decide
theorem lit2_bd {a b c d:Int} (ha:Bd 2 a) (hb:Bd 2 b) (hc:Bd 2 c) (hd:Bd 2 d) (i j:Nat):Bd 2 (lit2 a b c d i j):=by
 unfold lit2
 split <;> split <;> assumption
theorem bd2 {a:Int} (h:a.natAbs < 4294967296):Bd 2 a:=by
 refine Bd.mono (N:=1) ?_ (by decide)
 unfold Bd
 have:B ^ 1 = 4294967296:=by decide
 omega
def fB (i d e:Nat) (a b:Value):Flt:=⟨i,d,e,#[a,b],fun g=>.slice (some ⟨g,0,none⟩) 2 2⟩
end Go.Proofs.YtncbjgblcofddaaGreatDoor
namespace Go.Proofs.YtncbjgblcofddaaGreatDoor
open Go Go.Eng Go.Num Go.Proofs
def Law (w:World) (v:Value) (w':World):Prop:=Ext w w'∧v = .bool true
end Go.Proofs.YtncbjgblcofddaaGreatDoor
namespace Go.Proofs.YtncbjgblcofddaaGreatDoor
open Go Go.Eng Go.ChangeShapes Go.WideShapes Go.ChangeAt Go.RowKit
theorem own0:ownKnob Tryz.prog.godebug = none:=by kernel_rfl
theorem laid0:laidOutB Tryz.prog = true:=by kernel_rfl
theorem below_of_ext {w w':World} (h:Ext w w'):Below w.heap.size w w':=⟨h.os,h.tape,h.output,h.size,fun _ hk=>h.blk hk⟩
section
variable {H:Type} {enc:TypeId × Value→H} {P:Program}
theorem trodAll_stays (hl:laidOutB P = true) {W W':World} {sp:Nat→Bool}:∀ {ts:List TypeId} {vs:List Value} {ds:List (DataW H)} {ps:List MemPlace},(ts.all fun t=>P.readableRec t && decide (t < P.types.size)) = true →
 DataW.TrodAll enc P W 0 (fun _=>true) true ts vs ds ps→(∀ p ∈ ps,W.sameAt W' p)→(∀ p ∈ ps,sp p.block = true)→DataW.TrodAll enc P W' 0 sp true ts vs ds ps
 | [],_,_,_,_,h,_,_=>by
  obtain ⟨rfl,rfl,rfl⟩:=trodAll_nil h
  exact trodAll_mk0
 | t :: ts,_,_,_,hr,h,hs,hsp=>by
  obtain ⟨v,vs1,d,ds1,a,b,rfl,rfl,rfl,h1,h2⟩:=trodAll_cons h
  simp only [List.all_cons,Bool.and_eq_true,decide_eq_true_eq] at hr
  refine ⟨a,b,WideElems.Trod_stays hl hr.1.1 hr.1.2 h1 (fun p hp=>hs p (by simp [hp])) (fun p hp=>hsp p (by simp [hp])),?_,rfl⟩
  exact trodAll_stays hl (by simpa using hr.2) h2 (fun p hp=>hs p (by simp [hp])) (fun p hp=>hsp p (by simp [hp]))
theorem law_post {fn:Func} {s:ChangeSpec} {W W':World} {args:Array Value} {ds gs:List (DataW H)} {before:List MemPlace} {tb:TypeId} (hl:laidOutB P = true)
 (hr:(fn.params.toList.all fun t=>P.readableRec t && decide (t < P.types.size)) = true) (hv:s.vars = [])
 (hW:DataW.Whole enc P fn.params.toList s.vars false W args.toList ds gs before) (hs:s.fn H (ds ++ gs) = { results:=[.lit (.bool true)],args:=ds })
 (ht:fn.resultTypes = #[tb]) (hb:P.underlying tb = some .bool) (hE:Ext W W'):s.post enc P fn false true false false W args (.bool true) W':=by
 have hWW:=hW
 obtain ⟨p,q,hA,hV,hpq,hz,hn⟩:=hW
 rw [hv] at hV
 obtain ⟨rfl,rfl⟩:=trodVars_none hV
 have hbel:=below_of_ext hE
 have hlt:∀ x ∈ p,x.block < W.heap.size:=fun x hx=>by
  have:=hWW.lt x (by rw [hpq]; simp [hx])
  simpa using this
 have hargs:∀ sp:Nat→Bool,(∀ x ∈ before,sp x.block = true)→DataW.TrodAll enc P W' 0 sp true fn.params.toList args.toList ds p:=fun sp hsp =>
  trodAll_stays hl hr hA (fun x hx=>hbel.same (hlt x hx)) (fun x hx=>hsp x (by rw [hpq]; simp [hx]))
 have hres:∀ (b:Nat) (sp:Nat→Bool) (hd:Bool),DataW.TrodAll enc P W' b sp hd fn.resultTypes.toList ((Value.bool true).resultList fn.resultTypes.size) [.lit (.bool true)] []:=fun b sp hd=>by
  rw [ht]
  exact trodAll_mk1 (shut_bool hb true)
 have hvars:∀ sp:Nat→Bool,DataW.TrodVars enc P W' sp s.vars [] []:=fun sp=>by rw [hv]; rfl
 have hold:∀ x ∈ before,(fun b=>decide (b < W.heap.size)) x.block = true:=fun x hx=>by simpa using hWW.lt x hx
 refine ⟨ds,[],before,[],p,[],hWW,?_,?_,?_,World.keptBut_mono (fun x hx=>⟨hx,?_⟩) (hbel.frame _),fun _=>?_⟩
 · rw [hs]; exact hres _ _ _
 · rw [hs]; exact hargs _ hold
 · rw [hs]; exact hvars _
 · rw [hpq,List.mem_append] at hx
   exact Or.inr hx
 · refine ⟨ok_one ht rfl (okWide_bool_mk hb true),_,_,([] ++ p) ++ [],⟨[] ++ p,[],trodAll_append (hargs _ (fun _ _=>rfl)) (hres _ _ _),hvars _,rfl,?_,?_⟩,?_⟩
   · intro b off hp
     have hpb:MemPlace.cell b off ∈ before:=by rw [hpq]; simpa using hp
     rw [World.frozen?_of_block (w:=W) (a:=⟨b,off,none⟩) (hE.blk (show b < W.heap.size from hWW.lt _ hpb))]
     exact hz b off hpb
   · intro ha
     have:=hn ha
     rw [hpq] at this
     simpa using this
   · intro x hx _
     rw [hpq]
     simpa using hx
end
end Go.Proofs.YtncbjgblcofddaaGreatDoor
