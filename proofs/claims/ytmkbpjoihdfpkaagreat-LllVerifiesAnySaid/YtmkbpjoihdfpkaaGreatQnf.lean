/- Joined: Llk, Lll. -/
import Derived.Test.YtmkbpjoihdfpkaaGreatQne
import Derived.Test.YtmkbpjoihdfpkaaGreatQw
/- lll: improve. -/
namespace Go.Proofs.YtmkbpjoihdfpkaaGreat
open Go Go.Eng Go.Num Go.Proofs
open Go.Det (nearZ)
def impT (T:Nat→Nat→Int) (k:Nat) (f0 f1 g0 g1:Int):Nat→Nat→Int:=fun i c =>
 if i = k - 1 then f0 * T (k - 1) c + f1 * T k c else if i = k then g0 * T (k - 1) c + g1 * T k c else T i c
def impY (d:Nat→Int) (l:Nat→Nat→Int) (k:Nat) (a b:Int) (i:Nat):Int:=(d (k - 1) * l i k + l i (k - 1) * b) / a
def impL (d:Nat→Int) (l:Nat→Nat→Int) (k:Nat) (a b a' b' f0 f1 g0 g1:Int):Nat→Nat→Int:=fun i c =>
 if i = k - 1 then f0 * l (k - 1) c + f1 * l k c
 else if i = k then (if c < k - 1 then g0 * l (k - 1) c + g1 * l k c else b')
 else if k < i then (if c = k - 1 then f0 * l i (k - 1) + f1 * impY d l k a b i
  else if c = k then (a' * (g0 * l i (k - 1) + g1 * impY d l k a b i) - b' * (f0 * l i (k - 1) + f1 * impY d l k a b i)) / d (k - 1) else l i c)
 else l i c
set_option maxHeartbeats 64000000 in
theorem improve_ok (J:Int→Int→Int→Int→Int→Int→Int→Prop) (I:Ids) (n N k gS:Nat) (d:Nat→Int) (l T:Nat→Nat→Int) (vP:Value) (a b c f0 f1 g0 g1:Int) (w:World) (hS:StB w I n N d l T) (hI:I.ok n) (hgS:I.gS = gS) (hk1:1≤k) (hk:k < n) (hn:n≤8) (hN:N < 10000000)
 (hV:PlV w vP N (pz a b c f0 f1 g0 g1)) (hJ:PStep J N) (hj:J a b c f0 f1 g0 g1) (hd:d (k - 1) ≠ 0)
 (hB:∀ a' b' c' u0 u1 v0 v1,J a' b' c' u0 u1 v0 v1→¬ 4 * c' < 3 * a'→(∀ i q,i < n→q < n→Bd N (impT T k u0 u1 v0 v1 i q))∧(∀ i q,q < i→i < n→Bd N (impL d l k a b a' b' u0 u1 v0 v1 i q))) :
 Meets Tryz.prog 104 #[.pointer (some ⟨gS,0,none⟩),.int .i64 ((k:Nat):Int),vP] w fun v w'=>v = .tuple #[]∧Ch (StMod I n) w w'∧Kp w w'∧∃ a' b' c' u0 u1 v0 v1,J a' b' c' u0 u1 v0 v1∧¬ 4 * c' < 3 * a'∧StB w' I n N (setZ d k a') (impL d l k a b a' b' u0 u1 v0 v1) (impT T k u0 u1 v0 v1):=by
 refine fn_W (n:=263) Tryz.func104 rfl rfl (by kernel_rfl) (by simp) ?_
 subst hgS
 have hltS:∀ b,StBlk I n b→b < w.heap.size:=fun b hb=>hS.blk hb
 have bdl:∀ i q,q < i→i < n→Bd N (l i q):=fun i q hq hi=>by
  obtain ⟨_,_,_,_,hv⟩:=(hS.la i hi).at hq
  exact hv.bd
 have bdd:∀ m,m < n + 1→Bd N (d m):=fun m hm=>by
  obtain ⟨_,_,_,_,hv⟩:=hS.mi.at hm
  exact hv.bd
 obtain ⟨hh,rfl,hpv⟩:=hV
 obtain ⟨ba,bb,bc,bf0,bf1,bg0,bg1⟩:=hJ.bd _ _ _ _ _ _ _ hj
 obtain ⟨pa,pc⟩:=hJ.pos _ _ _ _ _ _ _ hj
 have hX:Ext w w:=Ext.refl w
 refine gh ?_
 refine R1_box (v:=.agg (arr 14 hh)) (.inl rfl) rfl ?_
 intro wA hB0 hE0 hs0
 have hPl:PlB wA w.heap.size N (pz a b c f0 f1 g0 g1):=⟨hh,hB0,fun j hj=>(hpv j hj).ext hE0⟩
 obtain ⟨gP,hgP⟩ : ∃ g,g = w.heap.size:=⟨_,rfl⟩
 rw [← hgP] at hPl ⊢
 have hfr_gP:w.heap.size≤gP:=by omega
 replace hS:=hS.ext hE0
 replace hX:=hX.trans hE0
 clear hB0 hE0 hs0 hgP hpv
 refine gh ?_
 refine W_seqGN [(0,3),(1,0),(2,3),(3,0)] [(4,[],[]),(5,[],[])] [(6,1),(7,2)] mixed (by kernel_rfl) (fun w_1 hE_ _=>?_)
 replace hS:=hS.ext hE_
 replace hPl:=hPl.ext hE_
 replace hX:=hX.trans hE_
 clear hE_
 obtain ⟨x0,y0,p0,p0',v0⟩:=RowT.at hPl (j:=0) (by decide)
 obtain ⟨x1,y1,p1,p1',v1⟩:=RowT.at hPl (j:=1) (by decide)
 replace v0:EV w_1 N true x0 y0 a:=v0
 replace v1:EV w_1 N true x1 y1 b:=v1
 refine gh ?_
 refine Rg_floatN [] [fA 4 6 47 (.agg #[.bool false,.slice none 0 0]),fA 5 7 47 (.agg #[.bool false,.slice none 0 0])] [6,7] (by kernel_rfl) (by kernel_rfl) (fun a ha f' w' _ _=>by
  rcases List.mem_cons.1 ha with rfl | ha
  · exact flt_alloc z_Int rfl f' w'
  · skip
    rcases List.mem_singleton.1 ha with rfl
    exact flt_alloc z_Int rfl f' w') ?_
 have hltq_gP:=hPl.lt
 have hszq:=hX.size
 clear p0 p0' p1 p1'
 refine Rc_nil (fun w_2 hE_ bs hbs hdis=>?_)
 replace hS:=hS.ext hE_
 replace hPl:=hPl.ext hE_
 replace v0:=v0.ext hE_
 replace v1:=v1.ext hE_
 replace hX:=hX.trans hE_
 clear hE_
 obtain ⟨hge_g6,hB_g6⟩:=hbs _ List.mem_cons_self
 have hge_g6:w_1.heap.size≤bs 6:=hge_g6
 have h6:Bx w_2 (bs 6) 1 true 0:=Bx.zero true hB_g6
 obtain ⟨hge_g7,hB_g7⟩:=hbs _ (List.mem_cons_of_mem _ List.mem_cons_self)
 have hge_g7:w_1.heap.size≤bs 7:=hge_g7
 have h7:Bx w_2 (bs 7) 1 true 0:=Bx.zero true hB_g7
 have hne_g7_g6:bs 7 ≠ bs 6:=hdis _ _ (List.mem_cons_of_mem _ List.mem_cons_self) List.mem_cons_self (show (7:Nat) ≠ 6 by decide)
 show Ro _ _ _ _ _ _ (upd (upd _ 7 (.pointer (some ⟨bs 7,0,none⟩))) 6 (.pointer (some ⟨bs 6,0,none⟩))) _
 generalize bs 6 = g6 at *
 generalize bs 7 = g7 at *
 have hfr_g6:w.heap.size≤g6:=by omega
 have hne_g6_gP:g6 ≠ gP:=by omega
 have hfr_g7:w.heap.size≤g7:=by omega
 have hne_g7_gP:g7 ≠ gP:=by omega
 clear hbs hdis hszq hB_g6 hB_g7 hltq_gP
 refine gh ?_
 refine R1_storeBx (by first | exact .inl rfl | exact .inr ⟨rfl,fun _ h=>h.mono fun b _ e=>by omega⟩) rfl rfl h6 (v0) ?_
 intro w_3 h6 hC_ hk_ hs_
 replace hS:=hS.kp hk_ hC_ (fun b hb h=>by have:=hltS b h; omega)
 replace hPl:=hPl.kp hk_ hC_ (by first | omega | assumption)
 replace v0:=v0.kp hk_
 replace v1:=v1.kp hk_
 replace h7:=h7.kp hk_ hC_ (by first | omega | assumption)
 replace hX:=hC_.ext_of hX (fun b hb=>by omega)
 clear hC_ hk_ hs_
 refine gh ?_
 refine R1_storeBx (by first | exact .inl rfl | exact .inr ⟨rfl,fun _ h=>h.mono fun b _ e=>by omega⟩) rfl rfl h7 (v1) ?_
 intro w_4 h7 hC_ hk_ hs_
 replace hS:=hS.kp hk_ hC_ (fun b hb h=>by have:=hltS b h; omega)
 replace hPl:=hPl.kp hk_ hC_ (by first | omega | assumption)
 replace v0:=v0.kp hk_
 replace v1:=v1.kp hk_
 replace h6:=h6.kp hk_ hC_ (by first | omega | assumption)
 replace hX:=hC_.ext_of hX (fun b hb=>by omega)
 clear hC_ hk_ hs_
 clear v0 v1
 refine gh ?_
 refine R1_call2 (planeReduce_ok J gP N _ _ _ _ _ _ _ w_4 hPl hJ hj (by omega)) ?_
 rintro _ wB ⟨rfl,hC_,hk_,a',b',c',u0,u1,v0,v1,hPl',hj',hnb⟩
 replace h6:=h6.kp hk_ hC_ (by omega)
 replace h7:=h7.kp hk_ hC_ (by omega)
 replace hS:=hS.kp hk_ hC_ (fun b hb h=>by have:=hltS b h; omega)
 replace hX:=hC_.ext_of hX (fun b hb=>by omega)
 replace hPl:=hPl'
 clear hPl' hC_ hk_ hj
 obtain ⟨hbT,hbL⟩:=hB _ _ _ _ _ _ _ hj' hnb
 obtain ⟨ba',bb',bc',bu0,bu1,bv0,bv1⟩:=hJ.bd _ _ _ _ _ _ _ hj'
 clear hB
 have hn6:¬ StMod I n g6:=fun h=>by have:=hltS _ h.blk; omega
 have hn7:¬ StMod I n g7:=fun h=>by have:=hltS _ h.blk; omega
 have hnP:¬ StMod I n gP:=fun h=>by have:=hltS _ h.blk; omega
 have hM:Ch (StMod I n) w wB:=hX.mono fun _ _ h=>h.elim
 have hK:Kp w wB:=kp_ext hX
 have hk10:k - 1 < n:=by omega
 have hkk:k - 1 ≠ k:=by omega
 clear hX
 refine gh ?_
 refine W_seqM (fun f w'=>f 0 = .pointer (some ⟨I.gS,0,none⟩)∧f 1 = .int .i64 ((k:Nat):Int)∧f 5 = .pointer (some ⟨gP,0,none⟩)∧f 6 = .pointer (some ⟨g6,0,none⟩)∧f 7 = .pointer (some ⟨g7,0,none⟩)∧Ch (StMod I n) w w'∧Kp w w'∧StB w' I n N d l (impT T k u0 u1 v0 v1)∧PlB w' gP N (pz a' b' c' u0 u1 v0 v1)∧Bx w' g6 N true a∧Bx w' g7 N true b) ?_ ?_
 · have e2:=hS.c2
   refine gh ?_
   refine W_loop (fun m f w'=>∃ c,m = n - c∧c≤n∧f 0 = .pointer (some ⟨I.gS,0,none⟩)∧f 1 = .int .i64 ((k:Nat):Int)∧f 5 = .pointer (some ⟨gP,0,none⟩)∧f 6 = .pointer (some ⟨g6,0,none⟩)∧f 7 = .pointer (some ⟨g7,0,none⟩)∧f 27 = .int .i64 ((n:Nat):Int)∧f 28 = .int .i64 ((c:Nat):Int)∧Ch (StMod I n) w w'∧Kp w w'∧StB w' I n N d l (fun i q=>if q < c then impT T k u0 u1 v0 v1 i q else T i q)∧PlB w' gP N (pz a' b' c' u0 u1 v0 v1)∧Bx w' g6 N true a∧Bx w' g7 N true b)
    n ⟨0,rfl,Nat.zero_le _,rfl,rfl,rfl,rfl,rfl,rfl,rfl,hM,hK,hS.congr (Nat.le_refl _) (fun _ _=>rfl) (fun _ _ _ _=>rfl) (fun i q _ _=>by rw [if_neg (by omega)]),hPl,h6,h7⟩ ?_
   clear hS hPl h6 h7 hM hK e2
   rintro m f w2 ⟨c,rfl,hc,hf0,hf1,hf5,hf6,hf7,hf27,hf28,hM,hK,hS,hPl,h6,h7⟩
   rw [ui hf0,ui hf1,ui hf5,ui hf6,ui hf7,ui hf27,ui hf28]
   clear hf0 hf1 hf5 hf6 hf7 hf27 hf28
   by_cases hcl:c < n
   rotate_left
   · refine gh ?_
     exact ⟨rfl,rfl,rfl,rfl,rfl,hM,hK,hS.congr (Nat.le_refl _) (fun _ _=>rfl) (fun _ _ _ _=>rfl) (fun i q _ hq=>by rw [if_pos (by omega)]),hPl,h6,h7⟩
   have hsz:=hM.size
   have hX:Ext w2 w2:=Ext.refl w2
   refine gh ?_
   refine gh ?_
   refine W_seqGN [(0,3),(1,3),(2,3),(3,0),(4,3),(5,3),(6,3),(7,0),(8,3),(9,3),(10,0),(11,3),(12,3),(13,3),(14,0),(15,3),(16,3),(17,0),(18,3),(19,3),(20,0)] [(21,[],[]),(22,[],[])] [(23,1),(24,2)] mixed (by kernel_rfl) (fun w_5 hE_ _=>?_)
   replace hS:=hS.ext hE_
   replace hPl:=hPl.ext hE_
   replace h6:=h6.ext hE_
   replace h7:=h7.ext hE_
   replace hX:=hX.trans hE_
   clear hE_
   have e2:=hS.c2
   have e3:=hS.ba.at hk10
   have e4:=hS.ba.at hk
   obtain ⟨x0,y0,p0,p0',t0⟩:=(hS.ba.row (k - 1) hk10).at hcl
   obtain ⟨x1,y1,p1,p1',t1⟩:=(hS.ba.row k hk).at hcl
   rw [if_neg (by omega)] at t0 t1
   refine gh ?_
   refine Rg_floatN [] [fA 21 9 47 (.agg #[.bool false,.slice none 0 0]),fA 22 10 47 (.agg #[.bool false,.slice none 0 0])] [9,10] (by kernel_rfl) (by kernel_rfl) (fun a ha f' w' _ _=>by
    rcases List.mem_cons.1 ha with rfl | ha
    · exact flt_alloc z_Int rfl f' w'
    · skip
      rcases List.mem_singleton.1 ha with rfl
      exact flt_alloc z_Int rfl f' w') ?_
   have hltq_gP:=hPl.lt
   have hltq_g6:=h6.lt
   have hltq_g7:=h7.lt
   have hszq:=hX.size
   clear e2 e3 e4 p0 p0' p1 p1'
   refine Rc_nil (fun w_6 hE_ bs hbs hdis=>?_)
   replace hS:=hS.ext hE_
   replace hPl:=hPl.ext hE_
   replace h6:=h6.ext hE_
   replace h7:=h7.ext hE_
   replace t0:=t0.ext hE_
   replace t1:=t1.ext hE_
   replace hX:=hX.trans hE_
   clear hE_
   obtain ⟨hge_g9,hB_g9⟩:=hbs _ List.mem_cons_self
   have hge_g9:w_5.heap.size≤bs 9:=hge_g9
   have h9:Bx w_6 (bs 9) 1 true 0:=Bx.zero true hB_g9
   obtain ⟨hge_g10,hB_g10⟩:=hbs _ (List.mem_cons_of_mem _ List.mem_cons_self)
   have hge_g10:w_5.heap.size≤bs 10:=hge_g10
   have h10:Bx w_6 (bs 10) 1 true 0:=Bx.zero true hB_g10
   have hne_g10_g9:bs 10 ≠ bs 9:=hdis _ _ (List.mem_cons_of_mem _ List.mem_cons_self) List.mem_cons_self (show (10:Nat) ≠ 9 by decide)
   show Ro _ _ _ _ _ _ (upd (upd _ 10 (.pointer (some ⟨bs 10,0,none⟩))) 9 (.pointer (some ⟨bs 9,0,none⟩))) _
   generalize bs 9 = g9 at *
   generalize bs 10 = g10 at *
   have hfr_g9:w2.heap.size≤g9:=by omega
   have hne_g9_gP:g9 ≠ gP:=by omega
   have hne_g9_g6:g9 ≠ g6:=by omega
   have hne_g9_g7:g9 ≠ g7:=by omega
   have hfr_g10:w2.heap.size≤g10:=by omega
   have hne_g10_gP:g10 ≠ gP:=by omega
   have hne_g10_g6:g10 ≠ g6:=by omega
   have hne_g10_g7:g10 ≠ g7:=by omega
   clear hbs hdis hszq hB_g9 hB_g10 hltq_gP hltq_g6 hltq_g7
   refine gh ?_
   refine R1_storeBx (by first | exact .inl rfl | exact .inr ⟨rfl,fun _ h=>h.mono fun b _ e=>by omega⟩) rfl rfl h9 (t0) ?_
   intro w_7 h9 hC_ hk_ hs_
   replace hS:=hS.kp hk_ hC_ (fun b hb h=>by have:=hltS b h; omega)
   replace hPl:=hPl.kp hk_ hC_ (by first | omega | assumption)
   replace h6:=h6.kp hk_ hC_ (by first | omega | assumption)
   replace h7:=h7.kp hk_ hC_ (by first | omega | assumption)
   replace t0:=t0.kp hk_
   replace t1:=t1.kp hk_
   replace h10:=h10.kp hk_ hC_ (by first | omega | assumption)
   replace hX:=hC_.ext_of hX (fun b hb=>by omega)
   clear hC_ hk_ hs_
   refine gh ?_
   refine R1_storeBx (by first | exact .inl rfl | exact .inr ⟨rfl,fun _ h=>h.mono fun b _ e=>by omega⟩) rfl rfl h10 (t1) ?_
   intro w_8 h10 hC_ hk_ hs_
   replace hS:=hS.kp hk_ hC_ (fun b hb h=>by have:=hltS b h; omega)
   replace hPl:=hPl.kp hk_ hC_ (by first | omega | assumption)
   replace h6:=h6.kp hk_ hC_ (by first | omega | assumption)
   replace h7:=h7.kp hk_ hC_ (by first | omega | assumption)
   replace t0:=t0.kp hk_
   replace t1:=t1.kp hk_
   replace h9:=h9.kp hk_ hC_ (by first | omega | assumption)
   replace hX:=hC_.ext_of hX (fun b hb=>by omega)
   clear hC_ hk_ hs_
   refine gh ?_
   refine W_regD [(0,3),(1,3),(2,3),(3,0),(4,3),(5,3),(6,3),(7,0),(8,3),(9,3),(10,3),(11,3),(12,0),(13,3),(14,3),(15,0),(16,3),(17,3),(18,0),(19,0),(20,0),(22,3),(23,0),(24,0),(25,0),(21,1),(26,1),(27,3),(28,2),(29,3),(30,2)] mixed (by kernel_rfl) (fun w_9 hE_ _=>?_)
   replace hS:=hS.ext hE_
   replace hPl:=hPl.ext hE_
   replace h6:=h6.ext hE_
   replace h7:=h7.ext hE_
   replace h9:=h9.ext hE_
   replace h10:=h10.ext hE_
   replace hX:=hX.trans hE_
   clear hE_
   have e2:=hS.c2
   have e3:=hS.ba.at hk10
   have e4:=hS.ba.at hk
   obtain ⟨s0,s1,s2,s3,q0,q1,q2,q3,m0,m1⟩:=RowT.at2 hPl (j:=3) (by decide)
   obtain ⟨s4,s5,s6,s7,q4,q5,q6,q7,m2,m3⟩:=RowT.at2 hPl (j:=5) (by decide)
   replace m0:IV w_9 N s0 s1 u0:=m0.1
   replace m1:IV w_9 N s2 s3 u1:=m1.1
   replace m2:IV w_9 N s4 s5 v0:=m2.1
   replace m3:IV w_9 N s6 s7 v1:=m3.1
   obtain ⟨h9_u,h9_v,h9_B,h9_V⟩:=id h9
   obtain ⟨h9_0,h9_1⟩:=blkP h9_B
   obtain ⟨h10_u,h10_v,h10_B,h10_V⟩:=id h10
   obtain ⟨h10_0,h10_1⟩:=blkP h10_B
   have z9:=h9_V.1
   have z10:=h10_V.1
   refine gh ?_
   refine R1_load4E (by decide) agg_Arr rfl q0 q1 q2 q3 ?_
   refine gh ?_
   refine R1_load4E (by decide) agg_Arr rfl q4 q5 q6 q7 ?_
   clear q0 q1 q2 q3 q4 q5 q6 q7
   refine gh ?_
   refine R1_call1 (combine_ok _ _ _ _ _ _ _ _ _ _ _ _ N w_9 m0 m1 z9 z10 (by omega)) ?_
   rintro _ w_10 ⟨hE_,a0,a1,rfl,hc0⟩
   refine ⟨hE_,?_⟩
   replace hS:=hS.ext hE_
   replace hPl:=hPl.ext hE_
   replace h6:=h6.ext hE_
   replace h7:=h7.ext hE_
   replace h9:=h9.ext hE_
   replace h10:=h10.ext hE_
   replace m0:=m0.ext hE_
   replace m1:=m1.ext hE_
   replace m2:=m2.ext hE_
   replace m3:=m3.ext hE_
   replace z9:=z9.ext hE_
   replace z10:=z10.ext hE_
   replace hX:=hX.trans hE_
   clear hE_
   clear e2 e3 e4 h9_0 h9_1 h10_0 h10_1
   refine gh ?_
   refine R1_call1 (combine_ok _ _ _ _ _ _ _ _ _ _ _ _ N w_10 m2 m3 z9 z10 (by omega)) ?_
   rintro _ w_11 ⟨hE_,a2,a3,rfl,hc1⟩
   refine ⟨hE_,?_⟩
   replace hS:=hS.ext hE_
   replace hPl:=hPl.ext hE_
   replace h6:=h6.ext hE_
   replace h7:=h7.ext hE_
   replace h9:=h9.ext hE_
   replace h10:=h10.ext hE_
   replace m0:=m0.ext hE_
   replace m1:=m1.ext hE_
   replace m2:=m2.ext hE_
   replace m3:=m3.ext hE_
   replace z9:=z9.ext hE_
   replace z10:=z10.ext hE_
   replace hc0:=hc0.ext hE_
   replace hX:=hX.trans hE_
   clear hE_
   have bx:=hbT (k - 1) c hk10 hcl
   have by':=hbT k c hk hcl
   unfold impT at bx by'
   rw [if_pos rfl] at bx
   rw [if_neg hkk.symm,if_pos rfl] at by'
   refine gh ?_
   refine gh ?_
   refine R1_storeSB (.inl rfl) rfl rfl hS hI hk10 hcl (hc0.ev true bx) ?_
   intro w_12 hS hC_ hk_ hs_
   replace hPl:=hPl.kp hk_ hC_ (by first | omega | assumption)
   replace h6:=h6.kp hk_ hC_ (by first | omega | assumption)
   replace h7:=h7.kp hk_ hC_ (by first | omega | assumption)
   replace hc1:=hc1.kp hk_
   replace hM:=(hM.add hX).trans hC_
   replace hK:=(hK.trans (kp_ext hX)).trans hk_
   clear hX
   have hX:Ext w_12 w_12:=Ext.refl _
   refine gh ?_
   refine gh ?_
   refine R1_storeSB (.inl rfl) rfl rfl hS hI hk hcl (hc1.ev true by') ?_
   intro w_13 hS hC_ hk_ hs_
   replace hPl:=hPl.kp hk_ hC_ (by first | omega | assumption)
   replace h6:=h6.kp hk_ hC_ (by first | omega | assumption)
   replace h7:=h7.kp hk_ hC_ (by first | omega | assumption)
   replace hM:=(hM.add hX).trans hC_
   replace hK:=(hK.trans (kp_ext hX)).trans hk_
   refine gh ?_
   refine ⟨_,?_,c + 1,rfl,hcl,rfl,rfl,rfl,rfl,rfl,rfl,rfl,hM,hK,hS.congr (Nat.le_refl _) (fun _ _=>rfl) (fun _ _ _ _=>rfl) (fun i q _ _=>?_),hPl,h6,h7⟩
   · omega
   · simp only [set2]
     by_cases e1:i = k∧q = c
     · rw [if_pos e1,if_pos (by omega),e1.1,e1.2]
       unfold impT
       rw [if_neg hkk.symm,if_pos rfl]
     · rw [if_neg e1]
       by_cases e2:i = k - 1∧q = c
       · rw [if_pos e2,if_pos (by omega),e2.1,e2.2]
         unfold impT
         rw [if_pos rfl]
       · rw [if_neg e2]
         by_cases h:q < c
         · rw [if_pos h,if_pos (by omega)]
         · rw [if_neg h]
           by_cases h2:q < c + 1
           · rw [if_pos h2]
             unfold impT
             rw [if_neg (by omega),if_neg (by omega)]
           · rw [if_neg h2]
 clear hS hPl h6 h7 hM hK
 rintro f w2 ⟨hf0,hf1,hf5,hf6,hf7,hM,hK,hS,hPl,h6,h7⟩
 rw [ui hf0,ui hf1,ui hf5,ui hf6,ui hf7]
 clear hf0 hf1 hf5 hf6 hf7
 refine W_seqM (fun f w'=>f 0 = .pointer (some ⟨I.gS,0,none⟩)∧f 1 = .int .i64 ((k:Nat):Int)∧f 5 = .pointer (some ⟨gP,0,none⟩)∧f 6 = .pointer (some ⟨g6,0,none⟩)∧f 7 = .pointer (some ⟨g7,0,none⟩)∧Ch (StMod I n) w w'∧Kp w w'∧StB w' I n N d (fun i q=>if q < k - 1∧i≤k then impL d l k a b a' b' u0 u1 v0 v1 i q else l i q) (impT T k u0 u1 v0 v1)∧PlB w' gP N (pz a' b' c' u0 u1 v0 v1)∧Bx w' g6 N true a∧Bx w' g7 N true b) ?_ ?_
 · refine gh ?_
   refine W_loop (fun m f w'=>∃ c,m = k - 1 - c∧c≤k - 1∧f 0 = .pointer (some ⟨I.gS,0,none⟩)∧f 1 = .int .i64 ((k:Nat):Int)∧f 5 = .pointer (some ⟨gP,0,none⟩)∧f 6 = .pointer (some ⟨g6,0,none⟩)∧f 7 = .pointer (some ⟨g7,0,none⟩)∧f 83 = .int .i64 (((k - 1):Nat):Int)∧f 84 = .int .i64 ((c:Nat):Int)∧Ch (StMod I n) w w'∧Kp w w'∧StB w' I n N d (fun i q=>if q < c∧i≤k then impL d l k a b a' b' u0 u1 v0 v1 i q else l i q) (impT T k u0 u1 v0 v1)∧PlB w' gP N (pz a' b' c' u0 u1 v0 v1)∧Bx w' g6 N true a∧Bx w' g7 N true b)
    (k - 1) ⟨0,rfl,Nat.zero_le _,rfl,rfl,rfl,rfl,rfl,rfl,rfl,hM,hK,hS.congr (Nat.le_refl _) (fun _ _=>rfl) (fun i q _ _=>by rw [if_neg (by omega)]) (fun _ _ _ _=>rfl),hPl,h6,h7⟩ ?_
   clear hS hPl h6 h7 hM hK
   rintro m f w3 ⟨c,rfl,hc,hf0,hf1,hf5,hf6,hf7,hf83,hf84,hM,hK,hS,hPl,h6,h7⟩
   rw [ui hf0,ui hf1,ui hf5,ui hf6,ui hf7,ui hf83,ui hf84]
   clear hf0 hf1 hf5 hf6 hf7 hf83 hf84
   by_cases hcl:c < k - 1
   rotate_left
   · obtain rfl:c = k - 1:=by omega
     refine gh ?_
     exact ⟨rfl,rfl,rfl,rfl,rfl,hM,hK,hS,hPl,h6,h7⟩
   have hsz:=hM.size
   have hX:Ext w3 w3:=Ext.refl w3
   refine gh ?_
   refine gh ?_
   refine W_seqGN [(0,3),(1,3),(2,3),(3,0),(4,3),(5,3),(6,3),(7,0),(8,3),(9,3),(10,0),(11,3),(12,3),(13,3),(14,0),(15,3),(16,3),(17,0),(18,3),(19,3),(20,0)] [(21,[],[]),(22,[],[])] [(23,1),(24,2)] mixed (by kernel_rfl) (fun w_14 hE_ _=>?_)
   replace hS:=hS.ext hE_
   replace hPl:=hPl.ext hE_
   replace h6:=h6.ext hE_
   replace h7:=h7.ext hE_
   replace hX:=hX.trans hE_
   clear hE_
   have e2:=hS.c1
   have e3:=hS.lrow hk10
   have e4:=hS.lrow hk
   obtain ⟨x0,y0,p0,p0',t0⟩:=(hS.la (k - 1) hk10).at hcl
   obtain ⟨x1,y1,p1,p1',t1⟩:=(hS.la k hk).at (show c < k by omega)
   rw [if_neg (by omega)] at t0 t1
   refine gh ?_
   refine Rg_floatN [] [fA 21 12 47 (.agg #[.bool false,.slice none 0 0]),fA 22 13 47 (.agg #[.bool false,.slice none 0 0])] [12,13] (by kernel_rfl) (by kernel_rfl) (fun a ha f' w' _ _=>by
    rcases List.mem_cons.1 ha with rfl | ha
    · exact flt_alloc z_Int rfl f' w'
    · skip
      rcases List.mem_singleton.1 ha with rfl
      exact flt_alloc z_Int rfl f' w') ?_
   have hltq_gP:=hPl.lt
   have hltq_g6:=h6.lt
   have hltq_g7:=h7.lt
   have hszq:=hX.size
   clear e2 e3 e4 p0 p0' p1 p1'
   refine Rc_nil (fun w_15 hE_ bs hbs hdis=>?_)
   replace hS:=hS.ext hE_
   replace hPl:=hPl.ext hE_
   replace h6:=h6.ext hE_
   replace h7:=h7.ext hE_
   replace t0:=t0.ext hE_
   replace t1:=t1.ext hE_
   replace hX:=hX.trans hE_
   clear hE_
   obtain ⟨hge_g9,hB_g9⟩:=hbs _ List.mem_cons_self
   have hge_g9:w_14.heap.size≤bs 12:=hge_g9
   have h9:Bx w_15 (bs 12) 1 true 0:=Bx.zero true hB_g9
   obtain ⟨hge_g10,hB_g10⟩:=hbs _ (List.mem_cons_of_mem _ List.mem_cons_self)
   have hge_g10:w_14.heap.size≤bs 13:=hge_g10
   have h10:Bx w_15 (bs 13) 1 true 0:=Bx.zero true hB_g10
   have hne_g10_g9:bs 13 ≠ bs 12:=hdis _ _ (List.mem_cons_of_mem _ List.mem_cons_self) List.mem_cons_self (show (13:Nat) ≠ 12 by decide)
   show Ro _ _ _ _ _ _ (upd (upd _ 13 (.pointer (some ⟨bs 13,0,none⟩))) 12 (.pointer (some ⟨bs 12,0,none⟩))) _
   generalize bs 12 = g9 at *
   generalize bs 13 = g10 at *
   have hfr_g9:w3.heap.size≤g9:=by omega
   have hne_g9_gP:g9 ≠ gP:=by omega
   have hne_g9_g6:g9 ≠ g6:=by omega
   have hne_g9_g7:g9 ≠ g7:=by omega
   have hfr_g10:w3.heap.size≤g10:=by omega
   have hne_g10_gP:g10 ≠ gP:=by omega
   have hne_g10_g6:g10 ≠ g6:=by omega
   have hne_g10_g7:g10 ≠ g7:=by omega
   clear hbs hdis hszq hB_g9 hB_g10 hltq_gP hltq_g6 hltq_g7
   refine gh ?_
   refine R1_storeBx (by first | exact .inl rfl | exact .inr ⟨rfl,fun _ h=>h.mono fun b _ e=>by omega⟩) rfl rfl h9 (t0) ?_
   intro w_16 h9 hC_ hk_ hs_
   replace hS:=hS.kp hk_ hC_ (fun b hb h=>by have:=hltS b h; omega)
   replace hPl:=hPl.kp hk_ hC_ (by first | omega | assumption)
   replace h6:=h6.kp hk_ hC_ (by first | omega | assumption)
   replace h7:=h7.kp hk_ hC_ (by first | omega | assumption)
   replace t0:=t0.kp hk_
   replace t1:=t1.kp hk_
   replace h10:=h10.kp hk_ hC_ (by first | omega | assumption)
   replace hX:=hC_.ext_of hX (fun b hb=>by omega)
   clear hC_ hk_ hs_
   refine gh ?_
   refine R1_storeBx (by first | exact .inl rfl | exact .inr ⟨rfl,fun _ h=>h.mono fun b _ e=>by omega⟩) rfl rfl h10 (t1) ?_
   intro w_17 h10 hC_ hk_ hs_
   replace hS:=hS.kp hk_ hC_ (fun b hb h=>by have:=hltS b h; omega)
   replace hPl:=hPl.kp hk_ hC_ (by first | omega | assumption)
   replace h6:=h6.kp hk_ hC_ (by first | omega | assumption)
   replace h7:=h7.kp hk_ hC_ (by first | omega | assumption)
   replace t0:=t0.kp hk_
   replace t1:=t1.kp hk_
   replace h9:=h9.kp hk_ hC_ (by first | omega | assumption)
   replace hX:=hC_.ext_of hX (fun b hb=>by omega)
   clear hC_ hk_ hs_
   refine gh ?_
   refine W_regD [(0,3),(1,3),(2,3),(3,0),(4,3),(5,3),(6,3),(7,0),(8,3),(9,3),(10,3),(11,3),(12,0),(13,3),(14,3),(15,0),(16,3),(17,3),(18,0),(19,0),(20,0),(22,3),(23,0),(24,0),(25,0),(21,1),(26,1),(27,3),(28,2),(29,3),(30,2)] mixed (by kernel_rfl) (fun w_18 hE_ _=>?_)
   replace hS:=hS.ext hE_
   replace hPl:=hPl.ext hE_
   replace h6:=h6.ext hE_
   replace h7:=h7.ext hE_
   replace h9:=h9.ext hE_
   replace h10:=h10.ext hE_
   replace hX:=hX.trans hE_
   clear hE_
   have e2:=hS.c1
   have e3:=hS.lrow hk10
   have e4:=hS.lrow hk
   obtain ⟨s0,s1,s2,s3,q0,q1,q2,q3,m0,m1⟩:=RowT.at2 hPl (j:=3) (by decide)
   obtain ⟨s4,s5,s6,s7,q4,q5,q6,q7,m2,m3⟩:=RowT.at2 hPl (j:=5) (by decide)
   replace m0:IV w_18 N s0 s1 u0:=m0.1
   replace m1:IV w_18 N s2 s3 u1:=m1.1
   replace m2:IV w_18 N s4 s5 v0:=m2.1
   replace m3:IV w_18 N s6 s7 v1:=m3.1
   obtain ⟨h9_u,h9_v,h9_B,h9_V⟩:=id h9
   obtain ⟨h9_0,h9_1⟩:=blkP h9_B
   obtain ⟨h10_u,h10_v,h10_B,h10_V⟩:=id h10
   obtain ⟨h10_0,h10_1⟩:=blkP h10_B
   have z9:=h9_V.1
   have z10:=h10_V.1
   refine gh ?_
   refine R1_load4E (by decide) agg_Arr rfl q0 q1 q2 q3 ?_
   refine gh ?_
   refine R1_load4E (by decide) agg_Arr rfl q4 q5 q6 q7 ?_
   clear q0 q1 q2 q3 q4 q5 q6 q7
   refine gh ?_
   refine R1_call1 (combine_ok _ _ _ _ _ _ _ _ _ _ _ _ N w_18 m0 m1 z9 z10 (by omega)) ?_
   rintro _ w_19 ⟨hE_,a0,a1,rfl,hc0⟩
   refine ⟨hE_,?_⟩
   replace hS:=hS.ext hE_
   replace hPl:=hPl.ext hE_
   replace h6:=h6.ext hE_
   replace h7:=h7.ext hE_
   replace h9:=h9.ext hE_
   replace h10:=h10.ext hE_
   replace m0:=m0.ext hE_
   replace m1:=m1.ext hE_
   replace m2:=m2.ext hE_
   replace m3:=m3.ext hE_
   replace z9:=z9.ext hE_
   replace z10:=z10.ext hE_
   replace hX:=hX.trans hE_
   clear hE_
   clear e2 e3 e4 h9_0 h9_1 h10_0 h10_1
   refine gh ?_
   refine R1_call1 (combine_ok _ _ _ _ _ _ _ _ _ _ _ _ N w_19 m2 m3 z9 z10 (by omega)) ?_
   rintro _ w_20 ⟨hE_,a2,a3,rfl,hc1⟩
   refine ⟨hE_,?_⟩
   replace hS:=hS.ext hE_
   replace hPl:=hPl.ext hE_
   replace h6:=h6.ext hE_
   replace h7:=h7.ext hE_
   replace h9:=h9.ext hE_
   replace h10:=h10.ext hE_
   replace m0:=m0.ext hE_
   replace m1:=m1.ext hE_
   replace m2:=m2.ext hE_
   replace m3:=m3.ext hE_
   replace z9:=z9.ext hE_
   replace z10:=z10.ext hE_
   replace hc0:=hc0.ext hE_
   replace hX:=hX.trans hE_
   clear hE_
   have bx:=hbL (k - 1) c hcl hk10
   have by':=hbL k c (by omega) hk
   unfold impL at bx by'
   rw [if_pos rfl] at bx
   rw [if_neg hkk.symm,if_pos rfl,if_pos hcl] at by'
   refine gh ?_
   refine gh ?_
   refine R1_storeSL (.inl rfl) rfl rfl hS hI hk10 hcl (hc0.ev true bx) ?_
   intro w_21 hS hC_ hk_ hs_
   replace hPl:=hPl.kp hk_ hC_ (by first | omega | assumption)
   replace h6:=h6.kp hk_ hC_ (by first | omega | assumption)
   replace h7:=h7.kp hk_ hC_ (by first | omega | assumption)
   replace hc1:=hc1.kp hk_
   replace hM:=(hM.add hX).trans hC_
   replace hK:=(hK.trans (kp_ext hX)).trans hk_
   clear hX
   have hX:Ext w_21 w_21:=Ext.refl _
   refine gh ?_
   refine gh ?_
   refine R1_storeSL (.inl rfl) rfl rfl hS hI hk (show c < k by omega) (hc1.ev true by') ?_
   intro w_22 hS hC_ hk_ hs_
   replace hPl:=hPl.kp hk_ hC_ (by first | omega | assumption)
   replace h6:=h6.kp hk_ hC_ (by first | omega | assumption)
   replace h7:=h7.kp hk_ hC_ (by first | omega | assumption)
   replace hM:=(hM.add hX).trans hC_
   replace hK:=(hK.trans (kp_ext hX)).trans hk_
   refine gh ?_
   refine ⟨_,?_,c + 1,rfl,hcl,rfl,rfl,rfl,rfl,rfl,rfl,rfl,hM,hK,hS.congr (Nat.le_refl _) (fun _ _=>rfl) (fun i q _ _=>?_) (fun _ _ _ _=>rfl),hPl,h6,h7⟩
   · omega
   · simp only [set2]
     by_cases e1:i = k∧q = c
     · rw [if_pos e1,if_pos (by omega),e1.1,e1.2]
       unfold impL
       rw [if_neg hkk.symm,if_pos rfl,if_pos hcl]
     · rw [if_neg e1]
       by_cases e2:i = k - 1∧q = c
       · rw [if_pos e2,if_pos (by omega),e2.1,e2.2]
         unfold impL
         rw [if_pos rfl]
       · rw [if_neg e2]
         by_cases h:q < c∧i≤k
         · rw [if_pos h,if_pos (by omega)]
         · rw [if_neg h]
           by_cases h2:q < c + 1∧i≤k
           · rw [if_pos h2]
             unfold impL
             rw [if_neg (by omega),if_neg (by omega),if_neg (by omega)]
           · rw [if_neg h2]
 clear hS hPl h6 h7 hM hK
 rintro f w3 ⟨hf0,hf1,hf5,hf6,hf7,hM,hK,hS,hPl,h6,h7⟩
 rw [ui hf0,ui hf1,ui hf5,ui hf6,ui hf7]
 clear hf0 hf1 hf5 hf6 hf7
 have hsz:=hM.size
 have hX:Ext w3 w3:=Ext.refl w3
 refine gh ?_
 refine W_seqD [(0,3),(1,3),(2,3),(3,0),(4,3),(5,3),(6,3),(7,3),(8,0),(9,3),(10,3),(11,0),(12,3),(13,3),(14,3),(15,0),(16,3),(17,0),(18,3),(19,2),(20,3),(21,2)] mixed (by kernel_rfl) (fun w_23 hE_ _=>?_)
 replace hS:=hS.ext hE_
 replace hPl:=hPl.ext hE_
 replace h6:=h6.ext hE_
 replace h7:=h7.ext hE_
 replace hX:=hX.trans hE_
 clear hE_
 have e0:=hS.c0
 have e1:=hS.c1
 have e2:=hS.lrow hk
 obtain ⟨x0,y0,p0,p0',t0⟩:=RowT.at hPl (j:=0) (by decide)
 obtain ⟨x1,y1,p1,p1',t1⟩:=RowT.at hPl (j:=1) (by decide)
 replace t0:EV w_23 N true x0 y0 a':=t0
 replace t1:EV w_23 N true x1 y1 b':=t1
 refine gh ?_
 clear e0 e1 e2 p0 p0' p1 p1'
 refine gh ?_
 refine R1_storeSM (.inl rfl) rfl rfl hS hI (show k < n + 1 by omega) t0 ?_
 intro w_24 hS hC_ hk_ hs_
 replace hPl:=hPl.kp hk_ hC_ (by first | omega | assumption)
 replace h6:=h6.kp hk_ hC_ (by first | omega | assumption)
 replace h7:=h7.kp hk_ hC_ (by first | omega | assumption)
 replace t1:=t1.kp hk_
 replace hM:=(hM.add hX).trans hC_
 replace hK:=(hK.trans (kp_ext hX)).trans hk_
 clear hX
 have hX:Ext w_24 w_24:=Ext.refl _
 refine gh ?_
 refine gh ?_
 refine R1_storeSL (.inl rfl) rfl rfl hS hI hk (show k - 1 < k by omega) t1 ?_
 intro w_25 hS hC_ hk_ hs_
 replace hPl:=hPl.kp hk_ hC_ (by first | omega | assumption)
 replace h6:=h6.kp hk_ hC_ (by first | omega | assumption)
 replace h7:=h7.kp hk_ hC_ (by first | omega | assumption)
 replace hM:=(hM.add hX).trans hC_
 replace hK:=(hK.trans (kp_ext hX)).trans hk_
 obtain ⟨wL,hwL⟩ : ∃ wL,wL = w_25:=⟨_,rfl⟩
 rw [← hwL] at hM hK hS hPl h6 h7 ⊢
 clear hX hC_ hk_ hs_ t0 t1 hwL
 have hS':StB wL I n N (setZ d k a') (fun i q=>if i≤k then impL d l k a b a' b' u0 u1 v0 v1 i q else l i q) (impT T k u0 u1 v0 v1):=hS.congr (Nat.le_refl _) (fun _ _=>rfl) (fun i q hq hi=>by
  simp only [set2]
  by_cases e1:i = k∧q = k - 1
  · rw [if_pos e1,if_pos (by omega),e1.1,e1.2]
    unfold impL
    rw [if_neg hkk.symm,if_pos rfl,if_neg (by omega)]
  · rw [if_neg e1]
    by_cases h:q < k - 1∧i≤k
    · rw [if_pos h,if_pos h.2]
    · rw [if_neg h]
      by_cases h2:i≤k
      · exact absurd (show i = k∧q = k - 1 by omega) e1
      · rw [if_neg h2]) (fun _ _ _ _=>rfl)
 clear hS
 refine gh ?_
 refine W_loop (fun m f w'=>∃ i,m = n - i∧k < i∧i≤n∧f 0 = .pointer (some ⟨I.gS,0,none⟩)∧f 1 = .int .i64 ((k:Nat):Int)∧f 5 = .pointer (some ⟨gP,0,none⟩)∧f 6 = .pointer (some ⟨g6,0,none⟩)∧f 7 = .pointer (some ⟨g7,0,none⟩)∧f 14 = .int .i64 ((i:Nat):Int)∧Ch (StMod I n) w w'∧Kp w w'∧StB w' I n N (setZ d k a') (fun p q=>if p < i then impL d l k a b a' b' u0 u1 v0 v1 p q else l p q) (impT T k u0 u1 v0 v1)∧PlB w' gP N (pz a' b' c' u0 u1 v0 v1)∧Bx w' g6 N true a∧Bx w' g7 N true b)
  (n - (k + 1)) ⟨k + 1,rfl,by omega,by omega,rfl,rfl,rfl,rfl,rfl,rfl,hM,hK,hS'.congr (Nat.le_refl _) (fun _ _=>rfl) (fun p q _ _=>by
   by_cases h:p≤k
   · rw [if_pos h,if_pos (by omega)]
   · rw [if_neg h,if_neg (by omega)]) (fun _ _ _ _=>rfl),hPl,h6,h7⟩ ?_
 clear hS' hPl h6 h7 hM hK hsz
 rintro m f w4 ⟨i,rfl,hki,hi,hf0,hf1,hf5,hf6,hf7,hf14,hM,hK,hS,hPl,h6,h7⟩
 rw [ui hf0,ui hf1,ui hf5,ui hf6,ui hf7,ui hf14]
 clear hf0 hf1 hf5 hf6 hf7 hf14
 refine W_seq ?_
 have hsz:=hM.size
 have e2:=hS.c2
 by_cases hil:i < n
 rotate_left
 · refine gh ?_
   exact ret0 rfl ⟨rfl,hM,hK,a',b',c',u0,u1,v0,v1,hj',hnb,hS.congr (Nat.le_refl _) (fun _ _=>rfl) (fun p q _ hp=>by rw [if_pos (by omega)]) (fun _ _ _ _=>rfl)⟩
 have e1:=hS.c1
 have e3:=hS.lrow hil
 obtain ⟨x0,y0,p0,p0',t0⟩:=(hS.la i hil).at (j:=k - 1) (by omega)
 rw [if_neg (by omega)] at t0
 have hX:Ext w4 w4:=Ext.refl w4
 refine gh ?_
 clear e2
 refine gh ?_
 refine R1_alloc (.inl rfl) z_Int ?_
 intro w_26 hB0_ hE_ hs_
 have hx:=Bx.zero (N:=1) true hB0_
 obtain ⟨gx,hg_⟩ : ∃ g,g = w4.heap.size:=⟨_,rfl⟩
 rw [← hg_] at hx ⊢
 have hfr_gx:w4.heap.size≤gx:=by have:=hX.size; omega
 have hne_gx_gP:gx ≠ gP:=by have:=hPl.lt; omega
 have hne_gx_g6:gx ≠ g6:=by have:=h6.lt; omega
 have hne_gx_g7:gx ≠ g7:=by have:=h7.lt; omega
 replace hS:=hS.ext hE_
 replace hPl:=hPl.ext hE_
 replace h6:=h6.ext hE_
 replace h7:=h7.ext hE_
 replace t0:=t0.ext hE_
 replace hX:=hX.trans hE_
 clear hB0_ hs_ hg_ hE_
 refine gh ?_
 refine R1_storeBx (by first | exact .inl rfl | exact .inr ⟨rfl,fun _ h=>h.mono fun b _ e=>by omega⟩) rfl rfl hx (t0) ?_
 intro w_27 hx hC_ hk_ hs_
 replace hS:=hS.kp hk_ hC_ (fun b hb h=>by have:=hltS b h; omega)
 replace hPl:=hPl.kp hk_ hC_ (by first | omega | assumption)
 replace h6:=h6.kp hk_ hC_ (by first | omega | assumption)
 replace h7:=h7.kp hk_ hC_ (by first | omega | assumption)
 replace t0:=t0.kp hk_
 replace hX:=hC_.ext_of hX (fun b hb=>by omega)
 clear hC_ hk_ hs_
 clear e1 e3 p0 p0'
 obtain ⟨xo,hxo⟩ : ∃ xo,xo = l i (k - 1):=⟨_,rfl⟩
 have bxo:Bd N xo:=by rw [hxo]; exact bdl i (k - 1) (by omega) hil
 rw [← hxo] at hx
 refine gh ?_
 refine W_seqG [(0,3),(1,3),(2,3),(3,0),(4,3),(5,3),(6,3),(7,0),(8,3),(9,3),(10,3),(11,0),(12,3),(13,3),(14,0),(15,3),(16,3),(17,0),(19,0),(20,0)] [(18,[],[]),(23,[],[]),(21,[],[18]),(22,[],[18,21])] [(24,2)] mixed (by kernel_rfl) (fun w_28 hE_ _=>?_)
 replace hS:=hS.ext hE_
 replace hPl:=hPl.ext hE_
 replace h6:=h6.ext hE_
 replace h7:=h7.ext hE_
 replace hx:=hx.ext hE_
 replace hX:=hX.trans hE_
 clear hE_
 have e0:=hS.c0
 have e1:=hS.c1
 have e3:=hS.lrow hil
 obtain ⟨x0,y0,p0,p0',t0⟩:=hS.mi.at (j:=k - 1) (by omega)
 obtain ⟨x1,y1,p1,p1',t1⟩:=(hS.la i hil).at (j:=k) hki
 rw [if_neg (by omega)] at t1
 rw [show setZ d k a' (k - 1) = d (k - 1) by simp only [setZ]; rw [if_neg hkk]] at t0
 obtain ⟨hx_u,hx_v,hx_B,hx_V⟩:=id hx
 obtain ⟨hx_0,hx_1⟩:=blkP hx_B
 obtain ⟨h7_u,h7_v,h7_B,h7_V⟩:=id h7
 obtain ⟨h7_0,h7_1⟩:=blkP h7_B
 have m0:=t0.1
 have m1:=t1.1
 have m2:=hx_V.1
 have m3:=h7_V.1
 refine gh ?_
 refine Rg_float [(18,[]),(21,[]),(22,[])] [fA 23 16 47 (.agg #[.bool false,.slice none 0 0])] [198,201,202,16] (by kernel_rfl) (fun a ha f' w' _ _=>by
  rcases List.mem_singleton.1 ha with rfl
  exact flt_alloc z_Int rfl f' w') ?_
 have hltq_gP:=hPl.lt
 have hltq_g6:=h6.lt
 have hltq_g7:=h7.lt
 have hltq_gx:=hx.lt
 have hszq:=hX.size
 clear e0 e1 e3 p0 p0' p1 p1' hx_0 hx_1 h7_0 h7_1
 have bd0:=bdd (k - 1) (by omega)
 have bl0:=bdl i k hki hil
 refine gh ?_
 refine Rc_cons (fun w_29 hE_=>?_)
 replace hS:=hS.ext hE_
 replace hPl:=hPl.ext hE_
 replace h6:=h6.ext hE_
 replace h7:=h7.ext hE_
 replace hx:=hx.ext hE_
 replace m0:=m0.ext hE_
 replace m1:=m1.ext hE_
 replace m2:=m2.ext hE_
 replace m3:=m3.ext hE_
 replace hX:=hX.trans hE_
 clear hE_
 refine gh ?_
 refine R1_call1 (mul_ok _ _ _ _ _ _ N w_29 m0 m1 (by omega)) ?_
 rintro _ w_30 ⟨hE_,a0,a1,rfl,hm1⟩
 refine ⟨hE_,?_⟩
 replace hS:=hS.ext hE_
 replace hPl:=hPl.ext hE_
 replace h6:=h6.ext hE_
 replace h7:=h7.ext hE_
 replace hx:=hx.ext hE_
 replace m0:=m0.ext hE_
 replace m1:=m1.ext hE_
 replace m2:=m2.ext hE_
 replace m3:=m3.ext hE_
 replace hX:=hX.trans hE_
 clear hE_
 refine gh ?_
 refine Rc_cons (fun w_31 hE_=>?_)
 replace hS:=hS.ext hE_
 replace hPl:=hPl.ext hE_
 replace h6:=h6.ext hE_
 replace h7:=h7.ext hE_
 replace hx:=hx.ext hE_
 replace m0:=m0.ext hE_
 replace m1:=m1.ext hE_
 replace m2:=m2.ext hE_
 replace m3:=m3.ext hE_
 replace hm1:=hm1.ext hE_
 replace hX:=hX.trans hE_
 clear hE_
 refine gh ?_
 refine R1_call1 (mul_ok _ _ _ _ _ _ N w_31 m2 m3 (by omega)) ?_
 rintro _ w_32 ⟨hE_,a2,a3,rfl,hm2⟩
 refine ⟨hE_,?_⟩
 replace hS:=hS.ext hE_
 replace hPl:=hPl.ext hE_
 replace h6:=h6.ext hE_
 replace h7:=h7.ext hE_
 replace hx:=hx.ext hE_
 replace m0:=m0.ext hE_
 replace m1:=m1.ext hE_
 replace m2:=m2.ext hE_
 replace m3:=m3.ext hE_
 replace hm1:=hm1.ext hE_
 replace hX:=hX.trans hE_
 clear hE_
 have bS:=(bd0.mul bl0).add (bxo.mul bb)
 refine gh ?_
 refine Rc_cons (fun w_33 hE_=>?_)
 replace hS:=hS.ext hE_
 replace hPl:=hPl.ext hE_
 replace h6:=h6.ext hE_
 replace h7:=h7.ext hE_
 replace hx:=hx.ext hE_
 replace m0:=m0.ext hE_
 replace m1:=m1.ext hE_
 replace m2:=m2.ext hE_
 replace m3:=m3.ext hE_
 replace hm1:=hm1.ext hE_
 replace hm2:=hm2.ext hE_
 replace hX:=hX.trans hE_
 clear hE_
 refine gh ?_
 refine R1_call1 (add_ok _ _ _ _ _ _ (N + N) w_33 (hm1.iv (bd0.mul bl0)) (hm2.iv (bxo.mul bb)) (by omega)) ?_
 rintro _ w_34 ⟨hE_,a4,a5,rfl,hm3⟩
 refine ⟨hE_,?_⟩
 replace hS:=hS.ext hE_
 replace hPl:=hPl.ext hE_
 replace h6:=h6.ext hE_
 replace h7:=h7.ext hE_
 replace hx:=hx.ext hE_
 replace m0:=m0.ext hE_
 replace m1:=m1.ext hE_
 replace m2:=m2.ext hE_
 replace m3:=m3.ext hE_
 replace hm1:=hm1.ext hE_
 replace hm2:=hm2.ext hE_
 replace hX:=hX.trans hE_
 clear hE_
 refine gh ?_
 refine Rc_nil (fun w_35 hE_ bs hbs hdis=>?_)
 replace hS:=hS.ext hE_
 replace hPl:=hPl.ext hE_
 replace h6:=h6.ext hE_
 replace h7:=h7.ext hE_
 replace hx:=hx.ext hE_
 replace m0:=m0.ext hE_
 replace m1:=m1.ext hE_
 replace m2:=m2.ext hE_
 replace m3:=m3.ext hE_
 replace hm1:=hm1.ext hE_
 replace hm2:=hm2.ext hE_
 replace hm3:=hm3.ext hE_
 replace hX:=hX.trans hE_
 clear hE_
 obtain ⟨hge_gy,hB_gy⟩:=hbs _ List.mem_cons_self
 have hge_gy:w_28.heap.size≤bs 16:=hge_gy
 have hy:Bx w_35 (bs 16) 1 true 0:=Bx.zero true hB_gy
 show Ro _ _ _ _ _ _ (upd _ 16 (.pointer (some ⟨bs 16,0,none⟩))) _
 generalize bs 16 = gy at *
 have hfr_gy:w4.heap.size≤gy:=by omega
 have hne_gy_gP:gy ≠ gP:=by omega
 have hne_gy_g6:gy ≠ g6:=by omega
 have hne_gy_g7:gy ≠ g7:=by omega
 have hne_gy_gx:gy ≠ gx:=by omega
 clear hbs hdis hszq hB_gy hge_gy hltq_gP hltq_g6 hltq_g7 hltq_gx
 refine gh ?_
 refine R1_storeBx (by first | exact .inl rfl | exact .inr ⟨rfl,fun _ h=>h.mono fun b _ e=>by omega⟩) rfl rfl hy (hm3.ev true bS) ?_
 intro w_36 hy hC_ hk_ hs_
 replace hS:=hS.kp hk_ hC_ (fun b hb h=>by have:=hltS b h; omega)
 replace hPl:=hPl.kp hk_ hC_ (by first | omega | assumption)
 replace h6:=h6.kp hk_ hC_ (by first | omega | assumption)
 replace h7:=h7.kp hk_ hC_ (by first | omega | assumption)
 replace hx:=hx.kp hk_ hC_ (by first | omega | assumption)
 replace m0:=m0.kp hk_
 replace m1:=m1.kp hk_
 replace m2:=m2.kp hk_
 replace m3:=m3.kp hk_
 replace hm1:=hm1.kp hk_
 replace hm2:=hm2.kp hk_
 replace hm3:=hm3.kp hk_
 replace hX:=hC_.ext_of hX (fun b hb=>by omega)
 clear hC_ hk_ hs_
 obtain ⟨hy_u,hy_v,hy_B,hy_V⟩:=id hy
 obtain ⟨hy_0,hy_1⟩:=blkP hy_B
 obtain ⟨h6_u,h6_v,h6_B,h6_V⟩:=id h6
 obtain ⟨h6_0,h6_1⟩:=blkP h6_B
 refine gh ?_
 refine R1_call2 (divMod_ok _ _ _ _ _ _ (N + N + 1) w_36 hy_V.1 (h6_V.1.mono (by omega)) (by omega) (by omega)) ?_
 rintro _ w_37 ⟨hE_,d0,d1,d2,d3,rfl,hq,hr⟩
 replace hS:=hS.ext hE_
 replace hPl:=hPl.ext hE_
 replace h6:=h6.ext hE_
 replace h7:=h7.ext hE_
 replace hx:=hx.ext hE_
 replace hy:=hy.ext hE_
 replace hX:=hX.trans hE_
 clear hE_
 clear hy_0 hy_1 h6_0 h6_1
 obtain ⟨yo,hyo⟩ : ∃ yo,yo = impY d l k a b i:=⟨_,rfl⟩
 have hyo':(d (k - 1) * l i k + xo * b) / a = yo:=by rw [hyo,hxo]; rfl
 rw [hyo'] at hq
 have byo:Bd (N + N + 1) yo:=by rw [← hyo']; exact bS.ediv
 refine gh ?_
 refine R1_storeBx (by first | exact .inl rfl | exact .inr ⟨rfl,fun _ h=>h.mono fun b _ e=>by omega⟩) rfl rfl hy (hq.ev true byo) ?_
 intro w_38 hy hC_ hk_ hs_
 replace hS:=hS.kp hk_ hC_ (fun b hb h=>by have:=hltS b h; omega)
 replace hPl:=hPl.kp hk_ hC_ (by first | omega | assumption)
 replace h6:=h6.kp hk_ hC_ (by first | omega | assumption)
 replace h7:=h7.kp hk_ hC_ (by first | omega | assumption)
 replace hx:=hx.kp hk_ hC_ (by first | omega | assumption)
 replace hq:=hq.kp hk_
 replace hr:=hr.kp hk_
 replace hX:=hC_.ext_of hX (fun b hb=>by omega)
 clear hC_ hk_ hs_
 refine gh ?_
 refine W_seqD [(0,3),(1,0),(2,0),(3,0),(5,3),(6,0),(7,0),(8,0),(4,1),(9,1),(10,2),(11,2)] mixed (by kernel_rfl) (fun w_39 hE_ _=>?_)
 replace hS:=hS.ext hE_
 replace hPl:=hPl.ext hE_
 replace h6:=h6.ext hE_
 replace h7:=h7.ext hE_
 replace hx:=hx.ext hE_
 replace hy:=hy.ext hE_
 replace hX:=hX.trans hE_
 clear hE_
 obtain ⟨s0,s1,s2,s3,q0,q1,q2,q3,m0,m1⟩:=RowT.at2 hPl (j:=3) (by decide)
 obtain ⟨s4,s5,s6,s7,q4,q5,q6,q7,m2,m3⟩:=RowT.at2 hPl (j:=5) (by decide)
 replace m0:IV w_39 N s0 s1 u0:=m0.1
 replace m1:IV w_39 N s2 s3 u1:=m1.1
 replace m2:IV w_39 N s4 s5 v0:=m2.1
 replace m3:IV w_39 N s6 s7 v1:=m3.1
 replace m0:=m0.mono (show N≤N + N + 1 by omega)
 replace m1:=m1.mono (show N≤N + N + 1 by omega)
 replace m2:=m2.mono (show N≤N + N + 1 by omega)
 replace m3:=m3.mono (show N≤N + N + 1 by omega)
 obtain ⟨hx_u,hx_v,hx_B,hx_V⟩:=id hx
 obtain ⟨hx_0,hx_1⟩:=blkP hx_B
 obtain ⟨hy_u,hy_v,hy_B,hy_V⟩:=id hy
 obtain ⟨hy_0,hy_1⟩:=blkP hy_B
 have zx:=hx_V.1.mono (show N≤N + N + 1 by omega)
 have zy:=hy_V.1
 refine gh ?_
 refine R1_load4E (by decide) agg_Arr rfl q0 q1 q2 q3 ?_
 refine gh ?_
 refine R1_load4E (by decide) agg_Arr rfl q4 q5 q6 q7 ?_
 clear q0 q1 q2 q3 q4 q5 q6 q7
 refine gh ?_
 refine R1_call1 (combine_ok _ _ _ _ _ _ _ _ _ _ _ _ (N + N + 1) w_39 m0 m1 zx zy (by omega)) ?_
 rintro _ w_40 ⟨hE_,a0,a1,rfl,hc0⟩
 refine ⟨hE_,?_⟩
 replace hS:=hS.ext hE_
 replace hPl:=hPl.ext hE_
 replace h6:=h6.ext hE_
 replace h7:=h7.ext hE_
 replace hx:=hx.ext hE_
 replace hy:=hy.ext hE_
 replace m0:=m0.ext hE_
 replace m1:=m1.ext hE_
 replace m2:=m2.ext hE_
 replace m3:=m3.ext hE_
 replace zx:=zx.ext hE_
 replace zy:=zy.ext hE_
 replace hX:=hX.trans hE_
 clear hE_
 clear hx_0 hx_1 hy_0 hy_1
 refine gh ?_
 refine R1_call1 (combine_ok _ _ _ _ _ _ _ _ _ _ _ _ (N + N + 1) w_40 m2 m3 zx zy (by omega)) ?_
 rintro _ w_41 ⟨hE_,a2,a3,rfl,hc1⟩
 refine ⟨hE_,?_⟩
 replace hS:=hS.ext hE_
 replace hPl:=hPl.ext hE_
 replace h6:=h6.ext hE_
 replace h7:=h7.ext hE_
 replace hx:=hx.ext hE_
 replace hy:=hy.ext hE_
 replace m0:=m0.ext hE_
 replace m1:=m1.ext hE_
 replace m2:=m2.ext hE_
 replace m3:=m3.ext hE_
 replace zx:=zx.ext hE_
 replace zy:=zy.ext hE_
 replace hc0:=hc0.ext hE_
 replace hX:=hX.trans hE_
 clear hE_
 obtain ⟨xn,hxn⟩ : ∃ xn,xn = u0 * xo + u1 * yo:=⟨_,rfl⟩
 obtain ⟨yn,hyn⟩ : ∃ yn,yn = v0 * xo + v1 * yo:=⟨_,rfl⟩
 have byn:Bd (N + (N + N + 1) + 1) yn:=by rw [hyn]; exact (bv0.mul (bxo.mono (by omega))).add (bv1.mul byo)
 have bxn:Bd N xn:=by
  have h:=hbL i (k - 1) (by omega) hil
  unfold impL at h
  rw [if_neg (by omega),if_neg (by omega),if_pos hki,if_pos rfl,← hyo,← hxo,← hxn] at h
  exact h
 rw [← hxn] at hc0
 rw [← hyn] at hc1
 refine gh ?_
 refine R1_storeBx (by first | exact .inl rfl | exact .inr ⟨rfl,fun _ h=>h.mono fun b _ e=>by omega⟩) rfl rfl hx (hc0.ev true bxn) ?_
 intro w_42 hx hC_ hk_ hs_
 replace hS:=hS.kp hk_ hC_ (fun b hb h=>by have:=hltS b h; omega)
 replace hPl:=hPl.kp hk_ hC_ (by first | omega | assumption)
 replace h6:=h6.kp hk_ hC_ (by first | omega | assumption)
 replace h7:=h7.kp hk_ hC_ (by first | omega | assumption)
 replace hy:=hy.kp hk_ hC_ (by first | omega | assumption)
 replace hc0:=hc0.kp hk_
 replace hc1:=hc1.kp hk_
 replace hX:=hC_.ext_of hX (fun b hb=>by omega)
 clear hC_ hk_ hs_
 refine gh ?_
 refine R1_storeBx (by first | exact .inl rfl | exact .inr ⟨rfl,fun _ h=>h.mono fun b _ e=>by omega⟩) rfl rfl hy (hc1.ev true byn) ?_
 intro w_43 hy hC_ hk_ hs_
 replace hS:=hS.kp hk_ hC_ (fun b hb h=>by have:=hltS b h; omega)
 replace hPl:=hPl.kp hk_ hC_ (by first | omega | assumption)
 replace h6:=h6.kp hk_ hC_ (by first | omega | assumption)
 replace h7:=h7.kp hk_ hC_ (by first | omega | assumption)
 replace hx:=hx.kp hk_ hC_ (by first | omega | assumption)
 replace hc0:=hc0.kp hk_
 replace hc1:=hc1.kp hk_
 replace hX:=hC_.ext_of hX (fun b hb=>by omega)
 clear hC_ hk_ hs_
 refine gh ?_
 refine gh ?_
 refine W_seqD [(0,3),(1,3),(2,3),(3,0),(4,3),(5,3),(6,0),(7,3),(8,3),(9,0),(10,3),(11,2)] mixed (by kernel_rfl) (fun w_44 hE_ _=>?_)
 replace hS:=hS.ext hE_
 replace hPl:=hPl.ext hE_
 replace h6:=h6.ext hE_
 replace h7:=h7.ext hE_
 replace hx:=hx.ext hE_
 replace hy:=hy.ext hE_
 replace hX:=hX.trans hE_
 clear hE_
 have e1:=hS.c1
 have e3:=hS.lrow hil
 obtain ⟨hx_u,hx_v,hx_B,hx_V⟩:=id hx
 obtain ⟨hx_0,hx_1⟩:=blkP hx_B
 have zx:=hx_V
 refine gh ?_
 clear e1 e3 hx_0 hx_1
 have hnx:¬ StMod I n gx:=fun h=>by have:=hltS _ h.blk; omega
 have hny:¬ StMod I n gy:=fun h=>by have:=hltS _ h.blk; omega
 refine gh ?_
 refine R1_storeSL (.inl rfl) rfl rfl hS hI hil (show k - 1 < i by omega) zx ?_
 intro w_45 hS hC_ hk_ hs_
 replace hPl:=hPl.kp hk_ hC_ (by first | omega | assumption)
 replace h6:=h6.kp hk_ hC_ (by first | omega | assumption)
 replace h7:=h7.kp hk_ hC_ (by first | omega | assumption)
 replace hx:=hx.kp hk_ hC_ (by first | omega | assumption)
 replace hy:=hy.kp hk_ hC_ (by first | omega | assumption)
 replace hM:=(hM.add hX).trans hC_
 replace hK:=(hK.trans (kp_ext hX)).trans hk_
 have hsz2:=hM.size
 clear hX
 have hX:Ext w_45 w_45:=Ext.refl _
 clear hC_ hk_ hs_ zx
 refine gh ?_
 refine W_seqG [(0,3),(1,0),(2,0),(4,3),(5,0),(6,0)] [(3,[],[]),(9,[],[]),(7,[],[3]),(8,[],[3,7])] [(10,2)] mixed (by kernel_rfl) (fun w_46 hE_ _=>?_)
 replace hS:=hS.ext hE_
 replace hPl:=hPl.ext hE_
 replace h6:=h6.ext hE_
 replace h7:=h7.ext hE_
 replace hx:=hx.ext hE_
 replace hy:=hy.ext hE_
 replace hX:=hX.trans hE_
 clear hE_
 obtain ⟨x0,y0,p0,p0',t0⟩:=RowT.at hPl (j:=0) (by decide)
 obtain ⟨x1,y1,p1,p1',t1⟩:=RowT.at hPl (j:=1) (by decide)
 replace t0:IV w_46 N x0 y0 a':=t0.1
 replace t1:IV w_46 N x1 y1 b':=t1.1
 replace t0:=t0.mono (show N≤N + (N + N + 1) + 1 by omega)
 replace t1:=t1.mono (show N≤N + (N + N + 1) + 1 by omega)
 obtain ⟨hx_u,hx_v,hx_B,hx_V⟩:=id hx
 obtain ⟨hx_0,hx_1⟩:=blkP hx_B
 obtain ⟨hy_u,hy_v,hy_B,hy_V⟩:=id hy
 obtain ⟨hy_0,hy_1⟩:=blkP hy_B
 have zx:=hx_V.1.mono (show N≤N + (N + N + 1) + 1 by omega)
 have zy:=hy_V.1
 refine gh ?_
 refine Rg_float [(3,[]),(7,[]),(8,[])] [fA 9 17 47 (.agg #[.bool false,.slice none 0 0])] [234,238,239,17] (by kernel_rfl) (fun a ha f' w' _ _=>by
  rcases List.mem_singleton.1 ha with rfl
  exact flt_alloc z_Int rfl f' w') ?_
 have hltq_gP:=hPl.lt
 have hltq_g6:=h6.lt
 have hltq_g7:=h7.lt
 have hltq_gx:=hx.lt
 have hltq_gy:=hy.lt
 have hszq:=hX.size
 clear p0 p0' p1 p1' hx_0 hx_1 hy_0 hy_1
 have k0:=(ba'.mono (show N≤N + (N + N + 1) + 1 by omega)).mul byn
 have k1':=(bb'.mono (show N≤N + (N + N + 1) + 1 by omega)).mul (bxn.mono (show N≤N + (N + N + 1) + 1 by omega))
 refine gh ?_
 refine Rc_cons (fun w_47 hE_=>?_)
 replace hS:=hS.ext hE_
 replace hPl:=hPl.ext hE_
 replace h6:=h6.ext hE_
 replace h7:=h7.ext hE_
 replace hx:=hx.ext hE_
 replace hy:=hy.ext hE_
 replace t0:=t0.ext hE_
 replace t1:=t1.ext hE_
 replace zx:=zx.ext hE_
 replace zy:=zy.ext hE_
 replace hX:=hX.trans hE_
 clear hE_
 refine gh ?_
 refine R1_call1 (mul_ok _ _ _ _ _ _ (N + (N + N + 1) + 1) w_47 t0 zy (by omega)) ?_
 rintro _ w_48 ⟨hE_,a0,a1,rfl,hm1⟩
 refine ⟨hE_,?_⟩
 replace hS:=hS.ext hE_
 replace hPl:=hPl.ext hE_
 replace h6:=h6.ext hE_
 replace h7:=h7.ext hE_
 replace hx:=hx.ext hE_
 replace hy:=hy.ext hE_
 replace t0:=t0.ext hE_
 replace t1:=t1.ext hE_
 replace zx:=zx.ext hE_
 replace zy:=zy.ext hE_
 replace hX:=hX.trans hE_
 clear hE_
 refine gh ?_
 refine Rc_cons (fun w_49 hE_=>?_)
 replace hS:=hS.ext hE_
 replace hPl:=hPl.ext hE_
 replace h6:=h6.ext hE_
 replace h7:=h7.ext hE_
 replace hx:=hx.ext hE_
 replace hy:=hy.ext hE_
 replace t0:=t0.ext hE_
 replace t1:=t1.ext hE_
 replace zx:=zx.ext hE_
 replace zy:=zy.ext hE_
 replace hm1:=hm1.ext hE_
 replace hX:=hX.trans hE_
 clear hE_
 refine gh ?_
 refine R1_call1 (mul_ok _ _ _ _ _ _ (N + (N + N + 1) + 1) w_49 t1 zx (by omega)) ?_
 rintro _ w_50 ⟨hE_,a2,a3,rfl,hm2⟩
 refine ⟨hE_,?_⟩
 replace hS:=hS.ext hE_
 replace hPl:=hPl.ext hE_
 replace h6:=h6.ext hE_
 replace h7:=h7.ext hE_
 replace hx:=hx.ext hE_
 replace hy:=hy.ext hE_
 replace t0:=t0.ext hE_
 replace t1:=t1.ext hE_
 replace zx:=zx.ext hE_
 replace zy:=zy.ext hE_
 replace hm1:=hm1.ext hE_
 replace hX:=hX.trans hE_
 clear hE_
 refine gh ?_
 refine Rc_cons (fun w_51 hE_=>?_)
 replace hS:=hS.ext hE_
 replace hPl:=hPl.ext hE_
 replace h6:=h6.ext hE_
 replace h7:=h7.ext hE_
 replace hx:=hx.ext hE_
 replace hy:=hy.ext hE_
 replace t0:=t0.ext hE_
 replace t1:=t1.ext hE_
 replace zx:=zx.ext hE_
 replace zy:=zy.ext hE_
 replace hm1:=hm1.ext hE_
 replace hm2:=hm2.ext hE_
 replace hX:=hX.trans hE_
 clear hE_
 refine gh ?_
 refine R1_call1 (sub_ok _ _ _ _ _ _ (N + (N + N + 1) + 1 + (N + (N + N + 1) + 1)) w_51 (hm1.iv k0) (hm2.iv k1') (by omega)) ?_
 rintro _ w_52 ⟨hE_,a4,a5,rfl,hm3⟩
 refine ⟨hE_,?_⟩
 replace hS:=hS.ext hE_
 replace hPl:=hPl.ext hE_
 replace h6:=h6.ext hE_
 replace h7:=h7.ext hE_
 replace hx:=hx.ext hE_
 replace hy:=hy.ext hE_
 replace t0:=t0.ext hE_
 replace t1:=t1.ext hE_
 replace zx:=zx.ext hE_
 replace zy:=zy.ext hE_
 replace hm1:=hm1.ext hE_
 replace hm2:=hm2.ext hE_
 replace hX:=hX.trans hE_
 clear hE_
 refine gh ?_
 refine Rc_nil (fun w_53 hE_ bs hbs hdis=>?_)
 replace hS:=hS.ext hE_
 replace hPl:=hPl.ext hE_
 replace h6:=h6.ext hE_
 replace h7:=h7.ext hE_
 replace hx:=hx.ext hE_
 replace hy:=hy.ext hE_
 replace t0:=t0.ext hE_
 replace t1:=t1.ext hE_
 replace zx:=zx.ext hE_
 replace zy:=zy.ext hE_
 replace hm1:=hm1.ext hE_
 replace hm2:=hm2.ext hE_
 replace hm3:=hm3.ext hE_
 replace hX:=hX.trans hE_
 clear hE_
 obtain ⟨hge_gd,hB_gd⟩:=hbs _ List.mem_cons_self
 have hge_gd:w_46.heap.size≤bs 17:=hge_gd
 have hdf:Bx w_53 (bs 17) 1 true 0:=Bx.zero true hB_gd
 show Ro _ _ _ _ _ _ (upd _ 17 (.pointer (some ⟨bs 17,0,none⟩))) _
 generalize bs 17 = gd at *
 have hfr_gd:w_45.heap.size≤gd:=by omega
 have hne_gd_gP:gd ≠ gP:=by omega
 have hne_gd_g6:gd ≠ g6:=by omega
 have hne_gd_g7:gd ≠ g7:=by omega
 have hne_gd_gx:gd ≠ gx:=by omega
 have hne_gd_gy:gd ≠ gy:=by omega
 clear hbs hdis hszq hB_gd hge_gd hltq_gP hltq_g6 hltq_g7 hltq_gx hltq_gy
 have bdf:=k0.sub k1'
 refine gh ?_
 refine R1_storeBx (by first | exact .inl rfl | exact .inr ⟨rfl,fun _ h=>h.mono fun b _ e=>by omega⟩) rfl rfl hdf (hm3.ev true bdf) ?_
 intro w_54 hdf hC_ hk_ hs_
 replace hS:=hS.kp hk_ hC_ (fun b hb h=>by have:=hltS b h; omega)
 replace hPl:=hPl.kp hk_ hC_ (by first | omega | assumption)
 replace h6:=h6.kp hk_ hC_ (by first | omega | assumption)
 replace h7:=h7.kp hk_ hC_ (by first | omega | assumption)
 replace hx:=hx.kp hk_ hC_ (by first | omega | assumption)
 replace hy:=hy.kp hk_ hC_ (by first | omega | assumption)
 replace t0:=t0.kp hk_
 replace t1:=t1.kp hk_
 replace zx:=zx.kp hk_
 replace zy:=zy.kp hk_
 replace hm1:=hm1.kp hk_
 replace hm2:=hm2.kp hk_
 replace hm3:=hm3.kp hk_
 replace hX:=hC_.ext_of hX (fun b hb=>by omega)
 clear hC_ hk_ hs_
 refine gh ?_
 refine W_regD [(0,3),(1,3),(2,3),(3,0),(4,3),(5,3),(6,0),(7,3),(8,0),(9,3),(10,3),(11,3),(12,0),(13,3),(14,3),(15,3),(16,0),(17,1),(18,3),(19,3),(20,3),(21,3),(22,3),(23,2)] mixed (by kernel_rfl) (fun w_55 hE_ _=>?_)
 replace hS:=hS.ext hE_
 replace hPl:=hPl.ext hE_
 replace h6:=h6.ext hE_
 replace h7:=h7.ext hE_
 replace hdf:=hdf.ext hE_
 replace hX:=hX.trans hE_
 clear hE_
 have e0:=hS.c0
 have e1:=hS.c1
 have e3:=hS.lrow hil
 obtain ⟨x0,y0,p0,p0',t0⟩:=hS.mi.at (j:=k - 1) (by omega)
 rw [show setZ d k a' (k - 1) = d (k - 1) by simp only [setZ]; rw [if_neg hkk]] at t0
 obtain ⟨hdf_u,hdf_v,hdf_B,hdf_V⟩:=id hdf
 obtain ⟨hdf_0,hdf_1⟩:=blkP hdf_B
 have z0:=hdf_V.1
 have m0:=t0.1
 refine gh ?_
 refine R1_call1 (divMod_ok _ _ _ _ _ _ (N + (N + N + 1) + 1 + (N + (N + N + 1) + 1) + 1) w_55 z0 (m0.mono (by omega)) (by omega) hd) ?_
 rintro _ w_56 ⟨hE_,d0,d1,d2,d3,rfl,hq,hr⟩
 refine ⟨hE_,?_⟩
 replace hS:=hS.ext hE_
 replace hPl:=hPl.ext hE_
 replace h6:=h6.ext hE_
 replace h7:=h7.ext hE_
 replace hdf:=hdf.ext hE_
 replace z0:=z0.ext hE_
 replace m0:=m0.ext hE_
 replace hX:=hX.trans hE_
 clear hE_
 clear e0 e1 e3 p0 p0' hdf_0 hdf_1
 have bfin:Bd N ((a' * yn - b' * xn) / d (k - 1)):=by
  have h:=hbL i k hki hil
  unfold impL at h
  rw [if_neg (by omega),if_neg (by omega),if_pos hki,if_neg (by omega),if_pos rfl,← hyo,← hxo,← hxn,← hyn] at h
  exact h
 refine gh ?_
 refine gh ?_
 refine R1_storeSL (.inl rfl) rfl rfl hS hI hil hki (hq.ev true bfin) ?_
 intro w_57 hS hC_ hk_ hs_
 replace hPl:=hPl.kp hk_ hC_ (by first | omega | assumption)
 replace h6:=h6.kp hk_ hC_ (by first | omega | assumption)
 replace h7:=h7.kp hk_ hC_ (by first | omega | assumption)
 replace hM:=(hM.add hX).trans hC_
 replace hK:=(hK.trans (kp_ext hX)).trans hk_
 refine gh ?_
 refine ⟨_,?_,i + 1,rfl,by omega,by omega,rfl,rfl,rfl,rfl,rfl,rfl,hM,hK,hS.congr (Nat.le_refl _) (fun _ _=>rfl) (fun p q hq hp=>?_) (fun _ _ _ _=>rfl),hPl,h6,h7⟩
 · omega
 · simp only [set2]
   by_cases e:p = i
   · subst e
     rw [if_pos (show p < p + 1 by omega)]
     have eR:impL d l k a b a' b' u0 u1 v0 v1 p q = if q = k - 1 then xn else if q = k then (a' * yn - b' * xn) / d (k - 1) else l p q:=by
      unfold impL
      rw [if_neg (by omega),if_neg (by omega),if_pos hki,← hyo,← hxo,← hxn,← hyn]
     rw [eR]
     by_cases e1:q = k
     · rw [if_pos ⟨rfl,e1⟩,if_neg (by omega),if_pos e1]
     · rw [if_neg (fun h=>e1 h.2)]
       by_cases e2:q = k - 1
       · rw [if_pos ⟨rfl,e2⟩,if_pos e2]
       · rw [if_neg (fun h=>e2 h.2),if_neg e2,if_neg e1,if_neg (Nat.lt_irrefl p)]
   · rw [if_neg (fun h=>e h.1),if_neg (fun h=>e h.1)]
     by_cases h:p < i
     · rw [if_pos h,if_pos (by omega)]
     · rw [if_neg h,if_neg (by omega)]
end Go.Proofs.YtmkbpjoihdfpkaaGreat
namespace Go.Proofs.YtmkbpjoihdfpkaaGreat
open Go Go.Eng Go.Num Go.Proofs
open Go.Det (stg)
theorem Nb_le' (N:Nat) {k m:Nat} (h:k≤m):Nb N k≤Nb N m:=by
 obtain ⟨d,rfl⟩ : ∃ d,m = k + d:=⟨m - k,by omega⟩
 clear h
 induction d with
 | zero=>exact Nat.le_refl _
 | succ d ih=>exact Nat.le_trans ih (Nb_mono N (k + d))
theorem one_fn:oneTy Tryz.prog 78 = true:=by kernel_rfl
theorem fa_St3:FieldA Tryz.prog 80 3 3:=by
 unfold FieldA; intro a w
 simp [Instr.fieldAt,run_underlying Tryz.underlying80,Instr.sureAddr,fieldPlace,size_one one_fn]
section
variable {n:Nat} {S:World→World→Prop} {k:Nat} {K:Fr→World→Prop} {f:Fr} {w:World} {d ty t t2:Nat} {x y:Operand} {pos:String} {aft:Array Edge} {gd:Option (Nat × Bool)}
theorem R1_func1 {fn:Fn} {v:Value} (hx:ev n f x = v) (h:K (upd f d (.func fn #[v] #[])) w):R1 Tryz.prog n S k ⟨some d,.makeFunc fn #[x] #[],ty,pos,aft,gd⟩ K f w :=
 R1_pure (v:=.func fn #[v] #[]) (fun _=>by simp [execOp,hx,Instr.makeFunc]) h
theorem zero_St (w:World):(zeroValue 80).run Tryz.prog w = .ok (.agg #[.slice none 0 0,.slice none 0 0,.slice none 0 0,.nilFunc]) w:=by kernel_rfl
theorem R1_bldSt {A B:Option Addr} {p q p' q':Nat} (hx:ev n f x = .slice A p q) (hy:ev n f y = .slice B p' q') (h:K (upd f d (.agg #[.slice A p q,.slice B p' q',.slice none 0 0,.nilFunc])) w) :
 R1 Tryz.prog n S k ⟨some d,.build 80 #[(0,x),(1,y)],ty,pos,aft,gd⟩ K f w:=by
 refine R1_pure (v:=.agg #[.slice A p q,.slice B p' q',.slice none 0 0,.nilFunc]) (fun w=>?_) h
 have e1:(#[(0,x),(1,y)]:Array (Nat × Operand)).map (fun (i,x)=>(i,ev n f x)) = #[(0,.slice A p q),(1,.slice B p' q')]:=by simp [hx,hy]
 have o1:(Value.slice A p q).cells = #[.slice A p q]:=rfl
 have o2:(Value.slice B p' q').cells = #[.slice B p' q']:=rfl
 have hz:(Value.agg #[.slice none 0 0,.slice none 0 0,.slice none 0 0,.nilFunc]).cells = #[.slice none 0 0,.slice none 0 0,.slice none 0 0,.nilFunc]:=rfl
 simp [execOp,e1,Instr.build,run_underlying Tryz.underlying80,Instr.fill,o1,o2,hz,size_one one_fn,size_one (one_of (t:=49) rfl),size_one (one_of (t:=35) rfl)]
end
set_option maxHeartbeats 64000000 in
theorem newState_ok (v:Value) (n N0 N:Nat) (G:Nat→Nat→Int) (w:World) (ha:MatE (EI N0) w v n (fun _=>n) G) (hn1:1≤n) (hn:n≤8) (hN1:1≤N0) (hN0:N0 < 1048576) (hN:Nb N0 8≤N) (hp:Go.Det.PM n G) :
 Meets Tryz.prog 56 #[v] w fun u w'=>Ext w w'∧∃ I:Ids,u = .pointer (some ⟨I.gS,0,none⟩)∧I.ok n∧(∀ b,StBlk I n b→w.heap.size≤b)∧StB w' I n N (fun m=>Go.Det.det m G) (fun i c=>Go.Det.bm c G i c) Go.Det.one:=by
 obtain ⟨Av,capv,hv,_⟩:=id ha
 refine fn_W (n:=96) Tryz.func56 rfl rfl (by kernel_rfl) (by simp) ?_
 rw [hv]
 refine gh ?_
 rw [← hv]
 have hokS:okS n (fun _=>n) = true:=okS_iff.2 ⟨hn1,by omega,fun _ _=>rfl⟩
 have hstg:∀ q,q≤n→∀ i j,stg G q i j = Go.Det.bm q G (q + i) (q + j):=fun q hq=>(Go.Det.stg_bm G q fun p h1 h2=>by have:=hp p (by omega); omega).1
 have hokst:okSt n G:=fun q hq=>by
  rw [hstg q (by omega),Nat.add_zero,Go.Det.bm_self]
  have:=hp (q + 1) (by omega); omega
 refine R1_call2 (stages_ok _ n N0 (fun _=>n) G w ha hN1 hN0) ?_
 rintro _ w2 ⟨hE2,⟨hp',_⟩ | ⟨_,u,gos,ges,rfl,hSt⟩⟩
 · exact absurd ⟨hokS,hokst⟩ hp'
 obtain ⟨gT,cpT,rfl,hcell⟩:=hSt.list (by omega)
 have bdm:∀ m,m≤n→Bd N (Go.Det.det m G):=fun m hm=>by
  rw [← detB_det]
  exact (detB_bd hN1 fun i j hi hj=>ha.bd (show i < n by omega) (show j < n by omega)).mono (Nat.le_trans (Nb_le' N0 (show m≤8 by omega)) hN)
 have bdl:∀ q i j,q < n→i < n - q→j < n - q→Bd N (stg G q i j):=fun q i j hq hi hj=>((hSt.2 q hq).bd hi hj).mono (Nat.le_trans (Nb_le' N0 (show q≤8 by omega)) hN)
 refine gh ?_
 refine W_seqG [(0,3),(1,3),(3,3)] [(2,[],[]),(4,[],[])] [(5,3),(6,2),(7,3)] mixed (by kernel_rfl) (fun w3 hE3 _=>?_)
 refine gh ?_
 refine Rg_float [] [⟨2,18,47,madeCells (Value.agg #[.bool false,.slice none 0 0]).cells ((n + 1) * 2),fun g=>.slice (some ⟨g,0,none⟩) (n + 1) (n + 1)⟩,⟨4,20,49,madeCells (Value.slice none 0 0).cells (n * 1),fun g=>.slice (some ⟨g,0,none⟩) n n⟩] [18,20] (by kernel_rfl) (fun a ha f' w' hA _=>by
  have h17:f' 17 = .int .i64 ((n + 1:Nat):Int):=hA 17 (by decide) (by decide)
  have h19:f' 19 = .int .i64 ((n:Nat):Int):=hA 19 (by decide) (by decide)
  rcases List.mem_cons.1 ha with rfl | ha
  · refine Ro_headL rfl rfl ?_
    refine R1_make sl_Int (.inr ⟨rfl,fun _ h=>h⟩) h17 h17 (Nat.le_refl _) (by omega) (by omega) ?_
    intro w'' hB hE _
    exact Ro_nil ⟨rfl,hB,hE⟩
  · rcases List.mem_singleton.1 ha with rfl
    refine Ro_headL rfl rfl ?_
    refine R1_make sl_sInt (.inr ⟨rfl,fun _ h=>h⟩) h19 h19 (Nat.le_refl _) (by omega) (by omega) ?_
    intro w'' hB hE _
    exact Ro_nil ⟨rfl,hB,hE⟩) ?_
 refine Rc_nil (fun w4 hE4 bs hbs hdis=>?_)
 obtain ⟨hgeM,hBM⟩:=hbs _ List.mem_cons_self
 obtain ⟨hgeL,hBL⟩:=hbs _ (List.mem_cons_of_mem _ List.mem_cons_self)
 have hne:bs 18 ≠ bs 20:=hdis _ _ List.mem_cons_self (List.mem_cons_of_mem _ List.mem_cons_self) (show (18:Nat) ≠ 20 by decide)
 have hM4:RowB w4 (bs 18) (n + 1) true (fun _=>N) (fun _=>0):=rowB_made true N hBM
 have hL4:Blk w4 (bs 20) 49 (madeCells (Value.slice none 0 0).cells (n * 1)):=hBL
 have hgeM:w3.heap.size≤bs 18:=hgeM
 have hgeL:w3.heap.size≤bs 20:=hgeL
 show Ro _ _ _ _ _ _ (upd (upd _ 20 (.slice (some ⟨bs 20,0,none⟩) n n)) 18 (.slice (some ⟨bs 18,0,none⟩) (n + 1) (n + 1))) _
 generalize bs 18 = gM at *
 generalize bs 20 = gL at *
 clear hbs hdis hBM hBL
 rw [arr_made,Nat.mul_one] at hL4
 have hE24:=hE3.trans hE4
 have hE04:=hE2.trans hE24
 have s23:=(hE2.trans hE3).size
 refine gh ?_
 refine R1_bldSt rfl rfl ?_
 refine gh ?_
 refine R1_box (v:=.agg _) (.inl rfl) rfl ?_
 intro w5 hB5 hE5 hs5
 have hS5:Blk w5 w4.heap.size 80 #[.slice (some ⟨gM,0,none⟩) (n + 1) (n + 1),.slice (some ⟨gL,0,none⟩) n n,.slice none 0 0,.nilFunc]:=hB5
 obtain ⟨gS,hgS⟩ : ∃ g,g = w4.heap.size:=⟨_,rfl⟩
 rw [← hgS] at hS5 ⊢
 have hltM:=hM4.lt
 have hltL:=hL4.lt
 have hdS:gS ≠ gM∧gS ≠ gL:=by omega
 have hge:w.heap.size≤gM∧w.heap.size≤gL∧w.heap.size≤gS:=by have:=hE04.size; omega
 have hge2:w2.heap.size≤gM∧w2.heap.size≤gL∧w2.heap.size≤gS:=by have:=hE3.size; omega
 replace hM4:=hM4.ext hE5
 replace hL4:=hL4.ext hE5
 have hE25:=hE24.trans hE5
 have hE05:=hE04.trans hE5
 clear hB5 hE3 hE4 hE24 hE04 hgeM hgeL
 refine gh ?_
 refine W_seqD [(0,3),(1,3),(2,3),(3,0),(4,1),(5,3),(6,2)] mixed (by kernel_rfl) (fun w6 hE6 _=>?_)
 have c0:w6.cell? ⟨gS,0 + 0,none⟩ = some (.slice (some ⟨gM,0,none⟩) (n + 1) (n + 1)):=by rw [(hS5.ext hE6).cell]; rfl
 refine gh ?_
 refine R1_call1 (small_ok 1 w6 (by decide) (by decide)) ?_
 rintro _ w7 ⟨hE7,o0,o1,rfl,hone⟩
 refine ⟨hE7,?_⟩
 clear c0
 have hE57:=hE6.trans hE7
 refine gh ?_
 refine R1_index0B sl_Int rfl (by omega) ?_
 refine gh ?_
 have hb1:Bd N 1:=bdm 0 (Nat.zero_le _)
 refine R1_storeE (j:=0) (.inl rfl) rfl rfl (hM4.ext hE57) (by omega) (hone.ev true hb1) ?_
 intro w8 hM8 hC8 hk8 hs8
 have hS8:=(hS5.ext hE57).ch hC8 (by omega)
 have hL8:=(hL4.ext hE57).ch hC8 (by omega)
 have hE28:Ext w2 w8:=hC8.ext_of (hE25.trans hE57) (fun b hb=>by omega)
 have hM8:RowB w8 gM (n + 1) true (fun _=>N) (fun m=>if m≤0 then Go.Det.det m G else 0):=hM8.congr fun m hm=>⟨by simp only [setN]; split <;> exact Nat.le_refl _,by
  simp only [setZ]
  by_cases e:m = 0
  · subst e; rw [if_pos rfl,if_pos (Nat.le_refl _)]; rfl
  · rw [if_neg e,if_neg (by omega)]⟩
 have hslt8:gS < w8.heap.size:=hS8.lt
 have hMlt8:gM < w8.heap.size:=hM8.lt
 have hLlt8:gL < w8.heap.size:=hL8.lt
 clear hM4 hL4 hS5 hE57 hE6 hE7 hE25 hE05 hE5 hk8 hC8 hs8 hs5 hone hltM hltL hgS s23
 refine gh ?_
 refine W_seqM (fun f w'=>∃ gl:Nat→Nat,f 3 = .int .i64 ((n:Nat):Int)∧f 4 = .slice (some ⟨gT,0,none⟩) n cpT∧f 6 = .pointer (some ⟨gS,0,none⟩)∧Ext w2 w'∧Blk w' gS 80 #[.slice (some ⟨gM,0,none⟩) (n + 1) (n + 1),.slice (some ⟨gL,0,none⟩) n n,.slice none 0 0,.nilFunc]∧RowB w' gM (n + 1) true (fun _=>N) (fun m=>Go.Det.det m G)∧Blk w' gL 49 (arr n fun i=>.slice (some ⟨gl i,0,none⟩) i i)∧(∀ k,k < n→RowB w' (gl k) k true (fun _=>N) (fun c=>Go.Det.bm c G k c)∧w8.heap.size≤gl k)∧∀ a b,a < n→b < n→gl a = gl b→a = b) ?_ ?_
 · refine gh ?_
   refine W_loop (fun m f w'=>∃ (i:Nat) (gl:Nat→Nat) (h:Nat→Value),m = n - i∧i≤n∧f 3 = .int .i64 ((n:Nat):Int)∧f 4 = .slice (some ⟨gT,0,none⟩) n cpT∧f 6 = .pointer (some ⟨gS,0,none⟩)∧f 29 = .int .i64 ((n:Nat):Int)∧f 30 = .int .i64 ((i:Nat):Int)∧Ext w2 w'∧w8.heap.size≤w'.heap.size∧Blk w' gS 80 #[.slice (some ⟨gM,0,none⟩) (n + 1) (n + 1),.slice (some ⟨gL,0,none⟩) n n,.slice none 0 0,.nilFunc]∧RowB w' gM (n + 1) true (fun _=>N) (fun m=>if m≤i then Go.Det.det m G else 0)∧Blk w' gL 49 (arr n h)∧(∀ k,k < n→∃ A m c,h k = .slice A m c)∧(∀ k,k < i→h k = .slice (some ⟨gl k,0,none⟩) k k)∧(∀ k,k < i→RowB w' (gl k) k true (fun _=>N) (fun c=>Go.Det.bm c G k c)∧w8.heap.size≤gl k)∧∀ a b,a < i→b < i→gl a = gl b→a = b)
    n ⟨0,fun _=>0,_,rfl,Nat.zero_le _,rfl,rfl,rfl,rfl,rfl,hE28,Nat.le_refl _,hS8,hM8,hL8,fun k _=>⟨none,0,0,by simp [Value.cells,Nat.mod_one]⟩,fun k hk=>absurd hk (by omega),fun k hk=>absurd hk (by omega),fun a b ha=>absurd ha (by omega)⟩ ?_
   clear hE28 hS8 hM8 hL8
   rintro m f w9 ⟨i,gl,h,rfl,hi,hf3,hf4,hf6,hf29,hf30,hX,hsz,hS,hM,hL,hsl,hrow,hrb,hinj⟩
   rw [ui hf3,ui hf4,ui hf6,ui hf29,ui hf30]
   clear hf3 hf4 hf6 hf29 hf30
   by_cases hil:i < n
   rotate_left
   · obtain rfl:i = n:=by omega
     refine gh ?_
     refine ⟨gl,rfl,rfl,rfl,hX,hS,hM.congr fun m hm=>⟨Nat.le_refl _,by rw [if_pos (by omega)]⟩,?_,hrb,hinj⟩
     rw [arr_congr (h':=h) fun k hk=>(hrow k hk).symm]; exact hL
   refine gh ?_
   refine W_seqD [(0,3),(1,3),(2,3),(3,0),(4,3),(5,3),(6,3),(7,3),(8,3),(9,0),(10,3),(11,0),(12,3),(13,0),(14,3),(15,2)] mixed (by kernel_rfl) (fun w10 hE10 _=>?_)
   have hX10:=hX.trans hE10
   have c0:w10.cell? ⟨gS,0 + 0,none⟩ = some (.slice (some ⟨gM,0,none⟩) (n + 1) (n + 1)):=by rw [(hS.ext hE10).cell]; rfl
   have k1:=cell_ext hX10 (hcell i hil)
   have hT1:=(hSt.2 i hil).ext hX10
   have k2:=hT1.at (i:=0) (by omega)
   obtain ⟨x0,y0,p0,p0',t0⟩:=hT1.entry (i:=0) (j:=0) (by omega) (by omega)
   refine gh ?_
   refine R1_indexB sl_ssInt rfl rfl (by omega) ?_
   refine gh ?_
   refine R1_index0B sl_Int rfl (by omega) ?_
   refine gh ?_
   have et:stg G i 0 0 = Go.Det.det (i + 1) G:=by rw [hstg i (by omega),Nat.add_zero,Go.Det.bm_self]
   rw [et] at t0
   refine R1_storeE (j:=i + 1) (.inl rfl) rfl rfl (hM.ext hE10) (by omega) ((t0.2 rfl).ev true (bdm (i + 1) hil)) ?_
   intro w11 hM11 hC11 hk11 hs11
   clear c0 k1 k2 p0 p0' t0
   have hS11:=(hS.ext hE10).ch hC11 (by omega)
   have hL11:=(hL.ext hE10).ch hC11 (by omega)
   have hrb11:∀ k,k < i→RowB w11 (gl k) k true (fun _=>N) (fun c=>Go.Det.bm c G k c)∧w8.heap.size≤gl k:=fun k hk=>⟨((hrb k hk).1.ext hE10).kp hk11 hC11 (by have:=(hrb k hk).2; omega),(hrb k hk).2⟩
   have hX11:Ext w2 w11:=hC11.ext_of hX10 (fun b hb=>by omega)
   have hM11:RowB w11 gM (n + 1) true (fun _=>N) (fun m=>if m≤i + 1 then Go.Det.det m G else 0):=hM11.congr fun m hm=>⟨by simp only [setN]; split <;> exact Nat.le_refl _,by
    simp only [setZ]
    by_cases e:m = i + 1
    · rw [if_pos e,if_pos (by omega),e]
    · rw [if_neg e]
      by_cases e':m≤i
      · rw [if_pos e',if_pos (by omega)]
      · rw [if_neg e',if_neg (by omega)]⟩
   have hs10:=hE10.size
   clear hS hM hL hrb hX hX10
   refine gh ?_
   refine W_seqD [(0,3),(1,3),(2,3),(3,0),(4,3),(5,3),(6,1),(7,3),(8,2)] mixed (by kernel_rfl) (fun w12 hE12 _=>?_)
   have c1:w12.cell? ⟨gS,0 + 1,none⟩ = some (.slice (some ⟨gL,0,none⟩) n n):=by rw [(hS11.ext hE12).cell]; rfl
   refine gh ?_
   refine R1_make sl_Int (.inr ⟨rfl,fun _ h=>h⟩) rfl rfl (Nat.le_refl _) (by omega) (by omega) ?_
   intro w13 hB13 hE13 hs13
   have hR13:RowB w13 w12.heap.size i true (fun _=>N) (fun _=>0):=rowB_made true N hB13
   obtain ⟨gi,hgi⟩ : ∃ g,g = w12.heap.size:=⟨_,rfl⟩
   rw [← hgi] at hR13 ⊢
   have hs12:=hE12.size
   clear c1
   refine gh ?_
   refine R1_storeS (one_of rfl) (.inl rfl) rfl rfl (hL11.ext (hE12.trans hE13)) (by rw [arr_size]; omega) ?_
   intro w14 hL14 hC14 hs14
   rw [arr_set,show 0 + i * 1 = i by omega] at hL14
   have hk14:=kp_ch (hL11.ext (hE12.trans hE13)) (noInt_rows hsl).noU hC14
   have hE1113:=hE12.trans hE13
   have hX14:Ext w2 w14:=hC14.ext_of (hX11.trans hE1113) (fun b hb=>by omega)
   have hgi8:w8.heap.size≤gi:=by omega
   have hgil:∀ k,k < i→gl k ≠ gi:=fun k hk=>by have:=(hrb11 k hk).1.lt; omega
   have hS14:=(hS11.ext hE1113).ch hC14 (by omega)
   have hM14:=(hM11.ext hE1113).kp hk14 hC14 (by omega)
   have hR14:=hR13.kp hk14 hC14 (by omega)
   have hrb14:∀ k,k < i→RowB w14 (gl k) k true (fun _=>N) (fun c=>Go.Det.bm c G k c)∧w8.heap.size≤gl k:=fun k hk=>⟨((hrb11 k hk).1.ext hE1113).kp hk14 hC14 (by have:=(hrb11 k hk).2; omega),(hrb11 k hk).2⟩
   have hsz14:w8.heap.size≤w14.heap.size:=by omega
   have hL14i:w14.cell? ⟨gL,0 + i * 1,none⟩ = some (.slice (some ⟨gi,0,none⟩) i i):=by
    rw [hL14.cell,show 0 + i * 1 = i by omega,arr_at hil,upd_self]
   clear hS11 hM11 hL11 hR13 hrb11 hX11 hE12 hE13 hE1113 hC14 hk14 hs14 hs13 hs12 hs11 hs10 hE10 hC11 hk11 hB13
   refine gh ?_
   refine W_loop (fun m f w'=>∃ j,m = i - j∧j≤i∧f 3 = .int .i64 ((n:Nat):Int)∧f 4 = .slice (some ⟨gT,0,none⟩) n cpT∧f 6 = .pointer (some ⟨gS,0,none⟩)∧f 29 = .int .i64 ((n:Nat):Int)∧f 30 = .int .i64 ((i:Nat):Int)∧f 7 = .int .i64 ((i:Nat):Int)∧f 56 = .int .i64 ((i:Nat):Int)∧f 57 = .int .i64 ((j:Nat):Int)∧Ext w2 w'∧w8.heap.size≤w'.heap.size∧Blk w' gS 80 #[.slice (some ⟨gM,0,none⟩) (n + 1) (n + 1),.slice (some ⟨gL,0,none⟩) n n,.slice none 0 0,.nilFunc]∧RowB w' gM (n + 1) true (fun _=>N) (fun m=>if m≤i + 1 then Go.Det.det m G else 0)∧Blk w' gL 49 (arr n (upd h i (.slice (some ⟨gi,0,none⟩) i i)))∧(∀ k,k < i→RowB w' (gl k) k true (fun _=>N) (fun c=>Go.Det.bm c G k c)∧w8.heap.size≤gl k)∧RowB w' gi i true (fun _=>N) (fun c=>if c < j then Go.Det.bm c G i c else 0))
    i ⟨0,rfl,Nat.zero_le _,rfl,rfl,rfl,rfl,rfl,rfl,rfl,rfl,hX14,hsz14,hS14,hM14,hL14,hrb14,hR14.congr fun c _=>⟨Nat.le_refl _,by rw [if_neg (by omega)]⟩⟩ ?_
   clear hS14 hM14 hL14 hR14 hrb14 hX14 hsz14 hL14i
   rintro m f w15 ⟨j,rfl,hj,hf3,hf4,hf6,hf29,hf30,hf7,hf56,hf57,hX,hsz',hS,hM,hL,hrb,hR⟩
   rw [ui hf3,ui hf4,ui hf6,ui hf29,ui hf30,ui hf7,ui hf56,ui hf57]
   clear hf3 hf4 hf6 hf29 hf30 hf7 hf56 hf57
   by_cases hjl:j < i
   rotate_left
   · obtain rfl:j = i:=by omega
     have eg1:setN gl j gi j = gi:=by simp only [setN,if_true]
     have eg2:∀ k,k ≠ j→setN gl j gi k = gl k:=fun k h=>by simp only [setN,if_neg h]
     refine gh ?_
     refine ⟨_,?_,j + 1,setN gl j gi,_,rfl,hil,rfl,rfl,rfl,rfl,rfl,hX,hsz',hS,hM,hL,fun k hk=>?_,fun k hk=>?_,fun k hk=>?_,fun a b ha hb e=>?_⟩
     · omega
     · by_cases e:k = j
       · subst e; exact ⟨_,_,_,upd_self _ _ _⟩
       · rw [upd_ne _ _ e]; exact hsl k hk
     · by_cases e:k = j
       · subst e; rw [upd_self,eg1]
       · rw [upd_ne _ _ e,eg2 k e]; exact hrow k (by omega)
     · by_cases e:k = j
       · subst e; rw [eg1]
         exact ⟨hR.congr fun c hc=>⟨Nat.le_refl _,by rw [if_pos hc]⟩,hgi8⟩
       · rw [eg2 k e]; exact hrb k (by omega)
     · by_cases ea:a = j
       · by_cases eb:b = j
         · rw [ea,eb]
         · rw [ea,eg1,eg2 b eb] at e
           exact absurd e.symm (hgil b (by omega))
       · by_cases eb:b = j
         · rw [eb,eg1,eg2 a ea] at e
           exact absurd e (hgil a (by omega))
         · rw [eg2 a ea,eg2 b eb] at e
           exact hinj a b (by omega) (by omega) e
   refine gh ?_
   refine W_regD [(0,3),(1,3),(2,3),(3,0),(4,3),(5,3),(6,0),(7,3),(8,3),(9,3),(10,3),(11,0),(12,3),(13,3),(14,3),(15,3),(16,0),(17,3),(18,0),(19,3),(20,2)] mixed (by kernel_rfl) (fun w16 hE16 _=>?_)
   have hX16:=hX.trans hE16
   have c1:w16.cell? ⟨gS,0 + 1,none⟩ = some (.slice (some ⟨gL,0,none⟩) n n):=by rw [(hS.ext hE16).cell]; rfl
   have k0:w16.cell? ⟨gL,0 + i * 1,none⟩ = some (.slice (some ⟨gi,0,none⟩) i i):=by
    rw [(hL.ext hE16).cell,show 0 + i * 1 = i by omega,arr_at hil,upd_self]
   have k1:=cell_ext hX16 (hcell j (by omega))
   have hT1:=(hSt.2 j (by omega)).ext hX16
   have k2:=hT1.at (i:=i - j) (by omega)
   obtain ⟨x0,y0,p0,p0',t0⟩:=hT1.entry (i:=i - j) (j:=0) (by omega) (by omega)
   have et:stg G j (i - j) 0 = Go.Det.bm j G i j:=by rw [hstg j (by omega),show j + (i - j) = i by omega,Nat.add_zero]
   have bt:=bdl j (i - j) 0 (by omega) (by omega) (by omega)
   rw [et] at t0 bt
   refine gh ?_
   refine R1_indexB sl_ssInt rfl rfl (by omega) ?_
   refine gh ?_
   refine R1_index0B sl_Int rfl (by omega) ?_
   refine gh ?_
   refine R1_storeE (j:=j) (.inl rfl) rfl rfl (hR.ext hE16) hjl ((t0.2 rfl).ev true bt) ?_
   intro w17 hR17 hC17 hk17 hs17
   have hs16:=hE16.size
   refine gh ?_
   refine ⟨_,?_,j + 1,rfl,hjl,rfl,rfl,rfl,rfl,rfl,rfl,rfl,rfl,hC17.ext_of hX16 (fun b hb=>by omega),by omega,(hS.ext hE16).ch hC17 (by omega),(hM.ext hE16).kp hk17 hC17 (by omega),(hL.ext hE16).ch hC17 (by omega),fun k hk=>⟨((hrb k hk).1.ext hE16).kp hk17 hC17 (hgil k hk),(hrb k hk).2⟩,hR17.congr fun c hc=>⟨by simp only [setN]; split <;> exact Nat.le_refl _,?_⟩⟩
   · omega
   · simp only [setZ]
     by_cases e:c = j
     · rw [if_pos e,if_pos (by omega),e]
     · rw [if_neg e]
       by_cases e':c < j
       · rw [if_pos e',if_pos (by omega)]
       · rw [if_neg e',if_neg (by omega)]
 clear hE28 hS8 hM8 hL8
 rintro f w9 ⟨gl,hf3,hf4,hf6,hX,hS,hM,hL,hrb,hinj⟩
 rw [ui hf3,ui hf4,ui hf6]
 clear hf3 hf4 hf6
 refine gh ?_
 refine R1_call2 (identity_ok (n:Int) w9 (by omega) (by omega)) ?_
 intro v10 w10 h10
 obtain ⟨_,rfl,hE10,gB,gb,e,hgB,hgb,hO⟩:=h10.get (by unfold idOk; exact decide_eq_true (by omega))
 subst e
 rw [Int.toNat_natCast] at hO hgb
 have hWB:WMat w10 gB gb n n true (fun _ _=>N) Go.Det.one:=hO.wm true fun i j _ _=>by
  unfold scal; split
  · exact bdm 0 (Nat.zero_le _)
  · exact Bd.zero _
 have l1:=hS.lt
 have l2:=hM.lt
 have l3:=hL.lt
 have l4:∀ k,k < n→gl k < w9.heap.size:=fun k hk=>(hrb k hk).1.lt
 have hgb:∀ i,i < n→w9.heap.size≤gb i:=hgb
 clear h10 hO
 rw [Int.toNat_natCast]
 refine gh ?_
 refine R1_storeS (one_of rfl) (.inl rfl) rfl rfl (hS.ext hE10) (by simp) ?_
 intro w11 hS11 hC11 hs11
 have hk11:Kp w10 w11:=kp_ch (hS.ext hE10) (by
  intro q z hq
  have:q = 0 ∨ q = 1 ∨ q = 2 ∨ q = 3 ∨ 4≤q:=by omega
  rcases this with rfl | rfl | rfl | rfl | hq4
  · cases hq
  · cases hq
  · cases hq
  · cases hq
  · rw [Array.getElem?_eq_none (by simpa using hq4)] at hq; cases hq) hC11
 have hS11:Blk w11 gS 80 #[.slice (some ⟨gM,0,none⟩) (n + 1) (n + 1),.slice (some ⟨gL,0,none⟩) n n,.slice (some ⟨gB,0,none⟩) n n,.nilFunc]:=hS11
 refine gh ?_
 refine R1_func1 (v:=.pointer (some ⟨gS,0,none⟩)) rfl ?_
 refine gh ?_
 refine R1_fieldAddr fa_St3 rfl ?_
 refine gh ?_
 refine R1_store1 (v:=.func (.func 101) #[.pointer (some ⟨gS,0,none⟩)] #[]) one_fn (.inl rfl) rfl rfl rfl hS11 (by simp) ?_
 intro w12 hS12 hC12 hs12
 have hS12:Blk w12 gS 80 #[.slice (some ⟨gM,0,none⟩) (n + 1) (n + 1),.slice (some ⟨gL,0,none⟩) n n,.slice (some ⟨gB,0,none⟩) n n,.func (.func 101) #[.pointer (some ⟨gS,0,none⟩)] #[]]:=hS12
 have hk12:Kp w11 w12:=kp_ch hS11 (by
  intro q z hq
  have:q = 0 ∨ q = 1 ∨ q = 2 ∨ q = 3 ∨ 4≤q:=by omega
  rcases this with rfl | rfl | rfl | rfl | hq4
  · cases hq
  · cases hq
  · cases hq
  · cases hq
  · rw [Array.getElem?_eq_none (by simpa using hq4)] at hq; cases hq) hC12
 have hCC:=hC11.trans hC12
 have hkk:=hk11.trans hk12
 have hdM:gM ≠ gL:=hne
 refine gh ?_
 have hs910:=hE10.size
 refine ret1 (v:=.pointer _) rfl rfl ⟨hCC.ext_of (hE2.trans (hX.trans hE10)) (fun b hb=>by omega),⟨gS,gM,gL,gB,gl,gb⟩,rfl,⟨hdS.1,hdS.2,by show gS ≠ gB; omega,hdM,by show gM ≠ gB; omega,by show gL ≠ gB; omega,fun i hi=>?_,fun i hi=>?_,fun i j hi hj=>?_,hinj⟩,fun b hb=>?_,?_⟩
 · have h1:=(hrb i hi).2
   have h2:=l4 i hi
   show gl i ≠ gS∧gl i ≠ gM∧gl i ≠ gL∧gl i ≠ gB
   omega
 · have h1:=hgb i hi
   have h2:=hWB.ne i hi
   show gb i ≠ gS∧gb i ≠ gM∧gb i ≠ gL∧gb i ≠ gB
   omega
 · have h1:=l4 i hi
   have h2:=hgb j hj
   show gl i ≠ gb j
   omega
 · have h8:w.heap.size≤w8.heap.size:=by omega
   have h9:w.heap.size≤w9.heap.size:=by omega
   rcases hb with h | h | h | h | ⟨i,hi,h | h⟩
   · rw [h]; exact hge.2.2
   · rw [h]; exact hge.1
   · rw [h]; exact hge.2.1
   · rw [h]; show w.heap.size≤gB; omega
   · rw [h]; have:=(hrb i hi).2; show w.heap.size≤gl i; omega
   · rw [h]; have:=hgb i hi; show w.heap.size≤gb i; omega
 · refine ⟨hS12,(hM.ext hE10).kp hkk hCC hdS.1.symm,(hL.ext hE10).ch hCC hdS.2.symm,fun i hi=>((hrb i hi).1.ext hE10).kp hkk hCC ?_,hWB.kp hkk hCC ?_ fun i hi=>?_⟩
   · have:=(hrb i hi).2; show ¬ gl i = gS; omega
   · show ¬ gB = gS; omega
   · have:=hgb i hi; show ¬ gb i = gS; omega
end Go.Proofs.YtmkbpjoihdfpkaaGreat
