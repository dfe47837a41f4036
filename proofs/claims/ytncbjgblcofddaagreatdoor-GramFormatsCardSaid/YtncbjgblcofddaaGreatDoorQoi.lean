/- Joined: Gpp, Dua, Gpl. -/
import Derived.Test.YtncbjgblcofddaaGreatDoorQoh
import Derived.Test.YtncbjgblcofddaaGreatDoorQnh
import Derived.Test.YtncbjgblcofddaaGreatDoorQm
import Derived.Test.YtncbjgblcofddaaGreatDoorQzd
/- gram.Parse. -/
namespace Go.Proofs.YtncbjgblcofddaaGreatDoor
open Go Go.Eng Go.Num Go.Dig Go.Proofs
theorem agg_Rd:aggTy Tryz.prog 111 2 = true:=by kernel_rfl
theorem z_Rd:ZeroTy Tryz.prog 111 (.agg #[.string ByteArray.empty,.int .i64 0]):=by unfold ZeroTy; kernel_rfl
theorem zero_Rd (w:World):(zeroValue 111).run Tryz.prog w = .ok (.agg #[.string ByteArray.empty,.int .i64 0]) w:=Tryz.zeroValue111 w
theorem R1_bldRd {n:Nat} {S:World→World→Prop} {k:Nat} {K:Fr→World→Prop} {f:Fr} {w:World} {d ty:Nat} {x:Operand} {pos:String} {aft:Array Edge} {gd:Option (Nat × Bool)} {s:List UInt8} (hx:ev n f x = Tx s) (h:K (upd f d (.agg #[Tx s,.int .i64 ((0:Nat):Int)])) w) :
 R1 Tryz.prog n S k ⟨some d,.build 111 #[(0,x)],ty,pos,aft,gd⟩ K f w:=by
 refine R1_pure (v:=.agg #[Tx s,.int .i64 ((0:Nat):Int)]) (fun w=>?_) h
 simp [execOp,hx,Instr.build,run_underlying Tryz.underlying111,Instr.fill,Value.cells,size_one one_str]
theorem R1_mkNx {n:Nat} {S:World→World→Prop} {k:Nat} {K:Fr→World→Prop} {f:Fr} {w:World} {d ty b:Nat} {x:Operand} {pos:String} {aft:Array Edge} {gd:Option (Nat × Bool)} (hx:ev n f x = .pointer (some ⟨b,0,none⟩)) (h:K (upd f d (nxF b)) w) :
 R1 Tryz.prog n S k ⟨some d,.makeFunc (.func 82) #[x] #[],ty,pos,aft,gd⟩ K f w :=
 R1_pure (v:=nxF b) (fun _=>by simp [execOp,Instr.makeFunc,hx,nxF]) h
def gpR (w:World) (ws:List (List UInt8)) (v:Value) (w':World):Prop :=
 (perr ws ≠ 0∧v = .tuple #[.slice none 0 0,.int .i64 ((2:Nat):Int),.int .i64 ((perr ws:Nat):Int)]) ∨
 (perr ws = 0∧∃ n,n = dimT (ws.getD 0 [])∧1≤n∧n≤8∧(∀ i j,i < n→j < n→Bd 209 (matT ws i j)) ∧
  ((valE n (fun _=>n) (matT ws) = 0∧∃ gO gs,v = .tuple #[.slice (some ⟨gO,0,none⟩) n n,.int .i64 ((0:Nat):Int),.int .i64 ((0:Nat):Int)]∧w.heap.size≤gO∧(∀ i,i < n→w.heap.size≤gs i)∧OMat w' gO gs n n (matT ws)) ∨
   (valE n (fun _=>n) (matT ws) ≠ 0∧v = .tuple #[.slice none 0 0,.int .i64 ((5:Nat):Int),.int .i64 ((0:Nat):Int)])))
set_option maxHeartbeats 16000000 in
theorem gparse_ok (s:List UInt8) (w:World) (hm:ML w) (hs:s.length < 4294967281) :
 Meets Tryz.prog 27 #[Tx s] w fun v w'=>Ext w w'∧gpR w (wd 10 s) v w':=by
 refine fn_W (n:=35) Tryz.func27 rfl rfl (by kernel_rfl) (by simp) ?_
 refine gb ?_
 refine R1_bldRd rfl ?_
 refine gb ?_
 refine R1_alloc (.inl rfl) z_Rd ?_
 intro w1 hB1 hE1 hs1
 rw [show (Value.agg #[.string ByteArray.empty,.int .i64 0]).cells = #[.string ByteArray.empty,.int .i64 0] from by simp [Value.cells]] at hB1
 obtain ⟨b,hb⟩ : ∃ b,b = w.heap.size:=⟨_,rfl⟩
 rw [← hb] at hB1 ⊢
 refine gb ?_
 refine R1_store2 agg_Rd (.inl rfl) rfl rfl rfl rfl hB1 (by simp) ?_
 intro w2 hB2 hC2 hs2
 rw [pair_set'] at hB2
 have hX2:=hC2.ext_of hE1 (fun q e=>by omega)
 have hR2:RdB w2 b (wd 10 s) 0 s.length:=⟨s,hB2,rfl,Nat.le_refl _⟩
 refine gb ?_
 refine R1_mkNx rfl ?_
 refine gb ?_
 refine R1_call2 (parseLines_ok b s.length (wd 10 s) w2 (hm.ext hX2) hR2 hs) ?_
 rintro _ w3 ⟨hC3,⟨hpl,rfl,ws',hR3⟩ | ⟨hpl,gO,gs,n,hn,hn1,hn8,rfl,hgO,hgs,hOM,hbd,hR3⟩⟩
 · have hX3:=hC3.ext_of hX2 (fun q e=>by omega)
   have hpe:perr (wd 10 s) = plE (wd 10 s):=by
    unfold perr
    unfold plE at hpl ⊢
    split
    · rename_i hc
      rw [if_pos hc] at hpl
      rw [if_pos hpl]
    · rfl
   obtain ⟨rest,hb3,_⟩:=hR3
   have c1:w3.cell? ⟨b,0 + 1,none⟩ = some (.int .i64 ((plE (wd 10 s):Nat):Int)):=by rw [hb3.cell]; rfl
   refine gb ?_
   refine W_seq ?_
   refine gb ?_
   refine W_seqD [(0,3),(1,0),(2,3),(3,3),(4,3)] mixed (by kernel_rfl) (fun w4 hE4 _=>?_)
   replace c1:=cell_ext hE4 c1
   refine gb ?_
   exact ret3 (v:=.slice none 0 0) (v':=.int .i64 ((2:Nat):Int)) (v'':=.int .i64 ((plE (wd 10 s):Nat):Int)) rfl rfl rfl rfl ⟨hX3.trans hE4,.inl ⟨by rw [hpe]; exact hpl,by rw [hpe]⟩⟩
 · have hX3:=hC3.ext_of hX2 (fun q e=>by omega)
   have hws1:1 < (wd 10 s).length∧okHd ((wd 10 s).getD 0 []):=by
    by_cases h:1 < (wd 10 s).length∧okHd ((wd 10 s).getD 0 [])
    · exact h
    · unfold plE at hpl
      rw [if_neg h] at hpl
      cases hpl
   have hpe:perr (wd 10 s) = if (wd 10 s).drop (n + 1) = [[]] then 0 else n + 2:=by
    unfold perr
    unfold plE at hpl
    rw [if_pos hws1] at hpl ⊢
    rw [if_neg (fun h=>h hpl),← hn]
   obtain ⟨rest,hb3,hwr,_⟩:=hR3
   have c0:w3.cell? ⟨b,0 + 0,none⟩ = some (Tx rest):=by rw [hb3.cell]; rfl
   have c1:w3.cell? ⟨b,0 + 1,none⟩ = some (.int .i64 ((n + 1:Nat):Int)):=by rw [hb3.cell]; rfl
   by_cases hrest:rest = []
   rotate_left
   · have hpe2:perr (wd 10 s) = n + 2:=by
      rw [hpe,if_neg]
      intro h
      rw [← hwr] at h
      exact hrest (wd_nil h)
     refine gb ?_
     refine W_seq ?_
     refine gb ?_
     refine R1_storeI (one_of rfl) (.inl rfl) rfl rfl hb3 (by simp) ?_
     intro w4 hb4 hC4 hs4
     have hX4:=hC4.ext_of hX3 (fun q e=>by omega)
     have c1:w4.cell? ⟨b,0 + 1,none⟩ = some (.int .i64 ((n + 1 + 1:Nat):Int)):=by rw [hb4.cell]; simp
     refine gb ?_
     refine W_seqD [(0,3),(1,0),(2,3),(3,3),(4,3)] mixed (by kernel_rfl) (fun w5 hE5 _=>?_)
     replace c1:=cell_ext hE5 c1
     refine gb ?_
     exact ret3 (v:=.slice none 0 0) (v':=.int .i64 ((2:Nat):Int)) (v'':=.int .i64 ((n + 1 + 1:Nat):Int)) rfl rfl rfl rfl ⟨hX4.trans hE5,.inl ⟨by rw [hpe2]; omega,by rw [hpe2]⟩⟩
   have hpe2:perr (wd 10 s) = 0:=by
    rw [hpe,if_pos]
    rw [← hwr,hrest]; rfl
   have hM:MatE (EI 209) w3 (.slice (some ⟨gO,0,none⟩) n n) n (fun _=>n) (matT (wd 10 s)):=hOM.read hbd (by omega) (by omega)
   subst hrest
   refine gb ?_
   refine W_seq ?_
   refine gb ?_
   rw [show (decide (¬ ([]:List UInt8) = [])) = false from rfl]
   refine gb ?_
   refine R1_call2 (definite_ok _ n 209 (fun _=>n) (matT (wd 10 s)) w3 hM (by decide) (by decide)) ?_
   rintro _ w4 ⟨hE4,d,rfl,hd⟩
   rw [okDef_df'] at hd
   have hok2:okS n (fun _=>n) = true:=okS_iff.2 ⟨hn1,by omega,fun _ _=>rfl⟩
   have hsym:∀ i j,i < n→j < i→matT (wd 10 s) i j = matT (wd 10 s) j i:=fun i j _ _=>by
    unfold matT
    rw [Nat.max_comm,Nat.min_comm]
   cases d
   · refine gb ?_
     refine ret3 (v:=.slice none 0 0) (v':=.int .i64 ((5:Nat):Int)) (v'':=.int .i64 ((0:Nat):Int)) rfl rfl rfl rfl ⟨hX3.trans hE4,.inr ⟨hpe2,n,hn,hn1,hn8,hbd,.inr ⟨?_,rfl⟩⟩⟩
     rw [valE_5 ⟨hok2,hn8⟩ hsym (fun h=>by cases hd.2 ⟨hok2,hsym,h⟩)]
     decide
   · refine gb ?_
     refine ret3 (v:=.slice (some ⟨gO,0,none⟩) n n) (v':=.int .i64 ((0:Nat):Int)) (v'':=.int .i64 ((0:Nat):Int)) rfl rfl rfl rfl ⟨hX3.trans hE4,.inr ⟨hpe2,n,hn,hn1,hn8,hbd,.inl ⟨?_,gO,gs,rfl,by have:=hX2.size; omega,fun i hi=>by have:=hX2.size; have:=hgs i hi; omega,hOM.ext hE4⟩⟩⟩
     rw [valE_0 ⟨hok2,hn8⟩ hsym (hd.1 rfl).2.2]
end Go.Proofs.YtncbjgblcofddaaGreatDoor
namespace Go.Proofs.YtncbjgblcofddaaGreatDoor
open Go Go.Eng Go.Num Go.Proofs
open Go.Det (det)
theorem retTCT {P:Program} {n:Nat} {f:Fr} {w:World} {fn:Func} {t u s:Tmp} {T G:Nat} {post:Value→World→Prop} {x y v v':Value} (hr:fn.results = #[.tmp t,.cell u T,.tmp s]) (hT:aggTy P T 2 = true) (ht:ev n f (.tmp t) = v) (hv:ev n f (.tmp u) = .pointer (some ⟨G,0,none⟩)) (hb:Blk w G T #[x,y]) (hs:ev n f (.tmp s) = v') (h:post (.tuple #[v,.agg #[x,y],v']) w) :
 bodyPost P fn (Ret post) .ret (act n f) w:=by
 refine bodyPost_ret (v:=.tuple #[v,.agg #[x,y],v']) ?_ rfl ⟨_,rfl,h⟩
 have e:=congrFun (act_eval n f) (.tmp t)
 have e2:=congrFun (act_eval n f) (.tmp u)
 have e3:=congrFun (act_eval n f) (.tmp s)
 simp only [Act.eval] at e e2 e3
 have h0:w.cell? ⟨G,0,none⟩ = some x:=by rw [hb.cell]; rfl
 have h1:w.cell? ((⟨G,0,none⟩ : Addr).add 1) = some y:=by rw [add_lit,hb.cell]; rfl
 have hl:=run_load_two (P:=P) hT h0 h1
 simp only [Instr.loadAt,Instr.sureAddr,Sem.run_bind,Sem.run_pure,Result.andThen_ok] at hl
 have e':(act n f).tmps[t]?.getD undef = v:=by rw [← ht,← e]; simp
 have e2':(act n f).tmps[u]?.getD undef = .pointer (some ⟨G,0,none⟩):=by rw [← hv,← e2]; simp
 have e3':(act n f).tmps[s]?.getD undef = v':=by rw [← hs,← e3]; simp
 simp [results,hr,e',e2',e3',asAddr,hl]
theorem OMat.kp {MM:Nat→Prop} {w w':World} {gO:Nat} {gs:Nat→Nat} {r c:Nat} {M:Nat→Nat→Int} (h:OMat w gO gs r c M) (hk:Kp w w') (hC:Ch MM w w') (hn:¬ MM gO) (hr:∀ i,i < r→¬ MM (gs i)):OMat w' gO gs r c M :=
 ⟨h.outer.ch hC hn,fun i hi=>by obtain ⟨hh,hb,hc⟩:=h.row i hi; exact ⟨hh,hb.ch hC (hr i hi),fun j hj=>(hc j hj).kp hk⟩,h.ne,h.inj⟩
theorem adjS_ok (v:Value) (r N:Nat) (M:Nat→Nat→Int) (w:World) (h:MatE (EI N) w v r (fun _=>r) M) (hN1:1≤N) (hN:N < 1048576) (h1:1≤r) (h2:r≤16) :
 Meets Tryz.prog 84 #[v] w fun v w'=>Ext w w'∧∃ gO gs,v = .tuple #[.slice (some ⟨gO,0,none⟩) r r,.bool true]∧w.heap.size≤gO∧(∀ i,i < r→w.heap.size≤gs i)∧OMat w' gO gs r r (adjF r M) :=
 (adjugateX_ok v r N _ M w h hN1 hN).mono fun _ _ h=>by
  obtain ⟨u,rfl,hE,gO,gs,rfl,ha,hb,hO⟩:=h.get (okS_const h1 h2)
  exact ⟨hE,gO,gs,rfl,ha,hb,hO⟩
def RDu (w:World) (e r:Nat) (A:Nat→Nat→Int) (d:Int) (v:Value) (w':World):Prop :=
 Ext w w'∧∃ u x y,v = .tuple #[u,.agg #[x,y],.int .i64 ((e:Nat):Int)]∧CV w' x y (if e = 0 then d else 0) ∧
  ((e ≠ 0∧u = .slice none 0 0) ∨ (e = 0∧∃ gO gs,u = .slice (some ⟨gO,0,none⟩) r r∧w.heap.size≤gO∧(∀ i,i < r→w.heap.size≤gs i)∧OMat w' gO gs r r A))
set_option maxHeartbeats 16000000 in
theorem gdual_ok (va:Value) (r N:Nat) (len:Nat→Nat) (M:Nat→Nat→Int) (w:World) (ha:MatE (EI N) w va r len M) (hN1:1≤N) (hN:N < 1048576) :
 Meets Tryz.prog 30 #[va] w (RDu w (valE r len M) r (adjF r M) (det r M)):=by
 refine fn_W (n:=25) Tryz.func30 rfl rfl (by kernel_rfl) (by simp) ?_
 have ha0:=ha
 have hX:Ext w w:=Ext.refl w
 refine gg ?_
 refine gg ?_
 refine R1_alloc (.inl rfl) z_Int ?_
 intro w_1 hB0_ hE_ hs_
 have hR:=Bx.zero (N:=1) true hB0_
 obtain ⟨gR,hg_⟩ : ∃ g,g = w.heap.size:=⟨_,rfl⟩
 rw [← hg_] at hR ⊢
 have hfr_gR:w.heap.size≤gR:=by have:=hX.size; omega
 replace ha:=ha.ext hE_
 replace hX:=hX.trans hE_
 clear hB0_ hs_ hg_ hE_
 refine gg ?_
 refine gg ?_
 refine R1_call2 (gdet_ok va r N len M w_1 ha hN1 hN) ?_
 rintro _ w_2 ⟨hE_,x,y,rfl,hcv⟩
 replace ha:=ha.ext hE_
 replace hR:=hR.ext hE_
 replace hX:=hX.trans hE_
 clear hE_
 have h5:=valE_le r len M
 refine gg ?_
 refine gg ?_
 refine R1_alloc (.inl rfl) z_Int ?_
 intro w_3 hB0_ hE_ hs_
 have hD:=Bx.zero (N:=1) true hB0_
 obtain ⟨gD,hg_⟩ : ∃ g,g = w_2.heap.size:=⟨_,rfl⟩
 rw [← hg_] at hD ⊢
 have hfr_gD:w.heap.size≤gD:=by have:=hX.size; omega
 have hne_gD_gR:gD ≠ gR:=by have:=hR.lt; omega
 replace ha:=ha.ext hE_
 replace hR:=hR.ext hE_
 replace hcv:=hcv.ext hE_
 replace hX:=hX.trans hE_
 clear hB0_ hs_ hg_ hE_
 by_cases h0:valE r len M = 0
 rotate_left
 · rw [if_neg h0] at hcv
   refine gg ?_
   refine gg ?_
   refine R1_storeBx (by first | exact .inl rfl | exact .inr ⟨rfl,fun _ h=>h.mono fun b _ e=>by omega⟩) rfl rfl hD (hcv.ev true (Bd.zero 1)) ?_
   intro w_4 hD hC_ hk_ hs_
   clear ha
   replace hR:=hR.kp hk_ hC_ (by first | omega | assumption)
   replace hcv:=hcv.kp hk_
   replace hX:=hC_.ext_of hX (fun b hb=>by omega)
   clear hC_ hk_ hs_
   refine gg ?_
   refine W_seq ?_
   refine gg ?_
   refine R1_bld0 b0_Int ?_
   refine gg ?_
   refine gg ?_
   refine R1_storeBx (by first | exact .inl rfl | exact .inr ⟨rfl,fun _ h=>h.mono fun b _ e=>by omega⟩) rfl rfl hR ((CV.zero w_4).ev true (Bd.zero 1)) ?_
   intro w_5 hR hC_ hk_ hs_
   replace hcv:=hcv.kp hk_
   replace hD:=hD.kp hk_ hC_ (by first | omega | assumption)
   replace hX:=hC_.ext_of hX (fun b hb=>by omega)
   clear hC_ hk_ hs_
   obtain ⟨u,v,hU,hV⟩:=hR
   refine gg ?_
   refine retTCT (v:=.slice none 0 0) (v':=.int _ _) rfl agg_Int rfl rfl hU rfl ⟨hX,_,u,v,rfl,?_,.inl ⟨h0,rfl⟩⟩
   rw [if_neg h0]; exact hV.2 rfl
 rw [if_pos h0] at hcv
 obtain ⟨hok,h8,_⟩:=valE_zero.1 h0
 obtain ⟨hr1,hr2,hlen⟩:=okS_iff.1 hok
 have hbd:Bd (Nb N r) (det r M):=by rw [← detB_det]; exact detB_bd hN1 fun i j hi hj=>(ha0.sq hlen).bd hi hj
 refine gg ?_
 refine gg ?_
 refine R1_storeBx (by first | exact .inl rfl | exact .inr ⟨rfl,fun _ h=>h.mono fun b _ e=>by omega⟩) rfl rfl hD (hcv.ev true hbd) ?_
 intro w_6 hD hC_ hk_ hs_
 clear ha
 replace hR:=hR.kp hk_ hC_ (by first | omega | assumption)
 replace hcv:=hcv.kp hk_
 replace hX:=hC_.ext_of hX (fun b hb=>by omega)
 clear hC_ hk_ hs_
 rw [h0]
 refine gg ?_
 refine W_seq ?_
 refine gg ?_
 have hsz:=hX.size
 have hRl:=hR.lt
 refine gg ?_
 refine R1_call2 (adjS_ok _ r N M w_6 ((ha0.sq hlen).ext hX) hN1 hN hr1 hr2) ?_
 rintro _ w_7 ⟨hE_,gO,gs,rfl,hgO,hgs,hO⟩
 replace hR:=hR.ext hE_
 replace hcv:=hcv.ext hE_
 replace hD:=hD.ext hE_
 replace hX:=hX.trans hE_
 clear hE_
 refine gg ?_
 refine gg ?_
 refine W_seqD [(0,3),(1,0),(2,3),(3,2),(4,3)] mixed (by kernel_rfl) (fun w_8 hE_ _=>?_)
 replace hR:=hR.ext hE_
 replace hcv:=hcv.ext hE_
 replace hD:=hD.ext hE_
 replace hO:=hO.ext hE_
 replace hX:=hX.trans hE_
 clear hE_
 obtain ⟨hD_u,hD_v,hD_B,hD_V⟩:=id hD
 obtain ⟨hD_0,hD_1⟩:=blkP hD_B
 refine gg ?_
 refine R1_storeBx (.inl rfl) rfl rfl hR hD_V ?_
 intro w9 hR9 hC9 hk9 hs9
 have hO9:=hO.kp hk9 hC9 (by omega) (fun i hi=>by have:=hgs i hi; omega)
 have hX9:=hC9.ext_of hX (fun q e=>by omega)
 obtain ⟨u,v,hU,hV⟩:=hR9
 refine gg ?_
 refine retTCT (v:=.slice (some ⟨gO,0,none⟩) r r) (v':=.int .i64 ((0:Nat):Int)) rfl agg_Int rfl rfl hU rfl ⟨hX9,_,u,v,rfl,?_,.inr ⟨rfl,gO,gs,rfl,by omega,fun i hi=>by have:=hgs i hi; omega,hO9⟩⟩
 rw [if_pos rfl]; exact hV.2 rfl
end Go.Proofs.YtncbjgblcofddaaGreatDoor
