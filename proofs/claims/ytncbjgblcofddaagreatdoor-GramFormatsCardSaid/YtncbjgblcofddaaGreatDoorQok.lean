/- Joined: Nea. -/
import Derived.Test.YtncbjgblcofddaaGreatDoorQoj
import Derived.Test.YtncbjgblcofddaaGreatDoorQnj
import Derived.Test.YtncbjgblcofddaaGreatDoorQf
/- quadformlaw07.large,near. -/
namespace Go.Proofs.YtncbjgblcofddaaGreatDoor
open Go Go.Eng Go.Num Go.Proofs
open Go.Det (det)
def Sm7 (r:Nat) (len:Nat→Nat) (L:Nat→Nat→Nat):Prop:=r≤100∧∀ i,i < r→len i≤100∧∀ j,j < len i→L i j≤100
set_option maxHeartbeats 8000000 in
theorem large7_ok (v:Value) (r:Nat) (len:Nat→Nat) (M:Nat→Nat→Int) (L:Nat→Nat→Nat) (w:World) (h:MatL w v r len M L) :
 Meets Tryz.prog 15 #[v] w fun u w'=>w = w'∧∃ b,u = .bool b∧(b = false→Sm7 r len L):=by
 obtain ⟨A,cap,rfl,hrc,hcap,hr47,hrow⟩:=h
 refine fn_W (n:=51) Tryz.func15 rfl rfl (by kernel_rfl) (by simp) ?_
 refine gh ?_
 refine W_seqM (fun f w'=>w = w'∧∃ n,f 3 = .int .i64 ((n:Nat):Int)∧(n≤100→Sm7 r len L)) ?_ ?_
 · refine gh ?_
   refine W_loop (fun m f w'=>w = w'∧∃ i n,m = r - i∧i≤r∧f 0 = .slice A r cap∧f 3 = .int .i64 ((n:Nat):Int)∧f 4 = .int .i64 ((i:Nat):Int)∧r≤n∧n≤281474976710656∧(n < 1000→∀ k,k < i→len k≤n∧∀ j,j < len k→L k j≤n))
    r ⟨rfl,0,r,rfl,Nat.zero_le _,rfl,rfl,rfl,Nat.le_refl _,by omega,fun _ k hk=>absurd hk (by omega)⟩ ?_
   rintro m f w' ⟨rfl,i,n,rfl,hi,hf0,hf3,hf4,hrn,hn,hk⟩
   rw [ui hf0,ui hf3,ui hf4]
   clear hf0 hf3 hf4
   refine W_seq ?_
   by_cases hlt:i < r
   · by_cases hn1:n < 1000
     · obtain ⟨ad,u,rfl,hu,hru⟩:=hrow i hlt
       obtain ⟨Ai,capi,rfl,hci,hcapi,hc47,hent⟩:=hru
       refine gh ?_
       refine W_loop (fun m f w'=>w = w'∧∃ j q,m = len i - j∧j≤len i∧f 0 = .slice (some ad) r cap∧f 3 = .int .i64 ((q:Nat):Int)∧f 4 = .int .i64 ((i:Nat):Int)∧f 5 = .int .i64 ((j:Nat):Int)∧n + len i≤q∧q≤281474976710656∧(q < 1000→∀ t,t < j→L i t≤q))
        (len i) ⟨rfl,0,n + len i,rfl,Nat.zero_le _,rfl,rfl,rfl,rfl,Nat.le_refl _,by omega,fun _ t ht=>absurd ht (by omega)⟩ ?_
       rintro m f w' ⟨rfl,j,q,rfl,hj,hf0,hf3,hf4,hf5,hnq,hq,hkj⟩
       rw [ui hf0,ui hf3,ui hf4,ui hf5]
       clear hf0 hf3 hf4 hf5
       refine W_seq ?_
       by_cases hjl:j < len i
       · by_cases hq1:q < 1000
         · obtain ⟨ad2,x,y,rfl,hx,hy,neg,B,l,c,rfl,rfl,hlc,hcc,hM,hll,hl47,_⟩:=hent j hjl
           have hy':w.cell? ((ad2.add (j * 2)).add 1) = some (.slice B l.length c):=hy
           refine gh ?_
           refine R1_fieldAddrG fa_Int1 rfl ?_
           refine gh ?_
           refine ⟨_,?_,rfl,j + 1,q + l.length,rfl,by omega,rfl,rfl,rfl,rfl,by omega,by omega,fun h t ht=>?_⟩
           · omega
           · by_cases e:t = j
             · subst e; omega
             · have:=hkj (by omega) t (by omega); omega
         · refine gh ?_
           refine ⟨_,?_,rfl,i + 1,q,rfl,by omega,rfl,rfl,rfl,by omega,hq,fun h=>absurd h hq1⟩
           omega
       · refine gh ?_
         refine ⟨_,?_,rfl,i + 1,q,rfl,by omega,rfl,rfl,rfl,by omega,hq,fun h k hk'=>?_⟩
         · omega
         · by_cases e:k = i
           · subst e
             exact ⟨by omega,fun t ht=>hkj h t (by omega)⟩
           · have:=hk hn1 k (by omega)
             exact ⟨by omega,fun t ht=>by have:=this.2 t ht; omega⟩
     · refine gh ?_
       exact ⟨rfl,n,rfl,fun h=>by omega⟩
   · refine gh ?_
     refine ⟨rfl,n,rfl,fun h=>⟨by omega,fun k hk'=>?_⟩⟩
     have:=hk (by omega) k (by omega)
     exact ⟨by omega,fun j hj=>by have:=this.2 j hj; omega⟩
 · rintro f w' ⟨rfl,n,hf3,hn⟩
   rw [ui hf3]
   clear hf3
   refine gh ?_
   refine ret1 (v:=.bool _) rfl rfl ⟨rfl,_,rfl,fun hb=>hn ?_⟩
   have:¬ (100 < n):=by simpa using hb
   omega
theorem Sm7.e {w:World} {v:Value} {r:Nat} {len:Nat→Nat} {M:Nat→Nat→Int} {L:Nat→Nat→Nat} (h:Sm7 r len L) (hm:MatL w v r len M L):MatE (EI 100) w v r len M:=hm.e fun i hi j hj=>(h.2 i hi).2 j hj
theorem R1_rem_i8 {n:Nat} {S:World→World→Prop} {k:Nat} {K:Fr→World→Prop} {f:Fr} {w:World} {d ty t t2:Nat} {x y:Operand} {pos:String} {aft:Array Edge} {g:Option (Nat × Bool)} {a b:Int} (hx:ev n f x = .int .i8 a) (hy:ev n f y = .int .i8 b) (hb:b ≠ 0) (h:K (upd f d (.int .i8 (a.tmod b))) w):R1 Tryz.prog n S k ⟨some d,.binOp .rem t x y t2,ty,pos,aft,g⟩ K f w:=by
 refine R1_bin hx hy (fun _=>by simp [eqGuard,go_sem]) (fun _=>?_) h
 simp only [binOp,Op.intDiv,ne_eq,not_true_eq_false,if_false,hb]; rfl
theorem tmod3 (a:Int):-2≤a.tmod 3∧a.tmod 3≤2:=by
 have h1:=Int.tmod_lt_of_pos a (show (0:Int) < 3 by decide)
 have h2:-3 < a.tmod 3:=by
  have:=Int.tmod_lt_of_pos (-a) (show (0:Int) < 3 by decide)
  rw [Int.neg_tmod] at this
  omega
 omega
def RNe (w:World) (n:Nat) (v:Value) (w':World):Prop :=
 Ext w w'∧∃ gO gs M,v = .slice (some ⟨gO,0,none⟩) n n∧w.heap.size≤gO∧(∀ i,i < n→w.heap.size≤gs i)∧OMat w' gO gs n n M∧∀ i j,i < n→j < n→Bd 6 (M i j)
set_option maxHeartbeats 16000000 in
theorem near_ok (v:Value) (dm kd q m:Nat) (ns ms:Nat→Int) (at':Nat) (c:Int) (w:World) (h:LatV w v dm kd q ns m ms) (hat:at' < 256) :
 Meets Tryz.prog 17 #[v,.int .u8 ((at':Nat):Int),.int .i8 c] w (RNe w (1 + dm % 4)):=by
 obtain ⟨A,cap,A',cap',rfl,hd,hk,hc,hc',hN,hN'⟩:=h
 have hL:=LatV.agg hd hk hc hc' hN hN'
 refine fn_W (n:=57) Tryz.func17 rfl rfl (by kernel_rfl) (by simp) ?_
 have hdm:=Nat.mod_lt dm (show 0 < 4 by decide)
 obtain ⟨z1,z2⟩:=tmod3 c
 have hX:Ext w w:=Ext.refl w
 refine gh ?_
 refine R1_box (v:=.agg _) (.inl rfl) rfl ?_
 intro w_1 hB0_ hE_ hs_
 have hX1:Blk w_1 w.heap.size 25 #[.int .u8 ((dm:Nat):Int),.int .u8 ((kd:Nat):Int),.slice A q cap,.slice A' m cap']:=hB0_
 obtain ⟨gX,hg_⟩ : ∃ g,g = w.heap.size:=⟨_,rfl⟩
 rw [← hg_] at hX1 ⊢
 have hfr_gX:w.heap.size≤gX:=by have:=hX.size; omega
 replace hX:=hX.trans hE_
 clear hB0_ hs_ hg_ hE_
 obtain ⟨x0,x1,x2,x3⟩:=blkQ hX1
 refine gh ?_
 refine R1_load4F (by decide) agg_Lat rfl x0 x1 x2 x3 ?_
 clear x0 x1 x2 x3
 have hsz:=hX.size
 refine gh ?_
 refine R1_call2 (latRaw_ok _ dm kd q m 4 ns ms w_1 (hL w_1 hX) (by decide) (by decide)) ?_
 rintro _ w_2 ⟨hE_,gA,gs,M,rfl,hgA,hgsA,hO,h0,hdet,bM⟩
 replace hX1:=hX1.ext hE_
 replace hX:=hX.trans hE_
 clear hE_
 obtain ⟨n,hn⟩ : ∃ n,n = 1 + dm % 4:=⟨_,rfl⟩
 rw [← hn] at hO h0 hdet bM hgsA ⊢
 have hn1:1≤n:=by omega
 have hn8:n≤4:=by omega
 have hWM:=(hO.wm true (N:=5) bM).congr (bn':=fun _ _=>6) (fun _ _ _ _=>⟨by decide,rfl⟩)
 clear hO
 have hgsW:∀ i,i < n→w.heap.size≤gs i:=fun i hi=>by have:=hgsA i hi; have:=hX1.lt; omega
 refine gh ?_
 refine gh ?_
 refine W_seqD [(0,3),(1,3),(2,3),(3,3),(4,3),(5,3),(6,3),(7,3),(8,3),(9,3),(10,3),(11,3),(12,3)] mixed (by kernel_rfl) (fun w_3 hE_ _=>?_)
 replace hX1:=hX1.ext hE_
 replace hWM:=hWM.ext hE_
 replace hX:=hX.trans hE_
 clear hE_
 refine gh ?_
 refine R1_rem_i64 rfl rfl (by omega) ?_
 refine gh ?_
 refine R1_quo_i64_c rfl (by omega) (by decide) ?_
 refine gh ?_
 refine R1_rem_i64 rfl rfl (by omega) ?_
 obtain ⟨i,hi⟩ : ∃ i,i = at' % n:=⟨_,rfl⟩
 obtain ⟨j,hj⟩ : ∃ j,j = at' / 16 % n:=⟨_,rfl⟩
 have hin:i < n:=by rw [hi]; exact Nat.mod_lt _ (by omega)
 have hjn:j < n:=by rw [hj]; exact Nat.mod_lt _ (by omega)
 rw [← hi]
 refine gh ?_
 rw [← hj]
 refine gh ?_
 refine W_seqD [(0,3),(1,3),(2,3),(3,0),(4,3),(5,3),(6,3),(7,3),(8,0),(9,3),(10,3),(11,0),(12,3),(13,3),(14,3),(15,1),(16,1),(17,3),(18,2)] mixed (by kernel_rfl) (fun w_4 hE_ _=>?_)
 replace hX1:=hX1.ext hE_
 replace hWM:=hWM.ext hE_
 replace hX:=hX.trans hE_
 clear hE_
 have r1:=hWM.at hin
 obtain ⟨x1,y1,e1,e2,hE1⟩:=(hWM.row i hin).at hjn
 refine gh ?_
 refine R1_rem_i8 (b:=3) rfl rfl (by decide) ?_
 refine gh ?_
 refine R1_conv (by unfold TyD; exact Tryz.underlying26) (by unfold TyD; exact Tryz.underlying2) rfl (wrap_i64 (a:=c.tmod 3) (by omega) (by omega)) ?_
 refine gh ?_
 refine R1_call1 (rsmall_ok (c.tmod 3) w_4 (by omega) (by omega)) ?_
 rintro _ v1 ⟨hv1,tx,ty,rfl,hct⟩
 refine ⟨hv1,?_⟩
 refine gh ?_
 have b3:Bd 5 (c.tmod 3):=by unfold Bd; exact Nat.lt_of_le_of_lt (show (c.tmod 3).natAbs≤2 by omega) (by decide)
 refine R1_call1 (radd_ok _ _ _ _ (M i j) (c.tmod 3) 5 v1 (((hE1.2 rfl).ext hv1).iv (bM i j hin hjn)) (hct.iv b3) (by decide)) ?_
 rintro _ v2 ⟨hv2,sx,sy,rfl,hcs⟩
 refine ⟨hv2,?_⟩
 have bS:Bd 6 (M i j + c.tmod 3):=Bd.add (bM i j hin hjn) b3
 have hW2:=(hWM.ext hv1).ext hv2
 have hX2:=(hX.trans hv1).trans hv2
 clear hX hWM e1 e2 hE1 r1
 refine gh ?_
 refine R1_storeE (.inl rfl) rfl rfl (hW2.row i hin) hjn (hcs.ev true bS) ?_
 intro v3 hr3 hC3 hk3 hs3
 have hW3:=hW2.put hin hr3 hC3 hk3
 have hgi:=hgsW i hin
 have hX3:=hC3.ext_of hX2 (fun b e=>by omega)
 have hb3:∀ a b,a < n→b < n→Bd 6 (set2 M i j (M i j + c.tmod 3) a b):=fun a b ha hb=>by
  simp only [set2]
  split
  · exact bS
  · exact (bM a b ha hb).mono (by decide)
 have hn3:∀ (k:Nat),(set2 (fun _ _=>6) i j 6:Nat→Nat→Nat) = fun _ _=>6:=fun _=>by
  funext a b; simp only [set2]; split <;> rfl
 rw [hn3 0] at hW3
 obtain ⟨M',hM'⟩ : ∃ M',M' = set2 M i j (M i j + c.tmod 3):=⟨_,rfl⟩
 rw [← hM'] at hW3 hb3
 clear hr3 hW2 hX2
 refine gh ?_
 refine W_seq ?_
 by_cases h128:128≤at'
 rotate_left
 · refine gh ?_
   refine R1_geq_u8_c rfl ?_
   refine gh ?_
   exact ret1 rfl rfl ⟨hX3,gA,gs,M',rfl,by omega,hgsW,hW3.o,hb3⟩
 refine gh ?_
 refine R1_geq_u8_c rfl ?_
 refine gh ?_
 refine W_regD [(0,3),(1,3),(2,3),(3,0),(4,3),(5,3),(6,3),(7,3),(8,0),(9,3),(10,3),(11,0),(12,3),(13,2)] mixed (by kernel_rfl) (fun v4 hE4 _=>?_)
 replace hW3:=hW3.ext hE4
 have r1:=hW3.at hin
 have r2:=hW3.at hjn
 obtain ⟨x1,y1,e1,e2,hE1⟩:=(hW3.row i hin).at hjn
 refine gh ?_
 refine R1_storeE (.inl rfl) rfl rfl (hW3.row j hjn) hin hE1 ?_
 intro v5 hr5 hC5 hk5 hs5
 have hW5:=hW3.put hjn hr5 hC5 hk5
 have hgj:=hgsW j hjn
 have hX5:=hC5.ext_of (hX3.trans hE4) (fun b e=>by omega)
 refine gh ?_
 refine ret1 rfl rfl ⟨hX5,gA,gs,_,rfl,by omega,hgsW,hW5.o,fun a b ha hb=>?_⟩
 simp only [set2]
 split
 · exact hb3 i j hin hjn
 · exact hb3 a b ha hb
end Go.Proofs.YtncbjgblcofddaaGreatDoor
