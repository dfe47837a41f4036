/- Joined: Rqd, Rlr, Rls, Ver, Law. -/
import Derived.Test.YtncbjgblcofddaaGreatDoorQzc
import Derived.Test.YtncbjgblcofddaaGreatDoorQna
import Derived.Test.YtncbjgblcofddaaGreatDoorQnd
import Derived.Test.YtncbjgblcofddaaGreatDoorQnh
import Derived.Test.YtncbjgblcofddaaGreatDoorQn
import Derived.Test.YtncbjgblcofddaaGreatDoorQni
/- quadformref02: Quotient,Half,Floor,Nearest. -/
namespace Go.Proofs.YtncbjgblcofddaaGreatDoor
open Go Go.Eng Go.Num Go.Proofs
open Go.Det (gr bm det Sy PM Red one)
theorem gr_bd2 {n N:Nat} {G T:Nat→Nat→Int} (hn:n≤16) (bG:∀ i j,i < n→j < n→Bd N (G i j)) (bT:∀ i j,i < n→j < n→Bd N (T i j)):∀ i j,i < n→j < n→Bd (3 * N + 2) (gr n (fun i j=>T j i) G i j):=by
 intro i j hi hj
 rw [← gr_mulM2]
 have h1:∀ i j,i < n→j < n→Bd (N + N + 1) (mulM n (fun i j=>T j i) G i j):=fun i j hi hj=>sumTo_bd (N:=N + N) (by omega) fun t ht=>(bT t i ht hi).mul (bG t j ht hj)
 exact (sumTo_bd (N:=N + N + 1 + N) (by omega) fun t ht=>(h1 i t hi ht).mul (bT t j ht hj)).mono (by omega)
end Go.Proofs.YtncbjgblcofddaaGreatDoor
namespace Go.Proofs.YtncbjgblcofddaaGreatDoor
open Go Go.Eng Go.Num Go.Proofs
open Go.Det (gr bm det Sy PM Red one)
theorem LatV.agg {w:World} {dm kd n cap m cap':Nat} {ns ms:Nat→Int} {A A':Option Addr} (h1:dm < 256) (h2:kd < 256) (h3:n≤cap) (h4:m≤cap') (h5:Nums w A n ns) (h6:Nums w A' m ms):∀ w',Ext w w'→LatV w' (.agg #[.int .u8 ((dm:Nat):Int),.int .u8 ((kd:Nat):Int),.slice A n cap,.slice A' m cap']) dm kd n ns m ms :=
 fun _ hE=>⟨A,cap,A',cap',rfl,h1,h2,h3,h4,h5.ext hE,h6.ext hE⟩
def RRw (w:World) (n:Nat) (v:Value) (w':World):Prop :=
 Ext w w'∧∃ gO gs M,v = .slice (some ⟨gO,0,none⟩) n n∧w.heap.size≤gO∧(∀ i,i < n→w.heap.size≤gs i)∧OMat w' gO gs n n M∧valE n (fun _=>n) M = 0∧det n M≤10000∧∀ i j,i < n→j < n→Bd 5 (M i j)
theorem cong_val {n:Nat} {M U:Nat→Nat→Int} (h:valE n (fun _=>n) M = 0) (hU:det n U = 1 ∨ det n U = -1):valE n (fun _=>n) (gr n U M) = 0∧det n (gr n U M) = det n M:=by
 obtain ⟨hok,h8,_,_⟩:=valE_zero.1 h
 obtain ⟨hp,hs⟩:=val_pm h
 have hp':=Go.Det.PM.cong hs hp (T:=U) (by rcases hU with e | e <;> rw [e] <;> decide)
 refine ⟨valE_0 ⟨hok,h8⟩ (fun i j _ _=>Go.Det.gr_symm hs i j) fun q hq=>hp' (q + 1) (by omega),?_⟩
 rw [Go.Det.gr_det]
 rcases hU with e | e <;> rw [e] <;> omega
set_option maxHeartbeats 16000000 in
theorem latRaw_ok (v:Value) (dm kd q m most:Nat) (ns ms:Nat→Int) (w:World) (h:LatV w v dm kd q ns m ms) (hmo:0 < most) (hmo8:most≤8) :
 Meets Tryz.prog 20 #[v,.int .i64 ((most:Nat):Int)] w (RRw w (1 + dm % most)):=by
 obtain ⟨A,cap,A',cap',rfl,hd,hk,hc,hc',hN,hN'⟩:=h
 have hL:=LatV.agg hd hk hc hc' hN hN'
 refine fn_W (n:=18) Tryz.func20 rfl rfl (by kernel_rfl) (by simp) ?_
 have hdm:=Nat.mod_lt dm hmo
 have hX:Ext w w:=Ext.refl w
 refine gh ?_
 refine R1_box (v:=.agg _) (.inl rfl) rfl ?_
 intro w_1 hB0_ hE_ hs_
 have hX1:Blk w_1 w.heap.size 25 #[.int .u8 ((dm:Nat):Int),.int .u8 ((kd:Nat):Int),.slice A q cap,.slice A' m cap']:=hB0_
 obtain ⟨gX,hg_⟩ : ∃ g,g = w.heap.size:=⟨_,rfl⟩
 rw [← hg_] at hX1 ⊢
 have hfr_gX:w.heap.size≤gX:=by have:=hX.size; omega
 replace hX:=hX.trans hE_
 clear hB0_ hs_ hg_ hE_
 obtain ⟨x0,x1,x2,x3⟩:=blkQ hX1
 refine gh ?_
 refine R1_load4F (by decide) agg_Lat rfl x0 x1 x2 x3 ?_
 clear x0 x1 x2 x3
 refine gh ?_
 refine R1_call2 (latGram_ok _ dm kd q m most ns ms w_1 (hL w_1 hX) hmo hmo8) ?_
 rintro _ w_2 ⟨hE_,gA,gsA,M,rfl,_,hgsA,hZ,h0,hdet,hM⟩
 replace hX1:=hX1.ext hE_
 replace hX:=hX.trans hE_
 clear hE_
 obtain ⟨n,hn⟩ : ∃ n,n = 1 + dm % most:=⟨_,rfl⟩
 rw [← hn] at hZ h0 hdet hM hgsA ⊢
 have hn1:1≤n:=by omega
 have hn8:n≤8:=by omega
 have hoM:okM n (fun _=>n) = true:=okM_iff.2 ⟨⟨hn1,by omega,hn1,by omega⟩,fun _ _=>rfl⟩
 have bM:∀ i j,i < n→j < n→Bd 1 (M i j):=fun i j hi _=>by
  have:=hM i j hi
  unfold Bd B
  omega
 refine gh ?_
 refine W_seqD [(0,3),(2,3),(3,0),(4,3),(5,3),(1,1),(6,1),(7,1),(8,1),(9,3)] mixed (by kernel_rfl) (fun w_3 hE_ _=>?_)
 replace hX1:=hX1.ext hE_
 replace hZ:=hZ.ext hE_
 replace hX:=hX.trans hE_
 clear hE_
 obtain ⟨_,_,_,x3⟩:=blkQ hX1
 replace x3:_ = some (Value.slice A' m cap'):=x3
 refine gh ?_
 refine R1_fieldAddr fa_Lat3 rfl ?_
 refine gh ?_
 clear x3
 refine R1_call1 (rof_ok _ n (fun _=>n) M w_3 (hZ.read (fun i j hi _=>by have:=hM i j hi; omega) (by omega) (by omega))) ?_
 intro u w5 hu
 obtain ⟨hE5,gI,gsI,rfl,_,_,hO⟩:=hu.get hoM
 clear hu
 refine ⟨hE5,?_⟩
 replace hX:=hX.trans hE5
 refine gh ?_
 refine gh ?_
 refine R1_call1 (unimodular_ok A' m cap' n ms w5 (hN'.ext hX) hn1 (by omega)) ?_
 rintro _ w_4 ⟨hE_,gU,gsU,U,rfl,_,_,hU,bU,hdU⟩
 refine ⟨hE_,?_⟩
 replace hO:=hO.ext hE_
 replace hX:=hX.trans hE_
 clear hE_
 have bU1:∀ i j,i < n→j < n→Bd 1 (U i j):=fun i j hi hj=>by
  have:=bU i j hi hj
  unfold Bd B
  omega
 refine gh ?_
 refine R1_call1 (rof_ok _ n (fun _=>n) U w_4 (hU.read (fun i j hi hj=>by have:=bU i j hi hj; omega) (by omega) (by omega))) ?_
 intro u w6 hu
 obtain ⟨hE6,gV,gsV,rfl,_,_,hV⟩:=hu.get hoM
 clear hu
 refine ⟨hE6,?_⟩
 replace hX:=hX.trans hE6
 replace hO:=hO.ext hE6
 refine gh ?_
 refine R1_call1 (rcongruent_ok (N:=1) (N2:=3) (hO.rd bM (Nat.le_refl _) (by omega) (by omega)) (hV.rd bU1 (Nat.le_refl _) (by omega) (by omega)) hn1 (by omega) (by decide) rfl) ?_
 rintro _ w7 ⟨hE7,gP,gsP,rfl,hgP,hgsP,hP⟩
 refine ⟨hE7,?_⟩
 have hsz:=hX.size
 have hdt:det n (fun i j=>U j i) = 1 ∨ det n (fun i j=>U j i) = -1:=by
  rw [show det n (fun i j=>U j i) = det n U from Go.Det.det_tr n U]; exact hdU
 obtain ⟨v1,v2⟩:=cong_val h0 hdt
 refine gh ?_
 exact ret1 (v:=.slice _ _ _) rfl rfl ⟨hX.trans hE7,gP,gsP,_,rfl,by omega,fun i hi=>by have:=hgsP i hi; omega,hP,v1,by rw [v2]; exact hdet,fun i j hi hj=>(gr_bd2 (N:=1) (by omega) bM bU1 i j hi hj).mono (by omega)⟩
end Go.Proofs.YtncbjgblcofddaaGreatDoor
