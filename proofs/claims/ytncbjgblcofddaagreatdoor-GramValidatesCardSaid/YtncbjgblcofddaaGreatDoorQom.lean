/- Joined: Lga. -/
import Derived.Test.YtncbjgblcofddaaGreatDoorQok
import Derived.Test.YtncbjgblcofddaaGreatDoorQnb
import Derived.Test.YtncbjgblcofddaaGreatDoorQf
import Derived.Test.YtncbjgblcofddaaGreatDoorQo
import Derived.Test.YtncbjgblcofddaaGreatDoorQni
/- The law GramValidates. -/
namespace Go.Proofs.YtncbjgblcofddaaGreatDoor
open Go Go.Eng Go.Num Go.Proofs
open Go.Det (det)
set_option maxHeartbeats 32000000 in
theorem lawGramValidates {va vx v2 v3 vy:Value} {r0:Nat} {len0:Nat→Nat} {M0:Nat→Nat→Int} {L0:Nat→Nat→Nat} {dm kd q m at':Nat} {ns ms:Nat→Int} {c:Int} {ry cy ny:Nat} {nsy:Nat→Int} {w:World} (hm:ML w)
 (ha:MatL w va r0 len0 M0 L0) (hx:LatV w vx dm kd q ns m ms) (h2:ByteV v2 at') (h3:I8V v3 c) (hy:GridV w vy ry cy ny nsy) :
 Meets Tryz.prog 3 #[va,vx,v2,v3,vy] w (Law w):=by
 obtain ⟨rfl,hat⟩:=h2
 obtain ⟨rfl,_,_⟩:=h3
 obtain ⟨A,cap,A',cap',rfl,hd,hk,hc,hc',hN,hN'⟩:=hx
 have hL:=LatV.agg hd hk hc hc' hN hN'
 obtain ⟨Ay,capy,rfl,hy1,hy2,hy3,hy4⟩:=hy
 have hGy:∀ w',Ext w w'→GridV w' (.agg #[.int .u8 ((ry:Nat):Int),.int .u8 ((cy:Nat):Int),.slice Ay ny capy]) ry cy ny nsy:=fun w' h=>⟨Ay,capy,rfl,hy1,hy2,hy3,hy4.ext h⟩
 refine fn_W (n:=49) Tryz.func3 rfl rfl (by kernel_rfl) (by simp) ?_
 have hX:Ext w w:=Ext.refl w
 refine gb ?_
 refine R1_box (v:=.agg _) (.inl rfl) rfl ?_
 intro w_1 hB0_ hE_ hs_
 have hX1:Blk w_1 w.heap.size 25 #[.int .u8 ((dm:Nat):Int),.int .u8 ((kd:Nat):Int),.slice A q cap,.slice A' m cap']:=hB0_
 obtain ⟨gX,hg_⟩ : ∃ g,g = w.heap.size:=⟨_,rfl⟩
 rw [← hg_] at hX1 ⊢
 have hfr_gX:w.heap.size≤gX:=by have:=hX.size; omega
 replace hX:=hX.trans hE_
 clear hB0_ hs_ hg_ hE_
 refine gb ?_
 refine R1_box (v:=.agg _) (.inl rfl) rfl ?_
 intro w_2 hB0_ hE_ hs_
 have hY1:Blk w_2 w_1.heap.size 28 #[.int .u8 ((ry:Nat):Int),.int .u8 ((cy:Nat):Int),.slice Ay ny capy]:=hB0_
 obtain ⟨gY,hg_⟩ : ∃ g,g = w_1.heap.size:=⟨_,rfl⟩
 rw [← hg_] at hY1 ⊢
 have hfr_gY:w.heap.size≤gY:=by have:=hX.size; omega
 have hne_gY_gX:gY ≠ gX:=by have:=hX1.lt; omega
 replace hX1:=hX1.ext hE_
 replace hX:=hX.trans hE_
 clear hB0_ hs_ hg_ hE_
 refine gb ?_
 refine W_seq ?_
 refine gb ?_
 refine R1_call2 (large7_ok va r0 len0 M0 L0 w_2 (ha.ext hX)) ?_
 rintro _ _ ⟨rfl,b,rfl,hb⟩
 cases b with
 | true =>
  refine gb ?_
  refine R1_call2 (awake7_ok w_2 (hm.ext hX)) ?_
  rintro _ w5 ⟨hE5,rfl⟩
  refine gb ?_
  exact ret1 (v:=.bool _) rfl rfl ⟨hX.trans hE5,rfl⟩
 | false =>
 have hs:=hb rfl
 have hA:=hs.e ha
 obtain ⟨x0,x1,x2,x3⟩:=blkQ hX1
 refine gb ?_
 refine R1_load4F (by decide) agg_Lat rfl x0 x1 x2 x3 ?_
 clear x0 x1 x2 x3
 refine gb ?_
 refine gb ?_
 refine R1_call2 (near_ok _ dm kd q m ns ms at' c w_2 (hL w_2 hX) hat) ?_
 rintro _ w_3 ⟨hE_,gB,gsB,MB,rfl,_,_,hOB,bB⟩
 replace hX1:=hX1.ext hE_
 replace hY1:=hY1.ext hE_
 replace hX:=hX.trans hE_
 clear hE_
 refine gb ?_
 refine gb ?_
 refine W_seqD [(0,3),(2,3),(1,1),(3,1),(4,3),(5,3),(6,3),(8,3),(7,1),(9,1),(10,3),(11,3),(12,3),(13,0),(14,1),(15,1),(16,3),(17,3),(18,3),(19,0),(22,0),(20,1),(21,1),(23,1),(24,1),(25,3),(26,3),(27,3),(28,1),(29,3),(30,3)] mixed (by kernel_rfl) (fun w_4 hE_ _=>?_)
 replace hX1:=hX1.ext hE_
 replace hY1:=hY1.ext hE_
 replace hOB:=hOB.ext hE_
 replace hX:=hX.trans hE_
 clear hE_
 refine gb ?_
 refine gb ?_
 refine R1_call1 (validate_ok va r0 100 len0 M0 w_4 (hA.ext hX) (by decide) (by decide)) ?_
 rintro _ w_5 ⟨hE_,rfl⟩
 refine ⟨hE_,?_⟩
 replace hX1:=hX1.ext hE_
 replace hY1:=hY1.ext hE_
 replace hOB:=hOB.ext hE_
 replace hX:=hX.trans hE_
 clear hE_
 refine gb ?_
 refine gb ?_
 refine R1_call1 (rvalidate_ok va r0 100 len0 M0 w_5 (hA.ext hX) (by decide) (by decide)) ?_
 rintro _ w_6 ⟨hE_,rfl⟩
 refine ⟨hE_,?_⟩
 replace hX1:=hX1.ext hE_
 replace hY1:=hY1.ext hE_
 replace hOB:=hOB.ext hE_
 replace hX:=hX.trans hE_
 clear hE_
 refine gb ?_
 have hBr:=hOB.read bB (by omega) (by omega)
 refine gb ?_
 refine R1_call1 (validate_ok _ _ 6 (fun _=>1 + dm % 4) MB w_6 hBr (by decide) (by decide)) ?_
 rintro _ w_7 ⟨hE_,rfl⟩
 refine ⟨hE_,?_⟩
 replace hX1:=hX1.ext hE_
 replace hY1:=hY1.ext hE_
 replace hOB:=hOB.ext hE_
 replace hX:=hX.trans hE_
 clear hE_
 have hBr:=hOB.read bB (by omega) (by omega)
 refine gb ?_
 refine gb ?_
 refine R1_call1 (rvalidate_ok _ _ 6 (fun _=>1 + dm % 4) MB w_7 hBr (by decide) (by decide)) ?_
 rintro _ w_8 ⟨hE_,rfl⟩
 refine ⟨hE_,?_⟩
 replace hX1:=hX1.ext hE_
 replace hY1:=hY1.ext hE_
 replace hOB:=hOB.ext hE_
 replace hX:=hX.trans hE_
 clear hE_
 obtain ⟨x0,x1,x2,x3⟩:=blkQ hX1
 refine gb ?_
 refine R1_load4E (by decide) agg_Lat rfl x0 x1 x2 x3 ?_
 clear x0 x1 x2 x3
 refine gb ?_
 refine gb ?_
 refine R1_call1 (latRaw_ok _ dm kd q m 5 ns ms w_8 (hL w_8 hX) (by decide) (by decide)) ?_
 rintro _ w_9 ⟨hE_,gA,gsA,M,rfl,_,_,hO,h0,_,bM⟩
 refine ⟨hE_,?_⟩
 replace hX1:=hX1.ext hE_
 replace hY1:=hY1.ext hE_
 replace hOB:=hOB.ext hE_
 replace hX:=hX.trans hE_
 clear hE_
 refine gb ?_
 have hAr:=hO.read bM (by omega) (by omega)
 refine gb ?_
 refine R1_call1 (validate_ok _ _ 5 (fun _=>1 + dm % 5) M w_9 hAr (by decide) (by decide)) ?_
 rintro _ w_10 ⟨hE_,rfl⟩
 refine ⟨hE_,?_⟩
 replace hX1:=hX1.ext hE_
 replace hY1:=hY1.ext hE_
 replace hOB:=hOB.ext hE_
 replace hO:=hO.ext hE_
 replace hX:=hX.trans hE_
 clear hE_
 rw [h0]
 obtain ⟨y0,y1,y2⟩:=blkT hY1
 refine gb ?_
 refine R1_load3E (by decide) agg_Grid rfl y0 y1 y2 ?_
 refine gb ?_
 refine R1_load3E (by decide) agg_Grid rfl y0 y1 y2 ?_
 clear y0 y1 y2
 obtain ⟨Y,hY⟩ : ∃ Y,Y = gridM (1 + cy % 10) ny nsy:=⟨_,rfl⟩
 have bY:∀ i j,Bd 1 (Y i j):=fun i j=>by rw [hY]; exact gridM_bd hy4 _ i j
 refine gb ?_
 refine gb ?_
 refine R1_call1 (gridMatrix_ok _ ry cy ny 10 nsy w_10 (hGy w_10 hX) (by decide) (by decide)) ?_
 rintro _ w_11 ⟨hE_,gC,gsC,rfl,_,_,hOC⟩
 refine ⟨hE_,?_⟩
 replace hX1:=hX1.ext hE_
 replace hY1:=hY1.ext hE_
 replace hOB:=hOB.ext hE_
 replace hO:=hO.ext hE_
 replace hX:=hX.trans hE_
 clear hE_
 rw [← hY] at hOC
 refine gb ?_
 have hCr:=hOC.read (fun i j _ _=>bY i j) (by omega) (by omega)
 refine gb ?_
 refine R1_call1 (validate_ok _ _ 1 (fun _=>1 + cy % 10) Y w_11 hCr (by decide) (by decide)) ?_
 rintro _ w_12 ⟨hE_,rfl⟩
 refine ⟨hE_,?_⟩
 replace hX1:=hX1.ext hE_
 replace hY1:=hY1.ext hE_
 replace hOB:=hOB.ext hE_
 replace hO:=hO.ext hE_
 replace hOC:=hOC.ext hE_
 replace hX:=hX.trans hE_
 clear hE_
 refine gb ?_
 refine gb ?_
 refine R1_call1 (gridMatrix_ok _ ry cy ny 10 nsy w_12 (hGy w_12 hX) (by decide) (by decide)) ?_
 rintro _ w_13 ⟨hE_,gD,gsD,rfl,_,_,hOD⟩
 refine ⟨hE_,?_⟩
 replace hX1:=hX1.ext hE_
 replace hY1:=hY1.ext hE_
 replace hOB:=hOB.ext hE_
 replace hO:=hO.ext hE_
 replace hOC:=hOC.ext hE_
 replace hX:=hX.trans hE_
 clear hE_
 rw [← hY] at hOD
 refine gb ?_
 have hDr:=hOD.read (fun i j _ _=>bY i j) (by omega) (by omega)
 refine gb ?_
 refine R1_call1 (rvalidate_ok _ _ 1 (fun _=>1 + cy % 10) Y w_13 hDr (by decide) (by decide)) ?_
 rintro _ w_14 ⟨hE_,rfl⟩
 refine ⟨hE_,?_⟩
 replace hX1:=hX1.ext hE_
 replace hY1:=hY1.ext hE_
 replace hOB:=hOB.ext hE_
 replace hO:=hO.ext hE_
 replace hOC:=hOC.ext hE_
 replace hOD:=hOD.ext hE_
 replace hX:=hX.trans hE_
 clear hE_
 refine gb ?_
 refine gb ?_
 refine R1_call1 (awake7_ok w_14 (hm.ext hX)) ?_
 rintro _ w_15 ⟨hE_,rfl⟩
 refine ⟨hE_,?_⟩
 replace hX1:=hX1.ext hE_
 replace hY1:=hY1.ext hE_
 replace hOB:=hOB.ext hE_
 replace hO:=hO.ext hE_
 replace hOC:=hOC.ext hE_
 replace hOD:=hOD.ext hE_
 replace hX:=hX.trans hE_
 clear hE_
 refine gb ?_
 exact ret1 (v:=.bool _) rfl rfl ⟨hX,rfl⟩
end Go.Proofs.YtncbjgblcofddaaGreatDoor
