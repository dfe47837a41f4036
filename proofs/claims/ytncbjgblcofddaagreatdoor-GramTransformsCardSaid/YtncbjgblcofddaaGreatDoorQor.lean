/- Joined: Rtr, Lgf. -/
import Derived.Test.YtncbjgblcofddaaGreatDoorQnh
import Derived.Test.YtncbjgblcofddaaGreatDoorQze
import Derived.Test.YtncbjgblcofddaaGreatDoorQok
import Derived.Test.YtncbjgblcofddaaGreatDoorQf
import Derived.Test.YtncbjgblcofddaaGreatDoorQon
/- The reference's Transform. -/
namespace Go.Proofs.YtncbjgblcofddaaGreatDoor
open Go Go.Eng Go.Num Go.Proofs
theorem rtransposeT_ok {va:Value} {r c N:Nat} {X:Nat→Nat→Int} {w:World} (ha:MatE (EI N) w va r (fun _=>c) X) (hN:N < 1099511627776) (h1:1≤r) (h2:r≤16) (h3:1≤c) (h4:c≤16) :
 Meets Tryz.prog 129 #[va] w fun v w'=>Ext w w'∧∃ gO gs,v = .tuple #[.slice (some ⟨gO,0,none⟩) c c,.bool true]∧OMat w' gO gs c r (fun i j=>X j i) :=
 (rtranspose_ok va r N _ X w ha hN).mono fun _ _ h=>by
  obtain ⟨u,rfl,hE,gO,gs,rfl,_,_,hO⟩:=h.get (okM_iff.2 ⟨⟨h1,h2,h3,h4⟩,fun _ _=>rfl⟩)
  exact ⟨hE,gO,gs,rfl,hO⟩
set_option maxHeartbeats 8000000 in
theorem rcongX_ok {va vt:Value} {n c N:Nat} {G T:Nat→Nat→Int} {w:World} (ha:MatE (EI N) w va n (fun _=>n) G) (ht:MatE (EI N) w vt n (fun _=>c) T) (hn1:1≤n) (hn:n≤16) (hc1:1≤c) (hc:c≤n) (hN:N < 34359738) :
 Meets Tryz.prog 69 #[va,vt] w (RM w c c (mulM n (fun i j=>T j i) (mulM n G T))):=by
 refine fn_W (n:=17) Tryz.func69 rfl rfl (by kernel_rfl) (by simp) ?_
 have bG:∀ i j,i < n→j < n→Bd N (G i j):=fun i j hi hj=>ha.bd hi hj
 have bT:∀ i j,i < n→j < c→Bd N (T i j):=fun i j hi hj=>ht.bd hi hj
 have hnb:n < 9223372036854775808:=by omega
 have hcb:c < 9223372036854775808:=by omega
 have hc16:c≤16:=by omega
 have hX:Ext w w:=Ext.refl w
 refine gg ?_
 refine gg ?_
 refine R1_call2 (rtransposeT_ok ht (by omega) hn1 hn hc1 hc16) ?_
 rintro _ w_1 ⟨hE_,gt,gst,rfl,hOt⟩
 replace ha:=ha.ext hE_
 replace ht:=ht.ext hE_
 replace hX:=hX.trans hE_
 clear hE_
 refine gg ?_
 refine gg ?_
 refine R1_call2 (rproductT_ok (N:=N) (hOt.rd (fun i j hi hj=>bT j i hj hi) (Nat.le_refl _) hcb hnb) ha (by omega) hc1 hc16 hn1 hn hn1 hn) ?_
 rintro _ w_2 ⟨hE_,g4,gs4,rfl,_,_,hO4⟩
 replace ha:=ha.ext hE_
 replace ht:=ht.ext hE_
 replace hOt:=hOt.ext hE_
 replace hX:=hX.trans hE_
 clear hE_
 have b4:∀ i j,i < c→j < n→Bd (N + N + 1) (mulM n (fun i j=>T j i) G i j):=fun i j hi hj =>
  sumTo_bd (N:=N + N) (by omega) fun t ht=>(bT t i ht hi).mul (bG t j ht hj)
 have hsz:=hX.size
 refine gg ?_
 refine gg ?_
 refine R1_call2 (rproductT_ok (N:=N + N + 1) (hO4.rd b4 (Nat.le_refl _) hcb hnb) (ht.mono (by omega)) (by omega) hc1 hc16 hn1 hn hc1 hc16) ?_
 rintro _ w_3 ⟨hE_,g5,gs5,rfl,h51,h52,hO5⟩
 replace ha:=ha.ext hE_
 replace ht:=ht.ext hE_
 replace hOt:=hOt.ext hE_
 replace hO4:=hO4.ext hE_
 replace hX:=hX.trans hE_
 clear hE_
 rw [show mulM n (mulM n (fun i j=>T j i) G) T = mulM n (fun i j=>T j i) (mulM n G T) from by funext i j; exact mulM_assoc n _ _ _ i j] at hO5
 refine gg ?_
 exact ret1 (v:=.slice _ _ _) rfl rfl ⟨hX,g5,gs5,rfl,by omega,fun i hi=>by have:=h52 i hi; omega,hO5⟩
set_option maxHeartbeats 16000000 in
theorem rtransform_ok (va vb:Value) (r r2 N:Nat) (len len2:Nat→Nat) (M T:Nat→Nat→Int) (w:World) (ha:MatE (EI N) w va r len M) (hb:MatE (EI N) w vb r2 len2 T) (hN1:1≤N) (hN:N < 1048576) :
 Meets Tryz.prog 55 #[va,vb] w (RTr w (trE r len M r2 len2 T) r (len2 0) M T):=by
 refine fn_W (n:=48) Tryz.func55 rfl rfl (by kernel_rfl) (by simp) ?_
 obtain ⟨Aa,ca,hva,_⟩:=id ha
 have hX:Ext w w:=Ext.refl w
 refine gg ?_
 refine W_seq ?_
 refine gg ?_
 refine gg ?_
 refine R1_call2 (rvalidate_ok va r N len M w ha hN1 hN) ?_
 rintro _ w_1 ⟨hE_,rfl⟩
 replace ha:=ha.ext hE_
 replace hb:=hb.ext hE_
 replace hX:=hX.trans hE_
 clear hE_
 have h5:=valE_le r len M
 by_cases h0:valE r len M = 0
 rotate_left
 · have e0:trE r len M r2 len2 T = valE r len M:=by unfold trE; rw [if_neg h0]
   refine gg ?_
   exact ret2 (v:=.slice _ _ _) (v':=.int _ _) rfl rfl rfl ⟨hX,.inl ⟨by rw [e0]; exact h0,by rw [e0]⟩⟩
 refine gg ?_
 obtain ⟨hok,h8,_⟩:=valE_zero.1 h0
 obtain ⟨hr1,hr2,hlen⟩:=okS_iff.1 hok
 refine gg ?_
 refine R1_call2 (rshape_ok (EI N) vb r2 len2 T w_1 hb) ?_
 rintro _ w_2 ⟨hE_,rfl⟩
 replace ha:=ha.ext hE_
 replace hb:=hb.ext hE_
 replace hX:=hX.trans hE_
 clear hE_
 obtain ⟨s1,c1,ok1,e1,h1⟩:=shapeV_cases r2 len2
 rw [e1]
 clear e1
 have bad:¬ (okM r2 len2 = true∧r2 = r∧len2 0≤r2)→trE r len M r2 len2 T = 3:=fun h=>by unfold trE; rw [if_pos h0,if_neg h]
 rcases h1 with ⟨hok2,rfl,rfl,rfl⟩ | ⟨hok2,rfl,rfl,rfl⟩
 rotate_left
 · have e0:=bad (fun h=>by rw [hok2] at h; cases h.1)
   refine gg ?_
   refine W_seq ?_
   refine gg ?_
   exact ret2 (v:=.slice _ _ _) (v':=.int _ _) rfl rfl rfl ⟨hX,.inl ⟨by rw [e0]; decide,by rw [e0]⟩⟩
 by_cases hrr:s1 = r
 rotate_left
 · have e0:=bad (fun h=>hrr h.2.1)
   rw [hva]
   refine gg ?_
   refine W_seq ?_
   refine gg ?_
   exact ret2 (v:=.slice _ _ _) (v':=.int _ _) rfl rfl rfl ⟨hX,.inl ⟨by rw [e0]; decide,by rw [e0]⟩⟩
 by_cases hc1:len2 0≤s1
 rotate_left
 · have e0:=bad (fun h=>hc1 h.2.2)
   rw [hva]
   refine gg ?_
   refine W_seq ?_
   refine gg ?_
   exact ret2 (v:=.slice _ _ _) (v':=.int _ _) rfl rfl rfl ⟨hX,.inl ⟨by rw [e0]; decide,by rw [e0]⟩⟩
 obtain ⟨⟨hs1,hs2,hl1,hl2⟩,hlen2⟩:=okM_iff.1 hok2
 subst hrr
 obtain ⟨c,hc⟩ : ∃ c,c = len2 0:=⟨_,rfl⟩
 rw [← hc]
 have hc1':c≤s1:=by omega
 rw [hva]
 refine gg ?_
 refine W_seq ?_
 refine gg ?_
 rw [← hva]
 refine W_seq ?_
 refine gg ?_
 refine R1_call2 (rrank_ok vb s1 N len2 T w_2 hb hN1 hN) ?_
 rintro _ w_r ⟨hE_r,⟨hno,_⟩ | ⟨_,k,rfl,hk⟩⟩
 · rw [hok2] at hno; cases hno
 rw [← hc] at hk
 have hX:=hX.trans hE_r
 have ha:=ha.ext hE_r
 have hb:=hb.ext hE_r
 by_cases hkc:k < c
 · have e0:trE s1 len M s1 len2 T = 8:=by
    unfold trE
    rw [if_pos h0,if_pos ⟨hok2,rfl,by omega⟩,if_pos ⟨k,by omega,by rw [← hc]; exact hk⟩]
   refine gg ?_
   exact ret2 (v:=.slice _ _ _) (v':=.int _ _) rfl rfl rfl ⟨hX,.inl ⟨by rw [e0]; decide,by rw [e0]⟩⟩
 have e0:trE s1 len M s1 len2 T = 0:=by
  unfold trE
  rw [if_pos h0,if_pos ⟨hok2,rfl,by omega⟩,if_neg]
  rintro ⟨k',h1,h2⟩
  rw [← hc] at h2
  have:=h2.unique hk
  omega
 refine gg ?_
 have hT:=hb.sq (c:=c) (fun i hi=>by rw [hlen2 i hi,hc])
 have hG:=ha.sq hlen
 refine gg ?_
 refine gg ?_
 refine R1_call2 (rcongX_ok hG hT hr1 hr2 (by omega) hc1' (by omega)) ?_
 rintro _ w_3 ⟨hE_,gV,gsV,rfl,_,_,hV⟩
 replace hT:=hT.ext hE_
 replace hG:=hG.ext hE_
 replace hX:=hX.trans hE_
 clear hE_
 refine gg ?_
 exact ret2 (v:=.slice _ _ _) (v':=.int _ _) rfl rfl rfl ⟨hX,.inr ⟨e0,gV,gsV,rfl,hV⟩⟩
end Go.Proofs.YtncbjgblcofddaaGreatDoor
namespace Go.Proofs.YtncbjgblcofddaaGreatDoor
open Go Go.Eng Go.Num Go.Proofs
open Go.Det (det)
def cgM (r:Nat) (M T:Nat→Nat→Int):Nat→Nat→Int:=mulM r (fun i j=>T j i) (mulM r M T)
theorem trE_le (r:Nat) (len:Nat→Nat) (M:Nat→Nat→Int) (r2:Nat) (len2:Nat→Nat) (T:Nat→Nat→Int):trE r len M r2 len2 T≤8:=by
 have:=valE_le r len M
 unfold trE
 split
 · split
   · split <;> omega
   · omega
 · omega
theorem tr_bd {va vb:Value} {r r2 N:Nat} {len len2:Nat→Nat} {M T:Nat→Nat→Int} {w:World} (ha:MatE (EI N) w va r len M) (hb:MatE (EI N) w vb r2 len2 T) (h:trE r len M r2 len2 T = 0):len2 0≤16∧∀ i j,i < len2 0→j < len2 0→Bd (N + (N + N + 1) + 1) (cgM r M T i j):=by
 unfold trE at h
 split at h
 · rename_i h0
   split at h
   · rename_i h1
     obtain ⟨hok,h8,_⟩:=valE_zero.1 h0
     obtain ⟨hr1,hr2,hlen⟩:=okS_iff.1 hok
     obtain ⟨hok2,rfl,hc⟩:=h1
     obtain ⟨_,hlen2⟩:=okM_iff.1 hok2
     have hM:=ha.sq hlen
     have hT:=hb.sq (c:=len2 0) (fun i hi=>by rw [hlen2 i hi])
     refine ⟨by omega,fun i j hi hj=>sumTo_bd (by omega) fun k hk=>(hT.bd hk hi).mul (sumTo_bd (N:=N + N) (by omega) fun l hl=>(hM.bd hk hl).mul (hT.bd hl hj))⟩
   · omega
 · exact absurd h (by assumption)
theorem RTr.rd {w:World} {e r c N:Nat} {M T:Nat→Nat→Int} {v:Value} {w':World} (h:RTr w e r c M T v w') (hA:e = 0→c≤16∧∀ i j,i < c→j < c→Bd N (cgM r M T i j)) :
 Ext w w'∧∃ a m cp,v = .tuple #[.slice a m cp,.int .i64 ((e:Nat):Int)]∧MatE (EC N) w' (.slice a m cp) (if e = 0 then c else 0) (fun _=>c) (cgM r M T):=by
 obtain ⟨hE,⟨h0,rfl⟩ | ⟨h0,gO,gs,rfl,hO⟩⟩:=h
 · exact ⟨hE,_,_,_,rfl,by rw [if_neg h0]; exact matC_nil _ _ _ _⟩
 · obtain ⟨h1,h2⟩:=hA h0
   exact ⟨hE,_,_,_,by rw [h0],by rw [if_pos h0]; exact hO.readC h2 (by omega) (by omega)⟩
theorem transformR_ok (va vb:Value) (r r2 N:Nat) (len len2:Nat→Nat) (M T:Nat→Nat→Int) (w:World) (ha:MatE (EI N) w va r len M) (hb:MatE (EI N) w vb r2 len2 T) (hN1:1≤N) (hN:N < 1048576) :
 Meets Tryz.prog 54 #[va,vb] w fun v w'=>Ext w w'∧∃ a m cp,v = .tuple #[.slice a m cp,.int .i64 ((trE r len M r2 len2 T:Nat):Int)]∧MatE (EC (N + (N + N + 1) + 1)) w' (.slice a m cp) (if trE r len M r2 len2 T = 0 then len2 0 else 0) (fun _=>len2 0) (cgM r M T) :=
 (transform_ok va vb r r2 N len len2 M T w ha hb hN1 hN).mono fun _ _ h=>h.rd (tr_bd ha hb)
theorem rtransformR_ok (va vb:Value) (r r2 N:Nat) (len len2:Nat→Nat) (M T:Nat→Nat→Int) (w:World) (ha:MatE (EI N) w va r len M) (hb:MatE (EI N) w vb r2 len2 T) (hN1:1≤N) (hN:N < 1048576) :
 Meets Tryz.prog 55 #[va,vb] w fun v w'=>Ext w w'∧∃ a m cp,v = .tuple #[.slice a m cp,.int .i64 ((trE r len M r2 len2 T:Nat):Int)]∧MatE (EC (N + (N + N + 1) + 1)) w' (.slice a m cp) (if trE r len M r2 len2 T = 0 then len2 0 else 0) (fun _=>len2 0) (cgM r M T) :=
 (rtransform_ok va vb r r2 N len len2 M T w ha hb hN1 hN).mono fun _ _ h=>h.rd (tr_bd ha hb)
set_option maxHeartbeats 32000000 in
theorem lawGramTransforms {vx vy va vb:Value} {dm kd q m ry cy ny ra rb:Nat} {ns ms nsy:Nat→Int} {lena lenb:Nat→Nat} {Ma Mb:Nat→Nat→Int} {La Lb:Nat→Nat→Nat} {w:World} (hm:ML w)
 (hx:LatV w vx dm kd q ns m ms) (hy:GridV w vy ry cy ny nsy) (ha:MatL w va ra lena Ma La) (hb:MatL w vb rb lenb Mb Lb) :
 Meets Tryz.prog 13 #[vx,vy,va,vb] w (Law w):=by
 obtain ⟨A,cap,A',cap',rfl,hd,hk,hc,hc',hN,hN'⟩:=hx
 have hL:=LatV.agg hd hk hc hc' hN hN'
 obtain ⟨Ay,capy,rfl,hy1,hy2,hy3,hy4⟩:=hy
 have hdm:=Nat.mod_lt dm (show 0 < 4 by decide)
 obtain ⟨n,hn⟩ : ∃ n,n = 1 + dm % 4:=⟨_,rfl⟩
 have hn1:1≤n:=by omega
 have hn4:n≤4:=by omega
 have hn0:n < 9223372036854775808:=by omega
 refine fn_W (n:=105) Tryz.func13 rfl rfl (by kernel_rfl) (by simp) ?_
 have hX:Ext w w:=Ext.refl w
 refine gg ?_
 refine R1_box (v:=.agg _) (.inl rfl) rfl ?_
 intro w_1 hB0_ hE_ hs_
 have hX1:Blk w_1 w.heap.size 25 #[.int .u8 ((dm:Nat):Int),.int .u8 ((kd:Nat):Int),.slice A q cap,.slice A' m cap']:=hB0_
 obtain ⟨gX,hg_⟩ : ∃ g,g = w.heap.size:=⟨_,rfl⟩
 rw [← hg_] at hX1 ⊢
 have hfr_gX:w.heap.size≤gX:=by have:=hX.size; omega
 replace hX:=hX.trans hE_
 clear hB0_ hs_ hg_ hE_
 refine gg ?_
 refine R1_box (v:=.agg _) (.inl rfl) rfl ?_
 intro w_2 hB0_ hE_ hs_
 have hY1:Blk w_2 w_1.heap.size 28 #[.int .u8 ((ry:Nat):Int),.int .u8 ((cy:Nat):Int),.slice Ay ny capy]:=hB0_
 obtain ⟨gY,hg_⟩ : ∃ g,g = w_1.heap.size:=⟨_,rfl⟩
 rw [← hg_] at hY1 ⊢
 have hfr_gY:w.heap.size≤gY:=by have:=hX.size; omega
 have hne_gY_gX:gY ≠ gX:=by have:=hX1.lt; omega
 replace hX1:=hX1.ext hE_
 replace hX:=hX.trans hE_
 clear hB0_ hs_ hg_ hE_
 refine gg ?_
 refine W_seq ?_
 refine gg ?_
 refine R1_call2 (large7_ok va ra lena Ma La w_2 (ha.ext hX)) ?_
 rintro _ _ ⟨rfl,b,rfl,hba⟩
 cases b with
 | true =>
  refine gg ?_
  refine R1_call2 (awake7_ok w_2 (hm.ext hX)) ?_
  rintro _ w5 ⟨hE5,rfl⟩
  refine gg ?_
  exact ret1 (v:=.bool _) rfl rfl ⟨hX.trans hE5,rfl⟩
 | false =>
 refine gg ?_
 refine R1_call2 (large7_ok vb rb lenb Mb Lb w_2 (hb.ext hX)) ?_
 rintro _ _ ⟨rfl,b,rfl,hbb⟩
 cases b with
 | true =>
  refine gg ?_
  refine R1_call2 (awake7_ok w_2 (hm.ext hX)) ?_
  rintro _ w5 ⟨hE5,rfl⟩
  refine gg ?_
  exact ret1 (v:=.bool _) rfl rfl ⟨hX.trans hE5,rfl⟩
 | false =>
 have hA:MatE (EI 100) w va ra lena Ma:=(hba rfl).e ha
 have hB:MatE (EI 100) w vb rb lenb Mb:=(hbb rfl).e hb
 clear hba hbb ha hb
 obtain ⟨x0,x1,x2,x3⟩:=blkQ hX1
 refine gg ?_
 refine R1_load4F (by decide) agg_Lat rfl x0 x1 x2 x3 ?_
 clear x0 x1 x2 x3
 refine gg ?_
 have hlY:=hY1.lt
 refine gg ?_
 refine R1_call2 (latRaw_ok _ dm kd q m 4 ns ms w_2 (hL w_2 hX) (by decide) (by decide)) ?_
 rintro _ w_3 ⟨hE_,gM,gsM,M,rfl,hgM,hgsM,hO,h0,hdet,bM⟩
 replace hX1:=hX1.ext hE_
 replace hY1:=hY1.ext hE_
 replace hX:=hX.trans hE_
 clear hE_
 rw [← hn] at hO h0 hdet bM hgsM ⊢
 have hK0:Ext w_3 w_3:=Ext.refl _
 have hgn:gY < gM∧∀ i,i < n→gY < gsM i:=⟨by omega,fun i hi=>by have:=hgsM i hi; omega⟩
 have hfY:=hfr_gY
 refine gg ?_
 refine R1_conv (by unfold TyD; exact Tryz.underlying3) (by unfold TyD; exact Tryz.underlying5) rfl (wrap_u8n (a:=n - 1) (by omega)) ?_
 refine gg ?_
 refine R1_store1 (one_of rfl) (.inl rfl) rfl rfl rfl hY1 (by simp) ?_
 intro w5 hB5 hC5 hs5
 replace hB5:Blk w5 gY 28 #[.int .u8 ((n - 1:Nat):Int),.int .u8 ((cy:Nat):Int),.slice Ay ny capy]:=hB5
 have hk5:=kp_ch hY1 (fun i=>by
  match i with
  | 0=>simp
  | 1=>simp
  | 2=>simp
  | i + 3=>simp) hC5
 have hO5:=(hO.ext hK0).kp hk5 hC5 (by omega) (fun i hi=>by have:=hgn.2 i hi; omega)
 replace hX1:=hX1.ch hC5 (by omega)
 have hX5:=hC5.ext_of hX (fun b e=>by omega)
 clear hX hK0 hO hk5 hC5 hY1
 have hX:=hX5
 have hGy:∀ w',Ext w w'→GridV w' (.agg #[.int .u8 ((n - 1:Nat):Int),.int .u8 ((cy:Nat):Int),.slice Ay ny capy]) (n - 1) cy ny nsy:=fun w' h=>⟨Ay,capy,rfl,by omega,hy2,hy3,hy4.ext h⟩
 have hX:Ext w w5:=hX5
 have hK:Ext w5 w5:=Ext.refl _
 have hM5:∀ {u:World} (N:Nat),5≤N→Ext w5 u→MatE (EI N) u (.slice (some ⟨gM,0,none⟩) n n) n (fun _=>n) M:=fun N hN hE=>((hO5.ext hE).read bM hn0 hn0).mono hN
 obtain ⟨c8,hc8⟩ : ∃ c,c = 1 + cy % 8:=⟨_,rfl⟩
 obtain ⟨Y,hY⟩ : ∃ Y,Y = gridM (1 + cy % 8) ny nsy:=⟨_,rfl⟩
 have bY:∀ i j,Bd 1 (Y i j):=fun i j=>by rw [hY]; exact gridM_bd hy4 _ i j
 have hn8:1 + (n - 1) % 8 = n:=by omega
 obtain ⟨e1,he1⟩ : ∃ e,e = trE n (fun _=>n) M n (fun _=>c8) Y:=⟨_,rfl⟩
 obtain ⟨e2,he2⟩ : ∃ e,e = trE ra lena Ma rb lenb Mb:=⟨_,rfl⟩
 obtain ⟨e3,he3⟩ : ∃ e,e = trE n (fun _=>n) M rb lenb Mb:=⟨_,rfl⟩
 have l1:e1≤8:=by rw [he1]; exact trE_le _ _ _ _ _ _
 have l2:e2≤8:=by rw [he2]; exact trE_le _ _ _ _ _ _
 have l3:e3≤8:=by rw [he3]; exact trE_le _ _ _ _ _ _
 obtain ⟨y0,y1,y2⟩:=blkT hB5
 refine gg ?_
 refine R1_load3F (by decide) agg_Grid rfl y0 y1 y2 ?_
 clear y0 y1 y2
 refine gg ?_
 refine gg ?_
 refine R1_call2 (gridMatrix_ok _ (n - 1) cy ny 8 nsy w5 (hGy w5 hX) (by decide) (by decide)) ?_
 rintro _ w_4 ⟨hE_,gC,gsC,rfl,_,_,hOC⟩
 replace hB5:=hB5.ext hE_
 replace hK:=hK.trans hE_
 replace hX:=hX.trans hE_
 clear hE_
 rw [← hY,hn8,← hc8] at hOC
 rw [hn8]
 have hCr:MatE (EI 5) w_4 _ n (fun _=>c8) Y:=(hOC.read (fun i j _ _=>(bY i j).mono (by decide)) (by omega) (by omega))
 refine gg ?_
 refine gg ?_
 refine R1_call2 (transformR_ok _ _ n n 5 (fun _=>n) (fun _=>c8) M Y w_4 (hM5 5 (by decide) hK) hCr (by decide) (by decide)) ?_
 rintro _ w_5 ⟨hE_,a1,m1,c1,rfl,hM1⟩
 replace hB5:=hB5.ext hE_
 replace hK:=hK.trans hE_
 replace hX:=hX.trans hE_
 clear hE_
 have hK1:Ext w_5 w_5:=Ext.refl _
 rw [← he1] at hM1 ⊢
 obtain ⟨y0,y1,y2⟩:=blkT hB5
 refine gg ?_
 refine R1_load3F (by decide) agg_Grid rfl y0 y1 y2 ?_
 clear y0 y1 y2
 refine gg ?_
 refine gg ?_
 refine R1_call2 (gridMatrix_ok _ (n - 1) cy ny 8 nsy w_5 (hGy w_5 hX) (by decide) (by decide)) ?_
 rintro _ w_6 ⟨hE_,gD,gsD,rfl,_,_,hOD⟩
 replace hB5:=hB5.ext hE_
 replace hK:=hK.trans hE_
 replace hK1:=hK1.trans hE_
 replace hX:=hX.trans hE_
 clear hE_
 rw [← hY,hn8,← hc8] at hOD
 rw [hn8]
 have hDr:MatE (EI 5) w_6 _ n (fun _=>c8) Y:=(hOD.read (fun i j _ _=>(bY i j).mono (by decide)) (by omega) (by omega))
 refine gg ?_
 refine gg ?_
 refine R1_call2 (rtransformR_ok _ _ n n 5 (fun _=>n) (fun _=>c8) M Y w_6 (hM5 5 (by decide) hK) hDr (by decide) (by decide)) ?_
 rintro _ w_7 ⟨hE_,a2,m2,c2,rfl,hM2⟩
 replace hB5:=hB5.ext hE_
 replace hK:=hK.trans hE_
 replace hK1:=hK1.trans hE_
 replace hX:=hX.trans hE_
 clear hE_
 have hK2:Ext w_7 w_7:=Ext.refl _
 rw [← he1] at hM2 ⊢
 refine gg ?_
 refine gg ?_
 refine R1_call2 (transformR_ok va vb ra rb 100 lena lenb Ma Mb w_7 (hA.ext hX) (hB.ext hX) (by decide) (by decide)) ?_
 rintro _ w_8 ⟨hE_,a3,m3,c3,rfl,hM3⟩
 replace hB5:=hB5.ext hE_
 replace hK:=hK.trans hE_
 replace hK1:=hK1.trans hE_
 replace hK2:=hK2.trans hE_
 replace hX:=hX.trans hE_
 clear hE_
 have hK3:Ext w_8 w_8:=Ext.refl _
 rw [← he2] at hM3 ⊢
 refine gg ?_
 refine gg ?_
 refine R1_call2 (rtransformR_ok va vb ra rb 100 lena lenb Ma Mb w_8 (hA.ext hX) (hB.ext hX) (by decide) (by decide)) ?_
 rintro _ w_9 ⟨hE_,a4,m4,c4,rfl,hM4⟩
 replace hB5:=hB5.ext hE_
 replace hK:=hK.trans hE_
 replace hK1:=hK1.trans hE_
 replace hK2:=hK2.trans hE_
 replace hK3:=hK3.trans hE_
 replace hX:=hX.trans hE_
 clear hE_
 have hK4:Ext w_9 w_9:=Ext.refl _
 rw [← he2] at hM4 ⊢
 refine gg ?_
 refine gg ?_
 refine R1_call2 (transformR_ok _ vb n rb 100 (fun _=>n) lenb M Mb w_9 (hM5 100 (by decide) hK) (hB.ext hX) (by decide) (by decide)) ?_
 rintro _ w_10 ⟨hE_,a5,m5,c5,rfl,hM5'⟩
 replace hB5:=hB5.ext hE_
 replace hK:=hK.trans hE_
 replace hK1:=hK1.trans hE_
 replace hK2:=hK2.trans hE_
 replace hK3:=hK3.trans hE_
 replace hK4:=hK4.trans hE_
 replace hX:=hX.trans hE_
 clear hE_
 have hK5:Ext w_10 w_10:=Ext.refl _
 rw [← he3] at hM5' ⊢
 refine gg ?_
 refine gg ?_
 refine R1_call2 (rtransformR_ok _ vb n rb 100 (fun _=>n) lenb M Mb w_10 (hM5 100 (by decide) hK) (hB.ext hX) (by decide) (by decide)) ?_
 rintro _ w_11 ⟨hE_,a6,m6,c6,rfl,hM6⟩
 replace hB5:=hB5.ext hE_
 replace hK:=hK.trans hE_
 replace hK1:=hK1.trans hE_
 replace hK2:=hK2.trans hE_
 replace hK3:=hK3.trans hE_
 replace hK4:=hK4.trans hE_
 replace hK5:=hK5.trans hE_
 replace hX:=hX.trans hE_
 clear hE_
 have hK6:Ext w_11 w_11:=Ext.refl _
 rw [← he3] at hM6 ⊢
 refine gg ?_
 refine gg ?_
 refine R1_call2 (rsameM_ok _ _ _ _ (5 + (5 + 5 + 1) + 1) _ _ _ _ w_11 (hM1.extC hK1) (hM2.extC hK2) (by decide)) ?_
 rintro _ w_12 ⟨hE_,b,rfl,hb⟩
 replace hB5:=hB5.ext hE_
 replace hK:=hK.trans hE_
 replace hK1:=hK1.trans hE_
 replace hK2:=hK2.trans hE_
 replace hK3:=hK3.trans hE_
 replace hK4:=hK4.trans hE_
 replace hK5:=hK5.trans hE_
 replace hK6:=hK6.trans hE_
 replace hX:=hX.trans hE_
 clear hE_
 obtain rfl:b = true:=hb.2 ⟨rfl,fun i hi=>⟨rfl,fun j hj=>rfl⟩⟩
 clear hb
 refine gg ?_
 refine gg ?_
 refine R1_call2 (rsameM_ok _ _ _ _ (100 + (100 + 100 + 1) + 1) _ _ _ _ w_12 (hM3.extC hK3) (hM4.extC hK4) (by decide)) ?_
 rintro _ w_13 ⟨hE_,b,rfl,hb⟩
 replace hB5:=hB5.ext hE_
 replace hK:=hK.trans hE_
 replace hK1:=hK1.trans hE_
 replace hK2:=hK2.trans hE_
 replace hK3:=hK3.trans hE_
 replace hK4:=hK4.trans hE_
 replace hK5:=hK5.trans hE_
 replace hK6:=hK6.trans hE_
 replace hX:=hX.trans hE_
 clear hE_
 obtain rfl:b = true:=hb.2 ⟨rfl,fun i hi=>⟨rfl,fun j hj=>rfl⟩⟩
 clear hb
 refine gg ?_
 refine gg ?_
 refine R1_call2 (rsameM_ok _ _ _ _ (100 + (100 + 100 + 1) + 1) _ _ _ _ w_13 (hM5'.extC hK5) (hM6.extC hK6) (by decide)) ?_
 rintro _ w_14 ⟨hE_,b,rfl,hb⟩
 replace hB5:=hB5.ext hE_
 replace hK:=hK.trans hE_
 replace hK1:=hK1.trans hE_
 replace hK2:=hK2.trans hE_
 replace hK3:=hK3.trans hE_
 replace hK4:=hK4.trans hE_
 replace hK5:=hK5.trans hE_
 replace hK6:=hK6.trans hE_
 replace hX:=hX.trans hE_
 clear hE_
 obtain rfl:b = true:=hb.2 ⟨rfl,fun i hi=>⟨rfl,fun j hj=>rfl⟩⟩
 clear hb
 refine gg ?_
 refine gg ?_
 refine R1_call2 (awake7_ok w_14 (hm.ext hX)) ?_
 rintro _ w_15 ⟨hE_,rfl⟩
 replace hB5:=hB5.ext hE_
 replace hK:=hK.trans hE_
 replace hK1:=hK1.trans hE_
 replace hK2:=hK2.trans hE_
 replace hK3:=hK3.trans hE_
 replace hK4:=hK4.trans hE_
 replace hK5:=hK5.trans hE_
 replace hK6:=hK6.trans hE_
 replace hX:=hX.trans hE_
 clear hE_
 refine gg ?_
 exact ret1 (v:=.bool _) rfl rfl ⟨hX,rfl⟩
end Go.Proofs.YtncbjgblcofddaaGreatDoor
