/- Joined: Rlb, Cgr, Rcg, Gdt, Llp, Awl. -/
import Derived.Test.YtncbjgblcofddaaGreatDoorQnd
import Derived.Test.YtncbjgblcofddaaGreatDoorQng
import Derived.Test.YtncbjgblcofddaaGreatDoorQnb
import Derived.Test.YtncbjgblcofddaaGreatDoorQm
import Derived.Test.YtncbjgblcofddaaGreatDoorQr
import Derived.Test.YtncbjgblcofddaaGreatDoorQi
import Derived.Test.YtncbjgblcofddaaGreatDoorQze
/- quadformref08: Sized,Lovasz,small,reduced,IsReduced. -/
namespace Go.Det
open Go Go.Proofs.YtncbjgblcofddaaGreatDoor
theorem sm_ext' {m n:Nat} {f:Nat→Int} (h:m≤n) (hz:∀ i,m≤i→i < n→f i = 0):sm n f = sm m f:=by
 induction n with
 | zero=>rw [show m = 0 by omega]
 | succ n ih =>
  by_cases e:m = n + 1
  · rw [e]
  · simp only [sm]
    rw [ih (by omega) fun i h1 h2=>hz i h1 (by omega),hz n (by omega) (by omega),Int.add_zero]
variable {n:Nat} {G T:Mt}
def ed (d:Nat):Nat→Int:=fun x=>if x = d then 1 else 0
theorem bil_ed {u:Nat→Int} {d:Nat} (hd:d < n):bil n G u (ed d) = sm n fun a=>u a * G a d:=by
 unfold bil
 refine sm_congr fun a ha=>?_
 congr 1
 rw [sm_one (c:=d) hd fun b _ hb=>by simp only [ed]; rw [if_neg hb,Int.mul_zero]]
 simp only [ed,if_true,Int.mul_one]
theorem bil_ed2 {i d:Nat} (hi:i < n) (hd:d < n):bil n G (ed i) (ed d) = G i d:=by
 rw [bil_ed hd,sm_one (c:=i) hi fun b _ hb=>by simp only [ed]; rw [if_neg hb,Int.zero_mul]]
 simp only [ed,if_true,Int.one_mul]
theorem bil_one (_hG:Sy n G) (u v:Nat→Int):bil n (gr n one G) u v = bil n G u v:=by
 unfold bil
 exact sm_congr fun a ha=>by rw [sm_congr fun b hb=>by rw [gr_one ha hb]]
theorem cauchyS (hG:Sy n G) (hp:PM n G) (x y:Nat→Int) (hy:0 < bil n G y y):bil n G x y * bil n G x y≤bil n G x x * bil n G y y:=by
 have hp':PM n (gr n one G):=fun m hm=>by rw [gr_one_det hm]; exact hp m hm
 have:=cauchy (n:=n) (H:=gr n one G) (gr_tr hG) hp' x y (by rw [bil_one hG]; exact hy)
 rwa [bil_one hG,bil_one hG,bil_one hG] at this
theorem bil_nonnegS (hG:Sy n G) (hp:PM n G) (x:Nat→Int):0≤bil n G x x:=by
 have hp':PM n (gr n one G):=fun m hm=>by rw [gr_one_det hm]; exact hp m hm
 have:=bil_nonneg (n:=n) (H:=gr n one G) (gr_tr hG) hp' x
 rwa [bil_one hG] at this
theorem diag_posS (hG:Sy n G) (hp:PM n G) {d:Nat} (hd:d < n):0 < G d d:=by
 have hp':PM n (gr n one G):=fun m hm=>by rw [gr_one_det hm]; exact hp m hm
 have:=diag_pos (H:=gr n one G) (gr_tr hG) hp' hd d 0 (by omega)
 rw [bm_zero',gr_one hd hd] at this
 exact this
theorem bil_posS (hG:Sy n G) (hp:PM n G) (z:Nat→Int) (hz:∃ i,i < n∧z i ≠ 0):0 < bil n G z z:=by
 have h0:=bil_nonnegS hG hp z
 refine Classical.byContradiction fun hn=>?_
 have e:0 = bil n G z z:=by omega
 obtain ⟨i,hi,hzi⟩:=hz
 refine hzi (uniq n (tr G) z (by rw [det_tr]; have:=hp n (Nat.le_refl _); omega) (fun d hd=>?_) i hi)
 have hc:=cauchyS hG hp z (ed d) (by rw [bil_ed2 hd hd]; exact diag_posS hG hp hd)
 rw [← e,Int.zero_mul] at hc
 have h1:bil n G z (ed d) = 0:=by
  have h2:=sq_nonneg (bil n G z (ed d))
  have h3:bil n G z (ed d) * bil n G z (ed d) = 0:=by omega
  rcases Int.mul_eq_zero.1 h3 with h | h <;> exact h
 rw [bil_ed hd] at h1
 rw [← h1]
 exact sm_congr fun c _=>Int.mul_comm _ _
theorem bil_gr2 (m:Nat) (x y:Nat→Int):bil m (gr n T G) x y = bil n G (fun c=>sm m fun i=>x i * T i c) (fun c=>sm m fun i=>y i * T i c):=by
 have h1:∀ (k:Nat) (z:Nat→Int) ,bil n G (fun c=>sm k fun i=>x i * T i c) z = sm k fun i=>x i * bil n G (T i) z:=by
  intro k z
  induction k with
  | zero=>simp only [sm,bil]; exact sm_zero fun a _=>by rw [Int.zero_mul]
  | succ k ih =>
   simp only [sm]
   have:=bil_lin_left n G (fun c=>sm k fun i=>x i * T i c) (T k) z 1 (x k)
   simp only [Int.one_mul] at this
   rw [this,ih]
 have h2:∀ (k:Nat) (z:Nat→Int) ,bil n G z (fun c=>sm k fun i=>y i * T i c) = sm k fun i=>y i * bil n G z (T i):=by
  intro k z
  induction k with
  | zero=>simp only [sm,bil]; exact sm_zero fun a _=>by rw [sm_zero fun b _=>by rw [Int.mul_zero],Int.mul_zero]
  | succ k ih =>
   simp only [sm]
   have:=bil_lin_right n G (fun c=>sm k fun i=>y i * T i c) (T k) z 1 (y k)
   simp only [Int.one_mul] at this
   rw [this,ih]
 rw [h1]
 unfold bil
 refine sm_congr fun i _=>?_
 congr 1
 have:=h2 m (T i)
 unfold bil at this
 rw [this]
 refine sm_congr fun j _=>?_
 rw [Int.mul_comm]; rfl
theorem bil_gr (m:Nat) (y:Nat→Int):bil m (gr n T G) y y = bil n G (fun c=>sm m fun i=>y i * T i c) (fun c=>sm m fun i=>y i * T i c):=bil_gr2 m y y
theorem PM.cong (hG:Sy n G) (hp:PM n G) (hT:det n T ≠ 0):PM n (gr n T G):=by
 refine minors_pos n _ fun m y hm hy=>?_
 rw [gr_tr hG]
 show 0 < bil m (gr n T G) y y
 rw [bil_gr]
 refine bil_posS hG hp _ (Classical.byContradiction fun hno=>?_)
 have h0:∀ c,c < n→(sm m fun i=>y i * T i c) = 0:=fun c hc=>Classical.byContradiction fun h=>hno ⟨c,hc,h⟩
 obtain ⟨i,hi,hyi⟩:=hy
 have:=uniq n (tr T) (fun i=>if i < m then y i else 0) (by rw [det_tr]; exact hT) (fun c hc=>by
  rw [sm_ext' hm fun i h1 h2=>by rw [if_neg (by omega),Int.mul_zero],← h0 c hc]
  exact sm_congr fun i hi=>by rw [if_pos hi,Int.mul_comm]; rfl) i (by omega)
 rw [if_pos hi] at this
 exact hyi this
end Go.Det
namespace Go.Proofs.YtncbjgblcofddaaGreatDoor
open Go Go.Eng Go.Num Go.Proofs
open Go.Det (gr bm det Sy PM Red)
theorem gr_mulM2 (n:Nat) (T G:Nat→Nat→Int):mulM n (mulM n (fun i j=>T j i) G) T = gr n (fun i j=>T j i) G:=by
 have:mulM n (mulM n (fun i j=>T j i) G) T = mulM n (fun i j=>T j i) (mulM n G T):=by
  funext i j; exact mulM_assoc n _ _ _ i j
 rw [this,Go.Det.gr_mul,mulM_mul,mulM_mul]; rfl
theorem rcongruent_ok {va vt:Value} {n N N2:Nat} {G T:Nat→Nat→Int} {w:World} (ha:MatE (EI N) w va n (fun _=>n) G) (ht:MatE (EI N) w vt n (fun _=>n) T) (hn1:1≤n) (hn:n≤16) (hN:N < 34359738) (_hN2:N2 = N + N + 1) :
 Meets Tryz.prog 69 #[va,vt] w (RM w n n (gr n (fun i j=>T j i) G)):=by
 refine fn_W (n:=17) Tryz.func69 rfl rfl (by kernel_rfl) (by simp) ?_
 have bG:∀ i j,i < n→j < n→Bd N (G i j):=fun i j hi hj=>ha.bd hi hj
 have bT:∀ i j,i < n→j < n→Bd N (T i j):=fun i j hi hj=>ht.bd hi hj
 have hnb:n < 9223372036854775808:=by omega
 have hX:Ext w w:=Ext.refl w
 refine gh ?_
 refine R1_call2 (rtranspose_ok vt n N (fun _=>n) T w ht (by omega)) ?_
 intro u w3 hu
 obtain ⟨_,rfl,hE3,gt,gst,rfl,_,_,hOt⟩:=hu.get (okM_iff.2 ⟨⟨hn1,hn,hn1,hn⟩,fun _ _=>rfl⟩)
 clear hu
 replace ha:=ha.ext hE3
 replace ht:=ht.ext hE3
 replace hX:=hX.trans hE3
 refine gh ?_
 refine R1_call2 (rproductT_ok (N:=N) (hOt.rd (fun i j hi hj=>bT j i hj hi) (Nat.le_refl _) hnb hnb) ha (by omega) hn1 hn hn1 hn hn1 hn) ?_
 rintro _ w4 ⟨hE4,g4,gs4,rfl,_,_,hO4⟩
 replace ht:=ht.ext hE4
 replace hX:=hX.trans hE4
 have b4:∀ i j,i < n→j < n→Bd (N + N + 1) (mulM n (fun i j=>T j i) G i j):=fun i j hi hj=>by
  exact sumTo_bd (N:=N + N) (by omega) fun t ht=>(bT t i ht hi).mul (bG t j ht hj)
 refine gh ?_
 refine R1_call2 (rproductT_ok (N:=N + N + 1) (hO4.rd b4 (Nat.le_refl _) hnb hnb) (ht.mono (by omega)) (by omega) hn1 hn hn1 hn hn1 hn) ?_
 rintro _ w5 ⟨hE5,g5,gs5,rfl,h51,h52,hO5⟩
 rw [gr_mulM2] at hO5
 have hsz:=hX.size
 refine gh ?_
 exact ret1 (v:=.slice _ _ _) rfl rfl ⟨hX.trans hE5,g5,gs5,rfl,by omega,fun i hi=>by have:=h52 i hi; omega,hO5⟩
theorem zbd {z:Int} (h1:-9223372036854775808≤z) (h2:z < 9223372036854775808):Bd 2 z:=by
 unfold Bd
 have:B ^ 2 = 18446744073709551616:=by decide
 omega
theorem MatZ.rng {w:World} {v:Value} {r i j:Nat} {len:Nat→Nat} {M:Nat→Nat→Int} (h:MatZ w v r len M) (hi:i < r) (hj:j < len i):-9223372036854775808≤M i j∧M i j < 9223372036854775808:=by
 obtain ⟨A,cap,rfl,_,_,hrow⟩:=h
 obtain ⟨_,u,_,_,hz⟩:=hrow i hi
 obtain ⟨_,_,_,_,_,he⟩:=hz
 obtain ⟨_,_,_,h1,h2⟩:=he j hj
 exact ⟨h1,h2⟩
end Go.Proofs.YtncbjgblcofddaaGreatDoor
namespace Go.Proofs.YtncbjgblcofddaaGreatDoor
open Go Go.Eng Go.Num Go.Proofs
def RGd (w:World) (r:Nat) (len:Nat→Nat) (M:Nat→Nat→Int) (v:Value) (w':World):Prop :=
 Ext w w'∧∃ x y,v = .tuple #[.agg #[x,y],.int .i64 ((valE r len M:Nat):Int)]∧CV w' x y (if valE r len M = 0 then Go.Det.det r M else 0)
set_option maxHeartbeats 16000000 in
theorem gdet_ok (va:Value) (r N:Nat) (len:Nat→Nat) (M:Nat→Nat→Int) (w:World) (ha:MatE (EI N) w va r len M) (hN1:1≤N) (hN:N < 1048576) :
 Meets Tryz.prog 44 #[va] w (RGd w r len M):=by
 refine fn_W (n:=19) Tryz.func44 rfl rfl (by kernel_rfl) (by simp) ?_
 have hX:Ext w w:=Ext.refl w
 refine gg ?_
 refine R1_alloc (.inl rfl) z_Int ?_
 intro w_1 hB0_ hE_ hs_
 have hR:=Bx.zero (N:=1) true hB0_
 obtain ⟨gR,hg_⟩ : ∃ g,g = w.heap.size:=⟨_,rfl⟩
 rw [← hg_] at hR ⊢
 have hfr_gR:w.heap.size≤gR:=by have:=hX.size; omega
 replace ha:=ha.ext hE_
 replace hX:=hX.trans hE_
 clear hB0_ hs_ hg_ hE_
 refine gg ?_
 refine W_seq ?_
 refine gg ?_
 refine gg ?_
 refine R1_call2 (validate_ok va r N len M w_1 ha hN1 hN) ?_
 rintro _ w_2 ⟨hE_,rfl⟩
 replace ha:=ha.ext hE_
 replace hR:=hR.ext hE_
 replace hX:=hX.trans hE_
 clear hE_
 have h5:=valE_le r len M
 by_cases h0:valE r len M = 0
 rotate_left
 · refine gg ?_
   refine R1_bld0 b0_Int ?_
   refine gg ?_
   refine gg ?_
   refine R1_storeBx (by first | exact .inl rfl | exact .inr ⟨rfl,fun _ h=>h.mono fun b _ e=>by omega⟩) rfl rfl hR ((CV.zero w_2).ev true (Bd.zero 1)) ?_
   intro w_3 hR hC_ hk_ hs_
   clear ha
   replace hX:=hC_.ext_of hX (fun b hb=>by omega)
   clear hC_ hk_ hs_
   obtain ⟨u,v,hU,hV⟩:=hR
   refine gg ?_
   refine retCB (v:=.int _ _) rfl agg_Int rfl hU rfl ⟨hX,u,v,rfl,?_⟩
   rw [if_neg h0]; exact hV.2 rfl
 refine gg ?_
 obtain ⟨hok,h8,_⟩:=valE_zero.1 h0
 obtain ⟨hr1,hr2,hlen⟩:=okS_iff.1 hok
 refine gg ?_
 refine R1_call2 (detT_ok (ha.sq hlen) hN1 hN hr1 hr2) ?_
 rintro _ w_4 ⟨hE_,x,y,rfl,hcv⟩
 replace ha:=ha.ext hE_
 replace hR:=hR.ext hE_
 replace hX:=hX.trans hE_
 clear hE_
 have hbd:Bd (Nb N r) (detB r M):=detB_bd hN1 fun i j hi hj=>(ha.sq hlen).bd hi hj
 refine gg ?_
 refine R1_alloc (.inl rfl) z_Int ?_
 intro w_5 hB0_ hE_ hs_
 have hD:=Bx.zero (N:=1) true hB0_
 obtain ⟨gD,hg_⟩ : ∃ g,g = w_4.heap.size:=⟨_,rfl⟩
 rw [← hg_] at hD ⊢
 have hfr_gD:w.heap.size≤gD:=by have:=hX.size; omega
 have hne_gD_gR:gD ≠ gR:=by have:=hR.lt; omega
 replace ha:=ha.ext hE_
 replace hR:=hR.ext hE_
 replace hcv:=hcv.ext hE_
 replace hX:=hX.trans hE_
 clear hB0_ hs_ hg_ hE_
 refine gg ?_
 refine R1_storeBx (by first | exact .inl rfl | exact .inr ⟨rfl,fun _ h=>h.mono fun b _ e=>by omega⟩) rfl rfl hD (hcv.ev true hbd) ?_
 intro w_6 hD hC_ hk_ hs_
 clear ha
 replace hR:=hR.kp hk_ hC_ (by first | omega | assumption)
 replace hcv:=hcv.kp hk_
 replace hX:=hC_.ext_of hX (fun b hb=>by omega)
 clear hC_ hk_ hs_
 refine gg ?_
 obtain ⟨hD_u,hD_v,hD_B,hD_V⟩:=id hD
 obtain ⟨hD_0,hD_1⟩:=blkP hD_B
 refine gg ?_
 refine R1_storeBx (by first | exact .inl rfl | exact .inr ⟨rfl,fun _ h=>h.mono fun b _ e=>by omega⟩) rfl rfl hR (hD_V) ?_
 intro w_7 hR hC_ hk_ hs_
 replace hcv:=hcv.kp hk_
 replace hD:=hD.kp hk_ hC_ (by first | omega | assumption)
 replace hX:=hC_.ext_of hX (fun b hb=>by omega)
 clear hC_ hk_ hs_
 obtain ⟨u,v,hU,hV⟩:=hR
 refine gg ?_
 refine retCB (v:=.int _ _) rfl agg_Int rfl hU rfl ⟨hX,u,v,by rw [h0],?_⟩
 rw [if_pos h0,← detB_det]; exact hV.2 rfl
open Classical in
noncomputable def trE (r:Nat) (len:Nat→Nat) (M:Nat→Nat→Int) (r2:Nat) (len2:Nat→Nat) (T:Nat→Nat→Int):Nat :=
 if valE r len M = 0 then
  if okM r2 len2 = true∧r2 = r∧len2 0≤r2 then
   if ∃ k,k < len2 0∧Go.Det.Rk r2 (len2 0) T k then 8 else 0
  else 3
 else valE r len M
def RTr (w:World) (e r c:Nat) (M T:Nat→Nat→Int) (v:Value) (w':World):Prop :=
 Ext w w'∧((e ≠ 0∧v = .tuple #[.slice none 0 0,.int .i64 ((e:Nat):Int)]) ∨ (e = 0∧∃ gO gs,v = .tuple #[.slice (some ⟨gO,0,none⟩) c c,.int .i64 ((0:Nat):Int)]∧OMat w' gO gs c c (mulM r (fun i j=>T j i) (mulM r M T))))
set_option maxHeartbeats 16000000 in
theorem transform_ok (va vb:Value) (r r2 N:Nat) (len len2:Nat→Nat) (M T:Nat→Nat→Int) (w:World) (ha:MatE (EI N) w va r len M) (hb:MatE (EI N) w vb r2 len2 T) (hN1:1≤N) (hN:N < 1048576) :
 Meets Tryz.prog 54 #[va,vb] w (RTr w (trE r len M r2 len2 T) r (len2 0) M T):=by
 refine fn_W (n:=66) Tryz.func54 rfl rfl (by kernel_rfl) (by simp) ?_
 obtain ⟨Aa,ca,hva,_⟩:=id ha
 have hX:Ext w w:=Ext.refl w
 refine gg ?_
 refine W_seq ?_
 refine gg ?_
 refine gg ?_
 refine R1_call2 (validate_ok va r N len M w ha hN1 hN) ?_
 rintro _ w_1 ⟨hE_,rfl⟩
 replace ha:=ha.ext hE_
 replace hb:=hb.ext hE_
 replace hX:=hX.trans hE_
 clear hE_
 have h5:=valE_le r len M
 by_cases h0:valE r len M = 0
 rotate_left
 · have e0:trE r len M r2 len2 T = valE r len M:=by unfold trE; rw [if_neg h0]
   refine gg ?_
   exact ret2 (v:=.slice _ _ _) (v':=.int _ _) rfl rfl rfl ⟨hX,.inl ⟨by rw [e0]; exact h0,by rw [e0]⟩⟩
 refine gg ?_
 obtain ⟨hok,h8,_⟩:=valE_zero.1 h0
 obtain ⟨hr1,hr2,hlen⟩:=okS_iff.1 hok
 refine R1_call2 (shapeX_ok _ vb r2 len2 T w_1 hb) ?_
 rintro _ _ ⟨rfl,rfl⟩
 obtain ⟨s1,c1,ok1,e1,h1⟩:=shapeV_cases r2 len2
 rw [e1]
 clear e1
 have bad:¬ (okM r2 len2 = true∧r2 = r∧len2 0≤r2)→trE r len M r2 len2 T = 3:=fun h=>by unfold trE; rw [if_pos h0,if_neg h]
 rcases h1 with ⟨hok2,rfl,rfl,rfl⟩ | ⟨hok2,rfl,rfl,rfl⟩
 rotate_left
 · have e0:=bad (fun h=>by rw [hok2] at h; cases h.1)
   refine gg ?_
   refine W_seq ?_
   refine gg ?_
   exact ret2 (v:=.slice _ _ _) (v':=.int _ _) rfl rfl rfl ⟨hX,.inl ⟨by rw [e0]; decide,by rw [e0]⟩⟩
 by_cases hrr:s1 = r
 rotate_left
 · have e0:=bad (fun h=>hrr h.2.1)
   rw [hva]
   refine gg ?_
   refine W_seq ?_
   refine gg ?_
   exact ret2 (v:=.slice _ _ _) (v':=.int _ _) rfl rfl rfl ⟨hX,.inl ⟨by rw [e0]; decide,by rw [e0]⟩⟩
 by_cases hc1:len2 0≤s1
 rotate_left
 · have e0:=bad (fun h=>hc1 h.2.2)
   rw [hva]
   refine gg ?_
   refine W_seq ?_
   refine gg ?_
   exact ret2 (v:=.slice _ _ _) (v':=.int _ _) rfl rfl rfl ⟨hX,.inl ⟨by rw [e0]; decide,by rw [e0]⟩⟩
 obtain ⟨⟨hs1,hs2,hl1,hl2⟩,hlen2⟩:=okM_iff.1 hok2
 subst hrr
 obtain ⟨c,hc⟩ : ∃ c,c = len2 0:=⟨_,rfl⟩
 rw [← hc]
 have hc1':c≤s1:=by omega
 rw [hva]
 refine gg ?_
 refine W_seq ?_
 refine gg ?_
 rw [← hva]
 refine W_seq ?_
 refine gg ?_
 refine R1_call2 (rank_ok vb s1 N len2 T w_1 hb hN1 hN) ?_
 rintro _ w_r ⟨hE_r,⟨hno,_⟩ | ⟨_,k,rfl,hk⟩⟩
 · rw [hok2] at hno; cases hno
 rw [← hc] at hk
 have hX:=hX.trans hE_r
 have ha:=ha.ext hE_r
 have hb:=hb.ext hE_r
 by_cases hkc:k < c
 · have e0:trE s1 len M s1 len2 T = 8:=by
    unfold trE
    rw [if_pos h0,if_pos ⟨hok2,rfl,by omega⟩,if_pos ⟨k,by omega,by rw [← hc]; exact hk⟩]
   refine gg ?_
   exact ret2 (v:=.slice _ _ _) (v':=.int _ _) rfl rfl rfl ⟨hX,.inl ⟨by rw [e0]; decide,by rw [e0]⟩⟩
 have e0:trE s1 len M s1 len2 T = 0:=by
  unfold trE
  rw [if_pos h0,if_pos ⟨hok2,rfl,by omega⟩,if_neg]
  rintro ⟨k',h1,h2⟩
  rw [← hc] at h2
  have:=h2.unique hk
  omega
 refine gg ?_
 have hT:=hb.sq (c:=c) (fun i hi=>by rw [hlen2 i hi,hc])
 have hG:=ha.sq hlen
 refine gg ?_
 refine R1_call2 (transposeT_ok hT (by omega) hr1 hr2 (by omega) (by omega)) ?_
 rintro _ w_2 ⟨hE_,gT,gsT,rfl,hO⟩
 replace hT:=hT.ext hE_
 replace hG:=hG.ext hE_
 replace hX:=hX.trans hE_
 clear hE_
 refine gg ?_
 refine gg ?_
 refine R1_call2 (mulT_ok hG hT (by omega) hr1 hr2 hr1 hr2 (by omega) (by omega)) ?_
 rintro _ w_3 ⟨hE_,gU,gsU,rfl,hU⟩
 replace hT:=hT.ext hE_
 replace hG:=hG.ext hE_
 replace hO:=hO.ext hE_
 replace hX:=hX.trans hE_
 clear hE_
 refine gg ?_
 have b1:∀ i j,i < c→j < s1→Bd N (T j i):=fun i j hi hj=>hT.bd hj hi
 have b2:∀ i j,i < s1→j < c→Bd (N + N + 1) (mulM s1 M T i j):=fun i j hi hj=>sumTo_bd (N:=N + N) (by omega) fun k hk=>(hG.bd hi hk).mul (hT.bd hk hj)
 refine gg ?_
 refine R1_call2 (mulT_ok (hO.rd b1 (show N≤N + N + 1 by omega) (by omega) (by omega)) (hU.rd b2 (Nat.le_refl _) (by omega) (by omega)) (by omega) (by omega) (by omega) hr1 hr2 (by omega) (by omega)) ?_
 rintro _ w_4 ⟨hE_,gV,gsV,rfl,hV⟩
 replace hT:=hT.ext hE_
 replace hG:=hG.ext hE_
 replace hO:=hO.ext hE_
 replace hU:=hU.ext hE_
 replace hX:=hX.trans hE_
 clear hE_
 refine gg ?_
 exact ret2 (v:=.slice _ _ _) (v':=.int _ _) rfl rfl rfl ⟨hX,.inr ⟨e0,gV,gsV,rfl,hV⟩⟩
end Go.Proofs.YtncbjgblcofddaaGreatDoor
namespace Go.Proofs.YtncbjgblcofddaaGreatDoor
open Go Go.Eng Go.Num Go.Proofs
open Go.Det (gr bm det Sy PM Red one)
theorem val_pm {r:Nat} {len:Nat→Nat} {G:Nat→Nat→Int} (h:valE r len G = 0):PM r G∧Sy r G:=by
 obtain ⟨hok,h8,hs,hp⟩:=valE_zero.1 h
 refine ⟨fun m hm=>?_,fun a b ha hb=>?_⟩
 · by_cases e:m = 0
   · subst e; exact Int.zero_lt_one
   · have:=hp (m - 1) (by omega)
     rwa [show m - 1 + 1 = m by omega] at this
 · by_cases e:a = b
   · rw [e]
   · by_cases e2:b < a
     · exact hs a b ha e2
     · exact (hs b a hb (by omega)).symm
theorem trE_sq {r:Nat} {len len2:Nat→Nat} {G X:Nat→Nat→Int} (h:valE r len G = 0) (hl:∀ i,i < r→len2 i = r) (hX:det r X ≠ 0):trE r len G r len2 X = 0:=by
 obtain ⟨hok,h8,_⟩:=valE_zero.1 h
 obtain ⟨hr1,hr2,_⟩:=okS_iff.1 hok
 have h0:=hl 0 (by omega)
 unfold trE
 rw [if_pos h,if_pos ⟨okM_iff.2 ⟨⟨hr1,hr2,by omega,by omega⟩,fun i hi=>by rw [hl i hi,h0]⟩,rfl,by omega⟩,if_neg]
 rintro ⟨k,h1,h2⟩
 rw [h0] at h1 h2
 have:=h2.2.le (s:=r) ⟨id,id,fun t ht=>⟨ht,ht⟩,hX⟩
 omega
end Go.Proofs.YtncbjgblcofddaaGreatDoor
