/- Joined: Lrh, Lyc. -/
import Derived.Test.YtmkbpjoihdfpkaaGreatQf
import Derived.Test.YtmkbpjoihdfpkaaGreatQnj
import Derived.Test.YtmkbpjoihdfpkaaGreatQnl
/- quadformlaw08.large. -/
namespace Go.Proofs.YtmkbpjoihdfpkaaGreat
open Go Go.Eng Go.Num Go.Proofs
def Sm8 (r:Nat) (len:Nat→Nat) (L:Nat→Nat→Nat):Prop:=r≤60∧∀ i,i < r→len i≤60∧∀ j,j < len i→L i j≤60
theorem Sm8.e {w:World} {v:Value} {r:Nat} {len:Nat→Nat} {M:Nat→Nat→Int} {L:Nat→Nat→Nat} (h:Sm8 r len L) (hm:MatL w v r len M L):MatE (EI 60) w v r len M:=hm.e fun i hi j hj=>(h.2 i hi).2 j hj
set_option maxHeartbeats 8000000 in
theorem large8_ok (v:Value) (r:Nat) (len:Nat→Nat) (M:Nat→Nat→Int) (L:Nat→Nat→Nat) (w:World) (h:MatL w v r len M L) :
 Meets Tryz.prog 26 #[v] w fun u w'=>w = w'∧∃ b,u = .bool b∧(b = false→Sm8 r len L):=by
 obtain ⟨A,cap,rfl,hrc,hcap,hr47,hrow⟩:=h
 refine fn_W (n:=51) Tryz.func26 rfl rfl (by kernel_rfl) (by simp) ?_
 refine gg ?_
 refine W_seqM (fun f w'=>w = w'∧∃ n,f 3 = .int .i64 ((n:Nat):Int)∧(n≤60→Sm8 r len L)) ?_ ?_
 · refine gg ?_
   refine W_loop (fun m f w'=>w = w'∧∃ i n,m = r - i∧i≤r∧f 0 = .slice A r cap∧f 3 = .int .i64 ((n:Nat):Int)∧f 4 = .int .i64 ((i:Nat):Int)∧r≤n∧n≤281474976710656∧(n < 1000→∀ k,k < i→len k≤n∧∀ j,j < len k→L k j≤n))
    r ⟨rfl,0,r,rfl,Nat.zero_le _,rfl,rfl,rfl,Nat.le_refl _,by omega,fun _ k hk=>absurd hk (by omega)⟩ ?_
   rintro m f w' ⟨rfl,i,n,rfl,hi,hf0,hf3,hf4,hrn,hn,hk⟩
   rw [ui hf0,ui hf3,ui hf4]
   clear hf0 hf3 hf4
   refine W_seq ?_
   by_cases hlt:i < r
   · by_cases hn1:n < 1000
     · obtain ⟨ad,u,rfl,hu,hru⟩:=hrow i hlt
       obtain ⟨Ai,capi,rfl,hci,hcapi,hc47,hent⟩:=hru
       refine gg ?_
       refine W_loop (fun m f w'=>w = w'∧∃ j q,m = len i - j∧j≤len i∧f 0 = .slice (some ad) r cap∧f 3 = .int .i64 ((q:Nat):Int)∧f 4 = .int .i64 ((i:Nat):Int)∧f 5 = .int .i64 ((j:Nat):Int)∧n + len i≤q∧q≤281474976710656∧(q < 1000→∀ t,t < j→L i t≤q))
        (len i) ⟨rfl,0,n + len i,rfl,Nat.zero_le _,rfl,rfl,rfl,rfl,Nat.le_refl _,by omega,fun _ t ht=>absurd ht (by omega)⟩ ?_
       rintro m f w' ⟨rfl,j,q,rfl,hj,hf0,hf3,hf4,hf5,hnq,hq,hkj⟩
       rw [ui hf0,ui hf3,ui hf4,ui hf5]
       clear hf0 hf3 hf4 hf5
       refine W_seq ?_
       by_cases hjl:j < len i
       · by_cases hq1:q < 1000
         · obtain ⟨ad2,x,y,rfl,hx,hy,neg,B,l,c,rfl,rfl,hlc,hcc,hM,hll,hl47,_⟩:=hent j hjl
           have hy':w.cell? ((ad2.add (j * 2)).add 1) = some (.slice B l.length c):=hy
           refine gg ?_
           refine R1_fieldAddrG fa_Int1 rfl ?_
           refine gg ?_
           refine ⟨_,?_,rfl,j + 1,q + l.length,rfl,by omega,rfl,rfl,rfl,rfl,by omega,by omega,fun h t ht=>?_⟩
           · omega
           · by_cases e:t = j
             · subst e; omega
             · have:=hkj (by omega) t (by omega); omega
         · refine gg ?_
           refine ⟨_,?_,rfl,i + 1,q,rfl,by omega,rfl,rfl,rfl,by omega,hq,fun h=>absurd h hq1⟩
           omega
       · refine gg ?_
         refine ⟨_,?_,rfl,i + 1,q,rfl,by omega,rfl,rfl,rfl,by omega,hq,fun h k hk'=>?_⟩
         · omega
         · by_cases e:k = i
           · subst e
             exact ⟨by omega,fun t ht=>hkj h t (by omega)⟩
           · have:=hk hn1 k (by omega)
             exact ⟨by omega,fun t ht=>by have:=this.2 t ht; omega⟩
     · refine gg ?_
       exact ⟨rfl,n,rfl,fun h=>by omega⟩
   · refine gg ?_
     refine ⟨rfl,n,rfl,fun h=>⟨by omega,fun k hk'=>?_⟩⟩
     have:=hk (by omega) k (by omega)
     exact ⟨by omega,fun j hj=>by have:=this.2 j hj; omega⟩
 · rintro f w' ⟨rfl,n,hf3,hn⟩
   rw [ui hf3]
   clear hf3
   refine gg ?_
   refine ret1 (v:=.bool _) rfl rfl ⟨rfl,_,rfl,fun hb=>hn ?_⟩
   have:¬ (60 < n):=by simpa using hb
   omega
end Go.Proofs.YtmkbpjoihdfpkaaGreat
namespace Go.Proofs.YtmkbpjoihdfpkaaGreat
open Go Go.Eng Go.Num Go.Proofs
open Go.Det (gr bm det Sy PM Red one)
section
variable {P:Program} {n:Nat} {S:World→World→Prop} {k:Nat} {K:Fr→World→Prop} {f:Fr} {w:World} {d ty t t2:Nat} {x y:Operand} {pos:String} {aft:Array Edge} {g:Option (Nat × Bool)}
theorem R1_rem_i8 {a b:Int} (hx:ev n f x = .int .i8 a) (hy:ev n f y = .int .i8 b) (hb:b ≠ 0) (h:K (upd f d (.int .i8 (a.tmod b))) w):R1 P n S k ⟨some d,.binOp .rem t x y t2,ty,pos,aft,g⟩ K f w:=by
 refine R1_bin hx hy (fun _=>by simp [eqGuard,go_sem]) (fun _=>?_) h
 simp only [binOp,Op.intDiv,ne_eq,not_true_eq_false,if_false,hb]; rfl
theorem R1_geq_u8L {a b:Nat} (hx:ev n f x = .int .u8 ((a:Nat):Int)) (hy:ev n f y = .int .u8 ((b:Nat):Int)) (h:K (upd f d (.bool (decide (b≤a)))) w):R1 P n S k ⟨some d,.binOp .geq t x y t2,ty,pos,aft,g⟩ K f w:=R1_geq_u8 hx hy h
end
theorem tmod_lim {a b:Int} (hb:0 < b):-b < a.tmod b∧a.tmod b < b:=by
 have h1:=Int.tmod_lt_of_pos a hb
 have h2:=Int.tmod_lt_of_pos (-a) hb
 rw [Int.neg_tmod] at h2
 omega
set_option maxHeartbeats 32000000 in
theorem lawLllNear {v va vc:Value} {dm kd q m at':Nat} {c:Int} {raw:Bool} {ns ms:Nat→Int} {w:World} (h:LatV w v dm kd q ns m ms) (ha:ByteV va at') (hcc:I8V vc c) :
 Meets Tryz.prog 4 #[v,va,vc,.bool raw] w (Law w):=by
 obtain ⟨A,cap,A',cap',rfl,hd,hk,hc,hc',hN,hN'⟩:=h
 obtain ⟨rfl,hat⟩:=ha
 obtain ⟨rfl,hcl1,hcl2⟩:=hcc
 have hL:=LatV.agg hd hk hc hc' hN hN'
 refine fn_W (n:=75) Tryz.func4 rfl rfl (by kernel_rfl) (by simp) ?_
 have hdm:=Nat.mod_lt dm (show 0 < 5 by decide)
 obtain ⟨n,hn⟩ : ∃ n,n = 1 + dm % 5:=⟨_,rfl⟩
 have hn1:1≤n:=by omega
 have hn8:n≤8:=by omega
 have hX:Ext w w:=Ext.refl w
 refine gh ?_
 refine R1_box (v:=.agg _) (.inl rfl) rfl ?_
 intro w_1 hB0_ hE_ hs_
 have hX1:Blk w_1 w.heap.size 27 #[.int .u8 ((dm:Nat):Int),.int .u8 ((kd:Nat):Int),.slice A q cap,.slice A' m cap']:=hB0_
 obtain ⟨gX,hg_⟩ : ∃ g,g = w.heap.size:=⟨_,rfl⟩
 rw [← hg_] at hX1 ⊢
 have hfr_gX:w.heap.size≤gX:=by have:=hX.size; omega
 replace hX:=hX.trans hE_
 clear hB0_ hs_ hg_ hE_
 obtain ⟨x0,x1,x2,x3⟩:=blkQ hX1
 refine gh ?_
 refine R1_load4F (by decide) agg_Lat rfl x0 x1 x2 x3 ?_
 clear x0 x1 x2 x3
 have hs1:=hX.size
 refine gh ?_
 refine R1_call2 (latGram_ok _ dm kd q m 5 ns ms w_1 (hL w_1 hX) (by decide) (by decide)) ?_
 rintro _ w_2 ⟨hE_,gA,gsA,M,rfl,hgA,hgsA,hZ,_,_,hM⟩
 replace hX1:=hX1.ext hE_
 replace hX:=hX.trans hE_
 clear hE_
 rw [← hn] at hZ hM hgsA ⊢
 have hgX:=hX1.lt
 refine gh ?_
 refine W_seqM (fun f w'=>∃ gO gs H,f 1 = .int .u8 ((at':Nat):Int)∧f 2 = .int .i8 c∧f 4 = .pointer (some ⟨gX,0,none⟩)∧f 9 = .slice (some ⟨gO,0,none⟩) n n∧Ext w w'∧Blk w' gX 27 #[.int .u8 ((dm:Nat):Int),.int .u8 ((kd:Nat):Int),.slice A q cap,.slice A' m cap']∧ZMat w' gO gs n n H∧w.heap.size≤gO∧(∀ i,i < n→w.heap.size≤gs i)∧∀ i j,i < n→j < n→-1000000 < H i j∧H i j < 1000000) ?_ ?_
 · cases raw with
   | true =>
    refine gh ?_
    exact ⟨gA,gsA,M,rfl,rfl,rfl,rfl,hX,hX1,hZ,by omega,fun i hi=>by (have:=hgsA i hi; omega),fun i j hi _=>by (have:=hM i j hi; omega)⟩
   | false =>
    obtain ⟨x0,x1,x2,x3⟩:=blkQ hX1
    refine gh ?_
    refine R1_load4F (by decide) agg_Lat rfl x0 x1 x2 x3 ?_
    clear x0 x1 x2 x3
    have hs2:=hX.size
    refine gh ?_
    refine R1_call2 (latForm_ok _ dm kd q m 5 ns ms w_2 (hL w_2 hX) (by decide) (by decide)) ?_
    rintro _ w_3 ⟨hE_,gB,gsB,H,rfl,hgB,hgsB,hZ0,hred,hsm⟩
    replace hX1:=hX1.ext hE_
    replace hZ:=hZ.ext hE_
    replace hX:=hX.trans hE_
    clear hE_
    rw [← hn] at hZ0 hred hsm hgsB ⊢
    refine gh ?_
    exact ⟨gB,gsB,H,rfl,rfl,rfl,rfl,hX,hX1,hZ0,by omega,fun i hi=>by (have:=hgsB i hi; omega),fun i j hi hj=>by (have:=hsm i j hi hj; omega)⟩
 clear hZ hM hgsA hX hX1
 rintro f w2 ⟨gO,gs,H,hf1,hf2,hf4,hf9,hX,hX1,hZ,hgO,hgs,hH⟩
 rw [ui hf1,ui hf2,ui hf4,ui hf9]
 clear hf1 hf2 hf4 hf9
 have hHr:=hZ.read (fun i j hi hj=>by have:=hH i j hi hj; omega) (by omega) (by omega)
 obtain ⟨x0,x1,x2,x3⟩:=blkQ hX1
 refine W_seq ?_
 refine gh ?_
 refine R1_load4F (by decide) agg_Lat rfl x0 x1 x2 x3 ?_
 clear x0 x1 x2 x3
 refine gh ?_
 refine R1_call2 (latForm_ok _ dm kd q m 5 ns ms w2 (hL w2 hX) (by decide) (by decide)) ?_
 rintro _ w3 ⟨hE3,gB,gsB,F,rfl,_,_,hF,hred,hsm⟩
 rw [← hn] at hF hred hsm ⊢
 replace hX:=hX.trans hE3
 refine gh ?_
 refine R1_call2 (isReduced_ok _ n (fun _=>n) F w3 (hF.read (fun i j hi hj=>by have:=hsm i j hi hj; omega) (by omega) (by omega))) ?_
 rintro _ w4 ⟨hE4,b,rfl,hb⟩
 obtain rfl:b = true:=hb.2 hred
 replace hX:=hX.trans hE4
 have hE24:=hE3.trans hE4
 refine gh ?_
 refine R1_call2 (isReduced_ok _ n (fun _=>n) H w4 (hHr.ext hE24)) ?_
 rintro _ w5 ⟨hE5,b,rfl,hb1⟩
 replace hX:=hX.trans hE5
 have hE25:=hE24.trans hE5
 refine gh ?_
 refine R1_call2 (rIsReduced_ok _ n (fun _=>n) H w5 (hHr.ext hE25)) ?_
 rintro _ w6 ⟨hE6,b',rfl,hb2⟩
 obtain rfl:b = b':=by rw [Bool.eq_iff_iff,hb1,hb2]
 have hbb:(b != b) = false:=by cases b <;> rfl
 replace hX:=hX.trans hE6
 replace hZ:=hZ.ext (hE25.trans hE6)
 clear hHr hE24 hE25 hb hb1 hb2 hF
 refine gh ?_
 rw [hbb]
 refine gh ?_
 have hi:=Nat.mod_lt at' hn1
 have hj:=Nat.mod_lt (at' / 16) hn1
 obtain ⟨i,hie⟩ : ∃ i,i = at' % n:=⟨_,rfl⟩
 obtain ⟨j,hje⟩ : ∃ j,j = at' / 16 % n:=⟨_,rfl⟩
 refine W_seqD [(0,3),(1,3),(2,3),(3,3),(4,3),(5,3),(6,3),(7,3),(8,3),(9,3),(10,3),(11,3),(12,3)] mixed (by kernel_rfl) (fun w7 hE7 _=>?_)
 replace hX:=hX.trans hE7
 replace hZ:=hZ.ext hE7
 refine gh ?_
 refine R1_rem_i64 rfl rfl hn1 ?_
 refine gh ?_
 refine R1_quo_i64_c rfl (by omega) (by decide) ?_
 refine gh ?_
 refine R1_rem_i64 rfl rfl hn1 ?_
 rw [show at' / OfNat.ofNat 16 % n = j from hje.symm,show at' % n = i from hie.symm]
 rw [← hie] at hi
 rw [← hje] at hj
 clear hie hje
 have hx1:=hZ.at hi
 have hx2:=(hZ.row i hi).at hj
 have hHij:=hH i j hi hj
 have htl:=tmod_lim (a:=c) (b:=4) (by decide)
 refine gh ?_
 refine R1_rem_i8 (b:=4) rfl rfl (by decide) ?_
 refine gh ?_
 refine R1_i8_i64 ty_i8 ty_i64 rfl (by omega) (by omega) ?_
 refine gh ?_
 refine R1_storeI (one_of rfl) (.inl rfl) rfl rfl (hZ.row i hi) (by rw [arr_size]; omega) ?_
 intro w8 hB8 hC8 hs8
 have hZ8:=hZ.put hi (RowW.set hB8) hC8
 have hgi:=hgs i hi
 have hgj:=hgs j hj
 replace hX:=hC8.ext_of hX (fun b hb=>by omega)
 have hH8:∀ a b,a < n→b < n→-2000000 < set2 H i j (H i j + c.tmod 4) a b∧set2 H i j (H i j + c.tmod 4) a b < 2000000:=fun a b ha hb=>by
  have:=hH a b ha hb
  unfold set2
  split <;> omega
 generalize set2 H i j (H i j + c.tmod 4) = H8 at hZ8 hH8
 clear hZ hx1 hx2 hH hHij htl hC8 hB8 hs8
 refine gh ?_
 refine W_seqM (fun f w'=>∃ H9,f 9 = .slice (some ⟨gO,0,none⟩) n n∧Ext w w'∧ZMat w' gO gs n n H9∧∀ a b,a < n→b < n→-2000000 < H9 a b∧H9 a b < 2000000) ?_ ?_
 · refine gh ?_
   refine R1_geq_u8L (b:=64) rfl rfl ?_
   by_cases h64:64≤at'
   · refine gh ?_
     refine W_regD [(0,3),(1,3),(2,3),(3,0),(4,3),(5,3),(6,3),(7,3),(8,0),(9,3),(10,3),(11,0),(12,3),(13,2)] mixed (by kernel_rfl) (fun w9 hE9 _=>?_)
     have hZ9:=hZ8.ext hE9
     have hx1:=hZ9.at hi
     have hx2:=hZ9.at hj
     have hx3:=(hZ9.row i hi).at hj
     refine gh ?_
     refine R1_storeI (one_of rfl) (.inl rfl) rfl rfl (hZ9.row j hj) (by rw [arr_size]; omega) ?_
     intro w10 hB10 hC10 hs10
     have hZ10:=hZ9.put hj (RowW.set hB10) hC10
     refine gh ?_
     refine ⟨_,rfl,hC10.ext_of (hX.trans hE9) (fun b hb=>by omega),hZ10,fun a b ha hb=>?_⟩
     have h1:=hH8 a b ha hb
     have h2:=hH8 i j hi hj
     unfold set2
     split <;> omega
   · refine gh ?_
     exact ⟨H8,rfl,hX,hZ8,hH8⟩
 clear hX hZ8 hH8
 rintro f w9 ⟨H9,hf9,hX,hZ,hH⟩
 rw [ui hf9]
 clear hf9
 have hHr:=hZ.read (fun i j hi hj=>by have:=hH i j hi hj; omega) (by omega) (by omega)
 refine gh ?_
 refine R1_call2 (isReduced_ok _ n (fun _=>n) H9 w9 hHr) ?_
 rintro _ w10 ⟨hE10,b,rfl,hb1⟩
 refine gh ?_
 refine R1_call2 (rIsReduced_ok _ n (fun _=>n) H9 w10 (hHr.ext hE10)) ?_
 rintro _ w11 ⟨hE11,b',rfl,hb2⟩
 obtain rfl:b = b':=by rw [Bool.eq_iff_iff,hb1,hb2]
 have hbb:(b == b) = true:=by cases b <;> rfl
 refine gh ?_
 rw [hbb]
 refine gh ?_
 refine R1_call2 (awake8_ok w11) ?_
 rintro _ w12 ⟨hE12,rfl⟩
 refine gh ?_
 exact ret1 (v:=.bool _) rfl rfl ⟨hX.trans (hE10.trans (hE11.trans hE12)),rfl⟩
end Go.Proofs.YtmkbpjoihdfpkaaGreat
