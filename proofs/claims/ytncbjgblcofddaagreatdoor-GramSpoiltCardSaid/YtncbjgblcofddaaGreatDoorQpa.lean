/- Joined: Rps. -/
import Derived.Test.YtncbjgblcofddaaGreatDoorQox
import Derived.Test.YtncbjgblcofddaaGreatDoorQof
import Derived.Test.YtncbjgblcofddaaGreatDoorQoh
import Derived.Test.YtncbjgblcofddaaGreatDoorQoq
import Derived.Test.YtncbjgblcofddaaGreatDoorQos
/- The reference's IsNumber and Parse of an integer. -/
namespace Go.Proofs.YtncbjgblcofddaaGreatDoor
open Go Go.Eng Go.Num Go.Dig Go.Proofs
set_option maxHeartbeats 16000000 in
theorem risNumber_ok (s:List UInt8) (w:World) (hs:s.length < 4398046511104) :
 Meets Tryz.prog 79 #[Tx s] w fun v w'=>w = w'∧∃ b,v = .bool b∧(b = true ↔ isNum s):=by
 refine fn_W (n:=44) Tryz.func79 rfl rfl (by kernel_rfl) (by simp) ?_
 refine gb ?_
 refine W_seqM (fun f w'=>f 0 = Tx s∧f 3 = Tx (unsg s)∧w = w') ?_ ?_
 · refine W_seq ?_
   rcases s with _ | ⟨c,r⟩
   · refine gb ?_
     exact ⟨rfl,rfl,rfl⟩
   have hc:(c :: r)[0]? = some c:=rfl
   have hl:0 < (c :: r).length:=by simp
   refine gb ?_
   refine R1_idxS ty_str rfl (j:=0) rfl hc ?_
   rw [unsg_cons]
   by_cases h45:c = 45
   · have e1:c.toNat = 45:=u8_45.2 h45
     rw [e1,if_pos h45]
     refine gb ?_
     refine R1_dropS ty_str rfl (a:=1) rfl (by simp) ?_
     refine gb ?_
     exact ⟨rfl,rfl,rfl⟩
   · have e1:¬ c.toNat = 45:=fun h=>h45 (u8_45.1 h)
     rw [if_neg h45]
     refine gb ?_
     exact ⟨rfl,rfl,rfl⟩
 rintro f _ ⟨hf0,hf3,rfl⟩
 rw [ui hf0,ui hf3]
 clear hf0 hf3
 obtain ⟨d,hd⟩ : ∃ d,d = unsg s:=⟨_,rfl⟩
 have hdl:d.length≤s.length:=by rw [hd]; unfold unsg; split <;> simp
 have hi:isNum s ↔ d ≠ []∧(∀ c ∈ d,isDig c = true)∧¬ (d.head? = some 48∧s ≠ [48]):=by rw [hd]; exact Iff.rfl
 rw [← hd]
 have no:∀ {w':World},¬ isNum s→w = w'→(w = w'∧∃ b,Value.bool false = .bool b∧(b = true ↔ isNum s)):=fun h e=>⟨e,false,rfl,(fun h=>by cases h),fun h'=>absurd h' h⟩
 refine W_seqM (fun f w'=>f 0 = Tx s∧f 3 = Tx d∧w = w'∧d ≠ []∧¬ (d.head? = some 48∧s ≠ [48])) ?_ ?_
 · refine W_seq ?_
   rcases hdc:d with _ | ⟨c,r⟩
   · refine gb ?_
     exact ret1 (v:=.bool _) rfl rfl (no (fun h=>(hi.1 h).1 hdc) rfl)
   have hc:(c :: r)[0]? = some c:=rfl
   have hl:¬ (c :: r).length = 0:=by simp
   refine gb ?_
   refine R1_idxS ty_str rfl (j:=0) rfl hc ?_
   by_cases h48:c = 48
   · have e1:c.toNat = 48:=by rw [h48]; rfl
     rw [e1]
     by_cases hs48:s = [48]
     · refine gb ?_
       rw [show decide (¬ s = [48]) = false from decide_eq_false (fun h=>h hs48)]
       refine gb ?_
       exact ⟨rfl,rfl,rfl,by simp,fun h=>h.2 hs48⟩
     · refine gb ?_
       rw [show decide (¬ s = [48]) = true from decide_eq_true hs48]
       refine gb ?_
       exact ret1 (v:=.bool _) rfl rfl (no (fun h=>(hi.1 h).2.2 ⟨by rw [hdc,h48]; rfl,hs48⟩) rfl)
   · have e1:¬ c.toNat = 48:=fun h=>h48 (UInt8.toNat_inj.1 h)
     refine gb ?_
     exact ⟨rfl,rfl,rfl,by simp,fun h=>h48 (by simpa using h.1)⟩
 rintro f _ ⟨hf0,hf3,rfl,hne,h48⟩
 rw [ui hf0,ui hf3]
 clear hf0 hf3
 refine W_seqM (fun f w'=>w = w'∧∀ c ∈ d,isDig c = true) ?_ ?_
 · refine gb ?_
   refine W_loop (fun q f w'=>∃ i,q = d.length - i∧i≤d.length∧f 0 = Tx s∧f 3 = Tx d∧f 4 = .int .i64 ((i:Nat):Int)∧w = w'∧∀ k (hk:k < d.length),k < i→isDig d[k] = true)
    d.length ⟨0,rfl,Nat.zero_le _,rfl,rfl,rfl,rfl,fun k _ h=>absurd h (by omega)⟩ ?_
   rintro q f _ ⟨i,rfl,hil,hf0,hf3,hf4,rfl,hall⟩
   rw [ui hf0,ui hf3,ui hf4]
   clear hf0 hf3 hf4
   refine W_seq ?_
   by_cases hlt:i < d.length
   rotate_left
   · refine gb ?_
     refine ⟨rfl,fun c hc=>?_⟩
     obtain ⟨k,hk,rfl⟩:=List.getElem_of_mem hc
     exact hall k hk (by omega)
   have hci:d[i]? = some d[i]:=List.getElem?_eq_getElem hlt
   obtain ⟨c,hcd⟩ : ∃ c,c = d[i]:=⟨_,rfl⟩
   rw [← hcd] at hci
   have hbad:isDig c = false→¬ isNum s:=fun h hn=>by
    have:=(hi.1 hn).2.1 d[i] (List.getElem_mem hlt)
    rw [← hcd,h] at this
    cases this
   have hdi:=isDig_iff c
   have nd:¬ (48≤c.toNat∧c.toNat≤57)→isDig c = false:=fun h=>by
    cases hb:isDig c
    · rfl
    · exact absurd (hdi.1 hb) h
   refine W_seq ?_
   refine gb ?_
   refine R1_idxS ty_str rfl (j:=i) rfl hci ?_
   by_cases hlow:c.toNat < 48
   · refine gb ?_
     exact ret1 (v:=.bool _) rfl rfl (no (hbad (nd (by omega))) rfl)
   by_cases hhigh:57 < c.toNat
   · refine gb ?_
     refine R1_idxS ty_str rfl (j:=i) rfl hci ?_
     refine gb ?_
     exact ret1 (v:=.bool _) rfl rfl (no (hbad (nd (by omega))) rfl)
   refine gb ?_
   refine R1_idxS ty_str rfl (j:=i) rfl hci ?_
   refine gb ?_
   refine ⟨_,?_,i + 1,rfl,by omega,rfl,rfl,rfl,rfl,fun k hk h=>?_⟩
   · omega
   · by_cases e:k = i
     · subst e; rw [← hcd]; exact hdi.2 (by omega)
     · exact hall k hk (by omega)
 rintro f _ ⟨rfl,hall⟩
 refine gb ?_
 exact ret1 (v:=.bool _) rfl rfl ⟨rfl,true,rfl,fun _=>hi.2 ⟨hne,hall,h48⟩,fun _=>rfl⟩
def ndg (s:List UInt8):List UInt8:=s.filter fun c=>c != 45
theorem ndg_num {s:List UInt8} (h:isNum s):ndg s = unsg s:=by
 have hall:∀ l:List UInt8,(∀ c ∈ l,isDig c = true)→l.filter (fun c=>c != 45) = l:=fun l hl =>
  List.filter_eq_self.2 fun c hc=>by simpa using dig_ne (hl c hc) isDig_ne45
 rcases s with _ | ⟨c,r⟩
 · rfl
 have h2:=h.2.1
 rw [unsg_cons] at h2 ⊢
 by_cases h45:c = 45
 · rw [if_pos h45] at h2 ⊢
   unfold ndg
   rw [List.filter_cons,h45]
   exact hall r h2
 · rw [if_neg h45] at h2 ⊢
   exact hall _ h2
theorem ndg_take {s:List UInt8} {i:Nat} {c:UInt8} (h:s[i]? = some c):ndg (s.take (i + 1)) = ndg (s.take i) ++ (if c = 45 then [] else [c]):=by
 unfold ndg
 rw [List.take_add_one,h,List.filter_append]
 congr 1
 by_cases h45:c = 45
 · rw [if_pos h45,h45]; rfl
 · rw [if_neg h45]; simp [h45]
theorem ndg_dig {s:List UInt8} (h:isNum s) (i:Nat):∀ c ∈ ndg (s.take i),isDig c = true:=fun c hc=>by
 have h1:c ∈ ndg s:=by
  unfold ndg at hc ⊢
  rw [List.mem_filter] at hc ⊢
  exact ⟨List.mem_of_mem_take hc.1,hc.2⟩
 rw [ndg_num h] at h1
 exact h.2.1 c h1
theorem ndg_len {s:List UInt8} (h:isNum s) (i:Nat):(ndg (s.take i)).length≤(unsg s).length:=by
 rw [← ndg_num h]
 exact ((List.take_sublist i s).filter _).length_le
theorem ndg_bd {s:List UInt8} (h:okNum s) (i:Nat):Bd 209 ((rdn (ndg (s.take i)):Nat):Int):=by
 unfold Bd
 rw [Int.natAbs_natCast]
 refine Nat.lt_of_lt_of_le (rdn_lt (ndg_dig h.1 i)) (Nat.le_trans (Nat.pow_le_pow_right (by decide) (Nat.le_trans (ndg_len h.1 i) h.2)) B_209)
def RPs (w:World) (s:List UInt8) (v:Value) (w':World):Prop :=
 Ext w w'∧∃ x y e,v = .tuple #[.agg #[x,y],.int .i64 ((e:Nat):Int)]∧CV w' x y (if okNum s then pval s else 0)∧(e = 0 ↔ okNum s)
set_option maxHeartbeats 16000000 in
theorem rparse_ok (s:List UInt8) (w:World) (hs:s.length < 4398046511104) :
 Meets Tryz.prog 24 #[Tx s] w (RPs w s):=by
 refine fn_W (n:=40) Tryz.func24 rfl rfl (by kernel_rfl) (by simp) ?_
 have hX:Ext w w:=Ext.refl w
 refine gb ?_
 refine gb ?_
 refine R1_alloc (.inl rfl) z_Int ?_
 intro w_1 hB0_ hE_ hs_
 have hR:=Bx.zero (N:=1) true hB0_
 obtain ⟨gR,hg_⟩ : ∃ g,g = w.heap.size:=⟨_,rfl⟩
 rw [← hg_] at hR ⊢
 have hfr_gR:w.heap.size≤gR:=by have:=hX.size; omega
 replace hX:=hX.trans hE_
 clear hB0_ hs_ hg_ hE_
 refine gb ?_
 refine W_seq ?_
 refine gb ?_
 refine R1_call2 (risNumber_ok s w_1 hs) ?_
 rintro _ _ ⟨rfl,b,rfl,hb⟩
 have bad:∀ (e:Nat) (u v:Value) (w':World),e ≠ 0→¬ okNum s→Ext w w'→CV w' u v 0→RPs w s (.tuple #[.agg #[u,v],.int .i64 ((e:Nat):Int)]) w':=fun e u v w' he hn hX hc=>⟨hX,u,v,e,rfl,by rw [if_neg hn]; exact hc,⟨fun h=>absurd h he,fun h=>absurd h hn⟩⟩
 cases b with
 | false =>
  have hn:¬ okNum s:=fun h=>by have:=hb.2 h.1; cases this
  refine gb ?_
  refine R1_bld0 b0_Int ?_
  refine gb ?_
  refine gb ?_
  refine R1_storeBx (by first | exact .inl rfl | exact .inr ⟨rfl,fun _ h=>h.mono fun b _ e=>by omega⟩) rfl rfl hR ((CV.zero w_1).ev true (Bd.zero 1)) ?_
  intro w_2 hR hC_ hk_ hs_
  replace hX:=hC_.ext_of hX (fun b hb=>by omega)
  clear hC_ hk_ hs_
  obtain ⟨u,v,hU,hV⟩:=hR
  refine gb ?_
  exact retCB (v:=.int _ _) rfl agg_Int rfl hU rfl (bad 2 u v _ (by decide) hn hX (hV.2 rfl))
 | true =>
 have hnum:=hb.1 rfl
 refine gb ?_
 refine W_seq ?_
 refine gb ?_
 refine R1_call2 (rlong_ok s w_1) ?_
 rintro _ _ ⟨rfl,rfl⟩
 by_cases hl:2000 < (unsg s).length
 · have hn:¬ okNum s:=fun h=>by have:=h.2; omega
   rw [decide_eq_true hl]
   refine gb ?_
   refine R1_bld0 b0_Int ?_
   refine gb ?_
   refine gb ?_
   refine R1_storeBx (by first | exact .inl rfl | exact .inr ⟨rfl,fun _ h=>h.mono fun b _ e=>by omega⟩) rfl rfl hR ((CV.zero w_1).ev true (Bd.zero 1)) ?_
   intro w_3 hR hC_ hk_ hs_
   replace hX:=hC_.ext_of hX (fun b hb=>by omega)
   clear hC_ hk_ hs_
   obtain ⟨u,v,hU,hV⟩:=hR
   refine gb ?_
   exact retCB (v:=.int _ _) rfl agg_Int rfl hU rfl (bad 7 u v _ (by decide) hn hX (hV.2 rfl))
 have hok:okNum s:=⟨hnum,by omega⟩
 rw [decide_eq_false hl]
 refine gb ?_
 refine R1_bld0 b0_Int ?_
 refine gb ?_
 refine gb ?_
 refine R1_alloc (.inl rfl) z_Int ?_
 intro w_4 hB0_ hE_ hs_
 have hG:=Bx.zero (N:=1) true hB0_
 obtain ⟨gX,hg_⟩ : ∃ g,g = w_1.heap.size:=⟨_,rfl⟩
 rw [← hg_] at hG ⊢
 have hfr_gX:w.heap.size≤gX:=by have:=hX.size; omega
 have hne_gX_gR:gX ≠ gR:=by have:=hR.lt; omega
 replace hR:=hR.ext hE_
 replace hX:=hX.trans hE_
 clear hB0_ hs_ hg_ hE_
 refine gb ?_
 refine gb ?_
 refine R1_storeBx (by first | exact .inl rfl | exact .inr ⟨rfl,fun _ h=>h.mono fun b _ e=>by omega⟩) rfl rfl hG ((CV.zero w_4).ev true (Bd.zero 209)) ?_
 intro w_5 hG hC_ hk_ hs_
 replace hR:=hR.kp hk_ hC_ (by first | omega | assumption)
 replace hX:=hC_.ext_of hX (fun b hb=>by omega)
 clear hC_ hk_ hs_
 refine gb ?_
 have fR:w.heap.size≤gR:=hfr_gR
 have fX:w.heap.size≤gX∧gR ≠ gX:=⟨hfr_gX,by omega⟩
 refine W_seqM (fun f w'=>f 0 = Tx s∧f 2 = .pointer (some ⟨gR,0,none⟩)∧f 4 = .pointer (some ⟨gX,0,none⟩)∧Ext w w'∧Bx w' gR 1 true 0∧Bx w' gX 209 true ((rdn (ndg s):Nat):Int)) ?_ ?_
 · refine gb ?_
   refine W_loop (fun q f w'=>∃ i,q = s.length - i∧i≤s.length∧f 0 = Tx s∧f 2 = .pointer (some ⟨gR,0,none⟩)∧f 4 = .pointer (some ⟨gX,0,none⟩)∧f 5 = .int .i64 ((i:Nat):Int)∧Ext w w'∧Bx w' gR 1 true 0∧Bx w' gX 209 true ((rdn (ndg (s.take i)):Nat):Int))
    s.length ⟨0,rfl,Nat.zero_le _,rfl,rfl,rfl,rfl,hX,hR,hG⟩ ?_
   clear hX hR hG
   rintro q f w' ⟨i,rfl,hi,hf0,hf2,hf4,hf5,hX,hR,hG⟩
   rw [ui hf0,ui hf2,ui hf4,ui hf5]
   clear hf0 hf2 hf4 hf5
   refine W_seq ?_
   by_cases hlt:i < s.length
   rotate_left
   · refine gb ?_
     obtain rfl:i = s.length:=by omega
     rw [List.take_length] at hG
     exact ⟨rfl,rfl,rfl,hX,hR,hG⟩
   have hci:s[i]? = some s[i]:=List.getElem?_eq_getElem hlt
   obtain ⟨c,hcd⟩ : ∃ c,c = s[i]:=⟨_,rfl⟩
   rw [← hcd] at hci
   have htk:=ndg_take hci
   refine gb ?_
   refine R1_idxS ty_str rfl (j:=i) rfl hci ?_
   by_cases h45:c = 45
   · have e1:c.toNat = 45:=u8_45.2 h45
     rw [e1]
     rw [if_pos h45,List.append_nil] at htk
     refine gb ?_
     refine ⟨_,?_,i + 1,rfl,by omega,rfl,rfl,rfl,rfl,hX,hR,by rw [htk]; exact hG⟩
     omega
   have e1:¬ c.toNat = 45:=fun h=>h45 (u8_45.1 h)
   rw [if_neg h45] at htk
   have hdc:isDig c = true:=ndg_dig hnum (i + 1) c (by rw [htk]; simp)
   have hd2:=(isDig_iff c).1 hdc
   refine gb ?_
   refine gb ?_
   refine W_regD [(0,0),(3,3),(4,3),(5,3),(6,3),(7,3),(1,1),(2,1),(8,1),(9,1),(10,2)] mixed (by kernel_rfl) (fun w_6 hE_ _=>?_)
   replace hR:=hR.ext hE_
   replace hG:=hG.ext hE_
   replace hX:=hX.trans hE_
   clear hE_
   obtain ⟨hG_u,hG_v,hG_B,hG_V⟩:=id hG
   obtain ⟨hG_0,hG_1⟩:=blkP hG_B
   have hGV:=hG_V.1
   have hc256:c.toNat < 256:=UInt8.toNat_lt c
   refine gb ?_
   refine R1_idxS ty_str rfl (j:=i) rfl hci ?_
   refine gb ?_
   refine R1_sub_u8 (b:=48) rfl rfl hc256 (by omega) ?_
   refine gb ?_
   refine R1_conv (by unfold TyD; exact Tryz.underlying5) (by unfold TyD; exact Tryz.underlying2) rfl (wrap_i64n (a:=c.toNat - 48) (by omega)) ?_
   refine gb ?_
   refine gb ?_
   refine R1_call1 (rsmall_ok 10 w_6 (by decide) (by decide)) ?_
   rintro _ w_7 ⟨hE_,a0,a1,rfl,hc10⟩
   refine ⟨hE_,?_⟩
   replace hR:=hR.ext hE_
   replace hG:=hG.ext hE_
   replace hGV:=hGV.ext hE_
   replace hX:=hX.trans hE_
   clear hE_
   have b10:Bd 209 10:=Bd.mono (N:=1) (by unfold Bd; decide) (by decide)
   refine gb ?_
   refine gb ?_
   refine R1_call1 (rmul_ok _ _ _ _ _ _ 209 w_7 hGV (hc10.iv b10) (by decide)) ?_
   rintro _ w_8 ⟨hE_,a2,a3,rfl,hm⟩
   refine ⟨hE_,?_⟩
   replace hR:=hR.ext hE_
   replace hG:=hG.ext hE_
   replace hGV:=hGV.ext hE_
   replace hc10:=hc10.ext hE_
   replace hX:=hX.trans hE_
   clear hE_
   refine gb ?_
   refine gb ?_
   refine R1_call1 (rsmall_ok ((c.toNat - 48:Nat):Int) w_8 (by omega) (by omega)) ?_
   rintro _ w_9 ⟨hE_,a4,a5,rfl,hcd'⟩
   refine ⟨hE_,?_⟩
   replace hR:=hR.ext hE_
   replace hG:=hG.ext hE_
   replace hGV:=hGV.ext hE_
   replace hc10:=hc10.ext hE_
   replace hm:=hm.ext hE_
   replace hX:=hX.trans hE_
   clear hE_
   have bX:=hGV.bd
   obtain ⟨N2,hN2⟩ : ∃ k,k = 209 + 209:=⟨_,rfl⟩
   have bm:=bX.mul b10
   rw [← hN2] at bm
   have bd1:Bd 1 ((c.toNat - 48:Nat):Int):=by unfold Bd; rw [Int.natAbs_natCast]; exact Nat.lt_of_lt_of_le (show c.toNat - 48 < 256 by omega) (by decide)
   have bd:Bd N2 ((c.toNat - 48:Nat):Int):=bd1.mono (by omega)
   refine gb ?_
   refine gb ?_
   refine R1_call1 (radd_ok _ _ _ _ _ _ N2 w_9 (hm.iv bm) (hcd'.iv bd) (by omega)) ?_
   rintro _ w_10 ⟨hE_,a6,a7,rfl,hsum⟩
   refine ⟨hE_,?_⟩
   replace hR:=hR.ext hE_
   replace hG:=hG.ext hE_
   replace hGV:=hGV.ext hE_
   replace hc10:=hc10.ext hE_
   replace hm:=hm.ext hE_
   replace hcd':=hcd'.ext hE_
   replace hX:=hX.trans hE_
   clear hE_
   have es:((rdn (ndg (s.take i)):Nat):Int) * 10 + ((c.toNat - 48:Nat):Int) = ((rdn (ndg (s.take (i + 1))):Nat):Int):=by
    rw [htk,rdn_snoc]; omega
   rw [es] at hsum
   clear hG_0 hG_1
   refine gb ?_
   refine gb ?_
   refine R1_storeBx (by first | exact .inl rfl | exact .inr ⟨rfl,fun _ h=>h.mono fun b _ e=>by omega⟩) rfl rfl hG (hsum.ev true (ndg_bd hok (i + 1))) ?_
   intro w_11 hG hC_ hk_ hs_
   replace hR:=hR.kp hk_ hC_ (by first | omega | assumption)
   replace hGV:=hGV.kp hk_
   replace hc10:=hc10.kp hk_
   replace hm:=hm.kp hk_
   replace hcd':=hcd'.kp hk_
   replace hsum:=hsum.kp hk_
   replace hX:=hC_.ext_of hX (fun b hb=>by omega)
   clear hC_ hk_ hs_
   refine gb ?_
   refine ⟨_,?_,i + 1,rfl,by omega,rfl,rfl,rfl,rfl,hX,hR,hG⟩
   omega
 clear hX hR hG
 rintro f w' ⟨hf0,hf2,hf4,hX,hR,hG⟩
 rw [ui hf0,ui hf2,ui hf4]
 clear hf0 hf2 hf4
 rcases s with _ | ⟨c,r⟩
 · exact absurd rfl hnum.1
 have hc:(c :: r)[0]? = some c:=rfl
 refine gb ?_
 refine gb ?_
 refine W_seqD [(0,3),(1,3),(2,3),(3,3),(4,0),(5,1),(6,2),(7,3)] mixed (by kernel_rfl) (fun w_12 hE_ _=>?_)
 replace hR:=hR.ext hE_
 replace hG:=hG.ext hE_
 replace hX:=hX.trans hE_
 clear hE_
 obtain ⟨u6,v6,hB6,hV6⟩:=id hG
 obtain ⟨ng,Ar,lr,cr,rfl,rfl,hlc,_,hMr,htr,_,hzr⟩:=hV6.2 rfl
 have hvr:val lr = rdn (ndg (c :: r)):=by
  have:=congrArg Int.natAbs hzr
  rw [sg_abs,Int.natAbs_natCast] at this
  exact this.symm
 have hll:lr.length≤209:=trimd_len htr (by
  rw [hvr]
  have:=ndg_bd hok (c :: r).length
  rw [List.take_length] at this
  unfold Bd at this
  rwa [Int.natAbs_natCast] at this)
 have k6:=blk1 hB6
 refine gb ?_
 refine R1_idxS ty_str rfl (j:=0) rfl hc ?_
 refine gb ?_
 refine gb ?_
 refine R1_call1 (make_ok _ Ar lr.length cr lr w_12 hMr rfl hlc (by omega)) ?_
 rintro _ w_13 ⟨hE_,a0,a1,rfl,hm⟩
 refine ⟨hE_,?_⟩
 replace hR:=hR.ext hE_
 replace hG:=hG.ext hE_
 replace hX:=hX.trans hE_
 clear hE_
 have hpv:sg (decide (c.toNat = 45)) (val lr) = (if okNum (c :: r) then pval (c :: r) else 0):=by
  rw [if_pos hok,hvr,ndg_num hnum]
  unfold pval
  by_cases h45:c = 45
  · have e1:c.toNat = 45:=u8_45.2 h45
    rw [decide_eq_true e1,if_pos (by rw [h45]; rfl)]; rfl
  · have e1:¬ c.toNat = 45:=fun h=>h45 (u8_45.1 h)
    rw [decide_eq_false e1,if_neg (by simpa using h45)]; rfl
 rw [hpv] at hm
 obtain ⟨k,hk⟩:=Bd.ex (if okNum (c :: r) then pval (c :: r) else 0)
 clear k6
 refine gb ?_
 refine gb ?_
 refine R1_storeBx (by first | exact .inl rfl | exact .inr ⟨rfl,fun _ h=>h.mono fun b _ e=>by omega⟩) rfl rfl hR (hm.ev true hk) ?_
 intro w_14 hR hC_ hk_ hs_
 replace hG:=hG.kp hk_ hC_ (by first | omega | assumption)
 replace hm:=hm.kp hk_
 replace hX:=hC_.ext_of hX (fun b hb=>by omega)
 clear hC_ hk_ hs_
 obtain ⟨u,v,hU,hV⟩:=hR
 refine gb ?_
 exact retCB (v:=.int _ _) rfl agg_Int rfl hU rfl ⟨hX,u,v,0,rfl,hV.2 rfl,⟨fun _=>hok,fun _=>rfl⟩⟩
end Go.Proofs.YtncbjgblcofddaaGreatDoor
