/- Joined: Prs, Ipa, Gfe. -/
import Derived.Test.YtncbjgblcofddaaGreatDoorQoe
import Derived.Test.YtncbjgblcofddaaGreatDoorQoc
import Derived.Test.YtncbjgblcofddaaGreatDoorQe
import Derived.Test.YtncbjgblcofddaaGreatDoorQod
import Derived.Test.YtncbjgblcofddaaGreatDoorQnb
/- integer.isNumeral,integer.Parse. -/
namespace Go.Proofs.YtncbjgblcofddaaGreatDoor
open Go Go.Eng Go.Num Go.Dig Go.Proofs
section
variable {P:Program} {n:Nat} {S:World→World→Prop} {k:Nat} {K:Fr→World→Prop} {f:Fr} {w:World}
 {d ty t t2:Nat} {x y:Operand} {pos:String} {aft:Array Edge} {g:Option (Nat × Bool)}
theorem R1_lss_i32 {a b:Int} (hx:ev n f x = .int .i32 a) (hy:ev n f y = .int .i32 b) (h:K (upd f d (.bool (decide (a < b)))) w):R1 P n S k ⟨some d,.binOp .lss t x y t2,ty,pos,aft,g⟩ K f w:=by
 refine R1_bin hx hy (fun _=>by simp [eqGuard,go_sem]) (fun _=>?_) h
 simp only [binOp,Op.intCmp,ne_eq,not_true_eq_false,if_false]; rfl
theorem R1_gtr_i32 {a b:Int} (hx:ev n f x = .int .i32 a) (hy:ev n f y = .int .i32 b) (h:K (upd f d (.bool (decide (b < a)))) w):R1 P n S k ⟨some d,.binOp .gtr t x y t2,ty,pos,aft,g⟩ K f w:=by
 refine R1_bin hx hy (fun _=>by simp [eqGuard,go_sem]) (fun _=>?_) h
 simp only [binOp,Op.intCmp,ne_eq,not_true_eq_false,if_false]; rfl
end
theorem ty_i32:TyD Tryz.prog 21 (.int .i32):=by unfold TyD; exact Tryz.underlying21
section
variable {P:Program} {n:Nat} {S:World→World→Prop} {k:Nat} {K:Fr→World→Prop} {f:Fr} {w:World}
 {d ty t t2:Nat} {x y:Operand} {pos:String} {aft:Array Edge} {g:Option (Nat × Bool)}
theorem wrap_i32n {a:Nat} (h:a < 2147483648):IntKind.i32.wrap (a:Int) = (a:Int):=by
 unfold IntKind.wrap
 have h1:((a:Int) % 2 ^ IntKind.i32.bits) = (a:Int):=by
  have:(2:Int) ^ IntKind.i32.bits = 4294967296:=by decide
  rw [this]; omega
 simp only [h1]
 have h2:decide ((a:Int) ≥ 2 ^ (IntKind.i32.bits - 1)) = false:=by
  have:(2:Int) ^ (IntKind.i32.bits - 1) = 2147483648:=by decide
  rw [this]; simp; omega
 simp [h2]
theorem R1_sub_i32 {a b:Nat} (hx:ev n f x = .int .i32 ((a:Nat):Int)) (hy:ev n f y = .int .i32 ((b:Nat):Int)) (ha:a < 2147483648) (hb:b≤a) (h:K (upd f d (.int .i32 ((a - b:Nat):Int))) w):R1 P n S k ⟨some d,.binOp .sub t x y t2,ty,pos,aft,g⟩ K f w:=by
 refine R1_bin hx hy (fun _=>by simp [eqGuard,go_sem]) (fun _=>?_) h
 simp only [binOp,Op.intArith,ne_eq,not_true_eq_false,if_false]; rw [← Int.ofNat_sub hb,wrap_i32n (by omega)]; rfl
theorem R1_i32_u64 {a:Nat} (hs:TyD P t (.int .i32)) (ht:TyD P t2 (.int .u64)) (hx:ev n f x = .int .i32 ((a:Nat):Int)) (ha:a < 2147483648) (h:K (upd f d (.int .u64 ((a:Nat):Int))) w):R1 P n S k ⟨some d,.convert t t2 x,ty,pos,aft,g⟩ K f w :=
 R1_conv hs ht hx (wrap_u64n (by omega)) h
end
theorem isDig_iff (c:UInt8):isDig c = true ↔ 48≤c.toNat∧c.toNat≤57:=by simp [isDig]
set_option maxHeartbeats 16000000 in
theorem isNumeral_ok (d:List UInt8) (w:World) (hd:d.length < 4398046511104) :
 Meets Tryz.prog 178 #[Tx d] w fun v w'=>Ext w w'∧∃ b,v = .bool b∧(b = true ↔ isNml d):=by
 refine fn_W (n:=28) Tryz.func178 rfl rfl (by kernel_rfl) (by simp) ?_
 refine gb ?_
 refine W_seqM (fun f w'=>f 0 = Tx d∧Ext w w'∧(∀ c ∈ d,isDig c = true)∧¬ (2≤d.length∧d.head? = some 48)) ?_ ?_
 · refine gb ?_
   refine R1_rangeS ty_str (.inl rfl) rfl ?_
   intro w1 hI1 hE1 hs1
   obtain ⟨g,hg⟩ : ∃ g,g = w.heap.size:=⟨_,rfl⟩
   rw [← hg] at hI1 ⊢
   refine gb ?_
   refine W_loop (fun m f w'=>∃ p,m = d.length - p∧p≤d.length∧f 0 = Tx d∧f 6 = .pointer (some ⟨g,0,none⟩)∧Ext w w'∧It w' g d p∧(∀ k (hk:k < d.length),k < p→isDig d[k] = true)∧¬ (2≤p∧d.head? = some 48))
    d.length ⟨0,rfl,Nat.zero_le _,rfl,rfl,hE1,hI1,fun k _ h=>absurd h (by omega),fun h=>absurd h.1 (by decide)⟩ ?_
   clear hI1 hE1 hs1
   rintro m f w2 ⟨p,rfl,hp,hf0,hf6,hX,hI,hall,h48⟩
   rw [ui hf0,ui hf6]
   clear hf0 hf6
   by_cases hlt:p < d.length
   · have hc:d[p]? = some d[p]:=List.getElem?_eq_getElem hlt
     obtain ⟨c,hcd⟩ : ∃ c,c = d[p]:=⟨_,rfl⟩
     rw [← hcd] at hc
     have hbad:isDig c = false→¬ isNml d:=fun h hn=>by
      have:=hn.2.1 d[p] (List.getElem_mem hlt)
      rw [← hcd,h] at this
      cases this
     refine gb ?_
     refine R1_nextS rfl rfl hI hc ?_
     intro w3 q r hI3 hC3 hs3 hpq hr1 hr2 hr3
     have hX3:=hC3.ext_of hX (fun b e=>by omega)
     refine gb ?_
     refine W_seq ?_
     refine gb ?_
     by_cases hlow:r < 48
     · have hb0:isDig c = false:=by
        rcases Nat.lt_or_ge c.toNat 128 with h | h
        · have e:=(hr2 h).2
          by_cases hb:isDig c = true
          · have:=(isDig_iff c).1 hb; omega
          · simpa using hb
        · have:=hr3 h; omega
       refine gb ?_
       refine R1_lss_i32 rfl rfl ?_
       refine gb ?_
       exact ret1 (v:=.bool false) rfl rfl ⟨hX3,false,rfl,(fun h=>by cases h),fun h=>absurd h (hbad hb0)⟩
     by_cases hhigh:57 < r
     · have hb0:isDig c = false:=by
        rcases Nat.lt_or_ge c.toNat 128 with h | h
        · have e:=(hr2 h).2
          by_cases hb:isDig c = true
          · have:=(isDig_iff c).1 hb; omega
          · simpa using hb
        · by_cases hb:isDig c = true
          · have:=(isDig_iff c).1 hb; omega
          · simpa using hb
       refine gb ?_
       refine R1_lss_i32 rfl rfl ?_
       refine gb ?_
       refine R1_gtr_i32 rfl rfl ?_
       refine gb ?_
       exact ret1 (v:=.bool false) rfl rfl ⟨hX3,false,rfl,(fun h=>by cases h),fun h=>absurd h (hbad hb0)⟩
     have hc128:c.toNat < 128:=by
      rcases Nat.lt_or_ge c.toNat 128 with h | h
      · exact h
      · have:=hr3 h; omega
     obtain ⟨rfl,rfl⟩:=hr2 hc128
     have hdig:isDig c = true:=(isDig_iff c).2 (by omega)
     have hall':∀ k (hk:k < d.length),k < p + 1→isDig d[k] = true:=fun k hk h=>by
      by_cases e:k = p
      · subst e; rw [← hcd]; exact hdig
      · exact hall k hk (by omega)
     by_cases hp1:p = 1
     · subst hp1
       have h0:d[0]? = some d[0]:=List.getElem?_eq_getElem (by omega)
       have hh:d.head? = some d[0]:=by rw [List.head?_eq_getElem?]; exact h0
       by_cases h480:d[0].toNat = 48
       · have e48:d[0] = 48:=UInt8.toNat_inj.1 h480
         refine gb ?_
         refine R1_lss_i32 rfl rfl ?_
         refine gb ?_
         refine R1_gtr_i32 rfl rfl ?_
         refine gb ?_
         refine R1_idxS ty_str rfl (j:=0) rfl h0 ?_
         refine gb ?_
         exact ret1 (v:=.bool false) rfl rfl ⟨hX3,false,rfl,(fun h=>by cases h),fun h=>absurd ⟨by omega,by rw [hh,e48]⟩ h.2.2⟩
       · refine gb ?_
         refine R1_lss_i32 rfl rfl ?_
         refine gb ?_
         refine R1_gtr_i32 rfl rfl ?_
         refine gb ?_
         refine R1_idxS ty_str rfl (j:=0) rfl h0 ?_
         refine gb ?_
         refine ⟨_,?_,1 + 1,rfl,by omega,rfl,rfl,hX3,hI3,hall',fun h=>?_⟩
         · omega
         · rw [hh] at h
           have:=Option.some.inj h.2
           rw [this] at h480
           exact h480 rfl
     · refine gb ?_
       refine R1_lss_i32 rfl rfl ?_
       refine gb ?_
       refine R1_gtr_i32 rfl rfl ?_
       refine gb ?_
       refine ⟨_,?_,p + 1,rfl,by omega,rfl,rfl,hX3,hI3,hall',fun h=>h48 ⟨by omega,h.2⟩⟩
       omega
   · refine gb ?_
     refine R1_nextE rfl rfl hI (by omega) ?_
     refine gb ?_
     refine W_seq ?_
     refine gb ?_
     refine ⟨rfl,hX,fun c hc=>?_,fun h=>h48 ⟨by omega,h.2⟩⟩
     obtain ⟨k,hk,rfl⟩:=List.mem_iff_getElem.1 hc
     exact hall k hk (by omega)
 rintro f w2 ⟨hf0,hX,hall,h48⟩
 rw [ui hf0]
 refine gb ?_
 refine ret1 (v:=.bool (decide (¬ d = []))) rfl rfl ⟨hX,_,rfl,?_⟩
 rw [decide_eq_true_iff]
 exact ⟨fun h=>⟨h,hall,h48⟩,fun h=>h.1⟩
end Go.Proofs.YtncbjgblcofddaaGreatDoor
namespace Go.Proofs.YtncbjgblcofddaaGreatDoor
open Go Go.Eng Go.Num Go.Dig Go.Proofs
theorem hasPrefix_45 (s:List UInt8):Lib.hasPrefix s [45] = decide (s.head? = some 45):=by
 unfold Lib.hasPrefix
 rcases s with _ | ⟨a,r⟩
 · rfl
 · by_cases h:a = 45
   · subst h; rfl
   · have:List.isPrefixOf [45] (a :: r) = false:=by simp [List.isPrefixOf,Ne.symm h]
     rw [this]
     simp [h]
theorem trimPrefix_45 (s:List UInt8):Lib.trimPrefix s [45] = unsg s:=by
 unfold Lib.trimPrefix unsg
 rw [hasPrefix_45]
 by_cases h:s.head? = some 45
 · rw [if_pos h,decide_eq_true h,if_pos rfl]
   rcases s with _ | ⟨a,r⟩ <;> rfl
 · rw [if_neg h,decide_eq_false h]; rfl
theorem unsg_le (s:List UInt8):(unsg s).length≤s.length:=by
 unfold unsg
 split <;> simp
theorem cells_put (L:List Nat) (sp:Array Value) (i x:Nat) (hi:i < L.length):(cells L ++ sp).setIfInBounds (0 + i * 1) (.int .u32 ((x:Nat):Int)) = cells (L.set i x) ++ sp:=by
 rw [← cells_set]
 apply Array.toList_inj.1
 simp [cells,hi]
theorem OwL.ex {w:World} {base:Nat} {v:Value} {l:List Nat} (h:OwL w base v l) (hl:l ≠ []):∃ g cap sp,v = .slice (some ⟨g,0,none⟩) l.length cap∧base≤g∧l.length + sp.size = cap∧cap≤9223372036854775807∧Blk w g 107 (cells l ++ sp):=by
 rcases h.2.2 with ⟨_,h0⟩ | ⟨g,cap,cur,h1,h2,h3,h4,h5,h6,h7⟩
 · exact absurd (List.eq_nil_of_length_eq_zero h0) hl
 · rw [Nat.mul_one] at h6 h7
   refine ⟨g,cap,(cur.toList.drop l.length).toArray,h1,h2,by simp; omega,h5,?_⟩
   unfold Blk
   rw [h3]
   congr 2
   apply Array.toList_inj.1
   simp only [cells,Array.toList_append]
   rw [← h7]
   simp
theorem OwL.of {w:World} {base g cap:Nat} {l:List Nat} {sp:Array Value} (hlim:Lim l) (h1:base≤g) (h2:l.length + sp.size = cap) (h3:cap≤9223372036854775807) (hb:Blk w g 107 (cells l ++ sp)):OwL w base (.slice (some ⟨g,0,none⟩) l.length cap) l:=by
 refine ⟨hlim,by simp,.inr ⟨g,cap,_,rfl,h1,hb,by omega,h3,?_,?_⟩⟩
 · rw [Array.size_append,cells_size]; omega
 · simp [cells]
theorem OwL.ch {M:Nat→Prop} {w w':World} {base:Nat} {v:Value} {l:List Nat} (h:OwL w base v l) (hC:Ch M w w') (hn:∀ b,some b = v.ownBlock→¬ M b):OwL w' base v l:=by
 refine ⟨h.1,h.2.1,?_⟩
 rcases h.2.2 with h' | ⟨g,cap,cur,rfl,h2,h3,h4⟩
 · exact .inl h'
 · have hb:Blk w g 107 cur:=h3
   exact .inr ⟨g,cap,cur,rfl,h2,hb.ch hC (hn g rfl),h4⟩
theorem OwL.natV {w:World} {base:Nat} {v:Value} {l:List Nat} (h:OwL w base v l) (ht:Trimd l):NatV w v (val l):=by
 rcases own_lb h.2 with ⟨rfl,rfl⟩ | ⟨g,c,rfl,_,h1,h2,h3⟩
 · exact ⟨none,[],0,rfl,Nat.le_refl _,by omega,Mag.nil _ _,(fun h=>absurd rfl h),rfl⟩
 · exact ⟨_,l,c,rfl,h1,by omega,h3.mag h.1,ht,rfl⟩
theorem trimd_of {l:List Nat} (hlim:Lim l) (h:l ≠ []→B ^ (l.length - 1)≤val l):Trimd l:=by
 intro hne h0
 have hl:0 < l.length:=List.length_pos_iff.2 hne
 have a:=h hne
 have e:l = l.dropLast ++ [0]:=by
  have:=List.dropLast_concat_getLast hne
  rw [h0] at this
  exact this.symm
 have hv:val l = val l.dropLast:=by
  conv=>lhs; rw [e]
  rw [val_append]
  simp [val]
 have b:=val_lt l.dropLast (fun x hx=>hlim x (List.dropLast_subset l hx))
 rw [List.length_dropLast] at b
 omega
theorem rdn_take {d:List UInt8} {p:Nat} {c:UInt8} (hc:d[p]? = some c):rdn (d.take (p + 1)) = 10 * rdn (d.take p) + (c.toNat - 48):=by
 rw [List.take_add_one,hc]
 exact rdn_snoc _ _
theorem pair_set' {x y u v:Value}:((#[x,y]:Array Value).setIfInBounds 0 u).setIfInBounds (0 + 1) v = #[u,v]:=by simp
theorem step10 (b t cy x s dg:Nat) (h:t + cy * b = 10 * s + dg):t + b * ((cy + 10 * x) % 4294967296) + (cy + 10 * x) / 2 ^ 32 * (b * B) = 10 * (s + b * x) + dg:=by
 have e:=Nat.div_add_mod (cy + 10 * x) 4294967296
 have e2:(2:Nat) ^ 32 = 4294967296:=by decide
 rw [e2]
 have hB:B = 4294967296:=rfl
 rw [hB]
 generalize (cy + 10 * x) / 4294967296 = qq at *
 generalize (cy + 10 * x) % 4294967296 = rr at *
 have e3:b * rr + qq * (b * 4294967296) = b * (cy + 10 * x):=by
  rw [← e,Nat.mul_add,Nat.add_comm,Nat.mul_left_comm,Nat.mul_comm qq 4294967296]
 have e4:b * (cy + 10 * x) = cy * b + 10 * (b * x):=by rw [Nat.mul_add,Nat.mul_comm b cy,Nat.mul_left_comm]
 have e5:10 * (s + b * x) = 10 * s + 10 * (b * x):=Nat.mul_add _ _ _
 omega
set_option maxHeartbeats 32000000 in
theorem iparse_ok (s:List UInt8) (w:World) (hs:s.length < 4398046511104) :
 Meets Tryz.prog 139 #[Tx s] w fun v w'=>Ext w w'∧∃ x y e,v = .tuple #[.agg #[x,y],.int .i64 ((e:Nat):Int)]∧((okNum s∧e = 0∧CV w' x y (pval s)) ∨ (¬ okNum s∧e ≠ 0∧x = .bool false∧y = .slice none 0 0)):=by
 refine fn_W (n:=70) Tryz.func139 rfl rfl (by kernel_rfl) (by simp) ?_
 refine gb ?_
 refine R1_alloc (.inl rfl) z_Int ?_
 intro w1 hB1 hE1 hs1
 rw [show (Value.agg #[Value.bool false,Value.slice none 0 0]).cells = #[Value.bool false,Value.slice none 0 0] from by simp [Value.cells]] at hB1
 obtain ⟨b2,hb2⟩ : ∃ b,b = w.heap.size:=⟨_,rfl⟩
 rw [← hb2] at hB1 ⊢
 have hbw:w.heap.size≤b2:=by omega
 refine gb ?_
 refine R1_call2 (cutPrefix_ok s [45] w1) ?_
 rintro _ _ ⟨rfl,rfl⟩
 rw [trimPrefix_45,hasPrefix_45]
 obtain ⟨d,hd⟩ : ∃ d,d = unsg s:=⟨_,rfl⟩
 obtain ⟨ng,hng⟩ : ∃ b,b = decide (s.head? = some 45):=⟨_,rfl⟩
 have hdl:=unsg_le s
 rw [← hd] at hdl ⊢
 rw [← hng]
 have hnum:=isNum_iff s
 rw [← hd] at hnum
 have hok:okNum s ↔ isNum s∧d.length≤2000:=by unfold okNum; rw [← hd]
 refine gb ?_
 refine W_seqM (fun f w'=>∃ t,f 2 = .pointer (some ⟨b2,0,none⟩)∧f 4 = Tx d∧f 5 = .bool ng∧f 17 = .bool t∧Ext w w'∧Blk w' b2 41 #[.bool false,.slice none 0 0]∧(t = false ↔ isNum s)) ?_ ?_
 · refine gb ?_
   refine R1_call2 (isNumeral_ok d w1 (by omega)) ?_
   rintro _ w2 ⟨hE2,b,rfl,hb⟩
   have hX2:=hE1.trans hE2
   have hB2:=hB1.ext hE2
   cases b with
   | false =>
    refine gb ?_
    refine ⟨true,rfl,rfl,rfl,rfl,hX2,hB2,(fun h=>by cases h),fun h=>?_⟩
    have:=hb.2 (hnum.1 h).1
    cases this
   | true =>
    have hnml:=hb.1 rfl
    cases ng with
    | false =>
     refine gb ?_
     refine ⟨false,rfl,rfl,rfl,rfl,hX2,hB2,(fun _=>?_),fun _=>rfl⟩
     refine hnum.2 ⟨hnml,fun h=>?_⟩
     have:=decide_eq_true h.1
     rw [← hng] at this
     cases this
    | true =>
     have h45:s.head? = some 45:=of_decide_eq_true hng.symm
     by_cases he:d = [48]
     · refine gb ?_
       exact ⟨true,rfl,rfl,rfl,by show Value.bool _ = _; rw [decide_eq_true he],hX2,hB2,(fun h=>by cases h),fun h=>absurd ⟨h45,he⟩ (hnum.1 h).2⟩
     · refine gb ?_
       exact ⟨false,rfl,rfl,rfl,by show Value.bool _ = _; rw [decide_eq_false he],hX2,hB2,(fun _=>hnum.2 ⟨hnml,fun h=>he h.2⟩),fun _=>rfl⟩
 rintro f w2 ⟨t,hf2,hf4,hf5,hf17,hX2,hB2,ht⟩
 rw [ui hf2,ui hf4,ui hf5,ui hf17]
 clear hf2 hf4 hf5 hf17 hB1 hE1
 cases t with
 | true =>
  have hno:¬ okNum s:=fun h=>by have:=ht.2 (hok.1 h).1; cases this
  refine gb ?_
  refine R1_bld0 b0_Int ?_
  refine gb ?_
  refine R1_store2 agg_Int (.inl rfl) rfl rfl rfl rfl hB2 (by simp) ?_
  intro w3 hB3 hC3 _
  rw [pair_set'] at hB3
  refine gb ?_
  exact retCB (v:=.int .i64 ((2:Nat):Int)) rfl agg_Int rfl hB3 rfl ⟨hC3.ext_of hX2 (fun b e=>by omega),_,_,2,rfl,.inr ⟨hno,by decide,rfl,rfl⟩⟩
 | false =>
 have hn:=ht.1 rfl
 obtain ⟨⟨hdne,hdig,_⟩,_⟩:=hnum.1 hn
 by_cases hd2:d.length≤2000
 rotate_left
 · have hno:¬ okNum s:=fun h=>hd2 (hok.1 h).2
   refine gb ?_
   refine R1_bld0 b0_Int ?_
   refine gb ?_
   refine R1_store2 agg_Int (.inl rfl) rfl rfl rfl rfl hB2 (by simp) ?_
   intro w3 hB3 hC3 _
   rw [pair_set'] at hB3
   refine gb ?_
   exact retCB (v:=.int .i64 ((7:Nat):Int)) rfl agg_Int rfl hB3 rfl ⟨hC3.ext_of hX2 (fun b e=>by omega),_,_,7,rfl,.inr ⟨hno,by decide,rfl,rfl⟩⟩
 have hk:okNum s:=hok.2 ⟨hn,hd2⟩
 refine gb ?_
 refine W_seqM (fun f w'=>∃ v l,f 2 = .pointer (some ⟨b2,0,none⟩)∧f 5 = .bool ng∧f 6 = v∧Ext w w'∧Blk w' b2 41 #[.bool false,.slice none 0 0]∧OwL w' (w2.heap.size + 1) v l∧Trimd l∧val l = rdn d) ?_ ?_
 · refine gb ?_
   refine R1_rangeS ty_str (.inl rfl) rfl ?_
   intro w3 hI3 hE3 hs3
   obtain ⟨gI,hgI⟩ : ∃ g,g = w2.heap.size:=⟨_,rfl⟩
   rw [← hgI] at hI3 ⊢
   have hb2l:=hB2.lt
   refine gb ?_
   refine W_loop (fun m f w'=>∃ p v l,m = d.length - p∧p≤d.length∧f 2 = .pointer (some ⟨b2,0,none⟩)∧f 4 = Tx d∧f 5 = .bool ng∧f 6 = v∧f 33 = .pointer (some ⟨gI,0,none⟩)∧Ext w w'∧It w' gI d p∧Blk w' b2 41 #[.bool false,.slice none 0 0]∧w2.heap.size < w'.heap.size∧OwL w' (w2.heap.size + 1) v l∧Trimd l∧l.length≤p∧val l = rdn (d.take p))
    d.length ⟨0,_,[],rfl,Nat.zero_le _,rfl,rfl,rfl,rfl,rfl,hX2.trans hE3,hI3,hB2.ext hE3,by omega,OwL.nil _ _,(fun h=>absurd rfl h),by simp,rfl⟩ ?_
   clear hI3 hE3 hs3
   rintro m f w3 ⟨p,v,l,rfl,hp,hf2,hf4,hf5,hf6,hf33,hX3,hI3,hB3,hs3,hO3,ht3,hl3,hv3⟩
   rw [ui hf2,ui hf4,ui hf5,ui hf6,ui hf33]
   clear hf2 hf4 hf5 hf6 hf33
   by_cases hlt:p < d.length
   · have hc:d[p]? = some d[p]:=List.getElem?_eq_getElem hlt
     obtain ⟨c,hcd⟩ : ∃ c,c = d[p]:=⟨_,rfl⟩
     rw [← hcd] at hc
     have hcdig:=(isDig_iff c).1 (hdig c (by rw [hcd]; exact List.getElem_mem hlt))
     refine gb ?_
     refine R1_nextS rfl rfl hI3 hc ?_
     intro w4 q r hI4 hC4 hs4 _ _ hr2 _
     obtain ⟨rfl,rfl⟩:=hr2 (by omega)
     have hX4:=hC4.ext_of hX3 (fun b e=>by omega)
     have hB4:=hB3.ch hC4 (by omega)
     have hO4:=hO3.ch hC4 (fun b e h=>by have:=hO3.blk e; omega)
     refine gb ?_
     refine W_seq ?_
     refine gb ?_
     refine R1_sub_i32 (b:=48) rfl rfl (by omega) (by omega) ?_
     refine gb ?_
     refine R1_i32_u64 ty_i32 ty_u64 rfl (by omega) ?_
     refine gb ?_
     obtain ⟨dg,hdg⟩ : ∃ k,k = c.toNat - 48:=⟨_,rfl⟩
     rw [← hdg]
     refine W_seqM (fun f w'=>∃ L' cy,f 2 = .pointer (some ⟨b2,0,none⟩)∧f 4 = Tx d∧f 5 = .bool ng∧f 6 = v∧f 33 = .pointer (some ⟨gI,0,none⟩)∧f 9 = .int .u64 ((cy:Nat):Int)∧Ext w w'∧It w' gI d (p + 1)∧Blk w' b2 41 #[.bool false,.slice none 0 0]∧w2.heap.size < w'.heap.size∧OwL w' (w2.heap.size + 1) v L'∧L'.length = l.length∧cy≤10∧val L' + cy * B ^ l.length = 10 * val l + dg) ?_ ?_
     · by_cases hl0:l = []
       · subst hl0
         have hv0:v = .slice none 0 0 ∨ ∃ A c,v = .slice A 0 c:=by
          rcases hO4.2.2 with ⟨e,_⟩ | ⟨g,cap,cur,e,_⟩
          · exact .inl e
          · exact .inr ⟨_,_,e⟩
         obtain ⟨A0,c0,rfl⟩ : ∃ A c,v = .slice A 0 c:=by
          rcases hv0 with rfl | h
          · exact ⟨_,_,rfl⟩
          · exact h
         refine gb ?_
         refine W_loop (fun m f w'=>m = 0∧f 2 = .pointer (some ⟨b2,0,none⟩)∧f 4 = Tx d∧f 5 = .bool ng∧f 33 = .pointer (some ⟨gI,0,none⟩)∧f 6 = .slice A0 0 c0∧f 9 = .int .u64 ((dg:Nat):Int)∧f 41 = .int .i64 ((0:Nat):Int)∧f 42 = .int .i64 ((0:Nat):Int)∧w4 = w') 0 ⟨rfl,rfl,rfl,rfl,rfl,rfl,rfl,rfl,rfl,rfl⟩ ?_
         rintro m f _ ⟨_,hf2,hf4,hf5,hf33,hf6,hf9,hf41,hf42,rfl⟩
         rw [ui hf9,ui hf41,ui hf42]
         rw [ui hf2,ui hf4,ui hf5,ui hf33,ui hf6]
         clear hf2 hf4 hf5 hf33 hf6
         refine gb ?_
         exact ⟨[],dg,rfl,rfl,rfl,rfl,rfl,rfl,hX4,hI4,hB4,by omega,hO4,rfl,by omega,by simp [val]⟩
       · obtain ⟨g,cap,sp,rfl,hg1,hcap,hcap2,hbk⟩:=hO4.ex hl0
         have hlim:=hO4.1
         refine gb ?_
         refine W_loop (fun m f w'=>∃ i L' cy,m = l.length - i∧i≤l.length∧f 2 = .pointer (some ⟨b2,0,none⟩)∧f 4 = Tx d∧f 5 = .bool ng∧f 33 = .pointer (some ⟨gI,0,none⟩)∧f 6 = .slice (some ⟨g,0,none⟩) l.length cap∧f 9 = .int .u64 ((cy:Nat):Int)∧f 40 = .slice (some ⟨g,0,none⟩) l.length cap∧f 41 = .int .i64 ((l.length:Nat):Int)∧f 42 = .int .i64 ((i:Nat):Int)∧Ch (fun b=>b = g) w4 w'∧w'.heap.size = w4.heap.size∧Blk w' g 107 (cells L' ++ sp)∧L'.length = l.length∧Lim L'∧(∀ k,i≤k→L'.getD k 0 = l.getD k 0)∧cy≤10∧val (L'.take i) + cy * B ^ i = 10 * val (l.take i) + dg)
          l.length ⟨0,l,dg,rfl,Nat.zero_le _,rfl,rfl,rfl,rfl,rfl,rfl,rfl,rfl,rfl,Ch.refl _ _,rfl,hbk,rfl,hlim,fun _ _=>rfl,by omega,by simp [val]⟩ ?_
         rintro m f w5 ⟨i,L',cy,rfl,hi,hf2,hf4,hf5,hf33,hf6,hf9,hf40,hf41,hf42,hC5,hs5,hb5,hlen,hlim5,hsame,hcy,hval⟩
         rw [ui hf9,ui hf40,ui hf41,ui hf42]
         rw [ui hf2,ui hf4,ui hf5,ui hf33,ui hf6]
         clear hf2 hf4 hf5 hf33 hf6
         clear hf9 hf40 hf41 hf42
         by_cases hil:i < l.length
         · have kx:w5.cell? ⟨g,0 + i * 1,none⟩ = some (.int .u32 ((L'.getD i 0:Nat):Int)):=Lb.at ⟨sp,hb5⟩ (by omega)
           have hbx:=hlim5.getD i
           have hex:=hsame i (Nat.le_refl _)
           refine gb ?_
           refine R1_mul_u64_l rfl (by omega) ?_
           refine gb ?_
           refine R1_storeI (one_of rfl) (.inl rfl) rfl rfl hb5 (by rw [Array.size_append,cells_size]; omega) ?_
           intro w6 hb6 hC6 hs6
           rw [cells_put _ _ _ _ (by omega)] at hb6
           refine gb ?_
           refine ⟨_,?_,i + 1,L'.set i ((cy + 10 * L'.getD i 0) % 4294967296),(cy + 10 * L'.getD i 0) / 2 ^ 32,rfl,by omega,rfl,rfl,rfl,rfl,rfl,rfl,rfl,rfl,rfl,hC5.trans hC6,by omega,hb6,by simpa using hlen,hlim5.set (Nat.mod_lt _ (by decide)),fun k hk=>by rw [Num.getD_set_ne (by omega)]; exact hsame k (by omega),?_,?_⟩
           · omega
           · omega
           · rw [val_set_succ _ _ _ (by omega),val_take_succ l i hil,← hex]
             exact step10 (B ^ i) _ cy _ _ _ hval
         · obtain rfl:i = l.length:=by omega
           refine gb ?_
           have hX5:=hC5.ext_of hX4 (fun b e=>by omega)
           refine ⟨L',cy,rfl,rfl,rfl,rfl,rfl,rfl,hX5,(hC5.block gI hI4.lt (by omega)).trans hI4,hB4.ch hC5 (by omega),by omega,hlen ▸ OwL.of hlim5 hg1 (by omega) hcap2 hb5,hlen,hcy,?_⟩
           rw [List.take_of_length_le (by omega),List.take_of_length_le (Nat.le_refl _)] at hval
           exact hval
     rintro f w5 ⟨L',cy,hf2,hf4,hf5,hf6,hf33,hf9,hX5,hI5,hB5,hs5,hO5,hlen,hcy,hval⟩
     rw [ui hf9]
     rw [ui hf2,ui hf4,ui hf5,ui hf6,ui hf33]
     clear hf2 hf4 hf5 hf6 hf33
     clear hf9
     have hv':rdn (d.take (p + 1)) = 10 * val l + dg:=by rw [rdn_take hc,← hv3,hdg]
     by_cases hc0:cy = 0
     · refine gb ?_
       refine ⟨_,?_,p + 1,v,L',rfl,by omega,rfl,rfl,rfl,rfl,rfl,hX5,hI5,hB5,hs5,hO5,?_,by omega,?_⟩
       · omega
       · refine trimd_of hO5.1 fun hne=>?_
         have hll:l ≠ []:=by rintro rfl; exact hne (List.eq_nil_of_length_eq_zero hlen)
         have:=val_top hll ht3
         rw [hlen]
         rw [hc0] at hval
         omega
       · rw [hc0] at hval; omega
     · have hlen5:=hlen
       refine gb ?_
       refine R1_build1 sl_u32 rfl (.inl rfl) rfl rfl ?_
       intro w6 hB6 hE6 hs6
       rw [Nat.mod_eq_of_lt (show cy < 4294967296 by omega)] at hB6
       have hO6:=hO5.ext hE6
       refine gb ?_
       refine R1_push rfl rfl hO6 rfl hB6 (by omega) (by omega) (by omega) ?_
       intro v7 w7 hO7 hC7
       have hX7:=hC7.ext_of (hX5.trans hE6) (fun b e=>by have:=hO6.blk e; omega)
       have hI7:It w7 gI d (p + 1):=(hC7.block gI (hI5.ext hE6).lt (fun e=>by have:=hO6.blk e; omega)).trans (hI5.ext hE6)
       have hB7:=(hB5.ext hE6).ch hC7 (fun e=>by have:=hO6.blk e; omega)
       have hs7:=hC7.size
       have hvv:val (L' ++ [cy]) = 10 * val l + dg:=by
        rw [val_append,hlen]
        simp only [val]
        rw [Nat.mul_zero,Nat.add_zero,Nat.mul_comm]
        exact hval
       refine gb ?_
       refine ⟨_,?_,p + 1,v7,L' ++ [cy],rfl,by omega,rfl,rfl,rfl,rfl,rfl,hX7,hI7,hB7,by omega,hO7,?_,by simp; omega,by omega⟩
       · omega
       · intro hne h0
         simp at h0
         exact hc0 h0
   · obtain rfl:p = d.length:=by omega
     refine gb ?_
     refine R1_nextE rfl rfl hI3 (Nat.le_refl _) ?_
     refine gb ?_
     refine W_seq ?_
     refine gb ?_
     exact ⟨v,l,rfl,rfl,rfl,hX3,hB3,by rw [hgI]; exact hO3,ht3,by rw [hv3,List.take_length]⟩
 rintro f w3 ⟨v,l,hf2,hf5,hf6,hX3,hB3,hO3,ht3,hv3⟩
 rw [ui hf2,ui hf5,ui hf6]
 clear hf2 hf5 hf6
 refine gb ?_
 refine R1_call2 (build_ok ng v (val l) w3 (hO3.natV ht3)) ?_
 rintro _ w4 ⟨hE4,x4,y4,rfl,hv4⟩
 have hB4:=hB3.ext hE4
 refine gb ?_
 refine R1_store2 agg_Int (.inl rfl) rfl rfl hv4.one0 hv4.one1 hB4 (by simp) ?_
 intro w5 hB5 hC5 _
 rw [pair_set'] at hB5
 have hv5:=hv4.kp (kp_ch hB4 (fun i z=>by
  match i with
  | 0=>simp
  | 1=>simp
  | i + 2=>simp) hC5)
 refine gb ?_
 refine retCB (v:=.int .i64 ((0:Nat):Int)) rfl agg_Int rfl hB5 rfl ⟨hC5.ext_of (hX3.trans hE4) (fun b e=>by omega),_,_,0,rfl,.inl ⟨hk,rfl,?_⟩⟩
 have e:sg ng (val l) = pval s:=by
  unfold pval
  rw [hv3,hd]
  by_cases h:s.head? = some 45
  · rw [if_pos h,hng,decide_eq_true h]; rfl
  · rw [if_neg h,hng,decide_eq_false h]; rfl
 rw [← e]
 exact hv5
end Go.Proofs.YtncbjgblcofddaaGreatDoor
namespace Go.Proofs.YtncbjgblcofddaaGreatDoor
open Go Go.Eng Go.Num Go.Dig Go.Proofs
theorem trim_unsg (s:List UInt8):Lib.trimPrefix s [45] = unsg s:=by
 unfold Lib.trimPrefix unsg Lib.hasPrefix
 rcases s with _ | ⟨a,r⟩
 · rfl
 · by_cases h:a = 45
   · subst h; rfl
   · have:List.isPrefixOf [45] (a :: r) = false:=by simp [List.isPrefixOf,Ne.symm h]
     rw [this]
     simp [h]
theorem B_209:10 ^ 2000≤B ^ 209:=Nat.le_of_ble_eq_true (by decide +kernel)
theorem okLen_small {z:Int} (h:okLen z):z.natAbs < B ^ 209 :=
 Nat.lt_of_lt_of_le (dlen_lt _) (Nat.le_trans (Nat.pow_le_pow_right (by decide) h) B_209)
theorem pair_set {x y u v:Value}:((#[x,y]:Array Value).setIfInBounds 0 u).setIfInBounds (0 + 1) v = #[u,v]:=by simp
set_option maxHeartbeats 8000000 in
theorem formatEntry_ok (x y:Value) (z:Int) (N:Nat) (w:World) (h:IV w N x y z) (hN:N < 100000000) :
 Meets Tryz.prog 73 #[.agg #[x,y]] w fun v w'=>Ext w w'∧((okLen z∧v = .tuple #[Tx (zt z),.bool true]) ∨ (¬ okLen z∧∃ s,v = .tuple #[Tx s,.bool false])):=by
 refine fn_W (n:=18) Tryz.func73 rfl rfl (by kernel_rfl) (by simp) ?_
 have ho0:x.oneCell' = true:=by obtain ⟨neg,A,l,c,rfl,_⟩:=h; rfl
 have ho1:y.oneCell' = true:=by obtain ⟨neg,A,l,c,_,rfl,_⟩:=h; rfl
 refine gb ?_
 refine R1_box (v:=.agg _) (.inl rfl) rfl ?_
 intro w1 hB1 hE1 hs1
 rw [show (Value.agg #[x,y]).cells = #[x,y] from by simp [Value.cells]] at hB1
 have k0:=blk0 hB1
 have k1:=blk1 hB1
 refine gb ?_
 refine R1_call2 (normalize_ok x y z N w1 (h.ext hE1) (by omega)) ?_
 rintro _ w2 ⟨hE2,x2,y2,rfl,hv2⟩
 have hB2:=hB1.ext hE2
 refine gb ?_
 refine R1_store2 agg_Int (.inl rfl) rfl rfl hv2.one0 hv2.one1 hB2 (by simp) ?_
 intro w3 hB3 hC3 hs3
 rw [pair_set] at hB3
 have hX3:=hC3.ext_of (hE1.trans hE2) (fun q e=>by omega)
 have hv3:=hv2.kp (kp_ch hB2 (fun i z=>by
  obtain ⟨_,_,_,_,rfl,rfl,_⟩:=h
  match i with
  | 0=>simp
  | 1=>simp
  | i + 2=>simp) hC3)
 clear hv2
 have j0:=blk0 hB3
 have j1:=blk1 hB3
 obtain ⟨neg2,A2,l2,c2,rfl,rfl,hl2,hc2,hM2,ht2,_,hz2⟩:=id hv3
 have habs:z.natAbs = val l2:=by rw [hz2,sg_abs]
 by_cases hlong:209 < l2.length
 · have hno:¬ okLen z:=fun hk=>by
    have a:=okLen_small hk
    have hne:l2 ≠ []:=by rintro rfl; simp at hlong
    have b:=val_top hne ht2
    have c:B ^ 209≤B ^ (l2.length - 1):=Nat.pow_le_pow_right (by decide) (by omega)
    omega
   refine gb ?_
   refine W_seq ?_
   refine gb ?_
   exact ret2 (v:=Tx []) (v':=.bool false) rfl rfl rfl ⟨hX3,.inr ⟨hno,[],rfl⟩⟩
 · have hIV:IV w3 209 (.bool neg2) (.slice A2 l2.length c2) z:=⟨neg2,A2,l2,c2,rfl,rfl,hl2,hc2,hM2,by omega,hz2⟩
   refine gb ?_
   refine W_seq ?_
   refine gb ?_
   refine R1_call2 (format_ok _ _ z 209 w3 hIV (by decide)) ?_
   rintro _ w4 ⟨hE4,rfl⟩
   refine gb ?_
   refine R1_call2 (trimPrefix_ok (zt z) [45] w4) ?_
   rintro _ _ ⟨rfl,rfl⟩
   rw [trim_unsg]
   refine gb ?_
   refine ret2 (v:=Tx (zt z)) (v':=.bool (decide ((unsg (zt z)).length≤2000))) rfl rfl rfl ⟨hX3.trans hE4,?_⟩
   by_cases hk:okLen z
   · refine .inl ⟨hk,?_⟩
     have:=(unsg_len z).2 hk
     rw [decide_eq_true this]
   · refine .inr ⟨hk,zt z,?_⟩
     have:¬ (unsg (zt z)).length≤2000:=fun h=>hk ((unsg_len z).1 h)
     rw [decide_eq_false this]
set_option maxHeartbeats 32000000 in
theorem gformat_ok (va:Value) (r N:Nat) (len:Nat→Nat) (M:Nat→Nat→Int) (w:World) (ha:MatE (EI N) w va r len M) (hN1:1≤N) (hN:N < 1048576) :
 Meets Tryz.prog 22 #[va] w fun v w'=>Ext w w' ∧
  ((valE r len M ≠ 0∧v = .tuple #[Tx [],.int .i64 ((valE r len M:Nat):Int)]) ∨ (valE r len M = 0∧((okT r M∧v = .tuple #[Tx (formT r M),.int .i64 ((0:Nat):Int)]) ∨ (¬ okT r M∧v = .tuple #[Tx [],.int .i64 ((7:Nat):Int)])))):=by
 refine fn_W (n:=56) Tryz.func22 rfl rfl (by kernel_rfl) (by simp) ?_
 refine gb ?_
 refine W_seq ?_
 refine gb ?_
 refine R1_call2 (validate_ok va r N len M w ha hN1 hN) ?_
 rintro _ w1 ⟨hE1,rfl⟩
 by_cases hval:valE r len M = 0
 rotate_left
 · refine gb ?_
   exact ret2 (v:=Tx []) rfl rfl rfl ⟨hE1,.inl ⟨hval,rfl⟩⟩
 obtain ⟨hok,h8,hsym,_⟩:=valE_zero.1 hval
 obtain ⟨hr1,hr2,hlen⟩:=okS_iff.1 hok
 obtain ⟨n,rfl⟩ : ∃ n,n = r:=⟨_,rfl⟩
 have hM:=ha.sq hlen
 obtain ⟨Aa,cap,rfl,_,_,hrow⟩:=id hM
 obtain ⟨ad,_,rfl,_⟩:=hrow 0 (by omega)
 rw [hval]
 refine gb ?_
 refine R1_alloc (.inl rfl) z_Sbd ?_
 intro w2 hB2 hE2 hs2
 rw [show (Value.agg #[Value.pointer none,Value.slice none 0 0]).cells = #[Value.pointer none,Value.slice none 0 0] from by simp [Value.cells]] at hB2
 have hX2:=hE1.trans hE2
 obtain ⟨b,hb⟩ : ∃ b,b = w1.heap.size:=⟨_,rfl⟩
 rw [← hb] at hB2 ⊢
 have hbw:w.heap.size≤b:=by have:=hE1.size; omega
 have hS2:=Sbd.new hB2 b (Nat.le_refl _)
 have hbl:=hB2.lt
 refine gb ?_
 refine R1_call2 (itoa_ok n w2 (by omega)) ?_
 rintro _ _ ⟨rfl,rfl⟩
 refine gb ?_
 refine R1_catS rfl rfl (by simp) ?_
 refine gb ?_
 refine R1_catS rfl rfl (by simp) ?_
 refine gb ?_
 refine R1_call2 (writeString_ok b b [] _ w w2 hX2 hbw hS2 (by simp)) ?_
 rintro _ w3 ⟨hS3,hX3,hs3,hl3⟩
 rw [List.nil_append] at hS3
 have hS3:Sbd w3 b b (headT n):=hS3
 clear hX2 hE2 hB2 hS2 hs2
 refine gb ?_
 refine W_seqM (fun f w'=>f 5 = .pointer (some ⟨b,0,none⟩)∧Ext w w'∧Sbd w' b b (formT n M)∧b < w'.heap.size∧okT n M) ?_ ?_
 · refine gb ?_
   refine W_loop (fun m f w'=>∃ i,m = n - i∧i≤n∧f 5 = .pointer (some ⟨b,0,none⟩)∧f 23 = .slice (some ad) n cap∧f 24 = .int .i64 ((n:Nat):Int)∧f 25 = .int .i64 ((i:Nat):Int)∧Ext w w'∧Sbd w' b b (headT n ++ linesT M i)∧b < w'.heap.size∧∀ a k,a < i→k≤a→okLen (M a k))
    n ⟨0,rfl,Nat.zero_le _,rfl,rfl,rfl,rfl,hX3,by simpa [linesT] using hS3,by omega,fun a k h=>absurd h (by omega)⟩ ?_
   clear hS3 hX3 hs3 hl3
   rintro m f w4 ⟨i,rfl,hi,hf5,hf23,hf24,hf25,hX4,hS4,hl4,hall⟩
   rw [ui hf5,ui hf23,ui hf24,ui hf25]
   clear hf5 hf23 hf24 hf25
   by_cases hlt:i < n
   · obtain ⟨ad1,u1,e1,hu1,hr1'⟩:=hrow i hlt
     obtain rfl:=Option.some.inj e1
     have hr1':RowE (EI N) w u1 n (M i):=hr1'
     obtain ⟨A1,c1,rfl,hnc1,_,he1⟩:=hr1'
     obtain ⟨ae,_,_,rfl,_⟩:=he1 0 (by omega)
     have hll:=linesT_len (M:=M) (i:=i) (by omega) hall
     have k0:=cell_ext hX4 hu1
     refine W_seq ?_
     refine gb ?_
     refine W_seqM (fun f w'=>f 5 = .pointer (some ⟨b,0,none⟩)∧f 23 = .slice (some ad) n cap∧f 24 = .int .i64 ((n:Nat):Int)∧f 25 = .int .i64 ((i:Nat):Int)∧Ext w w'∧Sbd w' b b (headT n ++ linesT M i ++ rowT M i (i + 1))∧b < w'.heap.size∧∀ k,k < i + 1→okLen (M i k)) ?_ ?_
     · refine gb ?_
       refine R1_sliceH sl_Int rfl rfl (by omega) ?_
       refine gb ?_
       refine W_loop (fun m f w'=>∃ j,m = i + 1 - j∧j≤i + 1∧f 5 = .pointer (some ⟨b,0,none⟩)∧f 23 = .slice (some ad) n cap∧f 24 = .int .i64 ((n:Nat):Int)∧f 25 = .int .i64 ((i:Nat):Int)∧f 33 = .slice (some ae) (i + 1) c1∧f 34 = .int .i64 (((i + 1):Nat):Int)∧f 35 = .int .i64 ((j:Nat):Int)∧Ext w w'∧Sbd w' b b (headT n ++ linesT M i ++ rowT M i j)∧b < w'.heap.size∧∀ k,k < j→okLen (M i k))
        (i + 1) ⟨0,rfl,Nat.zero_le _,rfl,rfl,rfl,rfl,rfl,rfl,rfl,hX4,by simpa [rowT] using hS4,by omega,fun k h=>absurd h (by omega)⟩ ?_
       clear hS4 hX4 hl4 k0
       rintro m f w5 ⟨j,rfl,hj,hf5,hf23,hf24,hf25,hf33,hf34,hf35,hX5,hS5,hl5,hallj⟩
       rw [ui hf5,ui hf23,ui hf24,ui hf25,ui hf33,ui hf34,ui hf35]
       clear hf5 hf23 hf24 hf25 hf33 hf34 hf35
       by_cases hjl:j < i + 1
       · obtain ⟨ae',x1,y1,e2,hx1,hy1,hv1⟩:=he1 j (by omega)
         obtain rfl:=Option.some.inj e2
         have k1:=cell_ext hX5 hx1
         have k2:=cell_ext hX5 hy1
         have hrl:=rowT_len (M:=M) (i:=i) (j:=j) hallj
         refine gb ?_
         refine R1_alloc (.inl rfl) z_Int ?_
         intro w6 hB6 hE6 hs6
         rw [show (Value.agg #[Value.bool false,Value.slice none 0 0]).cells = #[Value.bool false,Value.slice none 0 0] from by simp [Value.cells]] at hB6
         have ho0:x1.oneCell' = true:=by obtain ⟨neg,A,l,c,rfl,_⟩:=hv1; rfl
         have ho1:y1.oneCell' = true:=by obtain ⟨neg,A,l,c,_,rfl,_⟩:=hv1; rfl
         refine gb ?_
         refine R1_store2 agg_Int (.inl rfl) rfl rfl ho0 ho1 hB6 (by simp) ?_
         intro w7 hB7 hC7 hs7
         rw [pair_set] at hB7
         have hX7:=hC7.ext_of (hX5.trans hE6) (fun q e=>by have:=hX5.size; omega)
         have hE57:Ext w5 w7:=hC7.ext_of hE6 (fun q e=>by omega)
         have j0:=blk0 hB7
         have j1:=blk1 hB7
         have hS7:=hS5.ext hE57
         have hlast:∀ a k,a = i→k≤a→k < j→okLen (M a k):=fun a k ha _ hk=>by subst ha; exact hallj k hk
         refine gb ?_
         refine R1_call2 (formatEntry_ok _ _ (M i j) N w7 (IV.ext hv1 hX7) (by omega)) ?_
         rintro _ w8 ⟨hE8,⟨hk,rfl⟩ | ⟨hk,s,rfl⟩⟩
         rotate_left
         · refine gb ?_
           refine W_seq ?_
           refine gb ?_
           exact ret2 (v:=Tx []) rfl rfl rfl ⟨hX7.trans hE8,.inr ⟨rfl,.inr ⟨fun h=>hk (h i j hlt (by omega)),rfl⟩⟩⟩
         have hX8:=hX7.trans hE8
         have hS8:=hS7.ext hE8
         have hzl:=zt_len (M i j)
         have hkk:dlen (M i j).natAbs≤2000:=hk
         have hl8:b < w8.heap.size:=by have:=hE57.size; have:=hE8.size; omega
         have hhd:(headT n).length = 7:=rfl
         refine gb ?_
         refine W_seq ?_
         refine gb ?_
         refine W_seqM (fun f w'=>f 5 = .pointer (some ⟨b,0,none⟩)∧f 23 = .slice (some ad) n cap∧f 24 = .int .i64 ((n:Nat):Int)∧f 25 = .int .i64 ((i:Nat):Int)∧f 33 = .slice (some ae) (i + 1) c1∧f 34 = .int .i64 (((i + 1):Nat):Int)∧f 35 = .int .i64 ((j:Nat):Int)∧f 10 = Tx (zt (M i j))∧Ext w w'∧Sbd w' b b (headT n ++ linesT M i ++ rowT M i j ++ (if j = 0 then [] else [32]))∧b < w'.heap.size) ?_ ?_
         · by_cases hj0:j = 0
           · refine gb ?_
             refine ⟨rfl,rfl,rfl,rfl,rfl,rfl,rfl,rfl,hX8,?_,hl8⟩
             rw [if_pos hj0,List.append_nil]; exact hS8
           · refine gb ?_
             refine R1_call2 (writeByte_ok b b _ 32 w w8 hX8 hbw hS8 (by simp only [List.length_append]; omega)) ?_
             rintro _ w9 ⟨hS9,hX9,_,hl9⟩
             refine gb ?_
             refine ⟨rfl,rfl,rfl,rfl,rfl,rfl,rfl,rfl,hX9,?_,hl9⟩
             rw [if_neg hj0]; exact hS9
         rintro f w9 ⟨hf5,hf23,hf24,hf25,hf33,hf34,hf35,hf10,hX9,hS9,hl9⟩
         rw [ui hf10]
         rw [ui hf5,ui hf23,ui hf24,ui hf25,ui hf33,ui hf34,ui hf35]
         clear hf5 hf23 hf24 hf25 hf33 hf34 hf35
         have hsp:(if j = 0 then ([]:List UInt8) else [32]).length≤1:=by split <;> simp
         refine gb ?_
         refine R1_call2 (writeString_ok b b _ (zt (M i j)) w w9 hX9 hbw hS9 (by simp only [List.length_append]; omega)) ?_
         rintro _ w10 ⟨hS10,hX10,_,hl10⟩
         refine gb ?_
         refine ⟨_,?_,j + 1,rfl,by omega,rfl,rfl,rfl,rfl,rfl,rfl,rfl,hX10,?_,hl10,fun k hk'=>?_⟩
         · omega
         · simp only [rowT,← List.append_assoc]; exact hS10
         · by_cases e:k = j
           · subst e; exact hk
           · exact hallj k (by omega)
       · obtain rfl:j = i + 1:=by omega
         refine gb ?_
         exact ⟨rfl,rfl,rfl,rfl,hX5,hS5,hl5,hallj⟩
     rintro f w5 ⟨hf5,hf23,hf24,hf25,hX5,hS5,hl5,hrowk⟩
     rw [ui hf5,ui hf23,ui hf24,ui hf25]
     clear hf5 hf23 hf24 hf25
     have hrl:=rowT_len (M:=M) (i:=i) (j:=i + 1) hrowk
     have hhd:(headT n).length = 7:=rfl
     refine gb ?_
     refine R1_call2 (writeByte_ok b b _ 10 w w5 hX5 hbw hS5 (by simp only [List.length_append]; omega)) ?_
     rintro _ w9 ⟨hS9,hX9,_,hl9⟩
     refine gb ?_
     refine ⟨_,?_,i + 1,rfl,by omega,rfl,rfl,rfl,rfl,hX9,?_,hl9,fun a k ha' hk=>?_⟩
     · omega
     · simp only [linesT,← List.append_assoc]; exact hS9
     · by_cases e:a = i
       · subst e; exact hrowk k (by omega)
       · exact hall a k (by omega) hk
   · obtain rfl:i = n:=by omega
     refine gb ?_
     exact ⟨rfl,hX4,hS4,hl4,hall⟩
 rintro f w4 ⟨hf5,hX4,hS4,hl4,hall⟩
 rw [ui hf5]
 refine gb ?_
 refine R1_call2 (string_ok b b _ w w4 hX4 hbw hS4) ?_
 rintro _ w5 ⟨hX5,rfl⟩
 refine gb ?_
 exact ret2 rfl rfl rfl ⟨hX5,.inr ⟨rfl,.inl ⟨hall,rfl⟩⟩⟩
end Go.Proofs.YtncbjgblcofddaaGreatDoor
