/- Joined: Gfe. -/
import Derived.Test.YtncbjgblcofddaaGreatDoorQoe
import Derived.Test.YtncbjgblcofddaaGreatDoorQod
import Derived.Test.YtncbjgblcofddaaGreatDoorQnb
/- gram.formatEntry,gram.Format: the text of a Gram matrix. -/
namespace Go.Proofs.YtncbjgblcofddaaGreatDoor
open Go Go.Eng Go.Num Go.Dig Go.Proofs
theorem trim_unsg (s:List UInt8):Lib.trimPrefix s [45] = unsg s:=by
 unfold Lib.trimPrefix unsg Lib.hasPrefix
 rcases s with _ | ⟨a,r⟩
 · rfl
 · by_cases h:a = 45
   · subst h; rfl
   · have:List.isPrefixOf [45] (a :: r) = false:=by simp [List.isPrefixOf,Ne.symm h]
     rw [this]
     simp [h]
theorem B_209:10 ^ 2000≤B ^ 209:=Nat.le_of_ble_eq_true (by decide +kernel)
theorem okLen_small {z:Int} (h:okLen z):z.natAbs < B ^ 209 :=
 Nat.lt_of_lt_of_le (dlen_lt _) (Nat.le_trans (Nat.pow_le_pow_right (by decide) h) B_209)
theorem pair_set {x y u v:Value}:((#[x,y]:Array Value).setIfInBounds 0 u).setIfInBounds (0 + 1) v = #[u,v]:=by simp
set_option maxHeartbeats 8000000 in
theorem formatEntry_ok (x y:Value) (z:Int) (N:Nat) (w:World) (h:IV w N x y z) (hN:N < 100000000) :
 Meets Tryz.prog 73 #[.agg #[x,y]] w fun v w'=>Ext w w'∧((okLen z∧v = .tuple #[Tx (zt z),.bool true]) ∨ (¬ okLen z∧∃ s,v = .tuple #[Tx s,.bool false])):=by
 refine fn_W (n:=18) Tryz.func73 rfl rfl (by kernel_rfl) (by simp) ?_
 have ho0:x.oneCell' = true:=by obtain ⟨neg,A,l,c,rfl,_⟩:=h; rfl
 have ho1:y.oneCell' = true:=by obtain ⟨neg,A,l,c,_,rfl,_⟩:=h; rfl
 refine gb ?_
 refine R1_box (v:=.agg _) (.inl rfl) rfl ?_
 intro w1 hB1 hE1 hs1
 rw [show (Value.agg #[x,y]).cells = #[x,y] from by simp [Value.cells]] at hB1
 have k0:=blk0 hB1
 have k1:=blk1 hB1
 refine gb ?_
 refine R1_call2 (normalize_ok x y z N w1 (h.ext hE1) (by omega)) ?_
 rintro _ w2 ⟨hE2,x2,y2,rfl,hv2⟩
 have hB2:=hB1.ext hE2
 refine gb ?_
 refine R1_store2 agg_Int (.inl rfl) rfl rfl hv2.one0 hv2.one1 hB2 (by simp) ?_
 intro w3 hB3 hC3 hs3
 rw [pair_set] at hB3
 have hX3:=hC3.ext_of (hE1.trans hE2) (fun q e=>by omega)
 have hv3:=hv2.kp (kp_ch hB2 (fun i z=>by
  obtain ⟨_,_,_,_,rfl,rfl,_⟩:=h
  match i with
  | 0=>simp
  | 1=>simp
  | i + 2=>simp) hC3)
 clear hv2
 have j0:=blk0 hB3
 have j1:=blk1 hB3
 obtain ⟨neg2,A2,l2,c2,rfl,rfl,hl2,hc2,hM2,ht2,_,hz2⟩:=id hv3
 have habs:z.natAbs = val l2:=by rw [hz2,sg_abs]
 by_cases hlong:209 < l2.length
 · have hno:¬ okLen z:=fun hk=>by
    have a:=okLen_small hk
    have hne:l2 ≠ []:=by rintro rfl; simp at hlong
    have b:=val_top hne ht2
    have c:B ^ 209≤B ^ (l2.length - 1):=Nat.pow_le_pow_right (by decide) (by omega)
    omega
   refine gb ?_
   refine W_seq ?_
   refine gb ?_
   exact ret2 (v:=Tx []) (v':=.bool false) rfl rfl rfl ⟨hX3,.inr ⟨hno,[],rfl⟩⟩
 · have hIV:IV w3 209 (.bool neg2) (.slice A2 l2.length c2) z:=⟨neg2,A2,l2,c2,rfl,rfl,hl2,hc2,hM2,by omega,hz2⟩
   refine gb ?_
   refine W_seq ?_
   refine gb ?_
   refine R1_call2 (format_ok _ _ z 209 w3 hIV (by decide)) ?_
   rintro _ w4 ⟨hE4,rfl⟩
   refine gb ?_
   refine R1_call2 (trimPrefix_ok (zt z) [45] w4) ?_
   rintro _ _ ⟨rfl,rfl⟩
   rw [trim_unsg]
   refine gb ?_
   refine ret2 (v:=Tx (zt z)) (v':=.bool (decide ((unsg (zt z)).length≤2000))) rfl rfl rfl ⟨hX3.trans hE4,?_⟩
   by_cases hk:okLen z
   · refine .inl ⟨hk,?_⟩
     have:=(unsg_len z).2 hk
     rw [decide_eq_true this]
   · refine .inr ⟨hk,zt z,?_⟩
     have:¬ (unsg (zt z)).length≤2000:=fun h=>hk ((unsg_len z).1 h)
     rw [decide_eq_false this]
set_option maxHeartbeats 32000000 in
theorem gformat_ok (va:Value) (r N:Nat) (len:Nat→Nat) (M:Nat→Nat→Int) (w:World) (ha:MatE (EI N) w va r len M) (hN1:1≤N) (hN:N < 1048576) :
 Meets Tryz.prog 22 #[va] w fun v w'=>Ext w w' ∧
  ((valE r len M ≠ 0∧v = .tuple #[Tx [],.int .i64 ((valE r len M:Nat):Int)]) ∨ (valE r len M = 0∧((okT r M∧v = .tuple #[Tx (formT r M),.int .i64 ((0:Nat):Int)]) ∨ (¬ okT r M∧v = .tuple #[Tx [],.int .i64 ((7:Nat):Int)])))):=by
 refine fn_W (n:=56) Tryz.func22 rfl rfl (by kernel_rfl) (by simp) ?_
 refine gb ?_
 refine W_seq ?_
 refine gb ?_
 refine R1_call2 (validate_ok va r N len M w ha hN1 hN) ?_
 rintro _ w1 ⟨hE1,rfl⟩
 by_cases hval:valE r len M = 0
 rotate_left
 · refine gb ?_
   exact ret2 (v:=Tx []) rfl rfl rfl ⟨hE1,.inl ⟨hval,rfl⟩⟩
 obtain ⟨hok,h8,hsym,_⟩:=valE_zero.1 hval
 obtain ⟨hr1,hr2,hlen⟩:=okS_iff.1 hok
 obtain ⟨n,rfl⟩ : ∃ n,n = r:=⟨_,rfl⟩
 have hM:=ha.sq hlen
 obtain ⟨Aa,cap,rfl,_,_,hrow⟩:=id hM
 obtain ⟨ad,_,rfl,_⟩:=hrow 0 (by omega)
 rw [hval]
 refine gb ?_
 refine R1_alloc (.inl rfl) z_Sbd ?_
 intro w2 hB2 hE2 hs2
 rw [show (Value.agg #[Value.pointer none,Value.slice none 0 0]).cells = #[Value.pointer none,Value.slice none 0 0] from by simp [Value.cells]] at hB2
 have hX2:=hE1.trans hE2
 obtain ⟨b,hb⟩ : ∃ b,b = w1.heap.size:=⟨_,rfl⟩
 rw [← hb] at hB2 ⊢
 have hbw:w.heap.size≤b:=by have:=hE1.size; omega
 have hS2:=Sbd.new hB2 b (Nat.le_refl _)
 have hbl:=hB2.lt
 refine gb ?_
 refine R1_call2 (itoa_ok n w2 (by omega)) ?_
 rintro _ _ ⟨rfl,rfl⟩
 refine gb ?_
 refine R1_catS rfl rfl (by simp) ?_
 refine gb ?_
 refine R1_catS rfl rfl (by simp) ?_
 refine gb ?_
 refine R1_call2 (writeString_ok b b [] _ w w2 hX2 hbw hS2 (by simp)) ?_
 rintro _ w3 ⟨hS3,hX3,hs3,hl3⟩
 rw [List.nil_append] at hS3
 have hS3:Sbd w3 b b (headT n):=hS3
 clear hX2 hE2 hB2 hS2 hs2
 refine gb ?_
 refine W_seqM (fun f w'=>f 5 = .pointer (some ⟨b,0,none⟩)∧Ext w w'∧Sbd w' b b (formT n M)∧b < w'.heap.size∧okT n M) ?_ ?_
 · refine gb ?_
   refine W_loop (fun m f w'=>∃ i,m = n - i∧i≤n∧f 5 = .pointer (some ⟨b,0,none⟩)∧f 23 = .slice (some ad) n cap∧f 24 = .int .i64 ((n:Nat):Int)∧f 25 = .int .i64 ((i:Nat):Int)∧Ext w w'∧Sbd w' b b (headT n ++ linesT M i)∧b < w'.heap.size∧∀ a k,a < i→k≤a→okLen (M a k))
    n ⟨0,rfl,Nat.zero_le _,rfl,rfl,rfl,rfl,hX3,by simpa [linesT] using hS3,by omega,fun a k h=>absurd h (by omega)⟩ ?_
   clear hS3 hX3 hs3 hl3
   rintro m f w4 ⟨i,rfl,hi,hf5,hf23,hf24,hf25,hX4,hS4,hl4,hall⟩
   rw [ui hf5,ui hf23,ui hf24,ui hf25]
   clear hf5 hf23 hf24 hf25
   by_cases hlt:i < n
   · obtain ⟨ad1,u1,e1,hu1,hr1'⟩:=hrow i hlt
     obtain rfl:=Option.some.inj e1
     have hr1':RowE (EI N) w u1 n (M i):=hr1'
     obtain ⟨A1,c1,rfl,hnc1,_,he1⟩:=hr1'
     obtain ⟨ae,_,_,rfl,_⟩:=he1 0 (by omega)
     have hll:=linesT_len (M:=M) (i:=i) (by omega) hall
     have k0:=cell_ext hX4 hu1
     refine W_seq ?_
     refine gb ?_
     refine W_seqM (fun f w'=>f 5 = .pointer (some ⟨b,0,none⟩)∧f 23 = .slice (some ad) n cap∧f 24 = .int .i64 ((n:Nat):Int)∧f 25 = .int .i64 ((i:Nat):Int)∧Ext w w'∧Sbd w' b b (headT n ++ linesT M i ++ rowT M i (i + 1))∧b < w'.heap.size∧∀ k,k < i + 1→okLen (M i k)) ?_ ?_
     · refine gb ?_
       refine R1_sliceH sl_Int rfl rfl (by omega) ?_
       refine gb ?_
       refine W_loop (fun m f w'=>∃ j,m = i + 1 - j∧j≤i + 1∧f 5 = .pointer (some ⟨b,0,none⟩)∧f 23 = .slice (some ad) n cap∧f 24 = .int .i64 ((n:Nat):Int)∧f 25 = .int .i64 ((i:Nat):Int)∧f 33 = .slice (some ae) (i + 1) c1∧f 34 = .int .i64 (((i + 1):Nat):Int)∧f 35 = .int .i64 ((j:Nat):Int)∧Ext w w'∧Sbd w' b b (headT n ++ linesT M i ++ rowT M i j)∧b < w'.heap.size∧∀ k,k < j→okLen (M i k))
        (i + 1) ⟨0,rfl,Nat.zero_le _,rfl,rfl,rfl,rfl,rfl,rfl,rfl,hX4,by simpa [rowT] using hS4,by omega,fun k h=>absurd h (by omega)⟩ ?_
       clear hS4 hX4 hl4 k0
       rintro m f w5 ⟨j,rfl,hj,hf5,hf23,hf24,hf25,hf33,hf34,hf35,hX5,hS5,hl5,hallj⟩
       rw [ui hf5,ui hf23,ui hf24,ui hf25,ui hf33,ui hf34,ui hf35]
       clear hf5 hf23 hf24 hf25 hf33 hf34 hf35
       by_cases hjl:j < i + 1
       · obtain ⟨ae',x1,y1,e2,hx1,hy1,hv1⟩:=he1 j (by omega)
         obtain rfl:=Option.some.inj e2
         have k1:=cell_ext hX5 hx1
         have k2:=cell_ext hX5 hy1
         have hrl:=rowT_len (M:=M) (i:=i) (j:=j) hallj
         refine gb ?_
         refine R1_alloc (.inl rfl) z_Int ?_
         intro w6 hB6 hE6 hs6
         rw [show (Value.agg #[Value.bool false,Value.slice none 0 0]).cells = #[Value.bool false,Value.slice none 0 0] from by simp [Value.cells]] at hB6
         have ho0:x1.oneCell' = true:=by obtain ⟨neg,A,l,c,rfl,_⟩:=hv1; rfl
         have ho1:y1.oneCell' = true:=by obtain ⟨neg,A,l,c,_,rfl,_⟩:=hv1; rfl
         refine gb ?_
         refine R1_store2 agg_Int (.inl rfl) rfl rfl ho0 ho1 hB6 (by simp) ?_
         intro w7 hB7 hC7 hs7
         rw [pair_set] at hB7
         have hX7:=hC7.ext_of (hX5.trans hE6) (fun q e=>by have:=hX5.size; omega)
         have hE57:Ext w5 w7:=hC7.ext_of hE6 (fun q e=>by omega)
         have j0:=blk0 hB7
         have j1:=blk1 hB7
         have hS7:=hS5.ext hE57
         have hlast:∀ a k,a = i→k≤a→k < j→okLen (M a k):=fun a k ha _ hk=>by subst ha; exact hallj k hk
         refine gb ?_
         refine R1_call2 (formatEntry_ok _ _ (M i j) N w7 (IV.ext hv1 hX7) (by omega)) ?_
         rintro _ w8 ⟨hE8,⟨hk,rfl⟩ | ⟨hk,s,rfl⟩⟩
         rotate_left
         · refine gb ?_
           refine W_seq ?_
           refine gb ?_
           exact ret2 (v:=Tx []) rfl rfl rfl ⟨hX7.trans hE8,.inr ⟨rfl,.inr ⟨fun h=>hk (h i j hlt (by omega)),rfl⟩⟩⟩
         have hX8:=hX7.trans hE8
         have hS8:=hS7.ext hE8
         have hzl:=zt_len (M i j)
         have hkk:dlen (M i j).natAbs≤2000:=hk
         have hl8:b < w8.heap.size:=by have:=hE57.size; have:=hE8.size; omega
         have hhd:(headT n).length = 7:=rfl
         refine gb ?_
         refine W_seq ?_
         refine gb ?_
         refine W_seqM (fun f w'=>f 5 = .pointer (some ⟨b,0,none⟩)∧f 23 = .slice (some ad) n cap∧f 24 = .int .i64 ((n:Nat):Int)∧f 25 = .int .i64 ((i:Nat):Int)∧f 33 = .slice (some ae) (i + 1) c1∧f 34 = .int .i64 (((i + 1):Nat):Int)∧f 35 = .int .i64 ((j:Nat):Int)∧f 10 = Tx (zt (M i j))∧Ext w w'∧Sbd w' b b (headT n ++ linesT M i ++ rowT M i j ++ (if j = 0 then [] else [32]))∧b < w'.heap.size) ?_ ?_
         · by_cases hj0:j = 0
           · refine gb ?_
             refine ⟨rfl,rfl,rfl,rfl,rfl,rfl,rfl,rfl,hX8,?_,hl8⟩
             rw [if_pos hj0,List.append_nil]; exact hS8
           · refine gb ?_
             refine R1_call2 (writeByte_ok b b _ 32 w w8 hX8 hbw hS8 (by simp only [List.length_append]; omega)) ?_
             rintro _ w9 ⟨hS9,hX9,_,hl9⟩
             refine gb ?_
             refine ⟨rfl,rfl,rfl,rfl,rfl,rfl,rfl,rfl,hX9,?_,hl9⟩
             rw [if_neg hj0]; exact hS9
         rintro f w9 ⟨hf5,hf23,hf24,hf25,hf33,hf34,hf35,hf10,hX9,hS9,hl9⟩
         rw [ui hf10]
         rw [ui hf5,ui hf23,ui hf24,ui hf25,ui hf33,ui hf34,ui hf35]
         clear hf5 hf23 hf24 hf25 hf33 hf34 hf35
         have hsp:(if j = 0 then ([]:List UInt8) else [32]).length≤1:=by split <;> simp
         refine gb ?_
         refine R1_call2 (writeString_ok b b _ (zt (M i j)) w w9 hX9 hbw hS9 (by simp only [List.length_append]; omega)) ?_
         rintro _ w10 ⟨hS10,hX10,_,hl10⟩
         refine gb ?_
         refine ⟨_,?_,j + 1,rfl,by omega,rfl,rfl,rfl,rfl,rfl,rfl,rfl,hX10,?_,hl10,fun k hk'=>?_⟩
         · omega
         · simp only [rowT,← List.append_assoc]; exact hS10
         · by_cases e:k = j
           · subst e; exact hk
           · exact hallj k (by omega)
       · obtain rfl:j = i + 1:=by omega
         refine gb ?_
         exact ⟨rfl,rfl,rfl,rfl,hX5,hS5,hl5,hallj⟩
     rintro f w5 ⟨hf5,hf23,hf24,hf25,hX5,hS5,hl5,hrowk⟩
     rw [ui hf5,ui hf23,ui hf24,ui hf25]
     clear hf5 hf23 hf24 hf25
     have hrl:=rowT_len (M:=M) (i:=i) (j:=i + 1) hrowk
     have hhd:(headT n).length = 7:=rfl
     refine gb ?_
     refine R1_call2 (writeByte_ok b b _ 10 w w5 hX5 hbw hS5 (by simp only [List.length_append]; omega)) ?_
     rintro _ w9 ⟨hS9,hX9,_,hl9⟩
     refine gb ?_
     refine ⟨_,?_,i + 1,rfl,by omega,rfl,rfl,rfl,rfl,hX9,?_,hl9,fun a k ha' hk=>?_⟩
     · omega
     · simp only [linesT,← List.append_assoc]; exact hS9
     · by_cases e:a = i
       · subst e; exact hrowk k (by omega)
       · exact hall a k (by omega) hk
   · obtain rfl:i = n:=by omega
     refine gb ?_
     exact ⟨rfl,hX4,hS4,hl4,hall⟩
 rintro f w4 ⟨hf5,hX4,hS4,hl4,hall⟩
 rw [ui hf5]
 refine gb ?_
 refine R1_call2 (string_ok b b _ w w4 hX4 hbw hS4) ?_
 rintro _ w5 ⟨hX5,rfl⟩
 refine gb ?_
 exact ret2 rfl rfl rfl ⟨hX5,.inr ⟨rfl,.inl ⟨hall,rfl⟩⟩⟩
end Go.Proofs.YtncbjgblcofddaaGreatDoor
