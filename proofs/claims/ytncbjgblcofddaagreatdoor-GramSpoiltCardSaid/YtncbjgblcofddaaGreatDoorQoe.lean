/- Joined: Fmt. -/
import Derived.Test.YtncbjgblcofddaaGreatDoorQoa
import Derived.Test.YtncbjgblcofddaaGreatDoorQu
/- integer.Format: the decimal text of an integer. -/
namespace Go.Proofs.YtncbjgblcofddaaGreatDoor
open Go Go.Eng Go.Num Go.Dig Go.Proofs
theorem dig_mod (k n:Nat):dig k (n % 10 ^ k) = dig k n:=by
 induction k generalizing n with
 | zero=>rfl
 | succ k ih =>
  simp only [dig]
  have e1:n % 10 ^ (k + 1) % 10 = n % 10:=by rw [Nat.pow_succ,Nat.mul_comm]; exact Nat.mod_mul_right_mod n 10 _
  have e2:n % 10 ^ (k + 1) / 10 = n / 10 % 10 ^ k:=by rw [Nat.pow_succ,Nat.mul_comm]; exact Nat.mod_mul_right_div_self n 10 _
  rw [e1,e2,ih]
theorem dig_bound {k X N:Nat} (h1:10 ^ k≤X) (h2:X < B ^ N):k < 32 * N:=by
 have h3:2 ^ k≤10 ^ k:=Nat.pow_le_pow_left (by decide) k
 have e:B ^ N = 2 ^ (32 * N):=by rw [Nat.pow_mul]; rfl
 rw [e] at h2
 exact (Nat.pow_lt_pow_iff_right (by decide:1 < 2)).1 (by omega)
theorem Lb.take {w:World} {g:Nat} {L:List Nat} (h:Lb w g L) (m:Nat):Lb w g (L.take m):=by
 obtain ⟨sp,hb⟩:=h
 refine ⟨((cells (L.drop m)) ++ sp),?_⟩
 have e:cells (L.take m) ++ (cells (L.drop m) ++ sp) = cells L ++ sp:=by
  apply Array.toList_inj.1
  simp only [cells,Array.toList_append,← List.append_assoc,← List.map_append,List.take_append_drop]
 rw [e]; exact hb
theorem lim_take {l:List Nat} (h:Lim l) (m:Nat):Lim (l.take m):=fun x hx=>h x (List.mem_of_mem_take hx)
set_option maxHeartbeats 32000000 in
theorem format_ok (x y:Value) (z:Int) (N:Nat) (w:World) (h:IV w N x y z) (hN:N < 100000000) :
 Meets Tryz.prog 132 #[.agg #[x,y]] w fun v w'=>Ext w w'∧v = Tx (zt z):=by
 obtain ⟨neg,A,l,c,rfl,rfl,hc,hc2,hM,hl,rfl⟩:=h
 refine fn_W (n:=53) Tryz.func132 rfl rfl (by kernel_rfl) (by simp) ?_
 refine gb ?_
 refine R1_box (v:=.agg _) (.inl rfl) rfl ?_
 intro w1 hB1 hE1 hs1
 have k1:=blk1 hB1
 obtain ⟨b1,hb1⟩ : ∃ b,b = w.heap.size:=⟨_,rfl⟩
 rw [← hb1] at hB1 k1 ⊢
 refine gb ?_
 refine R1_call2 (trim_ok _ _ _ _ w1 (hM.ext hE1) rfl hc hc2) ?_
 rintro _ _ ⟨rfl,m,hm,rfl,htr,htv⟩
 have hXb:val l < B ^ N:=Nat.lt_of_lt_of_le (val_lt _ hM.lim) (Nat.pow_le_pow_right (by decide) hl)
 refine gb ?_
 refine R1_call2 (clone_ok _ _ _ (l.take m) w1 ((hM.ext hE1).take m) (List.length_take_of_le hm) (by omega) (fun e=>by have:=hM.none_len e; omega)) ?_
 rintro v w2 ⟨hE2,hv⟩
 have hB2:=hB1.ext hE2
 have hX2:=hE1.trans hE2
 obtain ⟨X,hX⟩ : ∃ X,X = val l:=⟨_,rfl⟩
 rw [← hX] at hXb htv ⊢
 have hzero:∀ v',v' = Tx [48]→X = 0→v' = Tx (zt (sg neg X)):=by
  rintro v' rfl rfl
  cases neg <;> rfl
 rcases hv with ⟨rfl,hnil⟩ | ⟨g,c',rfl,hg,hnc,hc9,hLb⟩
 · refine gb ?_
   refine W_seq ?_
   refine gb ?_
   refine ret1 (v:=Tx [48]) rfl rfl ⟨hX2,hzero _ rfl ?_⟩
   rw [← htv,hnil]; rfl
 by_cases hm0:m = 0
 · subst hm0
   refine gb ?_
   refine W_seq ?_
   refine gb ?_
   refine ret1 (v:=Tx [48]) rfl rfl ⟨hX2,hzero _ rfl ?_⟩
   rw [← htv]; rfl
 have hlm:(l.take m).length = m:=List.length_take_of_le hm
 have hXp:0 < X:=by rw [← htv]; exact trimd_pos htr (by omega)
 have hlim:=lim_take hM.lim m
 have hgl:=hLb.lt
 refine gb ?_
 refine W_seq ?_
 refine gb ?_
 obtain ⟨base,hbase⟩ : ∃ b,b = w2.heap.size:=⟨_,rfl⟩
 have hb1l:=hB2.lt
 refine W_seqM (fun f w'=>∃ v t,f 1 = .pointer (some ⟨b1,0,none⟩)∧f 4 = v∧Ext w w'∧Blk w' b1 41 #[.bool neg,.slice A l.length c]∧OwB w' base v t∧base≤w'.heap.size∧∃ k,t = (dig k X).map ch∧X < 10 ^ k∧k≤32 * N + 9) ?_ ?_
 · refine gb ?_
   refine W_loop (fun q f w'=>∃ n L v t j,q = val L∧f 1 = .pointer (some ⟨b1,0,none⟩)∧f 3 = .slice (some ⟨g,0,none⟩) n c'∧f 4 = v∧Ext w w'∧Blk w' b1 41 #[.bool neg,.slice A l.length c]∧Lb w' g L∧L.length = n∧Lim L∧Trimd L∧n≤m∧OwB w' base v t∧base≤w'.heap.size∧t = (dig (9 * j) X).map ch∧val L = X / 10 ^ (9 * j)∧9 * j≤32 * N + 9)
    X ⟨m,l.take m,_,[],0,htv.symm,rfl,rfl,rfl,hX2,hB2,hLb,hlm,hlim,htr,Nat.le_refl _,OwB.nil _ _,by omega,rfl,by rw [htv]; simp,by omega⟩ ?_
   clear hLb htr hlim hB2 hX2 hE2
   rintro q f w3 ⟨n,L,v,t,j,rfl,hf1,hf3,hf4,hX3,hB3,hL3,hn,hlim,htr,hnm,hO,hbs,ht,hv,h32⟩
   rw [ui hf1,ui hf3,ui hf4]
   clear hf1 hf3 hf4
   refine W_seq ?_
   by_cases h0:n = 0
   · have hL0:L = []:=List.eq_nil_of_length_eq_zero (by omega)
     have h9:X < 10 ^ (9 * j):=by
      rw [hL0] at hv
      have e:X / 10 ^ (9 * j) = 0:=hv.symm
      rcases Nat.lt_or_ge X (10 ^ (9 * j)) with h' | h'
      · exact h'
      · have:=Nat.div_pos h' (Nat.pow_pos (by decide)); omega
     refine gb ?_
     exact ⟨v,t,rfl,rfl,hX3,hB3,hO,hbs,9 * j,ht,h9,h32⟩
   have hpos:=trimd_pos htr (by omega)
   have hj32:9 * j < 32 * N:=dig_bound (by
    rw [hv] at hpos
    rcases Nat.lt_or_ge X (10 ^ (9 * j)) with h' | h'
    · rw [Nat.div_eq_of_lt h'] at hpos; omega
    · exact h') hXb
   refine gb ?_
   refine R1_call2 (divideByLimb_ok g n c' 1000000000 L w3 hL3 hlim hn (by omega) (by decide) (by decide)) ?_
   rintro _ w4 ⟨r,L',rfl,hC4,hs4,hL4,hlen4,hlim4,hv4,hr4⟩
   have hX4:=hC4.ext_of hX3 (fun q e=>by omega)
   have hB4:=hB3.ch hC4 (by omega)
   have hO4:=hO.ch hC4 (fun q e h=>by have:=(hO.blk e).1; omega)
   refine gb ?_
   refine R1_call2 (trim_ok _ n c' L' w4 (hL4.mag hlim4) hlen4 (by omega) (by omega)) ?_
   rintro _ _ ⟨rfl,m',hm',rfl,htr',htv'⟩
   have hrr:r = val L % 10 ^ 9:=by
    rw [hv4,show (10 ^ 9:Nat) = 1000000000 by decide,Nat.add_comm,Nat.add_mul_mod_self_right,Nat.mod_eq_of_lt hr4]
   have hqq:val L' = val L / 10 ^ 9:=by
    rw [hv4,show (10 ^ 9:Nat) = 1000000000 by decide,Nat.add_comm,Nat.add_mul_div_right _ _ (by decide),Nat.div_eq_of_lt hr4,Nat.zero_add]
   refine gb ?_
   have hlm':(L'.take m').length = m':=List.length_take_of_le hm'
   refine W_loop (fun q f w'=>∃ v' i,q = 9 - i∧i≤9∧f 1 = .pointer (some ⟨b1,0,none⟩)∧f 3 = .slice (some ⟨g,0,none⟩) m' c'∧f 4 = v'∧f 5 = .int .u32 ((r / 10 ^ i:Nat):Int)∧f 20 = .int .i64 ((i:Nat):Int)∧Ext w w'∧Blk w' b1 41 #[.bool neg,.slice A l.length c]∧Lb w' g L'∧OwB w' base v' (t ++ (dig i r).map ch)∧base≤w'.heap.size)
    9 ⟨v,0,rfl,by omega,rfl,rfl,rfl,by simp; rfl,rfl,hX4,hB4,hL4,by simpa [dig] using hO4,by omega⟩ ?_
   clear hX3 hB3 hL3 hO hX4 hB4 hL4 hO4
   rintro q f w5 ⟨v',i,rfl,hi,hf1,hf3,hf4,hf5,hf20,hX5,hB5,hL5,hO5,hbs5⟩
   rw [ui hf1,ui hf3,ui hf4,ui hf5,ui hf20]
   clear hf1 hf3 hf4 hf5 hf20
   by_cases hi9:i < 9
   · have hd10:r / 10 ^ i % 10 < 10:=Nat.mod_lt _ (by decide)
     have hr32:r / 10 ^ i < 4294967296:=Nat.lt_of_le_of_lt (Nat.div_le_self _ _) (by omega)
     refine W_seq ?_
     refine gb ?_
     refine R1_rem_u32_c rfl (by decide) ?_
     refine gb ?_
     refine R1_add_u32_l rfl (by omega) ?_
     refine gb ?_
     refine R1_u32_u8 ty_u32 ty_u8 rfl ?_
     refine gb ?_
     refine R1_build1 sl_u8 rfl (.inl rfl) rfl rfl ?_
     intro w6 hB6 hE6 hs6
     have ech:(48 + r / 10 ^ i % 10) % 256 = (ch (r / 10 ^ i % 10)).toNat:=by rw [ch_nat hd10]; omega
     have hB6':Blk w6 w5.heap.size 5 #[.int .u8 (((ch (r / 10 ^ i % 10)).toNat:Nat):Int)]:=by rw [← ech]; exact hB6
     have hO6:=hO5.ext hE6
     have hlen:(t ++ (dig i r).map ch).length = 9 * j + i:=by rw [ht]; simp [dig_len]
     refine gb ?_
     refine R1_pushB rfl rfl hO6 rfl hB6' (by omega) (by omega) ?_
     intro v7 w7 hO7 hC7 _
     have hX7:=hC7.ext_of (hX5.trans hE6) (fun q e=>by have:=(hO6.blk e).1; omega)
     have hB7:=(hB5.ext hE6).ch hC7 (fun e=>by have:=(hO6.blk e).1; omega)
     have hL7:Lb w7 g L':=by
      obtain ⟨sp,hb⟩:=hL5.ext hE6
      exact ⟨sp,hb.ch hC7 (fun e=>by have:=(hO6.blk e).1; omega)⟩
     have hs7:=hC7.size
     refine gb ?_
     refine R1_quo_u32_c rfl (by omega) (by decide) ?_
     refine gb ?_
     refine ⟨_,?_,v7,i + 1,rfl,by omega,rfl,rfl,rfl,by rw [Nat.pow_succ,← Nat.div_div_eq_div_mul]; rfl,rfl,hX7,hB7,hL7,?_,by omega⟩
     · omega
     · rw [dig_snoc,List.map_append,← List.append_assoc]; exact hO7
   · obtain rfl:i = 9:=by omega
     refine W_seq ?_
     refine gb ?_
     refine ⟨_,?_,m',L'.take m',v',_,j + 1,rfl,rfl,rfl,rfl,hX5,hB5,hL5.take m',hlm',lim_take hlim4 m',htr',by omega,hO5,hbs5,?_,?_,by omega⟩
     · rw [htv',hqq]
       exact Nat.div_lt_self hpos (by decide)
     · rw [ht,show 9 * (j + 1) = 9 * j + 9 by omega,dig_add,List.map_append,← hv,hrr,dig_mod]
     · rw [htv',hqq,hv,Nat.div_div_eq_div_mul,← Nat.pow_add,show 9 * j + 9 = 9 * (j + 1) by omega]
 clear hE2 hLb htr hlim hB2 hX2 hB1 k1
 rintro f w3 ⟨v,t,hf1,hf4,hX3,hB3,hO3,hbs3,k,rfl,hk1,hk2⟩
 have hkpos:∀ q,X < 10 ^ q→0 < q:=fun q h=>by
  rcases Nat.eq_zero_or_pos q with h' | h'
  · rw [h'] at h; simp at h; omega
  · exact h'
 have hklen:∀ q,((dig q X).map ch).length = q:=fun q=>by simp [dig_len]
 have hkne:∀ q,X < 10 ^ q→(dig q X).map ch ≠ []:=fun q h e=>by have:=hkpos q h; have:=hklen q; rw [e] at this; simp at this; omega
 obtain ⟨g4,cap,rfl,hg4,hc4,hc49,_⟩:=hO3.bb (hkne k hk1)
 rw [hklen] at hf4 hO3 hc4
 rw [ui hf1,ui hf4]
 clear hf1 hf4
 refine W_seqM (fun f w'=>f 1 = .pointer (some ⟨b1,0,none⟩)∧f 4 = .slice (some ⟨g4,0,none⟩) (dlen X) cap∧w3 = w'∧OwB w' base (.slice (some ⟨g4,0,none⟩) (dlen X) cap) ((dig (dlen X) X).map ch)) ?_ ?_
 · refine gb ?_
   refine W_loop (fun q f w'=>q≤k∧f 1 = .pointer (some ⟨b1,0,none⟩)∧f 4 = .slice (some ⟨g4,0,none⟩) q cap∧w3 = w'∧OwB w' base (.slice (some ⟨g4,0,none⟩) q cap) ((dig q X).map ch)∧X < 10 ^ q)
    k ⟨Nat.le_refl _,rfl,rfl,rfl,hO3,hk1⟩ ?_
   rintro q f _ ⟨hqk,hf1,hf4,rfl,hO4,hq⟩
   rw [ui hf1,ui hf4]
   clear hf1 hf4
   obtain ⟨q,rfl⟩ : ∃ p,q = p + 1:=⟨q - 1,by have:=hkpos q hq; omega⟩
   have hd10:X / 10 ^ q % 10 < 10:=Nat.mod_lt _ (by decide)
   have hxq:X / 10 ^ q < 10:=Nat.div_lt_of_lt_mul (by rw [Nat.pow_succ] at hq; omega)
   obtain ⟨_,_,e,_,_,_,hBb⟩:=hO4.bb (hkne _ hq)
   rw [hklen] at e hBb
   cases e
   have kc:=hBb.at (k:=q) (by omega)
   have eq1:((dig (q + 1) X).map ch).getD q 0 = ch (X / 10 ^ q % 10):=by
    rw [dig_snoc,List.map_append,List.getD,List.getElem?_append_right (by simp [dig_len])]
    simp [dig_len]
   rw [eq1,ch_nat hd10] at kc
   refine W_seq ?_
   by_cases hz:X / 10 ^ q % 10 = 0
   · have hX0:X < 10 ^ q:=by
      rw [Nat.mod_eq_of_lt hxq] at hz
      rcases Nat.lt_or_ge X (10 ^ q) with h' | h'
      · exact h'
      · have:=Nat.div_pos h' (Nat.pow_pos (by decide)); omega
     refine gb ?_
     refine R1_sliceH sl_u8 rfl rfl (by omega) ?_
     refine gb ?_
     refine ⟨q,by omega,by omega,rfl,rfl,rfl,?_,hX0⟩
     have:=hO4.take q (by rw [hklen]; omega)
     rw [dig_snoc,List.map_append,List.take_left' (hklen q)] at this
     exact this
   · have e:q + 1 = dlen X:=dlen_uniq hq (fun _=>by
      rw [Nat.add_sub_cancel]
      rcases Nat.lt_or_ge X (10 ^ q) with h' | h'
      · rw [Nat.div_eq_of_lt h'] at hz; exact absurd rfl hz
      · exact h')
     refine gb ?_
     rw [← e]
     exact ⟨rfl,rfl,rfl,hO4⟩
 rintro f _ ⟨hf1,hf4,rfl,hO4⟩
 rw [ui hf1,ui hf4]
 clear hf1 hf4
 have hdl:=dlen_pos hXp
 have hdk:=dlen_le hk1
 have kn:=blk0 hB3
 cases neg with
 | true =>
  refine gb ?_
  refine W_seq ?_
  refine gb ?_
  refine R1_build1 sl_u8 rfl (.inl rfl) rfl rfl ?_
  intro w5 hB5 hE5 hs5
  have hB5':Blk w5 w3.heap.size 5 #[.int .u8 (((45:UInt8).toNat:Nat):Int)]:=hB5
  refine gb ?_
  refine R1_pushB rfl rfl (hO4.ext hE5) rfl hB5' (by rw [hklen]; omega) (by omega) ?_
  intro v6 w6 hO6 hC6 _
  have hX6:=hC6.ext_of (hX3.trans hE5) (fun q e=>by have:=((hO4.ext hE5).blk e).1; omega)
  obtain ⟨g7,cap7,rfl,hg7,_⟩:=hO6.bb (by simp)
  refine gb ?_
  refine R1_call2 (reverse_ok g7 cap7 base _ w6 hO6 (by simp) (by simp [dig_len]; omega)) ?_
  rintro _ w8 ⟨rfl,hO8,hC8,hs8⟩
  have hX8:=hC8.ext_of hX6 (fun q e=>by omega)
  have er:((dig (dlen X) X).map ch ++ [45]).reverse = 45 :: nt X:=by simp [nt]
  rw [er] at hO8
  have hcs:=hO8.cells
  refine gb ?_
  refine R1_ofBytes (by decide) by_u8 ty_str rfl (by simp [nt,dig_len]) (l:=45 :: nt X) (fun w' hw=>?_) ?_
  · rcases hw with hw | rfl
    · exact hw.elim
    · exact hcs
  refine gb ?_
  refine ret1 (v:=Tx _) rfl rfl ⟨hX8,?_⟩
  have e:sg true X = -((X:Nat):Int):=rfl
  rw [e]
  unfold zt
  rw [if_neg (by omega),if_pos (by omega),Int.natAbs_neg,Int.natAbs_natCast]
 | false =>
  refine gb ?_
  refine W_seq ?_
  refine gb ?_
  have hne:=hkne _ (dlen_lt X)
  have hO6:=hO4
  rw [show Value.slice (some ⟨g4,0,none⟩) (dlen X) cap = Value.slice (some ⟨g4,0,none⟩) ((dig (dlen X) X).map ch).length cap by rw [hklen]] at hO6
  have hrv:=reverse_ok g4 cap base _ w3 hO6 hne (by rw [hklen]; omega)
  rw [hklen] at hrv
  refine R1_call2 hrv ?_
  rintro _ w8 ⟨rfl,hO8,hC8,hs8⟩
  have hX8:=hC8.ext_of hX3 (fun q e=>by omega)
  have er:((dig (dlen X) X).map ch).reverse = nt X:=by simp [nt]
  rw [er] at hO8
  have hcs:=hO8.cells
  refine gb ?_
  refine R1_ofBytes (by decide) by_u8 ty_str rfl (by simp [nt,dig_len]) (l:=nt X) (fun w' hw=>?_) ?_
  · rcases hw with hw | rfl
    · exact hw.elim
    · exact hcs
  refine gb ?_
  refine ret1 (v:=Tx _) rfl rfl ⟨hX8,?_⟩
  have e:sg false X = ((X:Nat):Int):=rfl
  rw [e]
  unfold zt
  rw [if_neg (by omega),if_neg (by omega),Int.natAbs_natCast]
end Go.Proofs.YtncbjgblcofddaaGreatDoor
