/- Joined: Cmp, Toi. -/
import Derived.Test.YtmkbpjoihdfpkaaGreatQn
import Derived.Test.YtmkbpjoihdfpkaaGreatQo
/- integer.Cmp; matrix.Equal and the reference's Equal. -/
namespace Go.Proofs.YtmkbpjoihdfpkaaGreat
open Go Go.Eng Go.Num Go.Proofs
theorem sign_sg (neg:Bool) (m:Nat):(sg neg m).sign = if m = 0 then 0 else if neg then -1 else 1:=by
 by_cases h:m = 0
 · subst h; rw [if_pos rfl]; cases neg <;> rfl
 · rw [if_neg h]
   cases neg
   · rw [sg_false]; exact Int.sign_eq_one_of_pos (by omega)
   · rw [sg_true]; exact Int.sign_eq_neg_one_of_neg (by omega)
theorem cmpI_nat (a b:Nat):cmpI (a:Int) (b:Int) = cmpZ a b:=by
 unfold cmpI cmpZ
 by_cases h1:a < b
 · rw [if_pos (by omega),if_pos h1]
 · rw [if_neg (by omega),if_neg h1]
   by_cases h2:b < a
   · rw [if_pos (by omega),if_pos h2]
   · rw [if_neg (by omega),if_neg h2]
theorem cmpI_neg (a b:Nat):cmpI (-(a:Int)) (-(b:Int)) = - cmpZ a b:=by
 unfold cmpI cmpZ
 by_cases h1:a < b
 · rw [if_neg (by omega),if_pos (by omega),if_pos h1]; rfl
 · rw [if_neg h1]
   by_cases h2:b < a
   · rw [if_pos (by omega),if_pos h2]
   · rw [if_neg (by omega),if_neg (by omega),if_neg h2]; rfl
theorem cmpI_same {n1 n2:Bool} {a b:Nat} (h:(sg n1 a).sign = (sg n2 b).sign):(sg n1 a).sign * cmpZ a b = cmpI (sg n1 a) (sg n2 b):=by
 rw [sign_sg,sign_sg] at h
 rw [sign_sg]
 by_cases ha:a = 0
 · by_cases hb:b = 0
   · subst ha hb
     cases n1 <;> cases n2 <;> decide
   · rw [if_pos ha,if_neg hb] at h; cases n2 <;> simp at h
 · rw [if_neg ha] at h ⊢
   by_cases hb:b = 0
   · rw [if_pos hb] at h; cases n1 <;> simp at h
   · rw [if_neg hb] at h
     cases n1 <;> cases n2 <;> simp at h
     · rw [sg_false,sg_false,cmpI_nat,if_neg (by decide),Int.one_mul]
     · rw [sg_true,sg_true,cmpI_neg,if_pos rfl,Int.neg_mul,Int.one_mul]
theorem cmpI_lt {a b:Int} (h:a.sign < b.sign):cmpI a b = -1:=by
 unfold cmpI
 rcases Int.lt_trichotomy a 0 with ha | ha | ha <;> rcases Int.lt_trichotomy b 0 with hb | hb | hb
 · rw [Int.sign_eq_neg_one_of_neg ha,Int.sign_eq_neg_one_of_neg hb] at h; omega
 · rw [if_pos (by omega)]
 · rw [if_pos (by omega)]
 · subst ha; rw [Int.sign_eq_neg_one_of_neg hb] at h; simp at h
 · subst ha hb; simp at h
 · rw [if_pos (by omega)]
 · rw [Int.sign_eq_one_of_pos ha,Int.sign_eq_neg_one_of_neg hb] at h; omega
 · subst hb; rw [Int.sign_eq_one_of_pos ha] at h; simp at h
 · rw [Int.sign_eq_one_of_pos ha,Int.sign_eq_one_of_pos hb] at h; omega
theorem cmpI_swap (a b:Int):cmpI a b = - cmpI b a:=by
 unfold cmpI
 by_cases h1:a < b
 · rw [if_pos h1,if_neg (by omega),if_pos h1]
 · rw [if_neg h1]
   by_cases h2:b < a
   · rw [if_pos h2,if_pos h2]; rfl
   · rw [if_neg h2,if_neg h2,if_neg h1]; rfl
theorem cmpI_zero (a b:Int):cmpI a b = 0 ↔ a = b:=by
 unfold cmpI
 split
 · omega
 · split <;> omega
set_option maxHeartbeats 8000000 in
theorem cmp_ok (x1 y1 x2 y2:Value) (z1 z2:Int) (N:Nat) (w:World) (h1:IV w N x1 y1 z1) (h2:IV w N x2 y2 z2) (hN:N < 1099511627776) :
 Meets Tryz.prog 54 #[.agg #[x1,y1],.agg #[x2,y2]] w fun v w'=>Ext w w'∧v = .int .i64 (cmpI z1 z2):=by
 have hh1:=h1
 have hh2:=h2
 obtain ⟨g1,A1,l1,c1,rfl,rfl,hc1,hd1,hM1,hl1,rfl⟩:=h1
 obtain ⟨g2,A2,l2,c2,rfl,rfl,hc2,hd2,hM2,hl2,rfl⟩:=h2
 refine fn_W (n:=28) Tryz.func54 rfl rfl (by kernel_rfl) (by simp) ?_
 refine gg ?_
 refine R1_box (v:=.agg _) (.inl rfl) rfl ?_
 intro w1 hB1 hE1 hs1
 refine gg ?_
 refine R1_box (v:=.agg _) (.inl rfl) rfl ?_
 intro w2 hB2 hE2 hs2
 have hE02:=hE1.trans hE2
 have hB1':Blk w2 w.heap.size 47 #[.bool g1,.slice A1 l1.length c1]:=hB1.ext hE2
 have hB2':Blk w2 w1.heap.size 47 #[.bool g2,.slice A2 l2.length c2]:=hB2
 clear hB1 hB2
 refine gg ?_
 refine W_seqD [(0,0),(2,0),(1,1),(3,1),(4,3),(5,3)] mixed (by kernel_rfl) (fun w3 hE3 _=>?_)
 obtain ⟨p1,p2⟩:=blkP (hB1'.ext hE3)
 obtain ⟨p3,p4⟩:=blkP (hB2'.ext hE3)
 refine gg ?_
 refine R1_call1 (sign_ok _ _ _ N w3 (hh1.ext (hE02.trans hE3)) hN) ?_
 rintro _ w4 ⟨hE4,rfl⟩
 refine ⟨hE4,?_⟩
 refine gg ?_
 refine R1_call1 (sign_ok _ _ _ N w4 (hh2.ext (hE02.trans (hE3.trans hE4))) hN) ?_
 rintro _ w5 ⟨hE5,rfl⟩
 refine ⟨hE5,?_⟩
 have hE25:=hE3.trans (hE4.trans hE5)
 have hE05:=hE02.trans hE25
 clear p1 p2 p3 p4
 by_cases hlt:(sg g1 (val l1)).sign < (sg g2 (val l2)).sign
 · refine gg ?_
   exact ret1 rfl rfl ⟨hE05,by rw [cmpI_lt hlt]; rfl⟩
 by_cases hgt:(sg g2 (val l2)).sign < (sg g1 (val l1)).sign
 · refine gg ?_
   exact ret1 rfl rfl ⟨hE05,by rw [cmpI_swap,cmpI_lt hgt]; rfl⟩
 have heq:(sg g1 (val l1)).sign = (sg g2 (val l2)).sign:=by omega
 refine gg ?_
 refine W_seqD [(0,3),(1,3),(2,0),(4,3),(5,0),(3,1),(6,1),(7,1),(8,3),(9,3)] mixed (by kernel_rfl) (fun w6 hE6 _=>?_)
 have f0:=blk1 (hB1'.ext (hE25.trans hE6))
 have f1:=blk1 (hB2'.ext (hE25.trans hE6))
 have hE06:=hE05.trans hE6
 refine gg ?_
 refine R1_call1 (trim_ok _ _ _ _ w6 (hM1.ext hE06) rfl hc1 hd1) ?_
 rintro _ _ ⟨rfl,m1,hm1,rfl,ht1,hv1⟩
 refine ⟨Ext.refl _,?_⟩
 refine gg ?_
 refine R1_call1 (trim_ok _ _ _ _ w6 (hM2.ext hE06) rfl hc2 hd2) ?_
 rintro _ _ ⟨rfl,m2,hm2,rfl,ht2,hv2⟩
 refine ⟨Ext.refl _,?_⟩
 refine gg ?_
 refine R1_call1 (compareNat_ok _ _ _ _ _ _ (l1.take m1) (l2.take m2) w6 ((hM1.ext hE06).take m1) ((hM2.ext hE06).take m2) (List.length_take_of_le hm1) (List.length_take_of_le hm2) (by omega) (by omega) ht1 ht2) ?_
 rintro _ w7 ⟨hE7,rfl⟩
 refine ⟨hE7,?_⟩
 rw [hv1,hv2]
 have hb:(sg g1 (val l1)).sign * cmpZ (val l1) (val l2) = cmpI (sg g1 (val l1)) (sg g2 (val l2)):=cmpI_same heq
 have hbr:-1≤cmpI (sg g1 (val l1)) (sg g2 (val l2))∧cmpI (sg g1 (val l1)) (sg g2 (val l2))≤1:=by
  unfold cmpI
  split
  · omega
  · split <;> omega
 refine gg ?_
 refine R1_mul_z rfl rfl (by rw [hb]; omega) (by rw [hb]; omega) ?_
 refine gg ?_
 exact ret1 (v:=.int .i64 _) rfl rfl ⟨hE06.trans hE7,by rw [hb]⟩
def eqM (r1 r2:Nat) (len1 len2:Nat→Nat) (X Y:Nat→Nat→Int):Prop:=okAdd r1 r2 len1 len2 = true∧∀ i j,i < r1→j < len1 0→X i j = Y i j
def REq (w:World) (p:Prop) (v:Value) (w':World):Prop:=Ext w w'∧∃ b:Bool,v = .bool b∧(b = true ↔ p)
set_option maxHeartbeats 16000000 in
theorem requal_ok (va vb:Value) (r1 r2 N:Nat) (len1 len2:Nat→Nat) (X Y:Nat→Nat→Int) (w:World) (ha:MatE (EI N) w va r1 len1 X) (hb:MatE (EI N) w vb r2 len2 Y) (hN:N < 137438953472) :
 Meets Tryz.prog 74 #[va,vb] w (REq w (eqM r1 r2 len1 len2 X Y)):=by
 refine fn_W (n:=72) Tryz.func74 rfl rfl (by kernel_rfl) (by simp) ?_
 refine gg ?_
 refine R1_call2 (rshape_ok _ _ r1 len1 X w ha) ?_
 rintro _ w1 ⟨hE1,rfl⟩
 obtain ⟨s1,c1,ok1,e1,h1⟩:=shapeV_cases r1 len1
 rw [e1]
 refine gg ?_
 refine R1_call2 (rshape_ok _ _ r2 len2 Y w1 (hb.ext hE1)) ?_
 rintro _ w2 ⟨hE2,rfl⟩
 obtain ⟨s2,c2,ok2,e2,h2⟩:=shapeV_cases r2 len2
 rw [e2]
 have hE02:=hE1.trans hE2
 have bad:okAdd r1 r2 len1 len2 = false→REq w (eqM r1 r2 len1 len2 X Y) (.bool false) w2:=fun h=>⟨hE02,false,rfl,by unfold eqM; rw [h]; simp⟩
 rcases h1 with ⟨hok1,rfl,rfl,rfl⟩ | ⟨hok1,rfl,rfl,rfl⟩
 rotate_left
 · refine gg ?_
   refine W_seq ?_
   refine gg ?_
   exact ret1 (v:=.bool _) rfl rfl (bad (by unfold okAdd; rw [hok1]; rfl))
 rcases h2 with ⟨hok2,rfl,rfl,rfl⟩ | ⟨hok2,rfl,rfl,rfl⟩
 rotate_left
 · refine gg ?_
   refine W_seq ?_
   refine gg ?_
   exact ret1 (v:=.bool _) rfl rfl (bad (by unfold okAdd; rw [hok2,Bool.and_false]; rfl))
 by_cases hr:s1 = s2
 rotate_left
 · refine gg ?_
   refine W_seq ?_
   refine gg ?_
   exact ret1 (v:=.bool _) rfl rfl (bad (by unfold okAdd; rw [decide_eq_false hr,Bool.and_false,Bool.false_and]))
 by_cases hc:len1 0 = len2 0
 rotate_left
 · refine gg ?_
   refine W_seq ?_
   refine gg ?_
   exact ret1 (v:=.bool _) rfl rfl (bad (by unfold okAdd; rw [decide_eq_false hc,Bool.and_false]))
 have hokA:okAdd s1 s2 len1 len2 = true:=by unfold okAdd; rw [hok1,hok2,decide_eq_true hr,decide_eq_true hc]; rfl
 obtain ⟨⟨hr1,hr2,hl1,hl2⟩,hlen1⟩:=okM_iff.1 hok1
 obtain ⟨_,hlen2⟩:=okM_iff.1 hok2
 refine gg ?_
 refine W_seq ?_
 refine gg ?_
 clear e1 e2 bad hok1 hok2
 obtain ⟨c,hcc⟩ : ∃ c,c = len1 0:=⟨_,rfl⟩
 have hMa:=(ha.sq (c:=c) (fun i hi=>by rw [hlen1 i hi,hcc])).ext hE02
 have hMb:=(hb.sq (c:=c) (fun i hi=>by rw [hlen2 i hi,← hc,hcc])).ext hE02
 subst hr
 obtain ⟨A,cap,rfl,hrc,hcap,hrow⟩:=hMa
 obtain ⟨A',cap',rfl,hrc',hcap',hrow'⟩:=hMb
 clear ha hb
 refine W_seqM (fun f w'=>Ext w w'∧∀ i j,i < s1→j < c→X i j = Y i j) ?_ ?_
 · refine gg ?_
   refine W_loop (fun m f w'=>∃ i,m = s1 - i∧i≤s1∧f 0 = .slice A s1 cap∧f 1 = .slice A' s1 cap'∧f 42 = .int .i64 ((s1:Nat):Int)∧f 43 = .int .i64 ((i:Nat):Int)∧Ext w2 w'∧∀ a b,a < i→b < c→X a b = Y a b)
    s1 ⟨0,rfl,Nat.zero_le _,rfl,rfl,rfl,rfl,Ext.refl _,fun a b ha=>absurd ha (by omega)⟩ ?_
   rintro m f w3 ⟨i,rfl,hi,hf0,hf1,hf42,hf43,hE,hprev⟩
   rw [ui hf0,ui hf1,ui hf42,ui hf43]
   clear hf0 hf1 hf42 hf43
   by_cases hlt:i < s1
   · obtain ⟨ad,u,rfl,hx,hru⟩:=hrow i hlt
     obtain ⟨Ai,capi,rfl,hci,hcapi,hri⟩:=id hru
     obtain ⟨ad',u',rfl,hx',hru'⟩:=hrow' i hlt
     obtain ⟨Ai',capi',rfl,hci',hcapi',hri'⟩:=id hru'
     have hx1:=cell_ext hE hx
     refine gg ?_
     refine W_loop (fun m f w'=>∃ j,m = c - j∧j≤c∧f 0 = .slice (some ad) s1 cap∧f 1 = .slice (some ad') s1 cap'∧f 42 = .int .i64 ((s1:Nat):Int)∧f 43 = .int .i64 ((i:Nat):Int)∧f 11 = .int .i64 ((i:Nat):Int)∧f 50 = .int .i64 ((c:Nat):Int)∧f 51 = .int .i64 ((j:Nat):Int)∧Ext w2 w'∧∀ b,b < j→X i b = Y i b)
      c ⟨0,rfl,Nat.zero_le _,rfl,rfl,rfl,rfl,rfl,rfl,rfl,hE,fun b hb=>absurd hb (by omega)⟩ ?_
     clear hE hx1 w3
     rintro m f w3 ⟨j,rfl,hj,hf0,hf1,hf42,hf43,hf11,hf50,hf51,hE,hjp⟩
     rw [ui hf0,ui hf1,ui hf42,ui hf43,ui hf11,ui hf50,ui hf51]
     clear hf0 hf1 hf42 hf43 hf11 hf50 hf51
     by_cases hjl:j < c
     · obtain ⟨ae,x,y,rfl,hx0,hy0,hv⟩:=hri j hjl
       obtain ⟨ae',x',y',rfl,hx0',hy0',hv'⟩:=hri' j hjl
       refine gg ?_
       refine W_seqD [(0,3),(1,3),(2,3),(3,0),(4,3),(5,3),(6,0),(7,3),(8,3),(9,3),(10,0),(11,3),(12,3),(13,0),(14,1),(15,3)] mixed (by kernel_rfl) (fun w4 hE4 _=>?_)
       have hE24:=hE.trans hE4
       have k1:=cell_ext hE24 hx
       have k2:=cell_ext hE24 hx'
       have k3:=cell_ext hE24 hx0
       have k4:=cell_ext hE24 hy0
       have k5:=cell_ext hE24 hx0'
       have k6:=cell_ext hE24 hy0'
       have hv:IV w4 N x y (X i j):=IV.ext hv hE24
       have hv':IV w4 N x' y' (Y i j):=IV.ext hv' hE24
       refine gg ?_
       refine R1_call1 (rcmpI_ok _ _ _ _ _ _ N w4 hv hv' hN) ?_
       rintro _ w5 ⟨hE5,rfl⟩
       refine ⟨hE5,?_⟩
       by_cases hz:X i j = Y i j
       · have hz0:cmpI (X i j) (Y i j) = 0:=(cmpI_zero _ _).2 hz
         refine gg ?_
         refine ⟨_,?_,j + 1,rfl,by omega,rfl,rfl,rfl,rfl,rfl,rfl,rfl,hE24.trans hE5,fun b hb=>?_⟩
         · omega
         · by_cases e:b = j
           · subst e; exact hz
           · exact hjp b (by omega)
       · have hz0:¬ cmpI (X i j) (Y i j) = 0:=fun e=>hz ((cmpI_zero _ _).1 e)
         refine gg ?_
         refine ret1 (v:=.bool _) rfl rfl ⟨hE02.trans (hE24.trans hE5),false,rfl,?_⟩
         unfold eqM
         refine ⟨fun h=>(by cases h),fun h=>absurd (h.2 i j hlt (by omega)) hz⟩
     · refine gg ?_
       refine ⟨_,?_,i + 1,rfl,by omega,rfl,rfl,rfl,rfl,hE,fun a b ha hb=>?_⟩
       · omega
       · by_cases e:a = i
         · subst e; exact hjp b (by omega)
         · exact hprev a b (by omega) hb
   · refine gg ?_
     exact ⟨hE02.trans hE,fun a b ha hb=>hprev a b (by omega) hb⟩
 rintro f w3 ⟨hE,hall⟩
 refine gg ?_
 exact ret1 (v:=.bool _) rfl rfl ⟨hE,true,rfl,⟨fun _=>⟨hokA,fun i j hi hj=>hall i j hi (by omega)⟩,fun _=>rfl⟩⟩
set_option maxHeartbeats 16000000 in
theorem equal_ok (va vb:Value) (r1 r2 N:Nat) (len1 len2:Nat→Nat) (X Y:Nat→Nat→Int) (w:World) (ha:MatE (EI N) w va r1 len1 X) (hb:MatE (EI N) w vb r2 len2 Y) (hN:N < 1099511627776) :
 Meets Tryz.prog 87 #[va,vb] w (REq w (eqM r1 r2 len1 len2 X Y)):=by
 refine fn_W (n:=69) Tryz.func87 rfl rfl (by kernel_rfl) (by simp) ?_
 refine gg ?_
 refine R1_call2 (shape_ok _ _ r1 len1 X w ha) ?_
 rintro _ _ ⟨rfl,rfl⟩
 obtain ⟨s1,c1,ok1,e1,h1⟩:=shapeV_cases r1 len1
 rw [e1]
 refine gg ?_
 refine R1_call2 (shape_ok _ _ r2 len2 Y w hb) ?_
 rintro _ _ ⟨rfl,rfl⟩
 obtain ⟨s2,c2,ok2,e2,h2⟩:=shapeV_cases r2 len2
 rw [e2]
 have bad:okAdd r1 r2 len1 len2 = false→REq w (eqM r1 r2 len1 len2 X Y) (.bool false) w:=fun h=>⟨Ext.refl _,false,rfl,by unfold eqM; rw [h]; simp⟩
 rcases h1 with ⟨hok1,rfl,rfl,rfl⟩ | ⟨hok1,rfl,rfl,rfl⟩
 rotate_left
 · refine gg ?_
   refine W_seq ?_
   refine gg ?_
   exact ret1 (v:=.bool _) rfl rfl (bad (by unfold okAdd; rw [hok1]; rfl))
 rcases h2 with ⟨hok2,rfl,rfl,rfl⟩ | ⟨hok2,rfl,rfl,rfl⟩
 rotate_left
 · refine gg ?_
   refine W_seq ?_
   refine gg ?_
   exact ret1 (v:=.bool _) rfl rfl (bad (by unfold okAdd; rw [hok2,Bool.and_false]; rfl))
 by_cases hr:s1 = s2
 rotate_left
 · refine gg ?_
   refine W_seq ?_
   refine gg ?_
   exact ret1 (v:=.bool _) rfl rfl (bad (by unfold okAdd; rw [decide_eq_false hr,Bool.and_false,Bool.false_and]))
 by_cases hc:len1 0 = len2 0
 rotate_left
 · refine gg ?_
   refine W_seq ?_
   refine gg ?_
   exact ret1 (v:=.bool _) rfl rfl (bad (by unfold okAdd; rw [decide_eq_false hc,Bool.and_false]))
 have hokA:okAdd s1 s2 len1 len2 = true:=by unfold okAdd; rw [hok1,hok2,decide_eq_true hr,decide_eq_true hc]; rfl
 obtain ⟨⟨hr1,hr2,hl1,hl2⟩,hlen1⟩:=okM_iff.1 hok1
 obtain ⟨_,hlen2⟩:=okM_iff.1 hok2
 obtain ⟨A,cap,rfl,_⟩:=id ha
 refine gg ?_
 refine W_seq ?_
 refine gg ?_
 clear e1 e2 bad hok1 hok2
 obtain ⟨c,hcc⟩ : ∃ c,c = len1 0:=⟨_,rfl⟩
 have hMa:=ha.sq (c:=c) (fun i hi=>by rw [hlen1 i hi,hcc])
 have hMb:=hb.sq (c:=c) (fun i hi=>by rw [hlen2 i hi,← hc,hcc])
 subst hr
 obtain ⟨A0,cap0,e,hrc,hcap,hrow⟩:=hMa
 injection e with e1 _ e3
 subst e1 e3
 obtain ⟨A',cap',rfl,hrc',hcap',hrow'⟩:=hMb
 clear ha hb
 refine W_seqM (fun f w'=>Ext w w'∧∀ i j,i < s1→j < c→X i j = Y i j) ?_ ?_
 · refine gg ?_
   refine W_loop (fun m f w'=>∃ i,m = s1 - i∧i≤s1∧f 1 = .slice A' s1 cap'∧f 43 = .slice A s1 cap∧f 44 = .int .i64 ((s1:Nat):Int)∧f 45 = .int .i64 ((i:Nat):Int)∧Ext w w'∧∀ a b,a < i→b < c→X a b = Y a b)
    s1 ⟨0,rfl,Nat.zero_le _,rfl,rfl,rfl,rfl,Ext.refl _,fun a b ha=>absurd ha (by omega)⟩ ?_
   rintro m f w3 ⟨i,rfl,hi,hf1,hf43,hf44,hf45,hE,hprev⟩
   rw [ui hf1,ui hf43,ui hf44,ui hf45]
   clear hf1 hf43 hf44 hf45
   by_cases hlt:i < s1
   · obtain ⟨ad,u,rfl,hx,hru⟩:=hrow i hlt
     obtain ⟨Ai,capi,rfl,hci,hcapi,hri⟩:=id hru
     obtain ⟨ad',u',rfl,hx',hru'⟩:=hrow' i hlt
     obtain ⟨Ai',capi',rfl,hci',hcapi',hri'⟩:=id hru'
     have hx1:=cell_ext hE hx
     refine gg ?_
     refine W_loop (fun m f w'=>∃ j,m = c - j∧j≤c∧f 1 = .slice (some ad') s1 cap'∧f 43 = .slice (some ad) s1 cap∧f 44 = .int .i64 ((s1:Nat):Int)∧f 45 = .int .i64 ((i:Nat):Int)∧f 11 = .int .i64 ((i:Nat):Int)∧f 50 = .slice Ai c capi∧f 51 = .int .i64 ((c:Nat):Int)∧f 52 = .int .i64 ((j:Nat):Int)∧Ext w w'∧∀ b,b < j→X i b = Y i b)
      c ⟨0,rfl,Nat.zero_le _,rfl,rfl,rfl,rfl,rfl,rfl,rfl,rfl,hE,fun b hb=>absurd hb (by omega)⟩ ?_
     clear hE hx1 w3
     rintro m f w3 ⟨j,rfl,hj,hf1,hf43,hf44,hf45,hf11,hf50,hf51,hf52,hE,hjp⟩
     rw [ui hf1,ui hf43,ui hf44,ui hf45,ui hf11,ui hf50,ui hf51,ui hf52]
     clear hf1 hf43 hf44 hf45 hf11 hf50 hf51 hf52
     by_cases hjl:j < c
     · obtain ⟨ae,x,y,rfl,hx0,hy0,hv⟩:=hri j hjl
       obtain ⟨ae',x',y',rfl,hx0',hy0',hv'⟩:=hri' j hjl
       have k3:=cell_ext hE hx0
       have k4:=cell_ext hE hy0
       refine gg ?_
       refine R1_alloc (.inl rfl) z_Int ?_
       intro w4 hB4 hE4 hs4
       have hb4:Bx w4 w3.heap.size N false 0:=Bx.zero false hB4
       obtain ⟨gb,hgb⟩ : ∃ g,g = w3.heap.size:=⟨_,rfl⟩
       rw [← hgb] at hb4 ⊢
       clear k3 k4
       refine gg ?_
       refine R1_storeBx (.inl rfl) rfl rfl hb4 (N':=N) (z':=X i j) ⟨IV.ext hv (hE.trans hE4),fun e=>by cases e⟩ ?_
       intro w5 hb5 hC5 hk5 hs5
       have hE5:Ext w3 w5:=hC5.ext_of hE4 (fun b hb=>by omega)
       replace hE:=hE.trans hE5
       obtain ⟨bx,by',hbB,hbv⟩:=hb5
       clear hb4 hB4 hE4 hs4 hC5 hk5 hs5 hE5
       refine gg ?_
       refine W_seqD [(0,0),(1,3),(2,3),(3,3),(4,0),(5,3),(6,3),(7,0),(8,1),(9,3)] mixed (by kernel_rfl) (fun w6 hE6 _=>?_)
       have hE26:=hE.trans hE6
       have k2:=cell_ext hE26 hx'
       have k5:=cell_ext hE26 hx0'
       have k6:=cell_ext hE26 hy0'
       have hv':IV w6 N x' y' (Y i j):=IV.ext hv' hE26
       obtain ⟨p1,p2⟩:=blkP (hbB.ext hE6)
       refine gg ?_
       refine R1_call1 (cmp_ok _ _ _ _ _ _ N w6 (hbv.1.ext hE6) hv' hN) ?_
       rintro _ w7 ⟨hE7,rfl⟩
       refine ⟨hE7,?_⟩
       by_cases hz:X i j = Y i j
       · have hz0:cmpI (X i j) (Y i j) = 0:=(cmpI_zero _ _).2 hz
         refine gg ?_
         refine ⟨_,?_,j + 1,rfl,by omega,rfl,rfl,rfl,rfl,rfl,rfl,rfl,rfl,hE26.trans hE7,fun b hb=>?_⟩
         · omega
         · by_cases e:b = j
           · subst e; exact hz
           · exact hjp b (by omega)
       · have hz0:¬ cmpI (X i j) (Y i j) = 0:=fun e=>hz ((cmpI_zero _ _).1 e)
         refine gg ?_
         refine ret1 (v:=.bool _) rfl rfl ⟨hE26.trans hE7,false,rfl,?_⟩
         unfold eqM
         refine ⟨fun h=>(by cases h),fun h=>absurd (h.2 i j hlt (by omega)) hz⟩
     · refine gg ?_
       refine ⟨_,?_,i + 1,rfl,by omega,rfl,rfl,rfl,rfl,hE,fun a b ha hb=>?_⟩
       · omega
       · by_cases e:a = i
         · subst e; exact hjp b (by omega)
         · exact hprev a b (by omega) hb
   · refine gg ?_
     exact ⟨hE,fun a b ha hb=>hprev a b (by omega) hb⟩
 rintro f w3 ⟨hE,hall⟩
 refine gg ?_
 exact ret1 (v:=.bool _) rfl rfl ⟨hE,true,rfl,⟨fun _=>⟨hokA,fun i j hi hj=>hall i j hi (by omega)⟩,fun _=>rfl⟩⟩
end Go.Proofs.YtmkbpjoihdfpkaaGreat
namespace Go.Proofs.YtmkbpjoihdfpkaaGreat
open Go Go.Eng Go.Num Go.Proofs
set_option maxHeartbeats 8000000 in
theorem rint64_ok (x y:Value) (z:Int) (N:Nat) (w:World) (h:IV w N x y z) (hN:N < 1099511627776) :
 Meets Tryz.prog 121 #[.agg #[x,y]] w fun v w'=>Ext w w'∧v = .tuple #[.int .i64 (clip z),.bool (fits z)]:=by
 obtain ⟨neg,A,l0,c,rfl,rfl,hc,hc2,hM0,hl,rfl⟩:=h
 refine fn_W (n:=35) Tryz.func121 rfl rfl (by kernel_rfl) (by simp) ?_
 refine gg ?_
 refine R1_box (v:=.agg _) (.inl rfl) rfl ?_
 intro w1 hB1 hE1 hs1
 have f0:=blk0 hB1
 have f1:=blk1 hB1
 refine gg ?_
 refine R1_call2 (rtrim_ok _ _ _ _ w1 (hM0.ext hE1) rfl hc (by omega)) ?_
 rintro _ w2 ⟨hE2,A2,l,c2,rfl,hlc,hc2',hM,htr,hval⟩
 have hE02:=hE1.trans hE2
 have hln:l.length≤N:=by
  have hlt:=val_lt _ hM0.lim
  rw [← hval] at hlt
  rcases Nat.lt_or_ge N l.length with h' | h'
  · exfalso
    have hne:l ≠ []:=by rintro rfl; simp at h'
    have a:=val_top hne htr
    have b:B ^ l0.length≤B ^ (l.length - 1):=Nat.pow_le_pow_right (by decide) (by omega)
    omega
  · exact h'
 replace f0:=cell_ext hE2 f0
 rw [← hval]
 clear hM0 hval f1 hB1
 refine gg ?_
 refine R1_call2 (low_ok _ _ _ l w2 hM rfl (by omega)) ?_
 rintro _ _ ⟨rfl,rfl⟩
 by_cases hm2:2 < l.length
 · refine gg ?_
   refine ret2 (v:=.int _ _) (v':=.bool _) rfl rfl rfl ⟨hE02,?_⟩
   have hne:l ≠ []:=by rintro rfl; simp at hm2
   have hv:=val_top hne htr
   have h2:B ^ 2≤B ^ (l.length - 1):=Nat.pow_le_pow_right (by decide) (by omega)
   have h3:B ^ 2 = 18446744073709551616:=by decide
   have hf:fits (sg neg (val l)) = false∧clip (sg neg (val l)) = 0:=by
    refine fits_f ?_
    cases neg
    · rw [sg_false]; omega
    · rw [sg_true]; omega
   rw [hf.1,hf.2]; rfl
 · have hv:val l < 18446744073709551616:=by
    refine Nat.lt_of_lt_of_le (val_lt _ hM.lim) ?_
    exact Nat.le_trans (Nat.pow_le_pow_right (show 0 < B by decide) (show l.length≤2 by omega)) (by decide)
   rw [List.take_of_length_le (show l.length≤2 by omega)]
   cases neg
   · by_cases hs:val l < 9223372036854775808
     · refine gg ?_
       refine R1_u64_i64 ty_u64 ty_i64 rfl (wrap_small _ hs) ?_
       refine gg ?_
       refine ret2 (v:=.int _ _) (v':=.bool _) rfl rfl rfl ⟨hE02,?_⟩
       have hf:=fits_t (z:=sg false (val l)) (by rw [sg_false]; omega) (by rw [sg_false]; omega)
       rw [hf.1,hf.2]; rfl
     · refine gg ?_
       refine ret2 (v:=.int _ _) (v':=.bool _) rfl rfl rfl ⟨hE02,?_⟩
       have hf:=fits_f (z:=sg false (val l)) (by rw [sg_false]; omega)
       rw [hf.1,hf.2]; rfl
   · by_cases hs:val l≤9223372036854775808
     · refine gg ?_
       refine R1_neg_u64 rfl (by omega) ?_
       refine gg ?_
       refine R1_u64_i64 ty_u64 ty_i64 rfl (wrap_neg _ hs) ?_
       refine gg ?_
       refine ret2 (v:=.int _ _) (v':=.bool _) rfl rfl rfl ⟨hE02,?_⟩
       have hf:=fits_t (z:=sg true (val l)) (by rw [sg_true]; omega) (by rw [sg_true]; omega)
       rw [hf.1,hf.2]; rfl
     · refine gg ?_
       refine ret2 (v:=.int _ _) (v':=.bool _) rfl rfl rfl ⟨hE02,?_⟩
       have hf:=fits_f (z:=sg true (val l)) (by rw [sg_true]; omega)
       rw [hf.1,hf.2]; rfl
def allFit (r c:Nat) (M:Nat→Nat→Int):Bool:=(List.range r).all fun i=>(List.range c).all fun j=>fits (M i j)
theorem allFit_iff {r c:Nat} {M:Nat→Nat→Int}:allFit r c M = true ↔ ∀ i j,i < r→j < c→fits (M i j) = true:=by
 simp only [allFit,List.all_eq_true,List.mem_range]
 exact ⟨fun h i j hi hj=>h i hi j hj,fun h i hi j hj=>h i j hi hj⟩
def okF (r:Nat) (len:Nat→Nat) (M:Nat→Nat→Int):Bool:=okM r len && allFit r (len 0) M
def RZB (w:World) (ok:Bool) (r c:Nat) (M:Nat→Nat→Int) (v:Value) (w':World):Prop :=
 if ok then ∃ u,v = .tuple #[u,.bool true]∧RZ w r c M u w' else Ext w w'∧v = .tuple #[.slice none 0 0,.bool false]
theorem rzb_bad {w w':World} {ok:Bool} {r c:Nat} {M:Nat→Nat→Int} (h:ok = false) (hE:Ext w w'):RZB w ok r c M (.tuple #[.slice none 0 0,.bool false]) w':=by
 subst h; unfold RZB; rw [if_neg (by decide)]; exact ⟨hE,rfl⟩
theorem clip_fit {z:Int} (h:fits z = true):clip z = z:=by unfold clip; rw [if_pos h]
set_option maxHeartbeats 16000000 in
theorem rtoInts_ok (v:Value) (r N:Nat) (len:Nat→Nat) (M:Nat→Nat→Int) (w:World) (h:MatE (EI N) w v r len M) (hN:N < 1099511627776) :
 Meets Tryz.prog 81 #[v] w (RZB w (okF r len M) r (len 0) M):=by
 refine fn_W (n:=63) Tryz.func81 rfl rfl (by kernel_rfl) (by simp) ?_
 refine gg ?_
 refine R1_call2 (rshape_ok _ _ r len M w h) ?_
 rintro _ w0 ⟨hE0,rfl⟩
 obtain ⟨s1,c1,ok1,e1,h1⟩:=shapeV_cases r len
 rw [e1]
 rcases h1 with ⟨hok,rfl,rfl,rfl⟩ | ⟨hok,rfl,rfl,rfl⟩
 rotate_left
 · refine gg ?_
   refine W_seq ?_
   refine gg ?_
   exact ret2 rfl rfl rfl (rzb_bad (by unfold okF; rw [hok]; rfl) hE0)
 obtain ⟨⟨hr1,hr2,hl1,hl2⟩,hlen⟩:=okM_iff.1 hok
 obtain ⟨c,hcc⟩ : ∃ c,c = len 0:=⟨_,rfl⟩
 have hM:=h.sq (c:=c) (fun i hi=>by rw [hlen i hi,hcc])
 have hokF:okF s1 len M = allFit s1 c M:=by unfold okF; rw [hok,hcc]; rfl
 rw [hokF,← hcc]
 rw [← hcc] at hl1 hl2
 clear h hok hlen e1 hokF hcc
 obtain ⟨A,cap,rfl,hrc,hcap,hrow⟩:=hM
 refine gg ?_
 refine W_seq ?_
 refine gg ?_
 refine R1_make sl_si64 (.inl rfl) rfl rfl (Nat.le_refl _) (by omega) (by omega) ?_
 intro w1 hB1 hE1 hs1
 obtain ⟨gO,hgO⟩ : ∃ g,g = w0.heap.size:=⟨_,rfl⟩
 rw [← hgO] at hB1 ⊢
 have hO1:Outer 30 w1 gO s1 0 c (fun _=>0):=outer_made hB1
 clear hB1
 have h0s:=hE0.size
 have hE01:=hE0.trans hE1
 refine gg ?_
 refine W_seqM (fun f w'=>∃ gs,f 7 = .slice (some ⟨gO,0,none⟩) s1 s1∧Ext w w'∧ZMat w' gO gs s1 c M∧(∀ k,k < s1→gO < gs k)∧allFit s1 c M = true) ?_ ?_
 · refine gg ?_
   refine W_loop (fun m f w'=>∃ i gs,m = s1 - i∧i≤s1∧f 0 = .slice A s1 cap∧f 5 = .int .i64 ((c:Nat):Int)∧f 7 = .slice (some ⟨gO,0,none⟩) s1 s1∧f 23 = .int .i64 ((s1:Nat):Int)∧f 24 = .int .i64 ((i:Nat):Int)∧Ext w w'∧Outer 30 w' gO s1 i c gs∧(∀ k,k < i→RowW w' (gs k) c (M k)∧gO < gs k)∧(∀ k k',k < i→k' < i→gs k = gs k'→k = k')∧∀ a b,a < i→b < c→fits (M a b) = true)
    s1 ⟨0,fun _=>0,rfl,Nat.zero_le _,rfl,rfl,rfl,rfl,rfl,hE01,hO1,fun k hk=>absurd hk (by omega),fun k k' hk=>absurd hk (by omega),fun a b ha=>absurd ha (by omega)⟩ ?_
   clear hE01 hO1 hE1 hs1
   rintro m f w2 ⟨i,gs,rfl,hi,hf1,hf2,hf7,hf13,hf14,hE,hO,hrows,hinj,hfit⟩
   rw [ui hf1,ui hf2,ui hf7,ui hf13,ui hf14]
   clear hf1 hf2 hf7 hf13 hf14
   by_cases hlt:i < s1
   · have hOl:=hO.lt
     refine gg ?_
     refine R1_make sl_i64 (.inl rfl) rfl rfl (Nat.le_refl _) (by omega) (by omega) ?_
     intro w3 hB3 hE3 hs3
     have hr3:=rowW_made hB3
     obtain ⟨g,hg⟩ : ∃ g,g = w2.heap.size:=⟨_,rfl⟩
     rw [← hg] at hr3 ⊢
     clear hB3
     refine gg ?_
     refine R1_storeRow (one_of rfl) (.inl rfl) rfl rfl (hO.ext hE3) hlt ?_
     intro w4 ⟨_,hO4⟩ hC4 hk4 hs4
     have hO4:=hO4 rfl
     have hx4:=hO4.at (k:=i) (by omega) hlt
     rw [show setN gs i g i = g by simp [setN]] at hx4
     have hr4:RowW w4 g c _:=Blk.ch hr3 hC4 (by omega)
     have hE4:Ext w w4:=hC4.ext_of (hE.trans hE3) (fun b hb=>by omega)
     have hgO':gO < g:=by omega
     have hrow4:∀ k,k < i→RowW w4 (gs k) c (M k)∧gO < gs k∧gs k < g:=fun k hk=>by
      obtain ⟨a,b⟩:=hrows k hk
      have hl:gs k < w2.heap.size:=Blk.lt a
      exact ⟨Blk.ch (Blk.ext a hE3) hC4 (by omega),b,by omega⟩
     clear hO hrows hE hr3 hC4 hE3 hs3
     refine gg ?_
     refine W_loop (fun m f w'=>∃ j,m = c - j∧j≤c∧f 0 = .slice A s1 cap∧f 5 = .int .i64 ((c:Nat):Int)∧f 7 = .slice (some ⟨gO,0,none⟩) s1 s1∧f 23 = .int .i64 ((s1:Nat):Int)∧f 24 = .int .i64 ((i:Nat):Int)∧f 8 = .int .i64 ((i:Nat):Int)∧f 36 = .int .i64 ((c:Nat):Int)∧f 37 = .int .i64 ((j:Nat):Int)∧Ext w w'∧Outer 30 w' gO s1 (i + 1) c (setN gs i g)∧(∀ k,k < i→RowW w' (gs k) c (M k))∧RowW w' g c (fun b=>if b < j then M i b else 0)∧∀ b,b < j→fits (M i b) = true)
      c ⟨0,rfl,Nat.zero_le _,rfl,rfl,rfl,rfl,rfl,rfl,rfl,rfl,hE4,hO4,fun k hk=>(hrow4 k hk).1,hr4.congr fun _ _=>by rw [if_neg (by omega)],fun b hb=>absurd hb (by omega)⟩ ?_
     clear hE4 hO4 hr4 hx4
     rintro m f w5 ⟨j,rfl,hj,hf1,hf2,hf7,hf13,hf14,hf8,hf26,hf27,hE,hO,hrs,hrw,hfj⟩
     rw [ui hf1,ui hf2,ui hf7,ui hf13,ui hf14,ui hf8,ui hf26,ui hf27]
     clear hf1 hf2 hf7 hf13 hf14 hf8 hf26 hf27
     by_cases hjl:j < c
     · obtain ⟨ad,u,rfl,hx,hru⟩:=hrow i hlt
       obtain ⟨Ai,capi,rfl,hci,hcapi,hri⟩:=id hru
       obtain ⟨ae,x,y,rfl,hx0,hy0,hv⟩:=hri j hjl
       have k1:=cell_ext hE hx
       have k2:=cell_ext hE hx0
       have k3:=cell_ext hE hy0
       have hv:IV w5 N x y (M i j):=IV.ext hv hE
       refine gg ?_
       refine R1_call2 (rint64_ok _ _ _ N w5 hv hN) ?_
       rintro _ w6 ⟨hE6,rfl⟩
       by_cases hf:fits (M i j) = true
       · have hxo:=(hO.ext hE6).at (k:=i) (by omega) hlt
         rw [show setN gs i g i = g by simp [setN]] at hxo
         rw [clip_fit hf,hf]
         refine gg ?_
         refine W_seq ?_
         refine gg ?_
         refine R1_storeI (one_of rfl) (.inl rfl) rfl rfl (Blk.ext hrw hE6) (by rw [arr_size]; omega) ?_
         intro w7 hB7 hC7 hs7
         have hr7:=RowW.set hB7
         refine gg ?_
         refine ⟨_,?_,j + 1,rfl,by omega,rfl,rfl,rfl,rfl,rfl,rfl,rfl,rfl,hC7.ext_of (hE.trans hE6) (fun b hb=>by omega),(hO.ext hE6).kp hC7 (by omega),fun k hk=>Blk.ch (Blk.ext (hrs k hk) hE6) hC7 (by have:=(hrow4 k hk).2.2; omega),hr7.congr fun b _=>?_,fun b hb=>?_⟩
         · omega
         · simp only [setZ]
           by_cases e:b = j
           · rw [if_pos e,if_pos (by omega),e]
           · rw [if_neg e]
             by_cases h1:b < j
             · rw [if_pos h1,if_pos (by omega)]
             · rw [if_neg h1,if_neg (by omega)]
         · by_cases e:b = j
           · subst e; exact hf
           · exact hfj b (by omega)
       · have hf:fits (M i j) = false:=by simpa using hf
         rw [hf]
         refine gg ?_
         refine W_seq ?_
         refine gg ?_
         refine ret2 rfl rfl rfl (rzb_bad ?_ (hE.trans hE6))
         cases hq:allFit s1 c M with
         | false=>rfl
         | true=>have:=allFit_iff.1 hq i j hlt hjl; rw [hf] at this; cases this
     · obtain rfl:j = c:=by omega
       refine gg ?_
       refine ⟨_,?_,i + 1,setN gs i g,rfl,by omega,rfl,rfl,rfl,rfl,rfl,hE,hO,fun k hk=>?_,fun k k' hk hk' e=>?_,fun a b ha hb=>?_⟩
       · omega
       · by_cases e:k = i
         · subst e; simp only [setN,if_true]; exact ⟨hrw.congr fun b hb=>by rw [if_pos hb],hgO'⟩
         · simp only [setN,if_neg e]; exact ⟨hrs k (by omega),(hrow4 k (by omega)).2.1⟩
       · simp only [setN] at e
         split at e <;> split at e
         · omega
         · have:=(hrow4 k' (by omega)).2.2; omega
         · have:=(hrow4 k (by omega)).2.2; omega
         · exact hinj k k' (by omega) (by omega) e
       · by_cases e:a = i
         · subst e; exact hfj b (by omega)
         · exact hfit a b (by omega) hb
   · refine gg ?_
     obtain rfl:i = s1:=by omega
     exact ⟨gs,rfl,hE,⟨hO.full,fun k hk=>(hrows k hk).1,fun k hk=>by have:=(hrows k hk).2; omega,hinj⟩,fun k hk=>(hrows k hk).2,allFit_iff.2 hfit⟩
 clear hE01 hO1 hE1 hs1
 rintro f w2 ⟨gs,hf7,hE,hZ,hgs,hall⟩
 rw [ui hf7]
 clear hf7
 refine gg ?_
 refine ret2 (v:=.slice _ _ _) (v':=.bool _) rfl rfl rfl ?_
 unfold RZB
 rw [hall,if_pos rfl]
 exact ⟨_,rfl,hE,gO,gs,rfl,by omega,fun i hi=>by have:=hgs i hi; omega,hZ⟩
set_option maxHeartbeats 8000000 in
theorem shapeZ_ok (v:Value) (r:Nat) (len:Nat→Nat) (M:Nat→Nat→Int) (w:World) (h:MatZ w v r len M) :
 Meets Tryz.prog 125 #[v] w fun v' w'=>w = w'∧v' = shapeV r len:=by
 obtain ⟨A,cap,rfl,hrc,hcap,hrow⟩:=h
 refine fn_W (n:=40) Tryz.func125 rfl rfl (by kernel_rfl) (by simp) ?_
 refine gg ?_
 refine W_seq ?_
 by_cases h1:r < 1
 · refine gg ?_
   refine ret3 (v:=.int _ _) (v':=.int _ _) (v'':=.bool _) rfl rfl rfl rfl ⟨rfl,?_⟩
   rw [shapeV_f (fun e=>by have:=okM_iff.1 e; omega)]
 by_cases h2:16 < r
 · refine gg ?_
   refine ret3 (v:=.int _ _) (v':=.int _ _) (v'':=.bool _) rfl rfl rfl rfl ⟨rfl,?_⟩
   rw [shapeV_f (fun e=>by have:=okM_iff.1 e; omega)]
 obtain ⟨ad,u,rfl,hu,A0,cap0,rfl,hr0⟩:=hrow 0 (by omega)
 have hx0:w.cell? (ad.add (((0:Nat):Nat) * 1)) = some (.slice A0 (len 0) cap0):=hu
 refine gg ?_
 refine W_seq ?_
 by_cases h3:len 0 < 1
 · refine gg ?_
   refine ret3 (v:=.int _ _) (v':=.int _ _) (v'':=.bool _) rfl rfl rfl rfl ⟨rfl,?_⟩
   rw [shapeV_f (fun e=>by have:=okM_iff.1 e; omega)]
 by_cases h4:16 < len 0
 · refine gg ?_
   refine ret3 (v:=.int _ _) (v':=.int _ _) (v'':=.bool _) rfl rfl rfl rfl ⟨rfl,?_⟩
   rw [shapeV_f (fun e=>by have:=okM_iff.1 e; omega)]
 refine gg ?_
 refine W_seq ?_
 refine gg ?_
 refine W_loop (fun m f w'=>w = w'∧∃ i,m = r - i∧i≤r∧f 0 = .slice (some ad) r cap∧f 5 = .int .i64 ((len 0:Nat):Int)∧f 26 = .slice (some ad) r cap∧f 27 = .int .i64 ((r:Nat):Int)∧f 28 = .int .i64 ((i:Nat):Int)∧∀ k,k < i→len k = len 0)
  r ⟨rfl,0,rfl,Nat.zero_le _,rfl,rfl,rfl,rfl,rfl,fun k hk=>absurd hk (by omega)⟩ ?_
 rintro m f w' ⟨rfl,i,rfl,hi,hf0,hf5,hf26,hf27,hf28,hk⟩
 rw [ui hf0,ui hf5,ui hf26,ui hf27,ui hf28]
 clear hf0 hf5 hf26 hf27 hf28
 by_cases hlt:i < r
 · obtain ⟨ad',u,e,hx,Ai,capi,rfl,hri⟩:=hrow i hlt
   obtain rfl:ad = ad':=Option.some.inj e
   by_cases hne:len i = len 0
   · refine gg ?_
     refine ⟨_,?_,rfl,i + 1,rfl,by omega,rfl,rfl,rfl,rfl,rfl,fun k hk'=>?_⟩
     · omega
     · rcases Nat.lt_succ_iff_lt_or_eq.1 hk' with h | h
       · exact hk k h
       · rw [h]; exact hne
   · refine gg ?_
     refine ret3 (v:=.int _ _) (v':=.int _ _) (v'':=.bool _) rfl rfl rfl rfl ⟨rfl,?_⟩
     rw [shapeV_f (fun e=>hne ((okM_iff.1 e).2 i hlt))]
 · refine gg ?_
   refine ret3 (v:=.int _ _) (v':=.int _ _) (v'':=.bool _) rfl rfl rfl rfl ⟨rfl,?_⟩
   rw [shapeV_t (okM_iff.2 ⟨⟨by omega,by omega,by omega,by omega⟩,fun k hk'=>hk k (by omega)⟩)]
set_option maxHeartbeats 8000000 in
theorem fromInts1_ok (i j gA r c:Nat) (va:Value) (X:Nat→Nat→Int) (w:World) (hA:Blk w gA 22 #[va])
 (ha:MatZ w va r (fun _=>c) X) (hi:i < r) (hj:j < c) :
 Meets Tryz.prog 126 #[.int .i64 ((i:Nat):Int),.int .i64 ((j:Nat):Int),.pointer (some ⟨gA,0,none⟩)] w (RI w (X i j)):=by
 refine fn_W (n:=14) Tryz.func126 rfl rfl (by kernel_rfl) (by simp) ?_
 refine gg ?_
 refine R1_alloc (.inl rfl) z_Int ?_
 intro w1 hB1 hE1 hs1
 have hR1:Bx w1 w.heap.size 1 true 0:=Bx.zero true hB1
 have f0:=blkS (hA.ext hE1)
 obtain ⟨A,cap,rfl,_,_,hrow⟩:=ha.ext hE1
 obtain ⟨ad,u,rfl,hu,Ai,capi,rfl,_,_,hent⟩:=hrow i hi
 obtain ⟨ad2,rfl,hz,hz1,hz2⟩:=hent j hj
 refine gg ?_
 refine R1_call2 (small_ok _ w1 hz1 hz2) ?_
 rintro _ w2 ⟨hE2,a1,b1,rfl,hc1⟩
 refine gg ?_
 refine R1_storeBx (.inl rfl) rfl rfl (hR1.ext hE2) (hc1.ev true (N:=2) (bd_i64 hz1 hz2)) ?_
 intro w6 hR6 hC6 hk6 hs6
 refine gg ?_
 obtain ⟨x,y,hB,hv⟩:=hR6
 exact retC rfl agg_Int rfl hB ⟨hC6.ext_of (hE1.trans hE2) (fun b hb=>by omega),x,y,rfl,hv.2 rfl⟩
theorem MatZ.sq {w:World} {v:Value} {r c:Nat} {len:Nat→Nat} {M:Nat→Nat→Int} (h:MatZ w v r len M) (hl:∀ i,i < r→len i = c):MatZ w v r (fun _=>c) M:=by
 obtain ⟨A,cap,e,h1,h2,h3⟩:=h
 refine ⟨A,cap,e,h1,h2,fun i hi=>?_⟩
 obtain ⟨ad,u,e',hu,hr⟩:=h3 i hi
 rw [hl i hi] at hr
 exact ⟨ad,u,e',hu,hr⟩
set_option maxHeartbeats 8000000 in
theorem fromInts_ok (va:Value) (r:Nat) (len:Nat→Nat) (X:Nat→Nat→Int) (w:World) (ha:MatZ w va r len X) :
 Meets Tryz.prog 86 #[va] w (RMB w (okM r len) r (len 0) X):=by
 obtain ⟨Aa,capa,hva,_⟩:=id ha
 refine fn_W (n:=19) Tryz.func86 rfl rfl (by kernel_rfl) (by simp) ?_
 refine gg ?_
 refine R1_box (v:=va) (.inl rfl) rfl ?_
 intro w1 hB1 hE1 hs1
 have hA1:Blk w1 w.heap.size 22 #[va]:=by rw [hva] at hB1 ⊢; exact hB1
 have f1:=blkS hA1
 refine gg ?_
 refine R1_call2 (shapeZ_ok va r len X w1 (ha.ext hE1)) ?_
 rintro _ _ ⟨rfl,rfl⟩
 obtain ⟨s1,c1,ok1,e1,h1⟩:=shapeV_cases r len
 rw [e1]
 rcases h1 with ⟨hok,rfl,rfl,rfl⟩ | ⟨hok,rfl,rfl,rfl⟩
 · obtain ⟨⟨hr1,hr2,hl1,hl2⟩,hlen⟩:=okM_iff.1 hok
   refine gg ?_
   refine W_seq ?_
   refine gg ?_
   refine R1_func0 ?_
   refine gg ?_
   refine R1_call2 (mbuild_ok s1 (len 0) _ _ X w1 (by omega) (by omega) (fun i j hi hj w' hE'=>fromInts1_ok i j w.heap.size s1 (len 0) va X w' (hA1.ext hE') ((ha.ext (hE1.trans hE')).sq hlen) hi hj)) ?_
   rintro v w5 hv
   have hv':=hv
   obtain ⟨_,gO,gs,rfl,_⟩:=hv'
   refine gg ?_
   exact ret2 (v:=.slice _ _ _) (v':=.bool _) rfl rfl rfl (rmb_ok hok hE1 hv)
 · refine gg ?_
   refine W_seq ?_
   refine gg ?_
   exact ret2 (v:=.slice _ _ _) (v':=.bool _) rfl rfl rfl (rmb_bad hok hE1)
set_option maxHeartbeats 16000000 in
theorem zbuild_ok (r c g gK:Nat) (cap:List Value) (Z:Nat→Nat→Int) (Fq:Nat→Nat→Bool) (w:World) (hr:r < 1073741824) (hc:c < 1073741824) (hK:Blk w gK 4 #[.bool true])
 (hf:∀ i j b,i < r→j < c→∀ w',Ch (fun q=>q = gK) w w'→Blk w' gK 4 #[.bool b]→Meets Tryz.prog g (.int .i64 ((i:Nat):Int) :: .int .i64 ((j:Nat):Int) :: cap).toArray w' fun v w''=>v = .int .i64 (Z i j)∧Blk w'' gK 4 #[.bool (b && Fq i j)]∧Ch (fun q=>q = gK) w' w'') :
 Meets Tryz.prog 111 #[.int .i64 ((r:Nat):Int),.int .i64 ((c:Nat):Int),.func (.func g) #[] cap.toArray] w fun v w'=>Ch (fun q=>q = gK) w w'∧(∃ b,Blk w' gK 4 #[.bool b]∧(b = true ↔ ∀ i j,i < r→j < c→Fq i j = true))∧∃ gO gs,v = .slice (some ⟨gO,0,none⟩) r r∧w.heap.size≤gO∧(∀ i,i < r→w.heap.size≤gs i)∧ZMat w' gO gs r c Z:=by
 have hKl:=hK.lt
 refine fn_W (n:=43) Tryz.func111 rfl rfl (by kernel_rfl) (by simp) ?_
 refine gg ?_
 refine R1_make sl_si64 (.inl rfl) rfl rfl (Nat.le_refl _) (by omega) (by omega) ?_
 intro w1 hB1 hE1 hs1
 obtain ⟨gO,hgO⟩ : ∃ g,g = w.heap.size:=⟨_,rfl⟩
 rw [← hgO] at hB1 ⊢
 have hO1:Outer 30 w1 gO r 0 c (fun _=>0):=outer_made hB1
 clear hB1
 refine gg ?_
 refine W_seqM (fun f w'=>∃ gs,f 7 = .slice (some ⟨gO,0,none⟩) r r∧Ch (fun q=>q = gK) w w'∧ZMat w' gO gs r c Z∧(∀ k,k < r→gO < gs k)∧∃ b,Blk w' gK 4 #[.bool b]∧(b = true ↔ ∀ i j,i < r→j < c→Fq i j = true)) ?_ ?_
 · refine gg ?_
   refine W_loop (fun m f w'=>∃ i gs b,m = r - i∧i≤r∧f 1 = .int .i64 ((c:Nat):Int)∧f 2 = .func (.func g) #[] cap.toArray∧f 7 = .slice (some ⟨gO,0,none⟩) r r∧f 13 = .int .i64 ((r:Nat):Int)∧f 14 = .int .i64 ((i:Nat):Int)∧Ch (fun q=>q = gK) w w'∧Outer 30 w' gO r i c gs∧(∀ k,k < i→RowW w' (gs k) c (Z k)∧gO < gs k)∧(∀ k k',k < i→k' < i→gs k = gs k'→k = k')∧Blk w' gK 4 #[.bool b]∧(b = true ↔ ∀ a q,a < i→q < c→Fq a q = true))
    r ⟨0,fun _=>0,true,rfl,Nat.zero_le _,rfl,rfl,rfl,rfl,rfl,hE1.ch,hO1,fun k hk=>absurd hk (by omega),fun k k' hk=>absurd hk (by omega),hK.ext hE1,by simp⟩ ?_
   clear hE1 hO1 hs1
   rintro m f w2 ⟨i,gs,b,rfl,hi,hf1,hf2,hf7,hf13,hf14,hE,hO,hrows,hinj,hb,hbi⟩
   rw [ui hf1,ui hf2,ui hf7,ui hf13,ui hf14]
   clear hf1 hf2 hf7 hf13 hf14
   by_cases hlt:i < r
   · have hOl:=hO.lt
     refine gg ?_
     refine R1_make sl_i64 (.inl rfl) rfl rfl (Nat.le_refl _) (by omega) (by omega) ?_
     intro w3 hB3 hE3 hs3
     have hr3:=rowW_made hB3
     obtain ⟨g1,hg⟩ : ∃ g,g = w2.heap.size:=⟨_,rfl⟩
     rw [← hg] at hr3 ⊢
     clear hB3
     refine gg ?_
     refine R1_storeRow (one_of rfl) (.inl rfl) rfl rfl (hO.ext hE3) hlt ?_
     intro w4 ⟨_,hO4⟩ hC4 hk4 hs4
     have hO4:=hO4 rfl
     have hx4:=hO4.at (k:=i) (by omega) hlt
     rw [show setN gs i g1 i = g1 by simp [setN]] at hx4
     have hr4:RowW w4 g1 c _:=Blk.ch hr3 hC4 (by omega)
     have hE4:Ch (fun q=>q = gK) w w4:=by
      refine ⟨hC4.os.trans (hE3.os.trans hE.os),hC4.tape.trans (hE3.tape.trans hE.tape),hC4.output.trans (hE3.output.trans hE.output),by have:=hE.size; omega,fun q hq hn=>?_⟩
      have h2:=hE.size
      rw [hC4.block q (by omega) (by omega),hE3.blk (by omega),hE.block q hq hn]
     have hgO':gO < g1:=by omega
     have hrow4:∀ k,k < i→RowW w4 (gs k) c (Z k)∧gO < gs k∧gs k < g1:=fun k hk=>by
      obtain ⟨a,b⟩:=hrows k hk
      have hl:gs k < w2.heap.size:=Blk.lt a
      exact ⟨Blk.ch (Blk.ext a hE3) hC4 (by omega),b,by omega⟩
     have hb4:=(hb.ext hE3).ch hC4 (by omega)
     clear hO hrows hE hr3 hC4 hE3 hs3 hb
     refine gg ?_
     refine W_loop (fun m f w'=>∃ j b,m = c - j∧j≤c∧f 1 = .int .i64 ((c:Nat):Int)∧f 2 = .func (.func g) #[] cap.toArray∧f 7 = .slice (some ⟨gO,0,none⟩) r r∧f 13 = .int .i64 ((r:Nat):Int)∧f 14 = .int .i64 ((i:Nat):Int)∧f 8 = .int .i64 ((i:Nat):Int)∧f 26 = .int .i64 ((c:Nat):Int)∧f 27 = .int .i64 ((j:Nat):Int)∧Ch (fun q=>q = gK) w w'∧Outer 30 w' gO r (i + 1) c (setN gs i g1)∧(∀ k,k < i→RowW w' (gs k) c (Z k))∧RowW w' g1 c (fun q=>if q < j then Z i q else 0)∧Blk w' gK 4 #[.bool b]∧(b = true ↔ (∀ a q,a < i→q < c→Fq a q = true)∧∀ q,q < j→Fq i q = true))
      c ⟨0,b,rfl,Nat.zero_le _,rfl,rfl,rfl,rfl,rfl,rfl,rfl,rfl,hE4,hO4,fun k hk=>(hrow4 k hk).1,hr4.congr fun _ _=>by rw [if_neg (by omega)],hb4,by rw [hbi]; simp⟩ ?_
     clear hE4 hO4 hr4 hx4 hb4 hbi
     rintro m f w5 ⟨j,b',rfl,hj,hf1,hf2,hf7,hf13,hf14,hf8,hf26,hf27,hE,hO,hrs,hrw,hb,hbi⟩
     rw [ui hf1,ui hf2,ui hf7,ui hf13,ui hf14,ui hf8,ui hf26,ui hf27]
     clear hf1 hf2 hf7 hf13 hf14 hf8 hf26 hf27
     by_cases hjl:j < c
     · refine gg ?_
       refine W_regDM (fun q=>q = gK) [(0,3),(1,3),(2,3),(3,0),(4,3),(5,3),(6,3),(7,3),(8,1),(9,3),(10,2)] mixed (by kernel_rfl) (fun w6 hE6 _=>?_)
       have hxo:=(hO.ext hE6).at (k:=i) (by omega) hlt
       rw [show setN gs i g1 i = g1 by simp [setN]] at hxo
       refine gg ?_
       refine R1_load1M (by decide) (one_of rfl) rfl hxo (by show ¬ gO = gK; omega) ?_
       refine gg ?_
       refine R1_callv2 (.inr rfl) rfl rfl rfl (hf i j b' hlt hjl w6 (hE.trans hE6.ch) (hb.ext hE6)) ?_
       rintro _ w7 ⟨rfl,hb7,hC7⟩
       refine ⟨fun _=>hC7,?_⟩
       have hr7:RowW w7 g1 c _:=Blk.ch (Blk.ext hrw hE6) hC7 (by omega)
       refine gg ?_
       refine R1_storeI (one_of rfl) (.inl rfl) rfl rfl hr7 (by rw [arr_size]; omega) ?_
       intro w8 hB8 hC8 hs8
       have hr8:=RowW.set hB8
       have hE8:Ch (fun q=>q = gK) w w8:=by
        have h7:Ch (fun q=>q = gK) w w7:=(hE.trans hE6.ch).trans hC7
        refine ⟨hC8.os.trans h7.os,hC8.tape.trans h7.tape,hC8.output.trans h7.output,by have:=h7.size; omega,fun q hq hn=>?_⟩
        have h2:=h7.size
        rw [hC8.block q (by omega) (by omega),h7.block q hq hn]
       refine gg ?_
       refine ⟨_,?_,j + 1,b' && Fq i j,rfl,by omega,rfl,rfl,rfl,rfl,rfl,rfl,rfl,rfl,hE8,((hO.ext hE6).kp hC7 (by omega)).kp hC8 (by omega),fun k hk=>Blk.ch (Blk.ch (Blk.ext (hrs k hk) hE6) hC7 (by have:=(hrow4 k hk).2; omega)) hC8 (by have:=(hrow4 k hk).2.2; omega),hr8.congr fun q _=>?_,hb7.ch hC8 (by omega),?_⟩
       · omega
       · simp only [setZ]
         by_cases e:q = j
         · rw [if_pos e,if_pos (by omega),e]
         · rw [if_neg e]
           by_cases h1:q < j
           · rw [if_pos h1,if_pos (by omega)]
           · rw [if_neg h1,if_neg (by omega)]
       · rw [Bool.and_eq_true,hbi]
         refine ⟨fun h=>⟨h.1.1,fun q hq=>?_⟩,fun h=>⟨⟨h.1,fun q hq=>h.2 q (by omega)⟩,h.2 j (by omega)⟩⟩
         by_cases e:q = j
         · subst e; exact h.2
         · exact h.1.2 q (by omega)
     · obtain rfl:j = c:=by omega
       refine gg ?_
       refine ⟨_,?_,i + 1,setN gs i g1,b',rfl,by omega,rfl,rfl,rfl,rfl,rfl,hE,hO,fun k hk=>?_,fun k k' hk hk' e=>?_,hb,?_⟩
       · omega
       · by_cases e:k = i
         · subst e; simp only [setN,if_true]; exact ⟨hrw.congr fun b hb=>by rw [if_pos hb],hgO'⟩
         · simp only [setN,if_neg e]; exact ⟨hrs k (by omega),(hrow4 k (by omega)).2.1⟩
       · simp only [setN] at e
         split at e <;> split at e
         · omega
         · have:=(hrow4 k' (by omega)).2.2; omega
         · have:=(hrow4 k (by omega)).2.2; omega
         · exact hinj k k' (by omega) (by omega) e
       · rw [hbi]
         refine ⟨fun h a q ha hq=>?_,fun h=>⟨fun a q ha hq=>h a q (by omega) hq,fun q hq=>h i q (by omega) hq⟩⟩
         by_cases e:a = i
         · subst e; exact h.2 q hq
         · exact h.1 a q (by omega) hq
   · refine gg ?_
     obtain rfl:i = r:=by omega
     exact ⟨gs,rfl,hE,⟨hO.full,fun k hk=>(hrows k hk).1,fun k hk=>by have:=(hrows k hk).2; omega,hinj⟩,fun k hk=>(hrows k hk).2,b,hb,hbi⟩
 clear hE1 hO1 hs1
 rintro f w2 ⟨gs,hf7,hE,hZ,hgs,hb⟩
 rw [ui hf7]
 clear hf7
 refine gg ?_
 exact ret1 (v:=.slice _ _ _) rfl rfl ⟨hE,hb,gO,gs,rfl,by omega,fun i hi=>by have:=hgs i hi; omega,hZ⟩
set_option maxHeartbeats 8000000 in
theorem toInts1_ok (i j gA gK r c N:Nat) (b:Bool) (va:Value) (X:Nat→Nat→Int) (w:World) (hA:Blk w gA 35 #[va]) (hK:Blk w gK 4 #[.bool b])
 (ha:MatE (EI N) w va r (fun _=>c) X) (hi:i < r) (hj:j < c) (hN:N < 1099511627776) :
 Meets Tryz.prog 112 #[.int .i64 ((i:Nat):Int),.int .i64 ((j:Nat):Int),.pointer (some ⟨gA,0,none⟩),.pointer (some ⟨gK,0,none⟩)] w fun v w''=>v = .int .i64 (clip (X i j))∧Blk w'' gK 4 #[.bool (b && fits (X i j))]∧Ch (fun q=>q = gK) w w'':=by
 refine fn_W (n:=25) Tryz.func112 rfl rfl (by kernel_rfl) (by simp) ?_
 have f0:=blkS hA
 obtain ⟨ada,capa,ua,rfl,hua,hra⟩:=ha.at hi
 obtain ⟨ada',capa',xa,ya,rfl,hxa,hya,hva⟩:=hra.at hj
 refine gg ?_
 refine R1_call2 (int64_ok _ _ _ N w hva hN) ?_
 rintro _ w1 ⟨hE1,rfl⟩
 have hK1:=hK.ext hE1
 have f1:=blkS hK1
 refine gg ?_
 cases b with
 | true =>
  refine gg ?_
  refine R1_storeB (one_of rfl) (.inl rfl) rfl rfl hK1 (by decide) ?_
  intro w2 hK2 hC2 hs2
  refine gg ?_
  exact ret1 (v:=.int _ _) rfl rfl ⟨rfl,hK2,hE1.ch.trans hC2⟩
 | false =>
  refine gg ?_
  refine R1_storeB (one_of rfl) (.inl rfl) rfl rfl hK1 (by decide) ?_
  intro w2 hK2 hC2 hs2
  refine gg ?_
  exact ret1 (v:=.int _ _) rfl rfl ⟨rfl,hK2,hE1.ch.trans hC2⟩
theorem z_bool:ZeroTy Tryz.prog 4 (.bool false):=by unfold ZeroTy; kernel_rfl
theorem MatE.chK {w w':World} {v:Value} {r N gK:Nat} {len:Nat→Nat} {M:Nat→Nat→Int} (h:MatE (EI N) w v r len M) {w0:World} (hE:Ext w w0) (hgK:w.heap.size≤gK) (hC:Ch (fun q=>q = gK) w0 w'):MatE (EI N) w' v r len M :=
 h.ext (hC.ext_of hE fun b hb=>by omega)
set_option maxHeartbeats 16000000 in
theorem toInts_ok (va:Value) (r N:Nat) (len:Nat→Nat) (X:Nat→Nat→Int) (w:World) (ha:MatE (EI N) w va r len X) (hN:N < 1099511627776) :
 Meets Tryz.prog 60 #[va] w (RZB w (okF r len X) r (len 0) X):=by
 obtain ⟨Aa,capa,hva,_⟩:=id ha
 refine fn_W (n:=23) Tryz.func60 rfl rfl (by kernel_rfl) (by simp) ?_
 refine gg ?_
 refine R1_box (v:=va) (.inl rfl) rfl ?_
 intro w1 hB1 hE1 hs1
 have hA1:Blk w1 w.heap.size 35 #[va]:=by rw [hva] at hB1 ⊢; exact hB1
 have f1:=blkS hA1
 refine gg ?_
 refine R1_call2 (shape_ok _ va r len X w1 (ha.ext hE1)) ?_
 rintro _ _ ⟨rfl,rfl⟩
 obtain ⟨s1,c1,ok1,e1,h1⟩:=shapeV_cases r len
 rw [e1]
 refine gg ?_
 refine R1_alloc (.inl rfl) z_bool ?_
 intro w2 hB2 hE2 hs2
 obtain ⟨gK,hgK⟩ : ∃ g,g = w1.heap.size:=⟨_,rfl⟩
 rw [← hgK] at hB2 ⊢
 have hB2:Blk w2 gK 4 #[.bool false]:=hB2
 refine gg ?_
 refine R1_storeB (one_of rfl) (.inl rfl) rfl rfl hB2 (by decide) ?_
 intro w3 hK3 hC3 hs3
 have hK3:Blk w3 gK 4 #[.bool ok1]:=hK3
 have hE13:Ext w1 w3:=hC3.ext_of hE2 (fun b hb=>by omega)
 have hE3:=hE1.trans hE13
 have f2:=blkS hK3
 clear hB2 hC3 hE2 hs2 hs3
 rcases h1 with ⟨hok,rfl,rfl,rfl⟩ | ⟨hok,rfl,rfl,rfl⟩
 rotate_left
 · refine gg ?_
   refine W_seq ?_
   refine gg ?_
   exact ret2 rfl rfl rfl (rzb_bad (by unfold okF; rw [hok]; rfl) hE3)
 obtain ⟨⟨hr1,hr2,hl1,hl2⟩,hlen⟩:=okM_iff.1 hok
 have hM:=ha.sq hlen
 have hw1:w.heap.size≤gK:=by omega
 refine gg ?_
 refine W_seq ?_
 refine gg ?_
 clear f2
 refine R1_func0 ?_
 refine gg ?_
 refine R1_call2 (zbuild_ok s1 (len 0) _ gK _ (fun i j=>clip (X i j)) (fun i j=>fits (X i j)) w3 (by omega) (by omega) hK3 (fun i j b hi hj w' hC' hb'=>toInts1_ok i j w.heap.size gK s1 (len 0) N b va X w' ((hA1.ext hE13).ch hC' (by omega)) hb' (hM.chK hE3 hw1 hC') hi hj hN)) ?_
 rintro v w4 ⟨hC4,⟨b,hb,hbi⟩,gO,gs,rfl,hgO,hgs,hZ⟩
 have hE4:Ext w w4:=hC4.ext_of hE3 (fun b hb=>by omega)
 have h3s:=hE3.size
 have f2:=blkS hb
 have hokF:okF s1 len X = b:=by
  unfold okF; rw [hok,Bool.true_and]
  cases b with
  | true=>exact allFit_iff.2 (hbi.1 rfl)
  | false =>
   cases hq:allFit s1 (len 0) X with
   | false=>rfl
   | true=>have:=hbi.2 (allFit_iff.1 hq); cases this
 rw [hokF]
 cases b with
 | false =>
  refine gg ?_
  refine W_seq ?_
  refine gg ?_
  exact ret2 rfl rfl rfl (rzb_bad rfl hE4)
 | true =>
  refine gg ?_
  refine W_seq ?_
  refine gg ?_
  refine ret2 (v:=.slice _ _ _) (v':=.bool _) rfl rfl rfl ?_
  unfold RZB
  rw [if_pos rfl]
  exact ⟨_,rfl,hE4,gO,gs,rfl,by omega,fun i hi=>by have:=hgs i hi; omega,hZ.congr fun i j hi hj=>clip_fit (hbi.1 rfl i j hi hj)⟩
end Go.Proofs.YtmkbpjoihdfpkaaGreat
