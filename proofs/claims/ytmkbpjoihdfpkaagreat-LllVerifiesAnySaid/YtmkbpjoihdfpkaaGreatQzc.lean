/- Joined: Rqb, Rqc. -/
import Derived.Test.YtmkbpjoihdfpkaaGreatQzb
/- quadformref02: Whole,Small,Normalize,Mul,Add,Neg,Sub,Sign,Cmp. -/
namespace Go.Proofs.YtmkbpjoihdfpkaaGreat
open Go Go.Eng Go.Num Go.Proofs
def RB (w:World) (g:Nat) (a b:Int):Prop:=∃ x y x' y',Blk w g 129 #[x,y,x',y']∧CV w x y a∧CV w x' y' b
theorem RB.zero {w:World} {g:Nat} (h:Blk w g 129 #[.bool false,.slice none 0 0,.bool false,.slice none 0 0]):RB w g 0 0:=⟨_,_,_,_,h,CV.zero w,CV.zero w⟩
theorem RB.kp {w w':World} {g:Nat} {a b:Int} {MM:Nat→Prop} (h:RB w g a b) (hk:Kp w w') (hC:Ch MM w w') (hn:¬ MM g):RB w' g a b:=by
 obtain ⟨x,y,x',y',hB,h1,h2⟩:=h
 exact ⟨x,y,x',y',hB.ch hC hn,h1.kp hk,h2.kp hk⟩
theorem RB.ext {w w':World} {g:Nat} {a b:Int} (h:RB w g a b) (hE:Ext w w'):RB w' g a b:=h.kp (kp_ext hE) hE id
theorem RB.lt {w:World} {g:Nat} {a b:Int} (h:RB w g a b):g < w.heap.size:=by
 obtain ⟨x,y,x',y',hB,h1,h2⟩:=h
 exact hB.lt
theorem CV.noInt4 {w:World} {x y x' y':Value} {a b:Int} (h1:CV w x y a) (h2:CV w x' y' b):NoInt #[x,y,x',y']:=Go.Proofs.YtmkbpjoihdfpkaaGreat.noInt4 h1.kinds.1 h1.kinds.2 h2.kinds.1 h2.kinds.2
section
variable {n:Nat} {S:World→World→Prop} {k:Nat} {K:Fr→World→Prop} {f:Fr} {w:World} {d ty t t2:Nat} {x y:Operand} {pos:String} {aft:Array Edge} {gd:Option (Nat × Bool)}
theorem R1_storeRB {g:Nat} {a b za zb:Int} {v0 v1 v2 v3:Value} (h0:k = 2 ∨ k = 1∧∀ w',Ch (fun b=>b = g) w w'→S w w') (hx:ev n f x = .pointer (some ⟨g,0,none⟩)) (hy:ev n f y = .agg #[v0,v1,v2,v3]) (hr:RB w g a b) (hv:CV w v0 v1 za) (hv':CV w v2 v3 zb)
 (h:∀ w',RB w' g za zb→Ch (fun b=>b = g) w w'→Kp w w'→w'.heap.size = w.heap.size→K f w') :
 R1 Tryz.prog n S k ⟨none,.store 129 x y,ty,pos,aft,gd⟩ K f w:=by
 obtain ⟨c0,c1,c2,c3,hB,hc1,hc2⟩:=hr
 refine R1_store4 agg_Rat h0 hx hy hv.one0 hv.one1 hv'.one0 hv'.one1 hB (by simp) ?_
 intro w' hB' hC hs
 have hk:=kp_ch hB (hc1.noInt4 hc2).noU hC
 exact h w' ⟨_,_,_,_,hB',hv.kp hk,hv'.kp hk⟩ hC hk hs
theorem retRB {fn:Func} {tt:Tmp} {G:Nat} {post:Value→World→Prop} {a b:Int} (hr:fn.results = #[.cell tt 129]) (hv:ev n f (.tmp tt) = .pointer (some ⟨G,0,none⟩)) (hb:RB w G a b) (h:∀ x y x' y',CV w x y a→CV w x' y' b→post (.agg #[x,y,x',y']) w):bodyPost Tryz.prog fn (Ret post) .ret (act n f) w:=by
 obtain ⟨c0,c1,c2,c3,hB,hc1,hc2⟩:=hb
 exact retC4 hr agg_Rat hv hB (h _ _ _ _ hc1 hc2)
end
set_option maxHeartbeats 8000000 in
theorem ratNormalize_ok (x y x' y':Value) (n d:Int) (N:Nat) (w:World) (h1:IV w N x y n) (h2:IV w N x' y' d) (hN:N < 68719476736) (hd:d ≠ 0) :
 Meets Tryz.prog 150 #[.agg #[x,y,x',y']] w (RRat w (lowN n d) (lowD n d)):=by
 refine fn_W (n:=17) Tryz.func150 rfl rfl (by kernel_rfl) (by simp) ?_
 refine gg ?_
 refine R1_box (v:=.agg _) (.inl rfl) rfl ?_
 intro w1 hB1 hE1 hs1
 have hX1:Blk w1 w.heap.size 129 #[x,y,x',y']:=hB1
 refine gg ?_
 refine R1_alloc (.inl rfl) z_Rat ?_
 intro w2 hB2 hE2 hs2
 have hR2:=RB.zero hB2
 obtain ⟨gR,hgR⟩ : ∃ g,g = w1.heap.size:=⟨_,rfl⟩
 rw [← hgR] at hR2 ⊢
 obtain ⟨⟨p0,p1⟩,p2,p3⟩:=blkR (hX1.ext hE2)
 have hE02:=hE1.trans hE2
 refine gg ?_
 refine R1_fieldAddr fa_Rat0 rfl ?_
 refine gg ?_
 refine R1_fieldAddr fa_Rat1 rfl ?_
 refine gg ?_
 refine R1_call2 (rratNew_ok _ _ _ _ _ _ N w2 (h1.ext hE02) (h2.ext hE02) hN hd) ?_
 rintro _ w3 ⟨_,rfl,hE3,a0,a1,a2,a3,rfl,hc1,hc2⟩
 clear p0 p1 p2 p3
 refine gg ?_
 refine R1_alloc (.inl rfl) z_Rat ?_
 intro w4 hB4 hE4 hs4
 have hR4:=RB.zero hB4
 have hsz:=hE02.size
 have hsz1:=hE1.size
 have hsz3:=hE3.size
 refine gg ?_
 refine R1_storeRB (.inl rfl) rfl rfl hR4 (hc1.ext hE4) (hc2.ext hE4) ?_
 intro w5 hR5 hC5 hk5 hs5
 have hR2':=(hR2.ext (hE3.trans hE4)).kp hk5 hC5 (by omega)
 have hE05:Ext w w5:=hC5.ext_of (hE02.trans (hE3.trans hE4)) (fun b hb=>by omega)
 obtain ⟨c0,c1,c2,c3,hB5,hc5,hc5'⟩:=hR5
 obtain ⟨q0,q1,q2,q3⟩:=blkQ hB5
 refine gg ?_
 refine W_seq ?_
 refine gg ?_
 refine R1_load4F (by decide) agg_Rat rfl q0 q1 q2 q3 ?_
 refine gg ?_
 refine R1_storeRB (.inl rfl) rfl rfl hR2' hc5 hc5' ?_
 intro w6 hR6 hC6 hk6 hs6
 refine gg ?_
 exact retRB rfl rfl hR6 fun x y x' y' h1 h2=>⟨hC6.ext_of hE05 (fun b hb=>by omega),x,y,x',y',rfl,h1,h2⟩
def Qv (w:World) (N:Nat) (x y x' y':Value) (a b:Int):Prop:=∃ n d,CV w x y n∧CV w x' y' d∧Bd N n∧Bd N d∧0 < d∧n * b = a * d
def RQ (w:World) (N:Nat) (a b:Int) (v:Value) (w':World):Prop:=Ext w w'∧∃ x y x' y',v = .agg #[x,y,x',y']∧Qv w' N x y x' y' a b
theorem Qv.ext {w w':World} {N:Nat} {x y x' y':Value} {a b:Int} (h:Qv w N x y x' y' a b) (hE:Ext w w'):Qv w' N x y x' y' a b:=by
 obtain ⟨n,d,h1,h2,h3⟩:=h
 exact ⟨n,d,h1.ext hE,h2.ext hE,h3⟩
theorem Qv.kp {w w':World} {N:Nat} {x y x' y':Value} {a b:Int} (h:Qv w N x y x' y' a b) (hk:Kp w w'):Qv w' N x y x' y' a b:=by
 obtain ⟨n,d,h1,h2,h3⟩:=h
 exact ⟨n,d,h1.kp hk,h2.kp hk,h3⟩
theorem Qv.mono {w:World} {N N':Nat} {x y x' y':Value} {a b:Int} (h:Qv w N x y x' y' a b) (hN:N≤N'):Qv w N' x y x' y' a b:=by
 obtain ⟨n,d,h1,h2,h3,h4,h5⟩:=h
 exact ⟨n,d,h1,h2,h3.mono hN,h4.mono hN,h5⟩
theorem low_keep {n d a b:Int} (hd:d ≠ 0) (h:n * b = a * d):lowN n d * b = a * lowD n d:=by
 have e:=low_cross (n:=n) (d:=d)
 refine Int.eq_of_mul_eq_mul_right hd ?_
 rw [show lowN n d * b * d = lowN n d * d * b by grind,e,show n * lowD n d * b = n * b * lowD n d by grind,h]
 grind
theorem add_keep {x1 y1 x2 y2 a1 b1 a2 b2 p q:Int} (h1:x1 * b1 = a1 * y1) (h2:x2 * b2 = a2 * y2) (hy1:y1 ≠ 0) (hy2:y2 ≠ 0) (h:p * (y1 * y2) = (x1 * y2 + x2 * y1) * q):p * (b1 * b2) = (a1 * b2 + a2 * b1) * q:=by
 refine Int.eq_of_mul_eq_mul_right (a:=y1 * y2) (Int.mul_ne_zero hy1 hy2) ?_
 rw [show p * (b1 * b2) * (y1 * y2) = p * (y1 * y2) * (b1 * b2) by grind,h,show (x1 * y2 + x2 * y1) * q * (b1 * b2) = q * ((x1 * b1) * (y2 * b2) + (x2 * b2) * (y1 * b1)) by grind,h1,h2]
 grind
end Go.Proofs.YtmkbpjoihdfpkaaGreat
namespace Go.Proofs.YtmkbpjoihdfpkaaGreat
open Go Go.Eng Go.Num Go.Proofs
set_option maxHeartbeats 16000000 in
theorem ratAdd_ok (x1 y1 x1' y1' x2 y2 x2' y2':Value) (a1 b1 a2 b2:Int) (N:Nat) (w:World) (h1:Qv w N x1 y1 x1' y1' a1 b1) (h2:Qv w N x2 y2 x2' y2' a2 b2) (hN:N < 17179869184) :
 Meets Tryz.prog 148 #[.agg #[x1,y1,x1',y1'],.agg #[x2,y2,x2',y2']] w (RQ w (N + N + 1) (a1 * b2 + a2 * b1) (b1 * b2)):=by
 obtain ⟨n1,d1,hn1,hd1,bn1,bd1,pd1,e1⟩:=h1
 obtain ⟨n2,d2,hn2,hd2,bn2,bd2,pd2,e2⟩:=h2
 refine fn_W (n:=34) Tryz.func148 rfl rfl (by kernel_rfl) (by simp) ?_
 refine gg ?_
 refine R1_box (v:=.agg _) (.inl rfl) rfl ?_
 intro w1 hB1 hE1 hs1
 have hX1:Blk w1 w.heap.size 129 #[x1,y1,x1',y1']:=hB1
 refine gg ?_
 refine R1_box (v:=.agg _) (.inl rfl) rfl ?_
 intro w2 hB2 hE2 hs2
 have hX2:Blk w2 w1.heap.size 129 #[x2,y2,x2',y2']:=hB2
 refine gg ?_
 refine R1_alloc (.inl rfl) z_Rat ?_
 intro w3 hB3 hE3 hs3
 have hR:=RB.zero hB3
 obtain ⟨gR,hgR⟩ : ∃ g,g = w2.heap.size:=⟨_,rfl⟩
 rw [← hgR] at hR ⊢
 have hE03:=hE1.trans (hE2.trans hE3)
 have hsR:w.heap.size≤gR:=by have:=(hE1.trans hE2).size; omega
 have hRlt:=hR.lt
 refine gg ?_
 refine W_seqG [(0,0),(2,0)] [(1,[],[]),(4,[],[]),(5,[],[]),(3,[],[1])] [(6,2),(7,2)] mixed (by kernel_rfl) (fun w9 hE9 _=>?_)
 obtain ⟨p0,p1,p2,p3⟩:=blkQ (hX1.ext (hE2.trans (hE3.trans hE9)))
 obtain ⟨q0,q1,q2,q3⟩:=blkQ (hX2.ext (hE3.trans hE9))
 have hE09:=hE03.trans hE9
 refine gg ?_
 refine R1_load4E (by decide) agg_Rat rfl p0 p1 p2 p3 ?_
 refine gg ?_
 refine R1_load4E (by decide) agg_Rat rfl q0 q1 q2 q3 ?_
 refine gg ?_
 refine Rg_float [(1,[]),(3,[])] [fA 4 5 129 (.agg #[.bool false,.slice none 0 0,.bool false,.slice none 0 0]),fA 5 6 129 (.agg #[.bool false,.slice none 0 0,.bool false,.slice none 0 0])] [10,12,5,6] (by kernel_rfl) (fun a ha f' w' _ _=>by
  rcases List.mem_cons.1 ha with rfl | ha
  · exact flt_alloc z_Rat rfl f' w'
  · rcases List.mem_singleton.1 ha with rfl
    exact flt_alloc z_Rat rfl f' w') ?_
 clear p0 p1 p2 p3 q0 q1 q2 q3
 refine Rc_cons (fun w10 hE10=>?_)
 refine gg ?_
 refine R1_call1 (ratNormalize_ok _ _ _ _ n1 d1 N w10 ((hn1.ext (hE09.trans hE10)).iv bn1) ((hd1.ext (hE09.trans hE10)).iv bd1) (by omega) (by omega)) ?_
 rintro _ w11 ⟨hE11,u0,u1,u2,u3,rfl,hu,hu'⟩
 refine ⟨hE11,?_⟩
 refine gg ?_
 refine Rc_cons (fun w12 hE12=>?_)
 have hE012:=hE09.trans (hE10.trans (hE11.trans hE12))
 refine gg ?_
 refine R1_call1 (ratNormalize_ok _ _ _ _ n2 d2 N w12 ((hn2.ext hE012).iv bn2) ((hd2.ext hE012).iv bd2) (by omega) (by omega)) ?_
 rintro _ w13 ⟨hE13,t0,t1,t2,t3,rfl,ht,ht'⟩
 refine ⟨hE13,?_⟩
 refine gg ?_
 refine Rc_nil (fun w14 hE14 bs hbs hdis=>?_)
 obtain ⟨hge5,hB5⟩:=hbs _ List.mem_cons_self
 obtain ⟨hge6,hB6⟩:=hbs _ (List.mem_cons_of_mem _ List.mem_cons_self)
 have hne:bs 5 ≠ bs 6:=hdis _ _ List.mem_cons_self (List.mem_cons_of_mem _ List.mem_cons_self) (show (5:Nat) ≠ 6 by decide)
 have hM5:RB w14 (bs 5) 0 0:=RB.zero hB5
 have hM6:RB w14 (bs 6) 0 0:=RB.zero hB6
 have hge5:w9.heap.size≤bs 5:=hge5
 have hge6:w9.heap.size≤bs 6:=hge6
 show Ro _ _ _ _ _ _ (upd (upd _ 6 (.pointer (some ⟨bs 6,0,none⟩))) 5 (.pointer (some ⟨bs 5,0,none⟩))) _
 generalize bs 5 = g5 at *
 generalize bs 6 = g6 at *
 clear hB5 hB6 hbs hdis
 have hs9:=hE9.size
 have hs03:=hE03.size
 have hE1214:=hE12.trans (hE13.trans hE14)
 refine gg ?_
 refine R1_storeRB (.inl rfl) rfl rfl hM5 (hu.ext hE1214) (hu'.ext hE1214) ?_
 intro w15 h5 hC15 hk15 hs15
 refine gg ?_
 refine R1_storeRB (.inl rfl) rfl rfl (hM6.kp hk15 hC15 hne.symm) ((ht.ext hE14).kp hk15) ((ht'.ext hE14).kp hk15) ?_
 intro w16 h6 hC16 hk16 hs16
 have h5:=h5.kp hk16 hC16 hne
 have hE914:=hE10.trans (hE11.trans hE1214)
 have hR16:=((hR.ext (hE9.trans hE914)).kp hk15 hC15 (by omega)).kp hk16 hC16 (by omega)
 have hE16:Ext w w16:=hC16.ext_of (hC15.ext_of (hE09.trans hE914) (fun b hb=>by omega)) (fun b hb=>by omega)
 have hg:w.heap.size≤gR∧w.heap.size≤g5∧w.heap.size≤g6∧gR ≠ g5∧gR ≠ g6:=by omega
 have f1:=low_keep (show d1 ≠ 0 by omega) e1
 have f2:=low_keep (show d2 ≠ 0 by omega) e2
 obtain ⟨bx1,by1⟩:=low_bd bn1 bd1
 obtain ⟨bx2,by2⟩:=low_bd bn2 bd2
 have py1:=lowD_pos (n:=n1) (show d1 ≠ 0 by omega)
 have py2:=lowD_pos (n:=n2) (show d2 ≠ 0 by omega)
 generalize lowN n1 d1 = X1 at *
 generalize lowD n1 d1 = Y1 at *
 generalize lowN n2 d2 = X2 at *
 generalize lowD n2 d2 = Y2 at *
 clear hE914 hk15 hC15 hk16 hC16 hs15 hs16 hM5 hM6 hE14 hE13 hE12 hE11 hE10 hE9 hge5 hge6 hu hu' ht ht' hs9 hs03 hRlt hE03 hE09 hR hB1 hB2 hB3 hE1214 hE012 hX1 hX2
 refine gg ?_
 refine W_seqG [(0,3),(1,0),(2,3),(3,0),(5,3),(6,0),(7,3),(8,0),(11,3),(12,0),(13,3),(14,0)] [(4,[],[]),(20,[],[]),(9,[],[4]),(10,[],[4,9]),(15,[],[10]),(16,[(17,3),(18,3),(19,3)],[10,15])] [(21,2),(22,3)] mixed (by kernel_rfl) (fun w17 hE17 _=>?_)
 obtain ⟨u0,u1,u2,u3,hU,hu,hu'⟩:=h5.ext hE17
 obtain ⟨t0,t1,t2,t3,hT,ht,ht'⟩:=h6.ext hE17
 obtain ⟨⟨p0,p1⟩,p2,p3⟩:=blkR hU
 obtain ⟨⟨q0,q1⟩,q2,q3⟩:=blkR hT
 refine gg ?_
 refine R1_fieldAddr fa_Rat0 rfl ?_
 refine gg ?_
 refine R1_fieldAddr fa_Rat1 rfl ?_
 refine gg ?_
 refine R1_fieldAddr fa_Rat0 rfl ?_
 refine gg ?_
 refine R1_fieldAddr fa_Rat1 rfl ?_
 refine gg ?_
 refine R1_fieldAddr fa_Rat1 rfl ?_
 refine gg ?_
 refine R1_fieldAddr fa_Rat1 rfl ?_
 refine gg ?_
 refine Rg_float [(4,[]),(9,[]),(10,[]),(15,[]),(16,[(17,3),(18,3),(19,3)])] [fA 20 7 129 (.agg #[.bool false,.slice none 0 0,.bool false,.slice none 0 0])] [18,23,24,29,30,13,31,32,7] (by kernel_rfl) (fun a ha f' w' _ _=>by
  rcases List.mem_singleton.1 ha with rfl
  exact flt_alloc z_Rat rfl f' w') ?_
 clear p0 p1 p2 p3 q0 q1 q2 q3
 refine Rc_cons (fun w18 hE18=>?_)
 refine gg ?_
 refine R1_call1 (rmul_ok _ _ _ _ _ _ N w18 ((hu.ext hE18).iv bx1) ((ht'.ext hE18).iv by2) (by omega)) ?_
 rintro _ w19 ⟨hE19,r0,r1,rfl,hr⟩
 refine ⟨hE19,?_⟩
 refine gg ?_
 refine Rc_cons (fun w20 hE20=>?_)
 have hE1720:=hE18.trans (hE19.trans hE20)
 refine gg ?_
 refine R1_call1 (rmul_ok _ _ _ _ _ _ N w20 ((ht.ext hE1720).iv bx2) ((hu'.ext hE1720).iv by1) (by omega)) ?_
 rintro _ w21 ⟨hE21,s0,s1,rfl,hs⟩
 refine ⟨hE21,?_⟩
 refine gg ?_
 refine Rc_cons (fun w22 hE22=>?_)
 refine gg ?_
 refine R1_call1 (radd_ok _ _ _ _ _ _ (N + N) w22 ((hr.ext (hE20.trans (hE21.trans hE22))).iv (bx1.mul by2)) ((hs.ext hE22).iv (bx2.mul by1)) (by omega)) ?_
 rintro _ w22a ⟨hE22a,s2,s3,rfl,hsum⟩
 refine ⟨hE22a,?_⟩
 refine gg ?_
 refine Rc_cons (fun w22b hE22b=>?_)
 have hE22:=hE22.trans (hE22a.trans hE22b)
 have hE17b:=hE1720.trans (hE21.trans hE22)
 refine gg ?_
 refine R1_call1 (rmul_ok _ _ _ _ _ _ N w22b ((hu'.ext hE17b).iv by1) ((ht'.ext hE17b).iv by2) (by omega)) ?_
 rintro _ w22c ⟨hE22c,s4,s5,rfl,hden⟩
 refine ⟨hE22c,?_⟩
 refine gg ?_
 refine Rc_cons (fun w22d hE22d=>?_)
 have hE22:=hE22.trans (hE22c.trans hE22d)
 have bnum:Bd (N + N + 1) (X1 * Y2 + X2 * Y1):=(bx1.mul by2).add (bx2.mul by1)
 have bden:Bd (N + N + 1) (Y1 * Y2):=(by1.mul by2).mono (by omega)
 refine gg ?_
 refine R1_call1 (rratNew_ok _ _ _ _ _ _ (N + N + 1) w22d ((hsum.ext (hE22b.trans (hE22c.trans hE22d))).iv bnum) ((hden.ext hE22d).iv bden) (by omega) (Int.mul_ne_zero (by omega) (by omega))) ?_
 rintro _ w23 ⟨_,rfl,hE23,n0,n1',n2',n3,rfl,hcn,hcd⟩
 refine ⟨hE23,?_⟩
 refine gg ?_
 refine Rc_nil (fun w24 hE24 bs hbs _=>?_)
 obtain ⟨hge,hB⟩:=hbs _ List.mem_cons_self
 have hge:w17.heap.size≤bs 7:=hge
 have hB:=RB.zero hB
 show Ro _ _ _ _ _ _ (upd _ 7 (.pointer (some ⟨bs 7,0,none⟩))) _
 have hB:RB w24 (bs 7) 0 0:=hB
 generalize bs 7 = g7 at *
 clear hbs
 have hE1624:=hE17.trans (hE1720.trans (hE21.trans (hE22.trans (hE23.trans hE24))))
 have hs16:=hE16.size
 have hs17:=hE17.size
 have hRlt:=hR16.lt
 refine gg ?_
 refine R1_storeRB (.inl rfl) rfl rfl hB (hcn.ext hE24) (hcd.ext hE24) ?_
 intro w25 h7 hC25 hk25 hs25
 have hR25:=(hR16.ext hE1624).kp hk25 hC25 (by omega)
 have hE25:Ext w w25:=hC25.ext_of (hE16.trans hE1624) (fun b hb=>by omega)
 obtain ⟨c0,c1,c2,c3,hB7,hc7,hc7'⟩:=h7
 obtain ⟨q0,q1,q2,q3⟩:=blkQ hB7
 refine gg ?_
 refine R1_load4F (by decide) agg_Rat rfl q0 q1 q2 q3 ?_
 refine gg ?_
 refine R1_storeRB (.inl rfl) rfl rfl hR25 hc7 hc7' ?_
 intro w26 hR26 hC26 hk26 hs26
 have hb:=low_bd bnum bden
 have hne0:Y1 * Y2 ≠ 0:=Int.mul_ne_zero (by omega) (by omega)
 refine gg ?_
 exact retRB rfl rfl hR26 fun x y x' y' h1 h2=>⟨hC26.ext_of hE25 (fun b hb=>by omega),x,y,x',y',rfl,_,_,h1,h2,hb.1,hb.2,lowD_pos hne0,add_keep f1 f2 (by omega) (by omega) low_cross⟩
end Go.Proofs.YtmkbpjoihdfpkaaGreat
