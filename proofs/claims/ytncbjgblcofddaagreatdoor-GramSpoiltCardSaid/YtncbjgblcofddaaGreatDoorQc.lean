/- Joined: Inta, Intb, Intc, Intd, Refa, Refb, Inte, Grp, Mata, Matb, Matc, Matd, Flt, Mate. -/
import Derived.Test.YtncbjgblcofddaaGreatDoorQb
import Derived.Test.YtncbjgblcofddaaGreatDoorQa
/- The program's integers: values,and the contracts of build,Normalize,Small,Sign,Neg,addSigned,Add,Sub,Mul. -/
namespace Go.Proofs.YtncbjgblcofddaaGreatDoor
open Go Go.Eng Go.Num Go.Proofs
def sg (neg:Bool) (m:Nat):Int:=if neg then -(m:Int) else (m:Int)
def IV (w:World) (N:Nat) (x y:Value) (z:Int):Prop:=∃ neg A l c,x = .bool neg∧y = .slice A l.length c∧l.length≤c∧c < 9223372036854775808∧Mag w A l∧l.length≤N∧z = sg neg (val l)
def CV (w:World) (x y:Value) (z:Int):Prop:=∃ neg A l c,x = .bool neg∧y = .slice A l.length c∧l.length≤c∧c < 9223372036854775808∧Mag w A l∧Trimd l∧(l = []→neg = false)∧z = sg neg (val l)
def RI (w:World) (z:Int) (v:Value) (w':World):Prop:=Ext w w'∧∃ x y,v = .agg #[x,y]∧CV w' x y z
theorem IV.ext {w w':World} {N:Nat} {x y:Value} {z:Int} (h:IV w N x y z) (hE:Ext w w'):IV w' N x y z:=by
 obtain ⟨neg,A,l,c,h1,h2,h3,h4,h5,h6,h7⟩:=h
 exact ⟨neg,A,l,c,h1,h2,h3,h4,h5.ext hE,h6,h7⟩
theorem CV.ext {w w':World} {x y:Value} {z:Int} (h:CV w x y z) (hE:Ext w w'):CV w' x y z:=by
 obtain ⟨neg,A,l,c,h1,h2,h3,h4,h5,h6,h7⟩:=h
 exact ⟨neg,A,l,c,h1,h2,h3,h4,h5.ext hE,h6,h7⟩
theorem sg_abs (neg:Bool) (m:Nat):(sg neg m).natAbs = m:=by unfold sg; split <;> simp
theorem CV.iv {w:World} {N:Nat} {x y:Value} {z:Int} (h:CV w x y z) (hz:z.natAbs < B ^ N):IV w N x y z:=by
 obtain ⟨neg,A,l,c,h1,h2,h3,h4,h5,h6,h7,h8⟩:=h
 refine ⟨neg,A,l,c,h1,h2,h3,h4,h5,?_,h8⟩
 rw [h8,sg_abs] at hz
 rcases Nat.lt_or_ge N l.length with h | h
 · exfalso
   have hne:l ≠ []:=by rintro rfl; simp at h
   have a:=val_top hne h6
   have b:B ^ N≤B ^ (l.length - 1):=Nat.pow_le_pow_right (by decide) (by omega)
   omega
 · exact h
theorem IV.abs {w:World} {N:Nat} {x y:Value} {z:Int} (h:IV w N x y z):z.natAbs < B ^ N:=by
 obtain ⟨neg,A,l,c,h1,h2,h3,h4,h5,h6,h7⟩:=h
 rw [h7,sg_abs]
 exact Nat.lt_of_lt_of_le (val_lt l h5.lim) (Nat.pow_le_pow_right (by decide) h6)
def NoInt (cs:Array Value):Prop:=∀ (i:Nat) (k:IntKind) (z:Int),cs[i]? ≠ some (.int k z)
theorem cell_blk {w:World} {g T:Nat} {cs:Array Value} {p:Addr} {v:Value} (hb:Blk w g T cs) (hp:p.block = g) (h:w.cell? p = some v):∃ i:Nat,cs[i]? = some v:=by
 obtain ⟨b,o,sp⟩:=p
 obtain rfl:b = g:=hp
 unfold Blk at hb
 simp only [World.cell?,hb] at h
 split at h
 · cases h
 · exact ⟨o,h⟩
theorem Mag.keep {w w':World} {g T:Nat} {cs:Array Value} {A:Option Addr} {l:List Nat} (h:Mag w A l) (hb:Blk w g T cs) (hn:NoInt cs) (hC:Ch (fun b=>b = g) w w'):Mag w' A l :=
 ⟨h.lim,fun j hj=>by
  obtain ⟨ad,e,hc⟩:=h.cell j hj
  refine ⟨ad,e,?_⟩
  rw [← hc]
  refine cell_ch hC (World.block_lt_of_cell? w _ hc) (fun hg=>?_)
  obtain ⟨i,hi⟩:=cell_blk hb hg hc
  exact hn _ _ _ hi⟩
theorem IV.keep {w w':World} {N g T:Nat} {cs:Array Value} {x y:Value} {z:Int} (h:IV w N x y z) (hb:Blk w g T cs) (hn:NoInt cs) (hC:Ch (fun b=>b = g) w w'):IV w' N x y z:=by
 obtain ⟨neg,A,l,c,h1,h2,h3,h4,h5,h6,h7⟩:=h
 exact ⟨neg,A,l,c,h1,h2,h3,h4,h5.keep hb hn hC,h6,h7⟩
theorem CV.keep {w w':World} {g T:Nat} {cs:Array Value} {x y:Value} {z:Int} (h:CV w x y z) (hb:Blk w g T cs) (hn:NoInt cs) (hC:Ch (fun b=>b = g) w w'):CV w' x y z:=by
 obtain ⟨neg,A,l,c,h1,h2,h3,h4,h5,h6,h7⟩:=h
 exact ⟨neg,A,l,c,h1,h2,h3,h4,h5.keep hb hn hC,h6,h7⟩
theorem noInt2 {b:Bool} {A:Option Addr} {m c:Nat}:NoInt #[.bool b,.slice A m c]:=by
 intro i k z
 match i with
 | 0=>simp
 | 1=>simp
 | i + 2=>simp
theorem blk0 {w:World} {g T:Nat} {x y:Value} (h:Blk w g T #[x,y]):w.cell? ⟨g,0 + 0,none⟩ = some x:=by rw [h.cell]; rfl
theorem blk1 {w:World} {g T:Nat} {x y:Value} (h:Blk w g T #[x,y]):w.cell? ⟨g,0 + 1,none⟩ = some y:=by rw [h.cell]; rfl
theorem CV.one0 {w:World} {x y:Value} {z:Int} (h:CV w x y z):x.oneCell' = true:=by obtain ⟨neg,A,l,c,rfl,_⟩:=h; rfl
theorem CV.one1 {w:World} {x y:Value} {z:Int} (h:CV w x y z):y.oneCell' = true:=by obtain ⟨neg,A,l,c,_,rfl,_⟩:=h; rfl
set_option maxHeartbeats 8000000 in
theorem build_ok (neg:Bool) (v:Value) (m:Nat) (w:World) (h:NatV w v m) :
 Meets Tryz.prog 149 #[.bool neg,v] w (RI w (sg neg m)):=by
 obtain ⟨A,l,c,rfl,hc,hc2,hM,ht,rfl⟩:=h
 refine fn_W (n:=12) Tryz.func149 rfl rfl (by kernel_rfl) (by simp) ?_
 refine gg ?_
 refine R1_alloc (.inl rfl) z_Int ?_
 intro w1 hB hE hs
 refine gg ?_
 by_cases h0:l.length = 0
 · have hl:=List.eq_nil_of_length_eq_zero h0
   refine W_seq ?_
   refine gg ?_
   refine R1_bld0 b0_Int ?_
   refine gg ?_
   refine R1_store2 agg_Int (.inl rfl) rfl rfl rfl rfl hB (by decide) ?_
   intro w2 hB2 hC2 hs2
   refine gg ?_
   refine retC rfl agg_Int rfl hB2 ⟨hC2.ext_of hE (fun b hb=>by omega),_,_,rfl,false,none,[],0,rfl,rfl,Nat.le_refl _,by omega,Mag.nil _ _,Trimd.nil,fun _=>rfl,?_⟩
   subst hl; simp [sg,val]
 · refine W_seq ?_
   refine gg ?_
   refine R1_bld2 (v0:=.bool _) (v1:=.slice _ _ _) b2_Int rfl rfl rfl rfl ?_
   refine gg ?_
   refine R1_store2 agg_Int (.inl rfl) rfl rfl rfl rfl hB (by decide) ?_
   intro w2 hB2 hC2 hs2
   refine gg ?_
   have hE2:=hC2.ext_of hE (fun b hb=>by omega)
   exact retC rfl agg_Int rfl hB2 ⟨hE2,_,_,rfl,neg,A,l,c,rfl,rfl,hc,hc2,hM.ext hE2,ht,fun h=>absurd (by rw [h]; rfl) h0,rfl⟩
end Go.Proofs.YtncbjgblcofddaaGreatDoor
namespace Go.Proofs.YtncbjgblcofddaaGreatDoor
open Go Go.Eng Go.Num Go.Proofs
theorem sg_false (m:Nat):sg false m = m:=rfl
theorem sg_true (m:Nat):sg true m = -(m:Int):=rfl
theorem sg_not (b:Bool) (m:Nat):sg (!b) m = - sg b m:=by cases b <;> simp [sg]
set_option maxHeartbeats 8000000 in
theorem normalize_ok (x y:Value) (z:Int) (N:Nat) (w:World) (h:IV w N x y z) (hN:N < 1099511627776) :
 Meets Tryz.prog 107 #[.agg #[x,y]] w (RI w z):=by
 obtain ⟨neg,A,l,c,rfl,rfl,hc,hc2,hM,hl,rfl⟩:=h
 refine fn_W (n:=10) Tryz.func107 rfl rfl (by kernel_rfl) (by simp) ?_
 refine gg ?_
 refine R1_box (v:=.agg _) (.inl rfl) rfl ?_
 intro w1 hB1 hE1 hs1
 refine gg ?_
 refine R1_alloc (.inl rfl) z_Int ?_
 intro w2 hB2 hE2 hs2
 refine gg ?_
 refine W_seqD [(0,3),(1,0),(2,3),(3,0),(4,1),(5,1),(6,1),(7,2)] mixed (by kernel_rfl) (fun w3 hE3 _=>?_)
 have hB13:=hB1.ext (hE2.trans hE3)
 have hB23:=hB2.ext hE3
 have f0:=blk0 hB13
 have f1:=blk1 hB13
 have hE:=(hE1.trans hE2).trans hE3
 refine gg ?_
 refine R1_call1 (trim_ok _ _ _ _ w3 (hM.ext hE) rfl hc hc2) ?_
 rintro _ _ ⟨rfl,m,hm,rfl,htr,htv⟩
 refine ⟨Ext.refl _,?_⟩
 refine gg ?_
 refine R1_call1 (clone_ok _ _ _ (l.take m) w3 ((hM.ext hE).take m) (List.length_take_of_le hm) (by omega) (fun e=>by have:=hM.none_len e; omega)) ?_
 rintro v w4 ⟨hE4,hv⟩
 refine ⟨hE4,?_⟩
 refine gg ?_
 refine R1_call1 (build_ok neg v _ w4 (natV_clone (hM.lim.take m) htr (List.length_take_of_le hm) hv)) ?_
 rintro _ w5 ⟨hE5,x',y',rfl,hcv⟩
 refine ⟨hE5,?_⟩
 refine gg ?_
 refine R1_store2 agg_Int (.inl rfl) rfl rfl hcv.one0 hcv.one1 (hB23.ext (hE4.trans hE5)) (by decide) ?_
 intro w6 hB6 hC6 hs6
 refine gg ?_
 have hE6:Ext w w6:=hC6.ext_of ((hE.trans hE4).trans hE5) (fun b hb=>by have:=hE1.size; omega)
 rw [htv] at hcv
 exact retC rfl agg_Int rfl hB6 ⟨hE6,_,_,rfl,hcv.keep (hB23.ext (hE4.trans hE5)) noInt2 hC6⟩
set_option maxHeartbeats 8000000 in
theorem neg_ok (x y:Value) (z:Int) (N:Nat) (w:World) (h:IV w N x y z) (hN:N < 1099511627776) :
 Meets Tryz.prog 187 #[.agg #[x,y]] w (RI w (-z)):=by
 obtain ⟨neg,A,l,c,rfl,rfl,hc,hc2,hM,hl,rfl⟩:=h
 refine fn_W (n:=11) Tryz.func187 rfl rfl (by kernel_rfl) (by simp) ?_
 refine gg ?_
 refine R1_box (v:=.agg _) (.inl rfl) rfl ?_
 intro w1 hB1 hE1 hs1
 refine gg ?_
 refine R1_alloc (.inl rfl) z_Int ?_
 intro w2 hB2 hE2 hs2
 refine gg ?_
 refine W_seqD [(0,3),(1,0),(2,3),(3,3),(4,0),(5,1),(6,1),(7,1),(8,2)] mixed (by kernel_rfl) (fun w3 hE3 _=>?_)
 have hB13:=hB1.ext (hE2.trans hE3)
 have hB23:=hB2.ext hE3
 have f0:=blk0 hB13
 have f1:=blk1 hB13
 have hE:=(hE1.trans hE2).trans hE3
 refine gg ?_
 refine R1_call1 (trim_ok _ _ _ _ w3 (hM.ext hE) rfl hc hc2) ?_
 rintro _ _ ⟨rfl,m,hm,rfl,htr,htv⟩
 refine ⟨Ext.refl _,?_⟩
 refine gg ?_
 refine R1_call1 (clone_ok _ _ _ (l.take m) w3 ((hM.ext hE).take m) (List.length_take_of_le hm) (by omega) (fun e=>by have:=hM.none_len e; omega)) ?_
 rintro v w4 ⟨hE4,hv⟩
 refine ⟨hE4,?_⟩
 refine gg ?_
 refine R1_call1 (build_ok (!neg) v _ w4 (natV_clone (hM.lim.take m) htr (List.length_take_of_le hm) hv)) ?_
 rintro _ w5 ⟨hE5,x',y',rfl,hcv⟩
 refine ⟨hE5,?_⟩
 refine gg ?_
 refine R1_store2 agg_Int (.inl rfl) rfl rfl hcv.one0 hcv.one1 (hB23.ext (hE4.trans hE5)) (by decide) ?_
 intro w6 hB6 hC6 hs6
 refine gg ?_
 have hE6:Ext w w6:=hC6.ext_of ((hE.trans hE4).trans hE5) (fun b hb=>by have:=hE1.size; omega)
 rw [htv,sg_not] at hcv
 exact retC rfl agg_Int rfl hB6 ⟨hE6,_,_,rfl,hcv.keep (hB23.ext (hE4.trans hE5)) noInt2 hC6⟩
set_option maxHeartbeats 8000000 in
theorem small_ok (z:Int) (w:World) (h1:-9223372036854775808≤z) (h2:z < 9223372036854775808) :
 Meets Tryz.prog 104 #[.int .i64 z] w (RI w z):=by
 refine fn_W (n:=14) Tryz.func104 rfl rfl (by kernel_rfl) (by simp) ?_
 refine gg ?_
 refine R1_alloc (.inl rfl) z_Int ?_
 intro w1 hB1 hE1 hs1
 refine gg ?_
 by_cases hz:z < 0
 · refine W_seq ?_
   refine gg ?_
   refine R1_i64_u64 ty_i64 ty_u64 rfl ?_
   refine gg ?_
   refine R1_neg_u64 rfl (by omega) ?_
   refine gg ?_
   refine R1_call2 (fromWord_ok _ w1 (Nat.mod_lt _ (by decide))) ?_
   rintro v w2 ⟨hE2,hv⟩
   refine gg ?_
   refine R1_call2 (build_ok true v _ w2 hv) ?_
   rintro _ w3 ⟨hE3,x',y',rfl,hcv⟩
   refine gg ?_
   refine R1_store2 agg_Int (.inl rfl) rfl rfl hcv.one0 hcv.one1 (hB1.ext (hE2.trans hE3)) (by decide) ?_
   intro w6 hB6 hC6 hs6
   refine gg ?_
   have hE6:Ext w w6:=hC6.ext_of ((hE1.trans hE2).trans hE3) (fun b hb=>by omega)
   have e:sg true ((18446744073709551616 - (z % 18446744073709551616).toNat) % 18446744073709551616) = z:=by rw [sg_true]; omega
   rw [e] at hcv
   exact retC rfl agg_Int rfl hB6 ⟨hE6,_,_,rfl,hcv.keep (hB1.ext (hE2.trans hE3)) noInt2 hC6⟩
 · refine W_seq ?_
   refine gg ?_
   refine R1_i64_u64 ty_i64 ty_u64 rfl ?_
   refine gg ?_
   refine R1_call2 (fromWord_ok _ w1 (by omega)) ?_
   rintro v w2 ⟨hE2,hv⟩
   refine gg ?_
   refine R1_call2 (build_ok false v _ w2 hv) ?_
   rintro _ w3 ⟨hE3,x',y',rfl,hcv⟩
   refine gg ?_
   refine R1_store2 agg_Int (.inl rfl) rfl rfl hcv.one0 hcv.one1 (hB1.ext (hE2.trans hE3)) (by decide) ?_
   intro w6 hB6 hC6 hs6
   refine gg ?_
   have hE6:Ext w w6:=hC6.ext_of ((hE1.trans hE2).trans hE3) (fun b hb=>by omega)
   have e:sg false ((z % 18446744073709551616).toNat) = z:=by rw [sg_false]; omega
   rw [e] at hcv
   exact retC rfl agg_Int rfl hB6 ⟨hE6,_,_,rfl,hcv.keep (hB1.ext (hE2.trans hE3)) noInt2 hC6⟩
theorem val_zero {l:List Nat} (h:Trimd l) (hv:val l = 0):l = []:=by
 rcases l with _ | ⟨a,r⟩
 · rfl
 · have:=val_top (List.cons_ne_nil a r) h
   have:=Nat.pow_pos (n:=(a :: r).length - 1) (show 0 < B by decide)
   omega
set_option maxHeartbeats 8000000 in
theorem sign_ok (x y:Value) (z:Int) (N:Nat) (w:World) (h:IV w N x y z) (_hN:N < 1099511627776) :
 Meets Tryz.prog 105 #[.agg #[x,y]] w fun v w'=>Ext w w'∧v = .int .i64 z.sign:=by
 obtain ⟨neg,A,l,c,rfl,rfl,hc,hc2,hM,hl,rfl⟩:=h
 refine fn_W (n:=12) Tryz.func105 rfl rfl (by kernel_rfl) (by simp) ?_
 refine gg ?_
 refine R1_box (v:=.agg _) (.inl rfl) rfl ?_
 intro w1 hB1 hE1 hs1
 have f0:=blk0 hB1
 have f1:=blk1 hB1
 refine gg ?_
 refine R1_call2 (trim_ok _ _ _ _ w1 (hM.ext hE1) rfl hc hc2) ?_
 rintro _ _ ⟨rfl,m,hm,rfl,htr,htv⟩
 by_cases hm0:m = 0
 · refine gg ?_
   refine ret1 (v:=.int _ _) rfl rfl ⟨hE1,?_⟩
   subst hm0
   have:val l = 0:=by rw [← htv]; simp [val]
   rw [this]; cases neg <;> rfl
 · have hpos:0 < val l:=by
    rcases Nat.eq_zero_or_pos (val l) with h | h
    · have:=val_zero htr (htv.trans h)
      have:=congrArg List.length this
      rw [List.length_take_of_le hm] at this
      exact absurd this hm0
    · exact h
   cases neg
   · refine gg ?_
     refine ret1 (v:=.int _ _) rfl rfl ⟨hE1,?_⟩
     rw [sg_false,Int.sign_eq_one_of_pos (by omega)]; rfl
   · refine gg ?_
     refine ret1 (v:=.int _ _) rfl rfl ⟨hE1,?_⟩
     rw [sg_true,Int.sign_eq_neg_one_of_neg (by omega)]
end Go.Proofs.YtncbjgblcofddaaGreatDoor
namespace Go.Proofs.YtncbjgblcofddaaGreatDoor
open Go Go.Eng Go.Num Go.Proofs
theorem len_le {l1 l2:List Nat} (h2:Lim l2) (t1:Trimd l1) (h:val l1≤val l2):l1.length≤l2.length:=by
 rcases Nat.lt_or_ge l2.length l1.length with hlt | hge
 · have:=val_lt_len h2 t1 hlt; omega
 · exact hge
set_option maxHeartbeats 8000000 in
theorem addSame_ok (neg:Bool) (A1 A2:Option Addr) (n1 n2 c1 c2:Nat) (l1 l2:List Nat) (w:World) (h1:Mag w A1 l1) (h2:Mag w A2 l2) (hn1:l1.length = n1) (hn2:l2.length = n2) (hl1:n1 < 1099511627776) (hl2:n2 < 1099511627776) :
 Meets Tryz.prog 148 #[.bool neg,.slice A1 n1 c1,.bool neg,.slice A2 n2 c2] w (RI w (sg neg (val l1) + sg neg (val l2))):=by
 subst hn1 hn2
 refine fn_W (n:=33) Tryz.func148 rfl rfl (by kernel_rfl) (by simp) ?_
 refine gg ?_
 refine R1_alloc (.inl rfl) z_Int ?_
 intro w1 hB1 hE1 hs1
 have e:(neg == neg) = true:=by cases neg <;> rfl
 refine gg ?_
 refine W_true (by show Value.bool (neg == neg) = _; rw [e]) ?_
 refine gg ?_
 refine R1_call2 (addNat_ok _ _ _ _ _ _ w1 (h1.ext hE1) (h2.ext hE1) hl1 hl2) ?_
 rintro v w2 ⟨hE2,hv⟩
 refine gg ?_
 refine R1_call2 (build_ok neg v _ w2 hv) ?_
 rintro _ w3 ⟨hE3,x',y',rfl,hcv⟩
 refine gg ?_
 refine R1_store2 agg_Int (.inl rfl) rfl rfl hcv.one0 hcv.one1 (hB1.ext (hE2.trans hE3)) (by decide) ?_
 intro w6 hB6 hC6 hs6
 refine gg ?_
 have hE6:Ext w w6:=hC6.ext_of ((hE1.trans hE2).trans hE3) (fun b hb=>by omega)
 have es:sg neg (val l1 + val l2) = sg neg (val l1) + sg neg (val l2):=by cases neg <;> simp [sg]; omega
 rw [es] at hcv
 exact retC rfl agg_Int rfl hB6 ⟨hE6,_,_,rfl,hcv.keep (hB1.ext (hE2.trans hE3)) noInt2 hC6⟩
set_option maxHeartbeats 8000000 in
theorem addDiff_ok (neg:Bool) (A1 A2:Option Addr) (n1 n2 c1 c2:Nat) (l1 l2:List Nat) (w:World) (h1:Mag w A1 l1) (h2:Mag w A2 l2) (hn1:l1.length = n1) (hn2:l2.length = n2) (hl1:n1 < 1099511627776) (hl2:n2 < 1099511627776) (t1:Trimd l1) (t2:Trimd l2) :
 Meets Tryz.prog 148 #[.bool neg,.slice A1 n1 c1,.bool (!neg),.slice A2 n2 c2] w (RI w (sg neg (val l1) + sg (!neg) (val l2))):=by
 subst hn1 hn2
 refine fn_W (n:=33) Tryz.func148 rfl rfl (by kernel_rfl) (by simp) ?_
 refine gg ?_
 refine R1_alloc (.inl rfl) z_Int ?_
 intro w1 hB1 hE1 hs1
 have e:(neg == !neg) = false:=by cases neg <;> rfl
 refine gg ?_
 refine W_false (by show Value.bool (neg == !neg) = _; rw [e]) ?_
 refine gg ?_
 refine R1_call2 (compareNat_ok _ _ _ _ _ _ _ _ w1 (h1.ext hE1) (h2.ext hE1) rfl rfl hl1 hl2 t1 t2) ?_
 rintro _ w2 ⟨hE2,rfl⟩
 have hE12:=hE1.trans hE2
 by_cases hlt:val l1 < val l2
 · have ec:¬ 0≤cmpZ (val l1) (val l2):=by rw [cmpZ,if_pos hlt]; decide
   have hlen:=len_le h2.lim t1 (Nat.le_of_lt hlt)
   generalize cmpZ (val l1) (val l2) = cz at *
   refine gg ?_
   refine R1_call2 (subNat_ok _ _ _ _ _ _ _ _ w2 (h2.ext hE12) (h1.ext hE12) rfl rfl hl2 hlen (Nat.le_of_lt hlt)) ?_
   rintro v w3 ⟨hE3,hv⟩
   refine gg ?_
   refine R1_call2 (build_ok (!neg) v _ w3 hv) ?_
   rintro _ w4 ⟨hE4,x',y',rfl,hcv⟩
   refine gg ?_
   refine R1_store2 agg_Int (.inl rfl) rfl rfl hcv.one0 hcv.one1 (hB1.ext ((hE2.trans hE3).trans hE4)) (by decide) ?_
   intro w6 hB6 hC6 hs6
   refine gg ?_
   have hE6:Ext w w6:=hC6.ext_of ((hE12.trans hE3).trans hE4) (fun b hb=>by omega)
   have es:sg (!neg) (val l2 - val l1) = sg neg (val l1) + sg (!neg) (val l2):=by cases neg <;> simp [sg] <;> omega
   rw [es] at hcv
   exact retC rfl agg_Int rfl hB6 ⟨hE6,_,_,rfl,hcv.keep (hB1.ext ((hE2.trans hE3).trans hE4)) noInt2 hC6⟩
 · have ec:0≤cmpZ (val l1) (val l2):=by rw [cmpZ,if_neg hlt]; split <;> decide
   have hlen:=len_le h1.lim t2 (Nat.le_of_not_lt hlt)
   generalize cmpZ (val l1) (val l2) = cz at *
   refine gg ?_
   refine R1_call2 (subNat_ok _ _ _ _ _ _ _ _ w2 (h1.ext hE12) (h2.ext hE12) rfl rfl hl1 hlen (Nat.le_of_not_lt hlt)) ?_
   rintro v w3 ⟨hE3,hv⟩
   refine gg ?_
   refine R1_call2 (build_ok neg v _ w3 hv) ?_
   rintro _ w4 ⟨hE4,x',y',rfl,hcv⟩
   refine gg ?_
   refine R1_store2 agg_Int (.inl rfl) rfl rfl hcv.one0 hcv.one1 (hB1.ext ((hE2.trans hE3).trans hE4)) (by decide) ?_
   intro w6 hB6 hC6 hs6
   refine gg ?_
   have hE6:Ext w w6:=hC6.ext_of ((hE12.trans hE3).trans hE4) (fun b hb=>by omega)
   have es:sg neg (val l1 - val l2) = sg neg (val l1) + sg (!neg) (val l2):=by cases neg <;> simp [sg] <;> omega
   rw [es] at hcv
   exact retC rfl agg_Int rfl hB6 ⟨hE6,_,_,rfl,hcv.keep (hB1.ext ((hE2.trans hE3).trans hE4)) noInt2 hC6⟩
theorem addSigned_ok (g1 g2:Bool) (A1 A2:Option Addr) (n1 n2 c1 c2:Nat) (l1 l2:List Nat) (w:World) (h1:Mag w A1 l1) (h2:Mag w A2 l2) (hn1:l1.length = n1) (hn2:l2.length = n2) (hl1:n1 < 1099511627776) (hl2:n2 < 1099511627776) (t1:Trimd l1) (t2:Trimd l2) :
 Meets Tryz.prog 148 #[.bool g1,.slice A1 n1 c1,.bool g2,.slice A2 n2 c2] w (RI w (sg g1 (val l1) + sg g2 (val l2))):=by
 by_cases e:g2 = g1
 · subst e; exact addSame_ok g2 A1 A2 n1 n2 c1 c2 l1 l2 w h1 h2 hn1 hn2 hl1 hl2
 · obtain rfl:g2 = !g1:=by cases g1 <;> cases g2 <;> simp_all
   exact addDiff_ok g1 A1 A2 n1 n2 c1 c2 l1 l2 w h1 h2 hn1 hn2 hl1 hl2 t1 t2
set_option maxHeartbeats 8000000 in
theorem add_ok (x1 y1 x2 y2:Value) (z1 z2:Int) (N:Nat) (w:World) (h1:IV w N x1 y1 z1) (h2:IV w N x2 y2 z2) (hN:N < 1099511627776) :
 Meets Tryz.prog 93 #[.agg #[x1,y1],.agg #[x2,y2]] w (RI w (z1 + z2)):=by
 obtain ⟨g1,A1,l1,c1,rfl,rfl,hc1,hd1,hM1,hl1,rfl⟩:=h1
 obtain ⟨g2,A2,l2,c2,rfl,rfl,hc2,hd2,hM2,hl2,rfl⟩:=h2
 refine fn_W (n:=16) Tryz.func93 rfl rfl (by kernel_rfl) (by simp) ?_
 refine gg ?_
 refine R1_box (v:=.agg _) (.inl rfl) rfl ?_
 intro w1 hB1 hE1 hs1
 refine gg ?_
 refine R1_box (v:=.agg _) (.inl rfl) rfl ?_
 intro w2 hB2 hE2 hs2
 refine gg ?_
 refine R1_alloc (.inl rfl) z_Int ?_
 intro w3 hB3 hE3 hs3
 refine gg ?_
 refine W_seqD [(0,3),(1,0),(2,3),(3,0),(5,3),(6,0),(7,3),(8,0),(4,1),(9,1),(10,1),(11,2)] mixed (by kernel_rfl) (fun w4 hE4 _=>?_)
 have hB14:=hB1.ext ((hE2.trans hE3).trans hE4)
 have hB24:=hB2.ext (hE3.trans hE4)
 have hB34:=hB3.ext hE4
 have f0:=blk0 hB14
 have f1:=blk1 hB14
 have k0:=blk0 hB24
 have k1:=blk1 hB24
 have hE:=((hE1.trans hE2).trans hE3).trans hE4
 refine gg ?_
 refine R1_call1 (trim_ok _ _ _ _ w4 (hM1.ext hE) rfl hc1 hd1) ?_
 rintro _ _ ⟨rfl,m1,hm1,rfl,htr1,htv1⟩
 refine ⟨Ext.refl _,?_⟩
 refine gg ?_
 refine R1_call1 (trim_ok _ _ _ _ w4 (hM2.ext hE) rfl hc2 hd2) ?_
 rintro _ _ ⟨rfl,m2,hm2,rfl,htr2,htv2⟩
 refine ⟨Ext.refl _,?_⟩
 refine gg ?_
 refine R1_call1 (addSigned_ok _ _ _ _ _ _ _ _ _ _ w4 ((hM1.ext hE).take m1) ((hM2.ext hE).take m2) (List.length_take_of_le hm1) (List.length_take_of_le hm2) (by omega) (by omega) htr1 htr2) ?_
 rintro _ w5 ⟨hE5,x',y',rfl,hcv⟩
 refine ⟨hE5,?_⟩
 refine gg ?_
 refine R1_store2 agg_Int (.inl rfl) rfl rfl hcv.one0 hcv.one1 (hB34.ext hE5) (by decide) ?_
 intro w6 hB6 hC6 hs6
 refine gg ?_
 have hE6:Ext w w6:=hC6.ext_of (hE.trans hE5) (fun b hb=>by have:=hE1.size; have:=hE2.size; omega)
 rw [htv1,htv2] at hcv
 exact retC rfl agg_Int rfl hB6 ⟨hE6,_,_,rfl,hcv.keep (hB34.ext hE5) noInt2 hC6⟩
set_option maxHeartbeats 8000000 in
theorem sub_ok (x1 y1 x2 y2:Value) (z1 z2:Int) (N:Nat) (w:World) (h1:IV w N x1 y1 z1) (h2:IV w N x2 y2 z2) (hN:N < 1099511627776) :
 Meets Tryz.prog 186 #[.agg #[x1,y1],.agg #[x2,y2]] w (RI w (z1 - z2)):=by
 obtain ⟨g1,A1,l1,c1,rfl,rfl,hc1,hd1,hM1,hl1,rfl⟩:=h1
 obtain ⟨g2,A2,l2,c2,rfl,rfl,hc2,hd2,hM2,hl2,rfl⟩:=h2
 refine fn_W (n:=17) Tryz.func186 rfl rfl (by kernel_rfl) (by simp) ?_
 refine gg ?_
 refine R1_box (v:=.agg _) (.inl rfl) rfl ?_
 intro w1 hB1 hE1 hs1
 refine gg ?_
 refine R1_box (v:=.agg _) (.inl rfl) rfl ?_
 intro w2 hB2 hE2 hs2
 refine gg ?_
 refine R1_alloc (.inl rfl) z_Int ?_
 intro w3 hB3 hE3 hs3
 refine gg ?_
 refine W_seqD [(0,3),(1,0),(2,3),(3,0),(5,3),(6,0),(7,3),(8,3),(9,0),(4,1),(10,1),(11,1),(12,2)] mixed (by kernel_rfl) (fun w4 hE4 _=>?_)
 have hB14:=hB1.ext ((hE2.trans hE3).trans hE4)
 have hB24:=hB2.ext (hE3.trans hE4)
 have hB34:=hB3.ext hE4
 have f0:=blk0 hB14
 have f1:=blk1 hB14
 have k0:=blk0 hB24
 have k1:=blk1 hB24
 have hE:=((hE1.trans hE2).trans hE3).trans hE4
 refine gg ?_
 refine R1_call1 (trim_ok _ _ _ _ w4 (hM1.ext hE) rfl hc1 hd1) ?_
 rintro _ _ ⟨rfl,m1,hm1,rfl,htr1,htv1⟩
 refine ⟨Ext.refl _,?_⟩
 refine gg ?_
 refine R1_call1 (trim_ok _ _ _ _ w4 (hM2.ext hE) rfl hc2 hd2) ?_
 rintro _ _ ⟨rfl,m2,hm2,rfl,htr2,htv2⟩
 refine ⟨Ext.refl _,?_⟩
 refine gg ?_
 refine R1_call1 (addSigned_ok _ _ _ _ _ _ _ _ _ _ w4 ((hM1.ext hE).take m1) ((hM2.ext hE).take m2) (List.length_take_of_le hm1) (List.length_take_of_le hm2) (by omega) (by omega) htr1 htr2) ?_
 rintro _ w5 ⟨hE5,x',y',rfl,hcv⟩
 refine ⟨hE5,?_⟩
 refine gg ?_
 refine R1_store2 agg_Int (.inl rfl) rfl rfl hcv.one0 hcv.one1 (hB34.ext hE5) (by decide) ?_
 intro w6 hB6 hC6 hs6
 refine gg ?_
 have hE6:Ext w w6:=hC6.ext_of (hE.trans hE5) (fun b hb=>by have:=hE1.size; have:=hE2.size; omega)
 rw [htv1,htv2,sg_not,← Int.sub_eq_add_neg] at hcv
 exact retC rfl agg_Int rfl hB6 ⟨hE6,_,_,rfl,hcv.keep (hB34.ext hE5) noInt2 hC6⟩
theorem sg_mul (a b:Bool) (m n:Nat):sg (a != b) (m * n) = sg a m * sg b n:=by
 cases a <;> cases b <;> simp [sg,Int.neg_mul,Int.mul_neg]
set_option maxHeartbeats 8000000 in
theorem mul_ok (x1 y1 x2 y2:Value) (z1 z2:Int) (N:Nat) (w:World) (h1:IV w N x1 y1 z1) (h2:IV w N x2 y2 z2) (hN:N < 1099511627776) :
 Meets Tryz.prog 94 #[.agg #[x1,y1],.agg #[x2,y2]] w (RI w (z1 * z2)):=by
 obtain ⟨g1,A1,l1,c1,rfl,rfl,hc1,hd1,hM1,hl1,rfl⟩:=h1
 obtain ⟨g2,A2,l2,c2,rfl,rfl,hc2,hd2,hM2,hl2,rfl⟩:=h2
 refine fn_W (n:=18) Tryz.func94 rfl rfl (by kernel_rfl) (by simp) ?_
 refine gg ?_
 refine R1_box (v:=.agg _) (.inl rfl) rfl ?_
 intro w1 hB1 hE1 hs1
 refine gg ?_
 refine R1_box (v:=.agg _) (.inl rfl) rfl ?_
 intro w2 hB2 hE2 hs2
 refine gg ?_
 refine R1_alloc (.inl rfl) z_Int ?_
 intro w3 hB3 hE3 hs3
 refine gg ?_
 refine W_seqD [(0,3),(1,0),(2,3),(3,0),(4,3),(5,3),(6,0),(8,3),(9,0),(7,1),(10,1),(11,1),(12,1),(13,2)] mixed (by kernel_rfl) (fun w4 hE4 _=>?_)
 have hB14:=hB1.ext ((hE2.trans hE3).trans hE4)
 have hB24:=hB2.ext (hE3.trans hE4)
 have hB34:=hB3.ext hE4
 have f0:=blk0 hB14
 have f1:=blk1 hB14
 have k0:=blk0 hB24
 have k1:=blk1 hB24
 have hE:=((hE1.trans hE2).trans hE3).trans hE4
 refine gg ?_
 refine R1_call1 (trim_ok _ _ _ _ w4 (hM1.ext hE) rfl hc1 hd1) ?_
 rintro _ _ ⟨rfl,m1,hm1,rfl,htr1,htv1⟩
 refine ⟨Ext.refl _,?_⟩
 refine gg ?_
 refine R1_call1 (trim_ok _ _ _ _ w4 (hM2.ext hE) rfl hc2 hd2) ?_
 rintro _ _ ⟨rfl,m2,hm2,rfl,htr2,htv2⟩
 refine ⟨Ext.refl _,?_⟩
 refine gg ?_
 refine R1_call1 (mulNat_ok _ _ _ _ _ _ _ _ w4 ((hM1.ext hE).take m1) ((hM2.ext hE).take m2) (List.length_take_of_le hm1) (List.length_take_of_le hm2) (by omega) (by omega)) ?_
 rintro v w5 ⟨hE5,hv⟩
 refine ⟨hE5,?_⟩
 refine gg ?_
 refine R1_call1 (build_ok (g1 != g2) v _ w5 hv) ?_
 rintro _ w5' ⟨hE5',x',y',rfl,hcv⟩
 refine ⟨hE5',?_⟩
 refine gg ?_
 refine R1_store2 agg_Int (.inl rfl) rfl rfl hcv.one0 hcv.one1 (hB34.ext (hE5.trans hE5')) (by decide) ?_
 intro w6 hB6 hC6 hs6
 refine gg ?_
 have hE6:Ext w w6:=hC6.ext_of ((hE.trans hE5).trans hE5') (fun b hb=>by have:=hE1.size; have:=hE2.size; omega)
 rw [htv1,htv2,sg_mul] at hcv
 exact retC rfl agg_Int rfl hB6 ⟨hE6,_,_,rfl,hcv.keep (hB34.ext (hE5.trans hE5')) noInt2 hC6⟩
end Go.Proofs.YtncbjgblcofddaaGreatDoor
namespace Go.Proofs.YtncbjgblcofddaaGreatDoor
open Go Go.Eng Go.Num Go.Proofs
theorem retCCT {P:Program} {n:Nat} {f:Fr} {w:World} {fn:Func} {t u s:Tmp} {T G H:Nat} {post:Value→World→Prop} {x y x' y' v:Value} (hr:fn.results = #[.cell t T,.cell u T,.tmp s]) (hT:aggTy P T 2 = true)
 (hv:ev n f (.tmp t) = .pointer (some ⟨G,0,none⟩)) (hv':ev n f (.tmp u) = .pointer (some ⟨H,0,none⟩)) (hs:ev n f (.tmp s) = v) (hb:Blk w G T #[x,y]) (hb':Blk w H T #[x',y']) (h:post (.tuple #[.agg #[x,y],.agg #[x',y'],v]) w) :
 bodyPost P fn (Ret post) .ret (act n f) w:=by
 refine bodyPost_ret (v:=.tuple #[.agg #[x,y],.agg #[x',y'],v]) ?_ rfl ⟨_,rfl,h⟩
 have e:=congrFun (act_eval n f) (.tmp t)
 have e2:=congrFun (act_eval n f) (.tmp u)
 have e3:=congrFun (act_eval n f) (.tmp s)
 simp only [Act.eval] at e e2 e3
 have h0:w.cell? ⟨G,0,none⟩ = some x:=by rw [hb.cell]; rfl
 have h1:w.cell? ((⟨G,0,none⟩ : Addr).add 1) = some y:=by rw [add_lit,hb.cell]; rfl
 have h0':w.cell? ⟨H,0,none⟩ = some x':=by rw [hb'.cell]; rfl
 have h1':w.cell? ((⟨H,0,none⟩ : Addr).add 1) = some y':=by rw [add_lit,hb'.cell]; rfl
 have hl:=run_load_two (P:=P) hT h0 h1
 have hl':=run_load_two (P:=P) hT h0' h1'
 simp only [Instr.loadAt,Instr.sureAddr,Sem.run_bind,Sem.run_pure,Result.andThen_ok] at hl hl'
 have e':(act n f).tmps[t]?.getD undef = .pointer (some ⟨G,0,none⟩):=by rw [← hv,← e]; simp
 have e2':(act n f).tmps[u]?.getD undef = .pointer (some ⟨H,0,none⟩):=by rw [← hv',← e2]; simp
 have e3':(act n f).tmps[s]?.getD undef = v:=by rw [← hs,← e3]; simp
 simp [results,hr,e',e2',e3',asAddr,hl,hl']
def RD (w:World) (z1 z2:Int) (v:Value) (w':World):Prop:=Ext w w'∧∃ x y x' y',v = .tuple #[.agg #[x,y],.agg #[x',y'],.bool true]∧CV w' x y (z1 / z2)∧CV w' x' y' (z1 % z2)
theorem dm_pos (nb:Bool) (a b:Nat) (_hb:0 < b):(a:Int) / sg nb b = sg nb (a / b)∧(a:Int) % sg nb b = ((a % b:Nat):Int):=by
 cases nb
 · simp [sg]
 · simp [sg,Int.ediv_neg]
theorem dm_neg (nb:Bool) (a b q r:Nat) (hb:0 < b) (hr:r < b) (h:a + r = q * b):(-(a:Int)) / sg nb b = sg (!nb) q∧(-(a:Int)) % sg nb b = ((r:Nat):Int):=by
 have key:(-(a:Int)) / (b:Int) = -(q:Int)∧(-(a:Int)) % (b:Int) = (r:Int):=by
  rw [Int.ediv_emod_unique (by omega)]
  refine ⟨?_,by omega,by omega⟩
  have:(a:Int) + r = q * b:=by exact_mod_cast h
  rw [Int.mul_neg,Int.mul_comm]; omega
 cases nb
 · simpa [sg] using key
 · simp only [sg,if_true,Int.ediv_neg,Int.emod_neg]
   rw [key.1,key.2]
   simp
set_option maxHeartbeats 16000000 in
theorem divMod_ok (x1 y1 x2 y2:Value) (z1 z2:Int) (N:Nat) (w:World) (h1:IV w N x1 y1 z1) (h2:IV w N x2 y2 z2) (hN:N < 1099511627776) (hz:z2 ≠ 0) :
 Meets Tryz.prog 103 #[.agg #[x1,y1],.agg #[x2,y2]] w (RD w z1 z2):=by
 obtain ⟨g1,A1,l1,c1,rfl,rfl,hc1,hd1,hM1,hl1,rfl⟩:=h1
 obtain ⟨g2,A2,l2,c2,rfl,rfl,hc2,hd2,hM2,hl2,rfl⟩:=h2
 have hv2:0 < val l2:=by
  rcases Nat.eq_zero_or_pos (val l2) with h | h
  · exfalso; apply hz; rw [h]; cases g2 <;> rfl
  · exact h
 refine fn_W (n:=53) Tryz.func103 rfl rfl (by kernel_rfl) (by simp) ?_
 refine gg ?_
 refine R1_box (v:=.agg _) (.inl rfl) rfl ?_
 intro w1 hB1 hE1 hs1
 refine gg ?_
 refine R1_box (v:=.agg _) (.inl rfl) rfl ?_
 intro w2 hB2 hE2 hs2
 refine gg ?_
 refine R1_alloc (.inl rfl) z_Int ?_
 intro w3 hB3 hE3 hs3
 refine gg ?_
 refine R1_alloc (.inl rfl) z_Int ?_
 intro w4 hB4 hE4 hs4
 have hB14:=hB1.ext ((hE2.trans hE3).trans hE4)
 have hB24:=hB2.ext (hE3.trans hE4)
 have hB34:=hB3.ext hE4
 have f0:=blk0 hB14
 have f1:=blk1 hB14
 have k0:=blk0 hB24
 have k1:=blk1 hB24
 have hE:=((hE1.trans hE2).trans hE3).trans hE4
 have z1':=hE1.size
 have z2':=hE2.size
 have z3':=hE3.size
 refine gg ?_
 refine R1_call2 (trim_ok _ _ _ _ w4 (hM2.ext hE) rfl hc2 hd2) ?_
 rintro _ _ ⟨rfl,m2,hm2,rfl,htr2,htv2⟩
 have hm20:0 < m2:=by
  rcases Nat.eq_zero_or_pos m2 with h | h
  · subst h; simp [val] at htv2; omega
  · exact h
 refine gg ?_
 refine W_seq ?_
 refine gg ?_
 refine R1_call2 (trim_ok _ _ _ _ w4 (hM1.ext hE) rfl hc1 hd1) ?_
 rintro _ _ ⟨rfl,m1,hm1,rfl,htr1,htv1⟩
 refine gg ?_
 refine R1_call2 (divNat_ok _ _ _ _ _ _ _ _ w4 ((hM1.ext hE).take m1) ((hM2.ext hE).take m2) (List.length_take_of_le hm1) (List.length_take_of_le hm2) (by omega) (by omega) htr1 htr2 (by omega)) ?_
 rintro _ w5 ⟨vq,vr,rfl,hE5,hq,hr⟩
 rw [htv1,htv2] at hq hr
 have f0:=cell_ext hE5 f0
 have f1:=cell_ext hE5 f1
 have k0:=cell_ext hE5 k0
 have k1:=cell_ext hE5 k1
 have hM25:=(((hM2.ext hE).take m2).ext hE5)
 obtain ⟨Ar,lr,cr,rfl,hcr,hcr2,hMr,htr,hvr⟩:=hr
 have hE5':=hE.trans hE5
 have hdm:=Nat.div_add_mod (val l1) (val l2)
 have hmlt:=Nat.mod_lt (val l1) hv2
 cases g1
 · refine gg ?_
   refine W_seq ?_
   refine W_seq ?_
   refine gg ?_
   refine R1_call2 (build_ok g2 vq _ w5 hq) ?_
   rintro _ w6 ⟨hE6,xq,yq,rfl,cvq0⟩
   refine gg ?_
   refine R1_call2 (build_ok false _ _ w6 (NatV.ext ⟨Ar,lr,cr,rfl,hcr,hcr2,hMr,htr,hvr⟩ hE6)) ?_
   rintro _ w7 ⟨hE7,xr,yr,rfl,cvr⟩
   have cvq:=cvq0.ext hE7
   have EB:Ext w4 w7:=(hE5.trans hE6).trans hE7
   refine gg ?_
   refine R1_store2 agg_Int (.inl rfl) rfl rfl cvq.one0 cvq.one1 (hB34.ext EB) (by decide) ?_
   intro w8 hB8 hC8 hs8
   refine gg ?_
   refine R1_store2 agg_Int (.inl rfl) rfl rfl cvr.one0 cvr.one1 ((hB4.ext EB).ch hC8 (show ¬ w3.heap.size = w2.heap.size by omega)) (by decide) ?_
   intro w9 hB9 hC9 hs9
   refine gg ?_
   have hB89:=hB8.ch hC9 (show ¬ w2.heap.size = w3.heap.size by omega)
   have hB48:=(hB4.ext EB).ch hC8 (show ¬ w3.heap.size = w2.heap.size by omega)
   have hE8:Ext w w8:=hC8.ext_of (hE.trans EB) (fun b hb=>by omega)
   have hE9:Ext w w9:=hC9.ext_of hE8 (fun b hb=>by omega)
   have cq9:=(cvq.keep (hB34.ext EB) noInt2 hC8).keep hB48 noInt2 hC9
   have cr9:=(cvr.keep (hB34.ext EB) noInt2 hC8).keep hB48 noInt2 hC9
   have e:=dm_pos g2 (val l1) (val l2) hv2
   refine retCCT rfl agg_Int rfl rfl (v:=.bool _) rfl hB89 hB9 ⟨hE9,_,_,_,_,rfl,?_,?_⟩
   · rw [sg_false,e.1]; exact cq9
   · rw [sg_false,e.2]; exact cr9
 · by_cases hr0:lr.length = 0
   · have hlr:=List.eq_nil_of_length_eq_zero hr0
     have hmod:val l1 % val l2 = 0:=by rw [← hvr,hlr]; rfl
     refine gg ?_
     refine W_seq ?_
     refine W_seq ?_
     refine gg ?_
     refine R1_call2 (build_ok (!g2) vq _ w5 hq) ?_
     rintro _ w6 ⟨hE6,xq,yq,rfl,cvq0⟩
     refine gg ?_
     refine R1_call2 (build_ok false _ _ w6 (NatV.ext ⟨Ar,lr,cr,rfl,hcr,hcr2,hMr,htr,hvr⟩ hE6)) ?_
     rintro _ w7 ⟨hE7,xr,yr,rfl,cvr⟩
     have cvq:=cvq0.ext hE7
     have EB:Ext w4 w7:=(hE5.trans hE6).trans hE7
     refine gg ?_
     refine R1_store2 agg_Int (.inl rfl) rfl rfl cvq.one0 cvq.one1 (hB34.ext EB) (by decide) ?_
     intro w8 hB8 hC8 hs8
     refine gg ?_
     refine R1_store2 agg_Int (.inl rfl) rfl rfl cvr.one0 cvr.one1 ((hB4.ext EB).ch hC8 (show ¬ w3.heap.size = w2.heap.size by omega)) (by decide) ?_
     intro w9 hB9 hC9 hs9
     refine gg ?_
     have hB89:=hB8.ch hC9 (show ¬ w2.heap.size = w3.heap.size by omega)
     have hB48:=(hB4.ext EB).ch hC8 (show ¬ w3.heap.size = w2.heap.size by omega)
     have hE8:Ext w w8:=hC8.ext_of (hE.trans EB) (fun b hb=>by omega)
     have hE9:Ext w w9:=hC9.ext_of hE8 (fun b hb=>by omega)
     have cq9:=(cvq.keep (hB34.ext EB) noInt2 hC8).keep hB48 noInt2 hC9
     have cr9:=(cvr.keep (hB34.ext EB) noInt2 hC8).keep hB48 noInt2 hC9
     have e:=dm_neg g2 (val l1) (val l2) (val l1 / val l2) 0 hv2 hv2 (by rw [hmod] at hdm; rw [Nat.mul_comm]; omega)
     rw [hmod] at cr9
     refine retCCT rfl agg_Int rfl rfl (v:=.bool _) rfl hB89 hB9 ⟨hE9,_,_,_,_,rfl,?_,?_⟩
     · rw [sg_true,e.1]; exact cq9
     · rw [sg_true,e.2]; exact cr9
   · have hmod:0 < val l1 % val l2:=by
      rcases Nat.eq_zero_or_pos (val l1 % val l2) with h | h
      · exact absurd (by rw [val_zero htr (hvr.trans h)]; rfl) hr0
      · exact h
     obtain ⟨Aq,lq,cq,rfl,hcq,hcq2,hMq,htq,hvq⟩:=hq
     have hlq:lq.length < 1099511627776:=by
      have:val lq≤val (l1.take m1):=by rw [hvq,htv1]; exact Nat.div_le_self _ _
      have:=len_le ((hM1.lim).take m1) htq this
      rw [List.length_take_of_le hm1] at this; omega
     have hlr:lr.length≤m2:=by
      have:val lr≤val (l2.take m2):=by rw [hvr,htv2]; omega
      have:=len_le ((hM2.lim).take m2) htr this
      rw [List.length_take_of_le hm2] at this; exact this
     refine gg ?_
     refine W_seq ?_
     refine W_seq ?_
     refine gg ?_
     refine R1_build1 (v0:=.int _ _) sl_u32 rfl (.inl rfl) rfl rfl ?_
     intro w51 hB51 hE51 hs51
     have hB51':Blk w51 w5.heap.size 107 (cells [1]):=hB51
     refine gg ?_
     refine R1_call2 (addNat_ok _ _ _ _ lq [1] w51 (hMq.ext hE51) (mag_of_blk hB51' (by intro a ha; simp at ha; omega)) hlq (by decide)) ?_
     rintro vq w52 ⟨hE52,hq⟩
     refine gg ?_
     refine R1_call2 (subNat_ok _ _ _ _ _ _ (l2.take m2) lr w52 (hM25.ext (hE51.trans hE52)) (hMr.ext (hE51.trans hE52)) (List.length_take_of_le hm2) rfl (by omega) hlr (by rw [htv2,hvr]; omega)) ?_
     rintro vr w53 ⟨hE53,hr⟩
     refine gg ?_
     refine R1_call2 (build_ok (!g2) vq _ w53 (hq.ext hE53)) ?_
     rintro _ w6 ⟨hE6,xq,yq,rfl,cvq0⟩
     refine gg ?_
     refine R1_call2 (build_ok false _ _ w6 (hr.ext hE6)) ?_
     rintro _ w7 ⟨hE7,xr,yr,rfl,cvr⟩
     have cvq:=cvq0.ext hE7
     have EB:Ext w4 w7:=((((hE5.trans hE51).trans hE52).trans hE53).trans hE6).trans hE7
     refine gg ?_
     refine R1_store2 agg_Int (.inl rfl) rfl rfl cvq.one0 cvq.one1 (hB34.ext EB) (by decide) ?_
     intro w8 hB8 hC8 hs8
     refine gg ?_
     refine R1_store2 agg_Int (.inl rfl) rfl rfl cvr.one0 cvr.one1 ((hB4.ext EB).ch hC8 (show ¬ w3.heap.size = w2.heap.size by omega)) (by decide) ?_
     intro w9 hB9 hC9 hs9
     refine gg ?_
     have hB89:=hB8.ch hC9 (show ¬ w2.heap.size = w3.heap.size by omega)
     have hB48:=(hB4.ext EB).ch hC8 (show ¬ w3.heap.size = w2.heap.size by omega)
     have hE8:Ext w w8:=hC8.ext_of (hE.trans EB) (fun b hb=>by omega)
     have hE9:Ext w w9:=hC9.ext_of hE8 (fun b hb=>by omega)
     have cq9:=(cvq.keep (hB34.ext EB) noInt2 hC8).keep hB48 noInt2 hC9
     have cr9:=(cvr.keep (hB34.ext EB) noInt2 hC8).keep hB48 noInt2 hC9
     rw [hvq,show val [1] = 1 from rfl] at cq9
     rw [htv2,hvr] at cr9
     have e:=dm_neg g2 (val l1) (val l2) (val l1 / val l2 + 1) (val l2 - val l1 % val l2) hv2 (by omega) (by rw [Nat.add_mul,Nat.mul_comm]; omega)
     refine retCCT rfl agg_Int rfl rfl (v:=.bool _) rfl hB89 hB9 ⟨hE9,_,_,_,_,rfl,?_,?_⟩
     · rw [sg_true,e.1]; exact cq9
     · rw [sg_true,e.2]; exact cr9
end Go.Proofs.YtncbjgblcofddaaGreatDoor
namespace Go.Proofs.YtncbjgblcofddaaGreatDoor
open Go Go.Eng Go.Num Go.Proofs
theorem natV_own {w:World} {base:Nat} {v:Value} {l:List Nat} (hl:Lim l) (ht:Trimd l) (h:w.ownsRow base 107 1 v l.length (l.map fun x=>Value.int .u32 ((x:Nat):Int))):NatV w v (val l):=by
 rcases own_lb h with ⟨rfl,rfl⟩ | ⟨g,c,rfl,_,h1,h2,h3⟩
 · exact natV_nil w
 · exact ⟨_,l,c,rfl,h1,by omega,h3.mag hl,ht,rfl⟩
set_option maxHeartbeats 8000000 in
theorem rtrimF_ok (A:Option Addr) (n c:Nat) (l:List Nat) (w:World) (h:Mag w A l) (hn:l.length = n) (hc:n≤c) (hl:n < 1099511627776) :
 Meets Tryz.prog 97 #[.slice A n c] w fun v w'=>Ext w w'∧NatV w' v (val l)∧∀ b,v.ownBlock = some b→w.heap.size≤b:=by
 subst hn
 refine fn_W (n:=22) Tryz.func97 rfl rfl (by kernel_rfl) (by simp) ?_
 refine gg ?_
 refine W_seqM (fun f w'=>w = w'∧∃ m,m≤l.length∧f 0 = .slice A l.length c∧f 3 = .int .i64 ((m:Nat):Int)∧Trimd (l.take m)∧val (l.take m) = val l) ?_ ?_
 · refine W_block ?_
   refine W_loop (fun m f w'=>w = w'∧m≤l.length∧f 0 = .slice A l.length c∧f 3 = .int .i64 ((m:Nat):Int)∧val (l.take m) = val l) l.length ⟨rfl,Nat.le_refl _,rfl,rfl,by simp⟩ ?_
   rintro m f w' ⟨rfl,hm,h0,h3,hv⟩
   rw [ui h0,ui h3]
   refine W_seq ?_
   rcases m with _ | m
   · refine gg ?_
     exact ⟨rfl,0,by omega,rfl,rfl,by simp [Trimd.nil],hv⟩
   · obtain ⟨ad,rfl,hcell⟩:=h.at (j:=m) (by omega)
     have hcm:=hcell m (by omega)
     refine gg ?_
     refine W_cond rfl (fun hc=>?_) (fun hc=>?_)
     · refine gg ?_
       refine ⟨m,by omega,rfl,by omega,rfl,rfl,?_⟩
       have h0:l.getD m 0 = 0:=by simpa using hc
       rw [← hv,val_take_succ l m (by omega),h0,Nat.mul_zero,Nat.add_zero]
     · refine gg ?_
       exact ⟨rfl,m + 1,by omega,rfl,rfl,trimd_take (by omega) (by simpa using hc),hv⟩
 · rintro f w' ⟨rfl,m,hm,hf0,hf3,htr,hv⟩
   rw [ui hf0,ui hf3]
   refine gg ?_
   refine R1_append (base:=w.heap.size) (m0:=0) (xs:=[]) (news:=(l.take m).map fun x=>Value.int .u32 ((x:Nat):Int)) (v:=.slice _ _ _) sl_u32 rfl (by decide) (.inl rfl) rfl (World.ownsRow_nil _ _ _ _) rfl (by rw [List.length_map,List.length_take_of_le hm,Nat.mul_one]) (mag_src (h.take m)) (limbs_one _) (by omega) (by omega) (Nat.le_refl _) ?_
   intro v' w' hown hC _
   refine gg ?_
   rw [Nat.zero_add,List.nil_append] at hown
   have hown':w'.ownsRow w.heap.size 107 1 v' (l.take m).length ((l.take m).map fun x=>Value.int .u32 ((x:Nat):Int)):=by rw [List.length_take_of_le hm]; exact hown
   refine ret1 (v:=v') rfl rfl ⟨hC.ext_of (Ext.refl _) (fun b hb=>by simp [Value.ownBlock] at hb),?_,?_⟩
   · rw [← hv]; exact natV_own (h.lim.take m) htr hown'
   · intro b hb
     rcases own_lb hown' with ⟨rfl,_⟩ | ⟨g,c',rfl,h1,_⟩
     · simp [Value.ownBlock] at hb
     · simp [Value.ownBlock] at hb; omega
theorem rtrim_ok (A:Option Addr) (n c:Nat) (l:List Nat) (w:World) (h:Mag w A l) (hn:l.length = n) (hc:n≤c) (hl:n < 1099511627776) :
 Meets Tryz.prog 97 #[.slice A n c] w fun v w'=>Ext w w'∧NatV w' v (val l) :=
 (rtrimF_ok A n c l w h hn hc hl).mono fun _ _ hp=>⟨hp.1,hp.2.1⟩
set_option maxHeartbeats 8000000 in
theorem make_ok (neg:Bool) (A:Option Addr) (n c:Nat) (l:List Nat) (w:World) (h:Mag w A l) (hn:l.length = n) (hc:n≤c) (hl:n < 1099511627776) :
 Meets Tryz.prog 80 #[.bool neg,.slice A n c] w (RI w (sg neg (val l))):=by
 subst hn
 refine fn_W (n:=16) Tryz.func80 rfl rfl (by kernel_rfl) (by simp) ?_
 refine gg ?_
 refine R1_alloc (.inl rfl) z_Int ?_
 intro w1 hB hE hs
 refine gg ?_
 refine R1_call2 (rtrim_ok _ _ _ _ w1 (h.ext hE) rfl hc hl) ?_
 rintro v w2 ⟨hE2,A',l',c',rfl,hc',hd',hM',ht',hv'⟩
 by_cases hx:neg = true∧0 < l'.length
 · obtain ⟨rfl,hpos⟩:=hx
   refine gg ?_
   refine R1_bld2 (v0:=.bool (decide _)) (v1:=.slice _ _ _) b2_Int rfl rfl rfl rfl ?_
   rw [decide_eq_true hpos]
   refine gg ?_
   refine R1_store2 agg_Int (.inl rfl) rfl rfl rfl rfl (hB.ext hE2) (by decide) ?_
   intro w3 hB3 hC3 hs3
   refine gg ?_
   have hE3:=hC3.ext_of (hE.trans hE2) (fun b hb=>by omega)
   refine retC rfl agg_Int rfl hB3 ⟨hE3,_,_,rfl,true,A',l',c',rfl,rfl,hc',hd',hM'.keep (hB.ext hE2) noInt2 hC3,ht',fun e=>absurd hpos (by rw [e]; simp),by rw [hv']⟩
 · have hb:(neg && decide (0 < l'.length)) = false:=by cases neg <;> simp_all
   cases neg
   · refine gg ?_
     refine R1_bld2 (v0:=.bool _) (v1:=.slice _ _ _) b2_Int rfl rfl rfl rfl ?_
     refine gg ?_
     refine R1_store2 agg_Int (.inl rfl) rfl rfl rfl rfl (hB.ext hE2) (by decide) ?_
     intro w3 hB3 hC3 hs3
     refine gg ?_
     have hE3:=hC3.ext_of (hE.trans hE2) (fun b hb=>by omega)
     refine retC rfl agg_Int rfl hB3 ⟨hE3,_,_,rfl,false,A',l',c',rfl,rfl,hc',hd',hM'.keep (hB.ext hE2) noInt2 hC3,ht',fun _=>rfl,by rw [hv']⟩
   · have hz:¬ 0 < l'.length:=fun h=>hx ⟨rfl,h⟩
     have hl':l' = []:=List.eq_nil_of_length_eq_zero (by omega)
     refine gg ?_
     refine R1_bld2 (v0:=.bool (decide _)) (v1:=.slice _ _ _) b2_Int rfl rfl rfl rfl ?_
     rw [decide_eq_false hz]
     refine gg ?_
     refine R1_store2 agg_Int (.inl rfl) rfl rfl rfl rfl (hB.ext hE2) (by decide) ?_
     intro w3 hB3 hC3 hs3
     refine gg ?_
     have hE3:=hC3.ext_of (hE.trans hE2) (fun b hb=>by omega)
     refine retC rfl agg_Int rfl hB3 ⟨hE3,_,_,rfl,false,A',l',c',rfl,rfl,hc',hd',hM'.keep (hB.ext hE2) noInt2 hC3,ht',fun _=>rfl,?_⟩
     rw [← hv',hl']; rfl
end Go.Proofs.YtncbjgblcofddaaGreatDoor
namespace Go.Proofs.YtncbjgblcofddaaGreatDoor
open Go Go.Eng Go.Num Go.Proofs
set_option maxHeartbeats 8000000 in
theorem rnormalize_ok (x y:Value) (z:Int) (N:Nat) (w:World) (h:IV w N x y z) (hN:N < 1099511627776) :
 Meets Tryz.prog 83 #[.agg #[x,y]] w (RI w z):=by
 obtain ⟨neg,A,l,c,rfl,rfl,hc,hc2,hM,hl,rfl⟩:=h
 refine fn_W (n:=8) Tryz.func83 rfl rfl (by kernel_rfl) (by simp) ?_
 refine gg ?_
 refine R1_box (v:=.agg _) (.inl rfl) rfl ?_
 intro w1 hB1 hE1 hs1
 refine gg ?_
 refine R1_alloc (.inl rfl) z_Int ?_
 intro w2 hB2 hE2 hs2
 have hB13:=hB1.ext hE2
 have f0:=blk0 hB13
 have f1:=blk1 hB13
 have hE:=hE1.trans hE2
 refine gg ?_
 refine R1_call2 (make_ok neg _ _ _ l w2 (hM.ext hE) rfl hc (by omega)) ?_
 rintro _ w5 ⟨hE5,x',y',rfl,hcv⟩
 refine gg ?_
 refine R1_store2 agg_Int (.inl rfl) rfl rfl hcv.one0 hcv.one1 (hB2.ext hE5) (by decide) ?_
 intro w6 hB6 hC6 hs6
 refine gg ?_
 have hE6:Ext w w6:=hC6.ext_of (hE.trans hE5) (fun b hb=>by have:=hE1.size; omega)
 exact retC rfl agg_Int rfl hB6 ⟨hE6,_,_,rfl,hcv.keep (hB2.ext hE5) noInt2 hC6⟩
set_option maxHeartbeats 8000000 in
theorem rneg_ok (x y:Value) (z:Int) (N:Nat) (w:World) (h:IV w N x y z) (hN:N < 1099511627776) :
 Meets Tryz.prog 144 #[.agg #[x,y]] w (RI w (-z)):=by
 obtain ⟨neg,A,l,c,rfl,rfl,hc,hc2,hM,hl,rfl⟩:=h
 refine fn_W (n:=9) Tryz.func144 rfl rfl (by kernel_rfl) (by simp) ?_
 refine gg ?_
 refine R1_box (v:=.agg _) (.inl rfl) rfl ?_
 intro w1 hB1 hE1 hs1
 refine gg ?_
 refine R1_alloc (.inl rfl) z_Int ?_
 intro w2 hB2 hE2 hs2
 have hB13:=hB1.ext hE2
 have f0:=blk0 hB13
 have f1:=blk1 hB13
 have hE:=hE1.trans hE2
 refine gg ?_
 refine R1_call2 (make_ok (!neg) _ _ _ l w2 (hM.ext hE) rfl hc (by omega)) ?_
 rintro _ w5 ⟨hE5,x',y',rfl,hcv⟩
 refine gg ?_
 refine R1_store2 agg_Int (.inl rfl) rfl rfl hcv.one0 hcv.one1 (hB2.ext hE5) (by decide) ?_
 intro w6 hB6 hC6 hs6
 refine gg ?_
 have hE6:Ext w w6:=hC6.ext_of (hE.trans hE5) (fun b hb=>by have:=hE1.size; omega)
 rw [sg_not] at hcv
 exact retC rfl agg_Int rfl hB6 ⟨hE6,_,_,rfl,hcv.keep (hB2.ext hE5) noInt2 hC6⟩
set_option maxHeartbeats 8000000 in
theorem rword_ok (neg:Bool) (x:Nat) (w:World) (hx:x < 18446744073709551616) :
 Meets Tryz.prog 118 #[.bool neg,.int .u64 ((x:Nat):Int)] w (RI w (sg neg x)):=by
 refine fn_W (n:=13) Tryz.func118 rfl rfl (by kernel_rfl) (by simp) ?_
 refine gg ?_
 refine R1_alloc (.inl rfl) z_Int ?_
 intro w1 hB1 hE1 hs1
 refine gg ?_
 refine R1_build2 (v0:=.int _ _) (v1:=.int _ _) sl_u32 rfl (.inl rfl) rfl rfl rfl rfl ?_
 intro w2 hB hE2 hsz
 have hB':Blk w2 w1.heap.size 107 (cells [x % 4294967296,x / 2 ^ 32 % 4294967296]):=hB
 have hl:Lim [x % 4294967296,x / 2 ^ 32 % 4294967296]:=by
  intro y hy
  simp at hy
  omega
 refine gg ?_
 refine R1_call2 (make_ok neg _ _ _ _ w2 (mag_of_blk hB' hl) rfl (Nat.le_refl _) (by decide)) ?_
 rintro _ w5 ⟨hE5,x',y',rfl,hcv⟩
 refine gg ?_
 refine R1_store2 agg_Int (.inl rfl) rfl rfl hcv.one0 hcv.one1 (hB1.ext (hE2.trans hE5)) (by decide) ?_
 intro w6 hB6 hC6 hs6
 refine gg ?_
 have hE6:Ext w w6:=hC6.ext_of ((hE1.trans hE2).trans hE5) (fun b hb=>by omega)
 have e:val [x % 4294967296,x / 2 ^ 32 % 4294967296] = x:=by simp only [val,B]; omega
 rw [e] at hcv
 exact retC rfl agg_Int rfl hB6 ⟨hE6,_,_,rfl,hcv.keep (hB1.ext (hE2.trans hE5)) noInt2 hC6⟩
set_option maxHeartbeats 8000000 in
theorem rsmall_ok (z:Int) (w:World) (h1:-9223372036854775808≤z) (h2:z < 9223372036854775808) :
 Meets Tryz.prog 61 #[.int .i64 z] w (RI w z):=by
 refine fn_W (n:=12) Tryz.func61 rfl rfl (by kernel_rfl) (by simp) ?_
 refine gg ?_
 refine R1_alloc (.inl rfl) z_Int ?_
 intro w1 hB1 hE1 hs1
 refine gg ?_
 by_cases hz:z < 0
 · refine W_seq ?_
   refine gg ?_
   refine R1_i64_u64 ty_i64 ty_u64 rfl ?_
   refine gg ?_
   refine R1_neg_u64 rfl (by omega) ?_
   refine gg ?_
   refine R1_call2 (rword_ok true _ w1 (Nat.mod_lt _ (by decide))) ?_
   rintro _ w3 ⟨hE3,x',y',rfl,hcv⟩
   refine gg ?_
   refine R1_store2 agg_Int (.inl rfl) rfl rfl hcv.one0 hcv.one1 (hB1.ext hE3) (by decide) ?_
   intro w6 hB6 hC6 hs6
   refine gg ?_
   have hE6:Ext w w6:=hC6.ext_of (hE1.trans hE3) (fun b hb=>by omega)
   have e:sg true ((18446744073709551616 - (z % 18446744073709551616).toNat) % 18446744073709551616) = z:=by rw [sg_true]; omega
   rw [e] at hcv
   exact retC rfl agg_Int rfl hB6 ⟨hE6,_,_,rfl,hcv.keep (hB1.ext hE3) noInt2 hC6⟩
 · refine W_seq ?_
   refine gg ?_
   refine R1_i64_u64 ty_i64 ty_u64 rfl ?_
   refine gg ?_
   refine R1_call2 (rword_ok false _ w1 (by omega)) ?_
   rintro _ w3 ⟨hE3,x',y',rfl,hcv⟩
   refine gg ?_
   refine R1_store2 agg_Int (.inl rfl) rfl rfl hcv.one0 hcv.one1 (hB1.ext hE3) (by decide) ?_
   intro w6 hB6 hC6 hs6
   refine gg ?_
   have hE6:Ext w w6:=hC6.ext_of (hE1.trans hE3) (fun b hb=>by omega)
   have e:sg false ((z % 18446744073709551616).toNat) = z:=by rw [sg_false]; omega
   rw [e] at hcv
   exact retC rfl agg_Int rfl hB6 ⟨hE6,_,_,rfl,hcv.keep (hB1.ext hE3) noInt2 hC6⟩
set_option maxHeartbeats 8000000 in
theorem rcmp_ok (A1 A2:Option Addr) (n1 n2 c1 c2:Nat) (l1 l2:List Nat) (w:World) (h1:Mag w A1 l1) (h2:Mag w A2 l2) (hn1:l1.length = n1) (hn2:l2.length = n2) (hl1:n1 < 1099511627776) (hl2:n2 < 1099511627776) (t1:Trimd l1) (t2:Trimd l2) :
 Meets Tryz.prog 87 #[.slice A1 n1 c1,.slice A2 n2 c2] w fun v w'=>Ext w w'∧v = .int .i64 (cmpZ (val l1) (val l2)):=by
 subst hn1 hn2
 refine fn_W (n:=41) Tryz.func87 rfl rfl (by kernel_rfl) (by simp) ?_
 refine gg ?_
 by_cases hne:l1.length = l2.length
 case neg =>
  refine W_seq ?_
  refine gg ?_
  refine W_seq ?_
  by_cases hlt:l1.length < l2.length
  · refine gg ?_
    refine ret1 (v:=.int _ _) rfl rfl ⟨Ext.refl _,?_⟩
    rw [cmpZ,if_pos (val_lt_len h1.lim t2 hlt)]
  · refine gg ?_
    refine ret1 (v:=.int _ _) rfl rfl ⟨Ext.refl _,?_⟩
    have:=val_lt_len h2.lim t1 (by omega)
    rw [cmpZ,if_neg (by omega),if_pos this]; rfl
 refine W_seq ?_
 refine gg ?_
 refine W_seq ?_
 refine gg ?_
 have heq:=hne
 refine W_loop (fun m f w'=>∃ k,m = k∧k≤l1.length∧f 0 = .slice A1 l1.length c1∧f 1 = .slice A2 l2.length c2∧f 5 = .int .i64 ((k:Int) - 1)∧Ext w w'∧l1.drop k = l2.drop k) l1.length ⟨_,rfl,Nat.le_refl _,rfl,rfl,rfl,Ext.refl _,by rw [heq]; simp [← heq]⟩ ?_
 rintro m f w1 ⟨k,rfl,hk,hf0,hf1,hf5,hE,hd⟩
 rw [ui hf0,ui hf1]
 rcases m with _ | j
 · rw [ui hf5]
   refine W_seq ?_
   refine gg ?_
   refine ret1 (v:=.int _ _) rfl rfl ⟨hE,?_⟩
   have:val l1 = val l2:=by simp at hd; rw [hd]
   rw [cmpZ,if_neg (by omega),if_neg (by omega)]; rfl
 · have e5:(((j + 1:Nat):Int) - 1) = (j:Int):=by omega
   rw [e5] at hf5
   rw [ui hf5]
   refine W_seq ?_
   refine gg ?_
   refine W_seqD [(0,3),(1,3),(2,3),(3,0),(4,3),(5,3),(6,3),(7,0),(8,3)] mixed (by kernel_rfl) (fun w2 hE2 _=>?_)
   have hE':=hE.trans hE2
   obtain ⟨ad,rfl,hc1⟩:=(h1.ext hE').at (j:=j) (by omega)
   obtain ⟨ad',rfl,hc2⟩:=(h2.ext hE').at (j:=j) (by omega)
   have hx:=hc1 j (by omega)
   have hy:=hc2 j (by omega)
   by_cases ha:l1.getD j 0 = l2.getD j 0
   · refine gg ?_
     refine ⟨j,by omega,j,rfl,by omega,rfl,rfl,rfl,hE',?_⟩
     rw [drop_cons l1 j (by omega),drop_cons l2 j (by omega),hd,ha]
   · refine gg ?_
     refine W_seq ?_
     refine W_seqD [(0,3),(1,3),(2,3),(3,0),(4,3),(5,3),(6,3),(7,0),(8,3)] mixed (by kernel_rfl) (fun w3 hE3 _=>?_)
     have hx:=cell_ext hE3 hx
     have hy:=cell_ext hE3 hy
     by_cases hb:l1.getD j 0 < l2.getD j 0
     · refine gg ?_
       refine ret1 (v:=.int _ _) rfl rfl ⟨hE'.trans hE3,?_⟩
       rw [cmpZ,if_pos (val_lt_at h1.lim heq (by omega) hd hb)]
     · refine gg ?_
       refine ret1 (v:=.int _ _) rfl rfl ⟨hE'.trans hE3,?_⟩
       have:=val_lt_at h2.lim heq.symm (by omega) hd.symm (show l2.getD j 0 < l1.getD j 0 by omega)
       rw [cmpZ,if_neg (by omega),if_pos this]; rfl
theorem val_inj {l1 l2:List Nat} (h1:Lim l1) (h2:Lim l2) (t1:Trimd l1) (t2:Trimd l2) (h:val l1 = val l2):l1.length = l2.length:=by
 rcases Nat.lt_trichotomy l1.length l2.length with hh | hh | hh
 · have:=val_lt_len h1 t2 hh; omega
 · exact hh
 · have:=val_lt_len h2 t1 hh; omega
theorem sg_inj {a b:Bool} {m n:Nat} (ha:m = 0→a = false) (hb:n = 0→b = false) (h:sg a m = sg b n):a = b∧m = n:=by
 have e:m = n:=by rw [← sg_abs a m,h,sg_abs]
 subst e
 refine ⟨?_,rfl⟩
 rcases Nat.eq_zero_or_pos m with h0 | h0
 · rw [ha h0,hb h0]
 · cases a <;> cases b <;> simp [sg] at h ⊢ <;> omega
set_option maxHeartbeats 8000000 in
theorem rsame_ok (x1 y1 x2 y2:Value) (z1 z2:Int) (N1 N2:Nat) (w:World) (h1:CV w x1 y1 z1) (h2:CV w x2 y2 z2) (hN1:N1 < 1099511627776) (_hN2:N2 < 1099511627776) (b1:z1.natAbs < B ^ N1) (b2:z2.natAbs < B ^ N2) :
 Meets Tryz.prog 32 #[.agg #[x1,y1],.agg #[x2,y2]] w fun v w'=>Ext w w'∧v = .bool (decide (z1 = z2)):=by
 have i1:=h1.iv b1
 have i2:=h2.iv b2
 obtain ⟨neg1,A1,l1,c1,rfl,rfl,hc1,hd1,hM1,ht1,hn1,rfl⟩:=h1
 obtain ⟨neg2,A2,l2,c2,rfl,rfl,hc2,hd2,hM2,ht2,hn2,rfl⟩:=h2
 have hl1:l1.length≤N1:=by
  obtain ⟨_,_,l,_,_,e,_,_,_,hl,_⟩:=i1
  injection e with _ e _; omega
 have hl2:l2.length≤N2:=by
  obtain ⟨_,_,l,_,_,e,_,_,_,hl,_⟩:=i2
  injection e with _ e _; omega
 clear i1 i2
 refine fn_W (n:=27) Tryz.func32 rfl rfl (by kernel_rfl) (by simp) ?_
 refine gg ?_
 refine R1_box (v:=.agg _) (.inl rfl) rfl ?_
 intro w1 hB1 hE1 hs1
 refine gg ?_
 refine R1_box (v:=.agg _) (.inl rfl) rfl ?_
 intro w2 hB2 hE2 hs2
 have hB13:=hB1.ext hE2
 have f0:=blk0 hB13
 have f1:=blk1 hB13
 have g0:=blk0 hB2
 have g1:=blk1 hB2
 have hE:=hE1.trans hE2
 by_cases hb:neg1 = neg2
 · have e0:(neg1 == neg2) = true:=by simpa using hb
   refine gg ?_
   rw [e0]
   refine gg ?_
   by_cases hll:l1.length = l2.length
   · refine gg ?_
     refine R1_call2 (rcmp_ok _ _ _ _ _ _ l1 l2 w2 (hM1.ext hE) (hM2.ext hE) rfl rfl (by omega) (by omega) ht1 ht2) ?_
     rintro _ w3 ⟨hE3,rfl⟩
     refine gg ?_
     refine ret1 (v:=.bool _) rfl rfl ⟨hE.trans hE3,?_⟩
     congr 1
     apply decide_eq_decide.2
     subst hb
     rw [cmpZ]
     constructor
     · intro h
       have e:val l1 = val l2:=by
        by_cases a:val l1 < val l2
        · rw [if_pos a] at h; cases h
        · by_cases b:val l2 < val l1
          · rw [if_neg a,if_pos b] at h; cases h
          · omega
       rw [e]
     · intro h
       have e:val l1 = val l2:=by rw [← sg_abs neg1 (val l1),h,sg_abs]
       rw [if_neg (by omega),if_neg (by omega)]
   · refine gg ?_
     refine ret1 (v:=.bool _) rfl rfl ⟨hE,?_⟩
     congr 1
     refine (decide_eq_false ?_).symm
     intro h
     subst hb
     exact hll (val_inj hM1.lim hM2.lim ht1 ht2 (by rw [← sg_abs neg1 (val l1),h,sg_abs]))
 · have e0:(neg1 == neg2) = false:=by simpa using hb
   refine gg ?_
   rw [e0]
   refine gg ?_
   refine ret1 (v:=.bool _) rfl rfl ⟨hE,?_⟩
   congr 1
   refine (decide_eq_false ?_).symm
   intro h
   exact hb (sg_inj (fun e=>hn1 (val_zero ht1 e)) (fun e=>hn2 (val_zero ht2 e)) h).1
end Go.Proofs.YtncbjgblcofddaaGreatDoor
namespace Go.Eng
open Go
def runOk (ops:Array Oper) (H:List Nat):List (Nat × Nat)→Array Bool→Option (Array Bool)
 | [],x=>some x
 | (i,0) :: rest,x=>if (Region.ready .any ops x).contains i && Region.free .any ops x i && H.contains i then runOk ops H rest (x.setIfInBounds i true) else none
 | (i,1) :: rest,x=>if Region.ready .any ops x == [i] then runOk ops H rest (x.setIfInBounds i true) else none
 | (i,2) :: rest,x=>if Region.ready .any ops x == [i] && bar ops H x i then runOk ops H rest (x.setIfInBounds i true) else none
 | (i,3) :: rest,x=>if (Region.ready .any ops x).contains i && Region.free .any ops x i then runOk ops H rest (x.setIfInBounds i true) else none
 | (_,_ + 4) :: _,_=>none
abbrev Mem':=Nat × List (Nat × Nat) × List Nat
def grpOk (ops:Array Oper) (H:List Nat) (G:List Mem') (suf:List (Nat × Nat)):Nat→Array Bool→List Nat→Nat→Bool
 | 0,x,L,fuel=>G.all (fun g=>L.contains g.1) && suf.length == fuel && ordOk ops H suf x
 | k + 1,x,L,fuel=>!(Region.ready .any ops x).isEmpty && (Region.ready .any ops x).all fun r =>
  match G.find? (fun g=>g.1 == r) with
  | none=>false
  | some (i,qs,nd)=>i == r && !L.contains i && nd.all (fun d=>L.contains d) && Nat.ble (qs.length + 1) fuel &&
   match runOk ops H qs (x.setIfInBounds i true) with
   | none=>false
   | some x'=>grpOk ops H G suf k x' (i :: L) (fuel - 1 - qs.length)
section
variable {P:Program} {ops:Array Oper} {H:List Nat} {S:World→World→Prop} {n:Nat}
theorem runOk_size:∀ (ord:List (Nat × Nat)) (x x':Array Bool),runOk ops H ord x = some x'→x'.size = x.size:=by
 intro ord
 induction ord with
 | nil=>intro x x' h; cases h; rfl
 | cons ik rest ih =>
  obtain ⟨i,k⟩:=ik
  intro x x' h
  match k,h with
  | 0,h=>simp only [runOk] at h; split at h <;> first | exact (ih _ _ h).trans (by simp) | cases h
  | 1,h=>simp only [runOk] at h; split at h <;> first | exact (ih _ _ h).trans (by simp) | cases h
  | 2,h=>simp only [runOk] at h; split at h <;> first | exact (ih _ _ h).trans (by simp) | cases h
  | 3,h=>simp only [runOk] at h; split at h <;> first | exact (ih _ _ h).trans (by simp) | cases h
  | _ + 4,h=>simp [runOk] at h
theorem runOk_closed:∀ (ord:List (Nat × Nat)) (x x':Array Bool),Closed ops x→runOk ops H ord x = some x'→Closed ops x':=by
 intro ord
 induction ord with
 | nil=>intro x x' hc h; cases h; exact hc
 | cons ik rest ih =>
  obtain ⟨i,k⟩:=ik
  intro x x' hc h
  match k,h with
  | 0,h =>
   simp only [runOk] at h
   split at h
   · rename_i hh
     simp only [Bool.and_eq_true] at hh
     exact ih _ _ (closed_set hc (by simpa using hh.1.1)) h
   · cases h
  | 1,h =>
   simp only [runOk] at h
   split at h
   · rename_i hh
     have hh:Region.ready .any ops x = [i]:=by simpa using hh
     exact ih _ _ (closed_set hc (by rw [hh]; exact List.mem_singleton.2 rfl)) h
   · cases h
  | 2,h =>
   simp only [runOk] at h
   split at h
   · rename_i hh
     simp only [Bool.and_eq_true,beq_iff_eq] at hh
     exact ih _ _ (closed_set hc (by rw [hh.1]; exact List.mem_singleton.2 rfl)) h
   · cases h
  | 3,h =>
   simp only [runOk] at h
   split at h
   · rename_i hh
     simp only [Bool.and_eq_true] at hh
     exact ih _ _ (closed_set hc (by simpa using hh.1)) h
   · cases h
  | _ + 4,h=>simp [runOk] at h
theorem Ro_pre {K K0:Fr→World→Prop} (hT:∀ a b c,S a b→S b c→S a c) (hsel:Region.noSelect ops = true) {fuel:Nat} {x':Array Bool}
 (hK:∀ f w,K f w→wpE P ops H (QK n K0) S fuel x' (act n f) w) :
 ∀ (ord:List (Nat × Nat)) (x:Array Bool) (f:Fr) (w:World),x.size = ops.size→Closed ops x→runOk ops H ord x = some x'→Ro P n ops S K ord f w →
  wpE P ops H (QK n K0) S (ord.length + fuel) x (act n f) w:=by
 intro ord
 induction ord with
 | nil =>
  intro x f w _ _ hok h
  unfold Ro at h
  cases hok
  rw [List.length_nil,Nat.zero_add]
  exact hK f w h
 | cons ik rest ih =>
  obtain ⟨i,k⟩:=ik
  intro x f w hsz hcl hok h
  unfold Ro at h
  obtain ⟨o,ho,h⟩:=h
  have hput:∀ v,(act n f).put o.dst v = act n (updO f o.dst v):=act_put n f o.dst
  have el:(List.length ((i,k) :: rest)) + fuel = (rest.length + fuel) + 1:=by simp only [List.length_cons]; omega
  rw [el]
  match k,hok with
  | 0,hok =>
   simp only [runOk] at hok
   split at hok
   case isFalse=>cases hok
   rename_i hc
   simp only [Bool.and_eq_true] at hc
   obtain ⟨⟨hr,hfree⟩,hHi⟩:=hc
   have hr':i ∈ Region.ready .any ops x:=by simpa using hr
   by_cases hw:want n ops f o = true
   · rw [if_pos hw] at h
     unfold R1 at h
     rw [if_pos rfl] at h
     obtain ⟨v,hv,hk⟩:=h
     refine wpE_first hT (fun _ _ h=>h) (.inl hHi) ho (Region.noSelect_spec hsel) (fun _ _ _ h=>h) _ x (act n f) w hsz hcl (Region.free_spec ho hfree) hr' (v:=v) (.inl ⟨hw,fun w' hs=>?_⟩) ?_
     · rw [act_eval]; exact hv w' hs
     · rw [hput]; exact ih _ _ _ (by simp [hsz]) (closed_set hcl hr') hok hk
   · rw [if_neg hw] at h
     refine wpE_first hT (fun _ _ h=>h) (.inl hHi) ho (Region.noSelect_spec hsel) (fun _ _ _ h=>h) _ x (act n f) w hsz hcl (Region.free_spec ho hfree) hr' (v:=undef) (.inr ⟨by simpa [want] using hw,rfl⟩) ?_
     rw [hput]; exact ih _ _ _ (by simp [hsz]) (closed_set hcl hr') hok h
  | 1,hok =>
   simp only [runOk] at hok
   split at hok
   case isFalse=>cases hok
   rename_i hc
   have hc:Region.ready .any ops x = [i]:=by simpa using hc
   refine ⟨fun h0=>by simp [h0] at hc,fun j hj=>?_⟩
   have hrj:=hj
   rw [hc] at hj
   obtain rfl:j = i:=by simpa using hj
   unfold Go.wpOp
   simp only [ho]
   change (if want n ops f o = true then _ else _)
   by_cases hw:want n ops f o = true
   · rw [if_pos hw] at h ⊢
     refine .inl (Oper.wp_mono (fun a' w' h'=>?_) (wp_monoQ QF_imp (h.wp (by omega))))
     obtain ⟨f',rfl,hs,hk⟩:=h'
     exact ⟨.inr (hs.resolve_left (by omega)),ih _ _ _ (by simp [hsz]) (closed_set hcl hrj) hok hk⟩
   · rw [if_neg hw] at h ⊢
     exact ⟨by simp,by rw [hput]; exact ih _ _ _ (by simp [hsz]) (closed_set hcl hrj) hok h⟩
  | 2,hok =>
   simp only [runOk] at hok
   split at hok
   case isFalse=>cases hok
   rename_i hc
   simp only [Bool.and_eq_true,beq_iff_eq] at hc
   refine ⟨fun h0=>by simp [h0] at hc,fun j hj=>?_⟩
   have hrj:=hj
   rw [hc.1] at hj
   obtain rfl:j = i:=by simpa using hj
   unfold Go.wpOp
   simp only [ho]
   change (if want n ops f o = true then _ else _)
   by_cases hw:want n ops f o = true
   · rw [if_pos hw] at h ⊢
     refine .inl (Oper.wp_mono (fun a' w' h'=>?_) (wp_monoQ QF_imp (h.wp (by omega))))
     obtain ⟨f',rfl,hs,hk⟩:=h'
     exact ⟨.inl hc.2,ih _ _ _ (by simp [hsz]) (closed_set hcl hrj) hok hk⟩
   · rw [if_neg hw] at h ⊢
     exact ⟨.inl hc.2,by rw [hput]; exact ih _ _ _ (by simp [hsz]) (closed_set hcl hrj) hok h⟩
  | 3,hok =>
   simp only [runOk] at hok
   split at hok
   case isFalse=>cases hok
   rename_i hc
   simp only [Bool.and_eq_true] at hc
   obtain ⟨hr,hfree⟩:=hc
   have hr':i ∈ Region.ready .any ops x:=by simpa using hr
   by_cases hw:want n ops f o = true
   · rw [if_pos hw] at h
     unfold R1 at h
     rw [if_neg (by decide),if_pos rfl] at h
     obtain ⟨v,hv,hk⟩:=h
     refine wpE_first top_trans (fun _ _ _=>trivial) (.inr fun _ _=>trivial) ho (Region.noSelect_spec hsel) (fun _ _ _ h=>h) _ x (act n f) w hsz hcl (Region.free_spec ho hfree) hr' (v:=v) (.inl ⟨hw,fun w' hs=>?_⟩) ?_
     · rw [act_eval]; exact hv w'
     · rw [hput]; exact ih _ _ _ (by simp [hsz]) (closed_set hcl hr') hok hk
   · rw [if_neg hw] at h
     refine wpE_first top_trans (fun _ _ _=>trivial) (.inr fun _ _=>trivial) ho (Region.noSelect_spec hsel) (fun _ _ _ h=>h) _ x (act n f) w hsz hcl (Region.free_spec ho hfree) hr' (v:=undef) (.inr ⟨by simpa [want] using hw,rfl⟩) ?_
     rw [hput]; exact ih _ _ _ (by simp [hsz]) (closed_set hcl hr') hok h
  | _ + 4,hok=>simp [runOk] at hok
def Rg (P:Program) (n:Nat) (ops:Array Oper) (S:World→World→Prop) (G:List Mem') (suf:List (Nat × Nat)) (K:Fr→World→Prop) (f:Fr) (w:World):Prop :=
 ∃ Inv:List Nat→Fr→World→Prop,Inv [] f w ∧
  (∀ i qs nd,(i,qs,nd) ∈ G→∀ L f w,(nd.all fun d=>L.contains d) = true→L.contains i = false→Inv L f w→Ro P n ops S (Inv (i :: L)) ((i,1) :: qs) f w) ∧
  (∀ L f w,(G.all fun g=>L.contains g.1) = true→Inv L f w→Ro P n ops S K suf f w)
theorem Rg_sound {K:Fr→World→Prop} {G:List Mem'} {suf:List (Nat × Nat)} (hT:∀ a b c,S a b→S b c→S a c) (hsel:Region.noSelect ops = true) {Inv:List Nat→Fr→World→Prop}
 (hG:∀ i qs nd,(i,qs,nd) ∈ G→∀ L f w,(nd.all fun d=>L.contains d) = true→L.contains i = false→Inv L f w→Ro P n ops S (Inv (i :: L)) ((i,1) :: qs) f w)
 (hS:∀ L f w,(G.all fun g=>L.contains g.1) = true→Inv L f w→Ro P n ops S K suf f w) :
 ∀ (k:Nat) (x:Array Bool) (L:List Nat) (fuel:Nat) (f:Fr) (w:World),x.size = ops.size→Closed ops x→grpOk ops H G suf k x L fuel = true→Inv L f w→wpE P ops H (QK n K) S fuel x (act n f) w:=by
 intro k
 induction k with
 | zero =>
  intro x L fuel f w hsz hcl hok hI
  simp only [grpOk,Bool.and_eq_true,beq_iff_eq] at hok
  obtain ⟨⟨h1,rfl⟩,h3⟩:=hok
  exact Ro_sound hT hsel suf x f w hsz hcl h3 (hS L f w h1 hI)
 | succ k ih =>
  intro x L fuel f w hsz hcl hok hI
  simp only [grpOk,Bool.and_eq_true,List.all_eq_true] at hok
  obtain ⟨hne,hall⟩:=hok
  rcases fuel with _ | fuel
  · exfalso
    rcases hr:Region.ready .any ops x with _ | ⟨r,t⟩
    · rw [hr] at hne; cases hne
    · have h:=hall r (by rw [hr]; exact List.mem_cons_self)
      split at h
      · cases h
      · simp [Nat.ble_eq] at h
  refine ⟨fun h0=>absurd hne (by rw [h0]; simp),fun j hj=>?_⟩
  have h:=hall j hj
  split at h
  · cases h
  rename_i i qs nd hfind
  simp only [Bool.and_eq_true,beq_iff_eq,Nat.ble_eq,Bool.not_eq_true'] at h
  obtain ⟨⟨⟨⟨rfl,hnc⟩,hnd⟩,hle⟩,h⟩:=h
  split at h
  · cases h
  rename_i x' hrun
  have hmem:=List.mem_of_find?_eq_some hfind
  have hro:=hG i qs nd hmem L f w hnd hnc hI
  have hx':=runOk_size _ _ _ hrun
  have hcont:∀ f' w',Ro P n ops S (Inv (i :: L)) qs f' w'→wpE P ops H (QK n K) S fuel (x.setIfInBounds i true) (act n f') w':=fun f' w' hk=>by
   have:=Ro_pre (K0:=K) hT hsel (fun f'' w'' hI''=>ih x' (i :: L) (fuel + 1 - 1 - qs.length) f'' w'' (by rw [hx']; simp [hsz]) (runOk_closed _ _ _ (closed_set hcl hj) hrun) h hI'') qs (x.setIfInBounds i true) f' w' (by simp [hsz]) (closed_set hcl hj) hrun hk
   rw [show qs.length + (fuel + 1 - 1 - qs.length) = fuel by omega] at this
   exact this
  unfold Ro at hro
  obtain ⟨o,ho,hro⟩:=hro
  have hput:∀ v,(act n f).put o.dst v = act n (updO f o.dst v):=act_put n f o.dst
  unfold Go.wpOp
  simp only [ho]
  change (if want n ops f o = true then _ else _)
  by_cases hw:want n ops f o = true
  · rw [if_pos hw] at hro ⊢
    refine .inl (Oper.wp_mono (fun a' w' h'=>?_) (wp_monoQ QF_imp (hro.wp (by omega))))
    obtain ⟨f',rfl,hs,hk⟩:=h'
    exact ⟨.inr (hs.resolve_left (by omega)),hcont _ _ hk⟩
  · rw [if_neg hw] at hro ⊢
    exact ⟨by simp,by rw [hput]; exact hcont _ _ hro⟩
def regOk (ops:Array Oper) (pre:List (Nat × Nat)) (G:List Mem') (suf:List (Nat × Nat)):Bool :=
 Region.noSelect ops && Nat.ble pre.length ops.size &&
  match runOk ops (hot pre ++ (G.map fun g=>hot g.2.1).flatten ++ hot suf) pre (Array.replicate ops.size false) with
  | none=>false
  | some x=>grpOk ops (hot pre ++ (G.map fun g=>hot g.2.1).flatten ++ hot suf) G suf G.length x [] (ops.size - pre.length)
theorem W_drawG {Q:Exit→Fr→World→Prop} {id:Nat} {f:Fr} {w:World} (hT:∀ a b c,S a b→S b c→S a c) (pre:List (Nat × Nat)) (G:List Mem') (suf:List (Nat × Nat)) (hm:P.follows .mixedOrders = true)
 (hok:regOk ops pre G suf = true)
 (h:Ro P n ops S (Rg P n ops S G suf (fun f w=>Q .normal f w)) pre f { w with drawn:=w.drawn + 1 }):W P n (.region id ops true) Q f w:=by
 simp only [regOk,Bool.and_eq_true,Nat.ble_eq] at hok
 obtain ⟨⟨hsel,hle⟩,hok⟩:=hok
 split at hok
 · cases hok
 rename_i x hrun
 have hx:=runOk_size _ _ _ hrun
 have h1:=Ro_pre (K0:=fun f w=>Q .normal f w) hT hsel (fun f' w' ⟨Inv,hI,hG,hS⟩=>Rg_sound hT hsel hG hS _ x [] _ f' w' (by rw [hx]; simp) (runOk_closed _ _ _ (closed_none ops) hrun) hok hI) pre _ f _ (by simp) (closed_none ops) hrun h
 rw [show pre.length + (ops.size - pre.length) = ops.size by omega] at h1
 unfold W
 refine Code.wp_mono (fun e a w hq=>?_) (wp_region_any hm (wpE_any _ _ _ _ h1))
 cases e <;> first | exact hq | exact hq.elim
theorem W_seqG {Q:Exit→Fr→World→Prop} {id:Nat} {ops:Array Oper} {c:Code} {f:Fr} {w:World} (pre:List (Nat × Nat)) (G:List Mem') (suf:List (Nat × Nat)) (hm:P.follows .mixedOrders = true)
 (hok:regOk ops pre G suf = true)
 (h:∀ w',Ext w w'→w'.heap = w.heap→Ro P n ops Ext (Rg P n ops Ext G suf (W P n c Q)) pre f w'):W P n (.seq (.region id ops true) c) Q f w :=
 W_seq (W_drawG Ext_trans pre G suf hm hok (by rw [thenF_fun]; exact h _ (ch_drew w) rfl))
end
attribute [irreducible] Rg
theorem Rg_intro {P:Program} {n:Nat} {ops:Array Oper} {S:World→World→Prop} {G:List Mem'} {suf:List (Nat × Nat)} {K:Fr→World→Prop} {f:Fr} {w:World}
 (Inv:List Nat→Fr→World→Prop) (h0:Inv [] f w)
 (hG:∀ i qs nd,(i,qs,nd) ∈ G→∀ L f w,(nd.all fun d=>L.contains d) = true→L.contains i = false→Inv L f w→Ro P n ops S (Inv (i :: L)) ((i,1) :: qs) f w)
 (hS:∀ L f w,(G.all fun g=>L.contains g.1) = true→Inv L f w→Ro P n ops S K suf f w):Rg P n ops S G suf K f w:=by
 unfold Rg; exact ⟨Inv,h0,hG,hS⟩
end Go.Eng
namespace Go.Proofs.YtncbjgblcofddaaGreatDoor
open Go Go.Eng Go.Num Go.Proofs
theorem R1_func0 {P:Program} {n:Nat} {S:World→World→Prop} {k:Nat} {K:Fr→World→Prop} {f:Fr} {w:World} {d ty:Nat} {pos:String} {aft:Array Edge} {gd:Option (Nat × Bool)} {g:Fn} {l:List Operand}
 (h:K (upd f d (.func g #[] (l.map (ev n f)).toArray)) w):R1 P n S k ⟨some d,.makeFunc g #[] l.toArray,ty,pos,aft,gd⟩ K f w :=
 R1_func (by simpa using h)
theorem R1_callv2 {P:Program} {n:Nat} {S:World→World→Prop} {k:Nat} {K:Fr→World→Prop} {f:Fr} {w:World} {d ty:Nat} {pos:String} {aft:Array Edge} {gd:Option (Nat × Bool)} {g:FuncId} {x a0 a1:Operand} {ats:Array TypeId} {cap:List Value} {v0 v1:Value} {post:Value→World→Prop}
 (h0:k = 2 ∨ k = 1) (hx:ev n f x = .func (.func g) #[] cap.toArray) (e0:ev n f a0 = v0) (e1:ev n f a1 = v1) (hc:Meets P g (v0 :: v1 :: cap).toArray w post)
 (h:∀ v w',post v w'→(k = 1→S w w')∧K (upd f d v) w'):R1 P n S k ⟨some d,.call { callee:=.value x,args:=#[a0,a1],argTypes:=ats },ty,pos,aft,gd⟩ K f w :=
 R1_callv h0 hx (by simp [e0,e1]) hc h
def arr (n:Nat) (h:Nat→Value):Array Value:=(Array.range n).map h
theorem arr_size (n:Nat) (h:Nat→Value):(arr n h).size = n:=by simp [arr]
theorem arr_at {n i:Nat} {h:Nat→Value} (hi:i < n):(arr n h)[i]? = some (h i):=by simp [arr,hi]
theorem arr_made (z:Array Value) (n:Nat):madeCells z n = arr n (fun k=>z[k % z.size]!):=rfl
theorem upd_self (h:Nat→Value) (i:Nat) (v:Value):upd h i v i = v:=by simp [upd]
theorem upd_ne (h:Nat→Value) {i j:Nat} (v:Value) (hn:j ≠ i):upd h i v j = h j:=by
 have:Nat.beq j i = false:=by
  cases hb:Nat.beq j i
  · rfl
  · exact absurd (Nat.eq_of_beq_eq_true hb) hn
 simp [upd,this]
theorem arr_set (n i:Nat) (h:Nat→Value) (v:Value):(arr n h).setIfInBounds i v = arr n (upd h i v):=by
 apply Array.ext_getElem?
 intro j
 rw [Array.getElem?_setIfInBounds]
 by_cases hj:j < n
 · rw [arr_at hj]
   by_cases hij:i = j
   · subst hij
     rw [if_pos rfl,if_pos (by rw [arr_size]; exact hj),arr_at hj,upd_self]
   · rw [if_neg hij,arr_at hj,upd_ne h v (Ne.symm hij)]
 · have e1:(arr n h)[j]? = none:=by simp [arr,hj]
   have e2:(arr n (upd h i v))[j]? = none:=by simp [arr,hj]
   rw [e1,e2]
   split
   · rw [if_neg (by rw [arr_size]; omega)]
   · rfl
def setZ (M:Nat→Int) (j:Nat) (z:Int):Nat→Int:=fun k=>if k = j then z else M k
def ORow (w:World) (g c:Nat) (M:Nat→Int):Prop:=∃ h,Blk w g 41 (arr (c * 2) h)∧∀ j,j < c→CV w (h (j * 2)) (h (j * 2 + 1)) (M j)
theorem CV.zero (w:World):CV w (.bool false) (.slice none 0 0) 0:=⟨false,none,[],0,rfl,rfl,Nat.le_refl _,by omega,Mag.nil _ _,Trimd.nil,fun _=>rfl,rfl⟩
theorem orow_made {w:World} {g c:Nat} (h:Blk w g 41 (madeCells (Value.agg #[.bool false,.slice none 0 0]).cells (c * 2))):ORow w g c (fun _=>0):=by
 refine ⟨_,by rw [arr_made] at h; exact h,fun j hj=>?_⟩
 have e0:j * 2 % 2 = 0:=by omega
 have e1:(j * 2 + 1) % 2 = 1:=by omega
 have:(Value.agg #[.bool false,.slice none 0 0]).cells = #[.bool false,.slice none 0 0]:=rfl
 simp only [this]
 show CV w (#[Value.bool false,.slice none 0 0][j * 2 % 2]!) (#[Value.bool false,.slice none 0 0][(j * 2 + 1) % 2]!) 0
 rw [e0,e1]
 exact CV.zero w
theorem ORow.ext {w w':World} {g c:Nat} {M:Nat→Int} (h:ORow w g c M) (hE:Ext w w'):ORow w' g c M:=by
 obtain ⟨h,hb,hc⟩:=h
 exact ⟨h,hb.ext hE,fun j hj=>(hc j hj).ext hE⟩
theorem ORow.noInt {w:World} {c:Nat} {h:Nat→Value} {M:Nat→Int} (hc:∀ j,j < c→CV w (h (j * 2)) (h (j * 2 + 1)) (M j)):NoInt (arr (c * 2) h):=by
 intro i k z hz
 by_cases hi:i < c * 2
 · rw [arr_at hi] at hz
   have hz:=Option.some.inj hz
   obtain ⟨neg,A,l,cc,e0,e1,_⟩:=hc (i / 2) (by omega)
   rcases Nat.mod_two_eq_zero_or_one i with hm | hm
   · rw [show i / 2 * 2 = i by omega] at e0; rw [e0] at hz; cases hz
   · rw [show i / 2 * 2 + 1 = i by omega] at e1; rw [e1] at hz; cases hz
 · simp [arr,hi] at hz
theorem ORow.congr {w:World} {g c:Nat} {M M':Nat→Int} (h:ORow w g c M) (e:∀ j,j < c→M j = M' j):ORow w g c M':=by
 obtain ⟨h,hb,hc⟩:=h
 exact ⟨h,hb,fun j hj=>by rw [← e j hj]; exact hc j hj⟩
theorem ORow.lt {w:World} {g c:Nat} {M:Nat→Int} (h:ORow w g c M):g < w.heap.size:=by
 obtain ⟨h,hb,hc⟩:=h
 exact hb.lt
theorem arr_congr {n:Nat} {h h':Nat→Value} (e:∀ k,k < n→h k = h' k):arr n h = arr n h':=by
 apply Array.ext_getElem?
 intro j
 by_cases hj:j < n
 · rw [arr_at hj,arr_at hj,e j hj]
 · simp [arr,hj]
theorem ORow.keep {w w':World} {g c G T:Nat} {cs:Array Value} {M:Nat→Int} (h:ORow w g c M) (hb:Blk w G T cs) (hn:NoInt cs) (hC:Ch (fun b=>b = G) w w') (hne:g ≠ G):ORow w' g c M:=by
 obtain ⟨h,hbb,hc⟩:=h
 exact ⟨h,hbb.ch hC hne,fun j hj=>(hc j hj).keep hb hn hC⟩
theorem ORow.set {w w':World} {g c j:Nat} {h:Nat→Value} {M:Nat→Int} {x y:Value} {z:Int} (hb:Blk w g 41 (arr (c * 2) h)) (hc:∀ j,j < c→CV w (h (j * 2)) (h (j * 2 + 1)) (M j))
 (hv:CV w x y z) (hC:Ch (fun b=>b = g) w w') (hb':Blk w' g 41 (((arr (c * 2) h).setIfInBounds (0 + j * 2) x).setIfInBounds (0 + j * 2 + 1) y)):ORow w' g c (setZ M j z):=by
 refine ⟨_,by rw [arr_set,arr_set] at hb'; exact hb',fun k hk=>?_⟩
 have hn:=ORow.noInt hc
 by_cases hkj:k = j
 · subst hkj
   rw [Nat.zero_add,upd_ne _ _ (show k * 2 ≠ k * 2 + 1 by omega),upd_self,upd_self]
   simp only [setZ,if_true]
   exact hv.keep hb hn hC
 · rw [Nat.zero_add,upd_ne _ _ (by omega),upd_ne _ _ (by omega),upd_ne _ _ (by omega),upd_ne _ _ (by omega)]
   simp only [setZ,if_neg hkj]
   exact (hc k hk).keep hb hn hC
theorem noInt_rows {r:Nat} {h:Nat→Value} (hs:∀ i,i < r→∃ A m c,h i = .slice A m c):NoInt (arr r h):=by
 intro i k z hz
 by_cases hi:i < r
 · rw [arr_at hi] at hz
   obtain ⟨A,m,c,e⟩:=hs i hi
   rw [e] at hz; cases hz
 · simp [arr,hi] at hz
structure OMat (w:World) (gO:Nat) (gs:Nat→Nat) (r c:Nat) (M:Nat→Nat→Int):Prop where
 outer:Blk w gO 46 (arr r fun i=>.slice (some ⟨gs i,0,none⟩) c c)
 row:∀ i,i < r→ORow w (gs i) c (M i)
 ne:∀ i,i < r→gs i ≠ gO
 inj:∀ i j,i < r→j < r→gs i = gs j→i = j
theorem OMat.ext {w w':World} {gO:Nat} {gs:Nat→Nat} {r c:Nat} {M:Nat→Nat→Int} (h:OMat w gO gs r c M) (hE:Ext w w'):OMat w' gO gs r c M :=
 ⟨h.outer.ext hE,fun i hi=>(h.row i hi).ext hE,h.ne,h.inj⟩
def RM (w:World) (r c:Nat) (M:Nat→Nat→Int) (v:Value) (w':World):Prop :=
 Ext w w'∧∃ gO gs,v = .slice (some ⟨gO,0,none⟩) r r∧w.heap.size≤gO∧(∀ i,i < r→w.heap.size≤gs i)∧OMat w' gO gs r c M
def RowE (E:World→Value→Value→Int→Prop) (w:World) (v:Value) (c:Nat) (g:Nat→Int):Prop :=
 ∃ A cap,v = .slice A c cap∧c≤cap∧cap < 9223372036854775808∧∀ j,j < c→∃ ad x y,A = some ad∧w.cell? (ad.add (j * 2)) = some x∧w.cell? ((ad.add (j * 2)).add 1) = some y∧E w x y (g j)
def MatE (E:World→Value→Value→Int→Prop) (w:World) (v:Value) (r:Nat) (len:Nat→Nat) (M:Nat→Nat→Int):Prop :=
 ∃ A cap,v = .slice A r cap∧r≤cap∧cap < 9223372036854775808∧∀ i,i < r→∃ ad u,A = some ad∧w.cell? (ad.add (i * 1)) = some u∧RowE E w u (len i) (M i)
def EI (N:Nat):World→Value→Value→Int→Prop:=fun w x y z=>IV w N x y z
theorem RowE.ext {w w':World} {N c:Nat} {v:Value} {g:Nat→Int} (h:RowE (EI N) w v c g) (hE:Ext w w'):RowE (EI N) w' v c g:=by
 obtain ⟨A,cap,rfl,h1,h2,h3⟩:=h
 refine ⟨A,cap,rfl,h1,h2,fun j hj=>?_⟩
 obtain ⟨ad,x,y,e,hx,hy,hi⟩:=h3 j hj
 exact ⟨ad,x,y,e,cell_ext hE hx,cell_ext hE hy,IV.ext hi hE⟩
theorem MatE.ext {w w':World} {N r:Nat} {len:Nat→Nat} {v:Value} {M:Nat→Nat→Int} (h:MatE (EI N) w v r len M) (hE:Ext w w'):MatE (EI N) w' v r len M:=by
 obtain ⟨A,cap,rfl,h1,h2,h3⟩:=h
 refine ⟨A,cap,rfl,h1,h2,fun j hj=>?_⟩
 obtain ⟨ad,u,e,hu,hr⟩:=h3 j hj
 exact ⟨ad,u,e,cell_ext hE hu,hr.ext hE⟩
theorem ORow.read {w:World} {g c N:Nat} {M:Nat→Int} (h:ORow w g c M) (hN:∀ j,j < c→(M j).natAbs < B ^ N) (hc:c < 9223372036854775808):RowE (EI N) w (.slice (some ⟨g,0,none⟩) c c) c M:=by
 obtain ⟨h,hb,hv⟩:=h
 refine ⟨_,_,rfl,Nat.le_refl _,hc,fun j hj=>⟨_,h (j * 2),h (j * 2 + 1),rfl,?_,?_,(hv j hj).iv (hN j hj)⟩⟩
 · rw [add_lit,hb.cell,arr_at (by omega),Nat.zero_add]
 · rw [add_lit,add_lit,hb.cell,arr_at (by omega),Nat.zero_add]
theorem OMat.read {w:World} {gO:Nat} {gs:Nat→Nat} {r c N:Nat} {M:Nat→Nat→Int} (h:OMat w gO gs r c M) (hN:∀ i j,i < r→j < c→(M i j).natAbs < B ^ N) (hr:r < 9223372036854775808) (hc:c < 9223372036854775808) :
 MatE (EI N) w (.slice (some ⟨gO,0,none⟩) r r) r (fun _=>c) M :=
 ⟨_,_,rfl,Nat.le_refl _,hr,fun i hi=>⟨_,_,rfl,by rw [add_lit,h.outer.cell,arr_at (by omega),Nat.zero_add,Nat.mul_one],(h.row i hi).read (fun j hj=>hN i j hi hj) hc⟩⟩
end Go.Proofs.YtncbjgblcofddaaGreatDoor
namespace Go.Proofs.YtncbjgblcofddaaGreatDoor
open Go Go.Eng Go.Num Go.Proofs
set_option maxHeartbeats 8000000 in
theorem mbuild_ok (r c g:Nat) (cap:List Value) (M:Nat→Nat→Int) (w:World) (hr:r < 1073741824) (hc:c < 1073741824)
 (hf:∀ i j,i < r→j < c→∀ w',Ext w w'→Meets Tryz.prog g (.int .i64 ((i:Nat):Int) :: .int .i64 ((j:Nat):Int) :: cap).toArray w' (RI w' (M i j))) :
 Meets Tryz.prog 162 #[.int .i64 ((r:Nat):Int),.int .i64 ((c:Nat):Int),.func (.func g) #[] cap.toArray] w (RM w r c M):=by
 refine fn_W (n:=43) Tryz.func162 rfl rfl (by kernel_rfl) (by simp) ?_
 refine gg ?_
 refine R1_make sl_sInt (.inl rfl) rfl rfl (Nat.le_refl _) (by omega) (by omega) ?_
 intro w1 hB hE hsz
 rw [arr_made,Nat.mul_one] at hB
 refine gg ?_
 refine W_seqM (fun f w'=>∃ gs,f 7 = .slice (some ⟨w.heap.size,0,none⟩) r r∧Ext w w'∧(∀ i,i < r→w.heap.size < gs i)∧OMat w' w.heap.size gs r c M) ?_ ?_
 · refine gg ?_
   refine W_loop (fun m f w'=>∃ i gs h,m = r - i∧i≤r∧f 1 = .int .i64 ((c:Nat):Int)∧f 2 = .func (.func g) #[] cap.toArray∧f 7 = .slice (some ⟨w.heap.size,0,none⟩) r r∧f 13 = .int .i64 ((r:Nat):Int)∧f 14 = .int .i64 ((i:Nat):Int) ∧
    Ext w w'∧Blk w' w.heap.size 46 (arr r h)∧(∀ k,k < r→∃ A m c,h k = .slice A m c)∧(∀ k,k < i→h k = .slice (some ⟨gs k,0,none⟩) c c∧ORow w' (gs k) c (M k)∧w.heap.size < gs k)∧(∀ k k',k < i→k' < i→gs k = gs k'→k = k'))
    r ⟨0,fun _=>0,_,rfl,Nat.zero_le _,rfl,rfl,rfl,rfl,rfl,hE,hB,fun k _=>⟨none,0,0,by simp [Value.cells,Nat.mod_one]⟩,fun k hk=>absurd hk (by omega),fun k k' hk=>absurd hk (by omega)⟩ ?_
   clear hB hE hsz w1
   rintro m f w1 ⟨i,gs,h,rfl,hi,hf1,hf2,hf7,hf13,hf14,hE,hB,hsl,hrow,hinj⟩
   rw [ui hf1,ui hf2,ui hf7,ui hf13,ui hf14]
   clear hf1 hf2 hf7 hf13 hf14
   by_cases hlt:i < r
   · refine gg ?_
     refine R1_make sl_Int (.inl rfl) rfl rfl (Nat.le_refl _) (by omega) (by omega) ?_
     intro w2 hB2 hE2 hs2
     have hO:=orow_made hB2
     refine gg ?_
     refine R1_storeS (one_of rfl) (.inl rfl) rfl rfl (hB.ext hE2) (by rw [arr_size]; omega) ?_
     intro w3 hB3 hC3 hs3
     have hg:w.heap.size ≠ w1.heap.size:=by have:=hB.lt; omega
     have hO3:=hO.keep (hB.ext hE2) (noInt_rows hsl) hC3 hg.symm
     rw [arr_set,Nat.zero_add,Nat.mul_one] at hB3
     have hE3:Ext w w3:=hC3.ext_of (hE.trans hE2) (fun b hb=>by omega)
     have hlt3:w1.heap.size < w3.heap.size:=by omega
     have hx:w3.cell? ⟨w.heap.size,0 + i * 1,none⟩ = some (.slice (some ⟨w1.heap.size,0,none⟩) c c):=by
      rw [hB3.cell,arr_at (by omega),Nat.zero_add,Nat.mul_one,upd_self]
     have hrow3:∀ k,k < i→h k = .slice (some ⟨gs k,0,none⟩) c c∧ORow w3 (gs k) c (M k)∧w.heap.size < gs k∧gs k < w1.heap.size:=fun k hk=>by
      obtain ⟨e,ho,hl⟩:=hrow k hk
      refine ⟨e,(ho.ext hE2).keep (hB.ext hE2) (noInt_rows hsl) hC3 (by omega),hl,?_⟩
      obtain ⟨_,hb,_⟩:=ho; exact hb.lt
     clear hrow hC3 hO hB2 hB hE2
     refine gg ?_
     refine W_loop (fun m f w'=>∃ j Z,m = c - j∧j≤c∧f 1 = .int .i64 ((c:Nat):Int)∧f 2 = .func (.func g) #[] cap.toArray∧f 7 = .slice (some ⟨w.heap.size,0,none⟩) r r∧f 8 = .int .i64 ((i:Nat):Int)∧f 13 = .int .i64 ((r:Nat):Int)∧f 14 = .int .i64 ((i:Nat):Int) ∧
      f 26 = .int .i64 ((c:Nat):Int)∧f 27 = .int .i64 ((j:Nat):Int)∧Ext w w'∧Blk w' w.heap.size 46 (arr r (upd h i (.slice (some ⟨w1.heap.size,0,none⟩) c c)))∧(∀ k,k < i→ORow w' (gs k) c (M k))∧ORow w' w1.heap.size c Z∧∀ q,q < j→Z q = M i q)
      c ⟨0,fun _=>0,rfl,Nat.zero_le _,rfl,rfl,rfl,rfl,rfl,rfl,rfl,rfl,hE3,hB3,fun k hk=>(hrow3 k hk).2.1,hO3,fun q hq=>absurd hq (by omega)⟩ ?_
     have hrow4:∀ k,k < i→h k = .slice (some ⟨gs k,0,none⟩) c c∧w.heap.size < gs k∧gs k < w1.heap.size:=fun k hk=>⟨(hrow3 k hk).1,(hrow3 k hk).2.2⟩
     have hw1:=hE.size
     have hsl2:∀ k,k < r→∃ A m cc,upd h i (.slice (some ⟨w1.heap.size,0,none⟩) c c) k = .slice A m cc:=fun k hk=>by
      by_cases hki:k = i
      · subst hki; exact ⟨_,_,_,upd_self _ _ _⟩
      · rw [upd_ne _ _ hki]; exact hsl k hk
     clear hrow3 hO3 hB3 hE3 hx hs3 hlt3 w3 hs2 w2 f
     rintro m f w3 ⟨j,Z,rfl,hj,hf1,hf2,hf7,hf8,hf13,hf14,hf26,hf27,hE3,hB3,hR3,hO3,hZ⟩
     rw [ui hf1,ui hf2,ui hf7,ui hf8,ui hf13,ui hf14,ui hf26,ui hf27]
     clear hf1 hf2 hf7 hf8 hf13 hf14 hf26 hf27
     by_cases hjc:j < c
     · refine gg ?_
       refine W_regD [(0,3),(1,3),(2,3),(3,0),(4,3),(5,3),(6,3),(7,3),(8,1),(9,3),(10,2)] mixed (by kernel_rfl) (fun w4 hE4 _=>?_)
       have hx:w4.cell? ⟨w.heap.size,0 + i * 1,none⟩ = some (.slice (some ⟨w1.heap.size,0,none⟩) c c):=by
        rw [(hB3.ext hE4).cell,arr_at (by omega),Nat.zero_add,Nat.mul_one,upd_self]
       refine gg ?_
       refine R1_callv2 (.inr rfl) rfl rfl rfl (hf i j hlt hjc w4 (hE3.trans hE4)) ?_
       rintro _ w5 ⟨hE5,x,y,rfl,hcv⟩
       refine ⟨fun _=>hE5,?_⟩
       obtain ⟨hh,hBr,hcr⟩:=hO3.ext (hE4.trans hE5)
       refine gg ?_
       refine R1_store2 agg_Int (.inl rfl) rfl rfl hcv.one0 hcv.one1 hBr (by rw [arr_size]; omega) ?_
       intro w6 hB6 hC6 hs6
       have hO6:=ORow.set hBr hcr hcv hC6 hB6
       have hE6:Ext w w6:=hC6.ext_of ((hE3.trans hE4).trans hE5) (fun b hb=>by omega)
       have hg:w.heap.size ≠ w1.heap.size:=by have:=hB3.lt; omega
       refine gg ?_
       refine ⟨_,?_,j + 1,_,rfl,by omega,rfl,rfl,rfl,rfl,rfl,rfl,rfl,rfl,hE6,(hB3.ext (hE4.trans hE5)).ch hC6 hg,fun k hk=>((hR3 k hk).ext (hE4.trans hE5)).keep hBr (ORow.noInt hcr) hC6 (by have:=(hrow4 k hk).2.2; omega),hO6,fun q hq=>?_⟩
       · omega
       · unfold setZ
         split
         · rename_i e; rw [e]
         · exact hZ q (by omega)
     · refine gg ?_
       have:j = c:=by omega
       subst this
       refine ⟨_,?_,i + 1,fun k=>if k = i then w1.heap.size else gs k,_,rfl,by omega,rfl,rfl,rfl,rfl,rfl,hE3,hB3,hsl2,fun k hk=>?_,fun k k' hk hk' e=>?_⟩
       · omega
       · by_cases hki:k = i
         · subst hki
           rw [upd_self]
           simp only [if_true]
           exact ⟨trivial,hO3.congr hZ,by omega⟩
         · rw [upd_ne _ _ hki]
           simp only [if_neg hki]
           exact ⟨(hrow4 k (by omega)).1,hR3 k (by omega),(hrow4 k (by omega)).2.1⟩
       · simp only at e
         split at e <;> split at e
         · omega
         · have:=(hrow4 k' (by omega)).2.2; omega
         · have:=(hrow4 k (by omega)).2.2; omega
         · exact hinj k k' (by omega) (by omega) e
   · refine gg ?_
     have:i = r:=by omega
     subst this
     refine ⟨gs,rfl,hE,fun k hk=>(hrow k hk).2.2,⟨?_,fun k hk=>(hrow k hk).2.1,fun k hk=>by have:=(hrow k hk).2.2; omega,hinj⟩⟩
     rw [arr_congr (fun k hk=>(hrow k hk).1)] at hB
     exact hB
 · rintro f w2 ⟨gs,hf7,hE2,hlt,hO⟩
   rw [ui hf7]
   refine gg ?_
   exact ret1 (v:=.slice _ _ _) rfl rfl ⟨hE2,_,gs,rfl,Nat.le_refl _,fun i hi=>Nat.le_of_lt (hlt i hi),hO⟩
end Go.Proofs.YtncbjgblcofddaaGreatDoor
namespace Go.Proofs.YtncbjgblcofddaaGreatDoor
open Go Go.Eng Go.Num Go.Proofs
theorem ret3 {P:Program} {n:Nat} {f:Fr} {w:World} {fn:Func} {t u s:Tmp} {post:Value→World→Prop} {v v' v'':Value} (hr:fn.results = #[.tmp t,.tmp u,.tmp s]) (hv:ev n f (.tmp t) = v) (hv':ev n f (.tmp u) = v') (hs:ev n f (.tmp s) = v'') (h:post (.tuple #[v,v',v'']) w) :
 bodyPost P fn (Ret post) .ret (act n f) w:=by
 refine bodyPost_ret (v:=.tuple #[v,v',v'']) ?_ rfl ⟨_,rfl,h⟩
 have e:=congrFun (act_eval n f) (.tmp t)
 have e2:=congrFun (act_eval n f) (.tmp u)
 have e3:=congrFun (act_eval n f) (.tmp s)
 simp only [Act.eval] at e e2 e3
 have a:(act n f).tmps[t]?.getD undef = v:=by rw [← hv,← e]; simp
 have b:(act n f).tmps[u]?.getD undef = v':=by rw [← hv',← e2]; simp
 have c:(act n f).tmps[s]?.getD undef = v'':=by rw [← hs,← e3]; simp
 simp [results,hr,a,b,c]
def okM (r:Nat) (len:Nat→Nat):Bool:=decide (1≤r∧r≤16∧1≤len 0∧len 0≤16) && (List.range r).all fun i=>len i == len 0
theorem okM_iff {r:Nat} {len:Nat→Nat}:okM r len = true ↔ (1≤r∧r≤16∧1≤len 0∧len 0≤16)∧∀ i,i < r→len i = len 0:=by
 simp [okM,List.all_eq_true]
def shapeV (r:Nat) (len:Nat→Nat):Value :=
 bif okM r len then .tuple #[.int .i64 ((r:Nat):Int),.int .i64 ((len 0:Nat):Int),.bool true] else .tuple #[.int .i64 ((0:Nat):Int),.int .i64 ((0:Nat):Int),.bool false]
theorem shapeV_t {r:Nat} {len:Nat→Nat} (h:okM r len = true):shapeV r len = .tuple #[.int .i64 ((r:Nat):Int),.int .i64 ((len 0:Nat):Int),.bool true]:=by rw [shapeV,h]; rfl
theorem shapeV_f {r:Nat} {len:Nat→Nat} (h:¬ okM r len = true):shapeV r len = .tuple #[.int .i64 ((0:Nat):Int),.int .i64 ((0:Nat):Int),.bool false]:=by
 rw [shapeV]; simp at h; rw [h]; rfl
set_option maxHeartbeats 8000000 in
theorem shape_ok (E:World→Value→Value→Int→Prop) (v:Value) (r:Nat) (len:Nat→Nat) (M:Nat→Nat→Int) (w:World) (h:MatE E w v r len M) :
 Meets Tryz.prog 119 #[v] w fun v' w'=>w = w'∧v' = shapeV r len:=by
 obtain ⟨A,cap,rfl,hrc,hcap,hrow⟩:=h
 refine fn_W (n:=40) Tryz.func119 rfl rfl (by kernel_rfl) (by simp) ?_
 refine gg ?_
 refine W_seq ?_
 by_cases h1:r < 1
 · refine gg ?_
   refine ret3 (v:=.int _ _) (v':=.int _ _) (v'':=.bool _) rfl rfl rfl rfl ⟨rfl,?_⟩
   rw [shapeV_f (fun e=>by have:=okM_iff.1 e; omega)]
 by_cases h2:16 < r
 · refine gg ?_
   refine ret3 (v:=.int _ _) (v':=.int _ _) (v'':=.bool _) rfl rfl rfl rfl ⟨rfl,?_⟩
   rw [shapeV_f (fun e=>by have:=okM_iff.1 e; omega)]
 obtain ⟨ad,u,rfl,hu,A0,cap0,rfl,hr0⟩:=hrow 0 (by omega)
 have hx0:w.cell? (ad.add (((0:Nat):Nat) * 1)) = some (.slice A0 (len 0) cap0):=hu
 refine gg ?_
 refine W_seq ?_
 by_cases h3:len 0 < 1
 · refine gg ?_
   refine ret3 (v:=.int _ _) (v':=.int _ _) (v'':=.bool _) rfl rfl rfl rfl ⟨rfl,?_⟩
   rw [shapeV_f (fun e=>by have:=okM_iff.1 e; omega)]
 by_cases h4:16 < len 0
 · refine gg ?_
   refine ret3 (v:=.int _ _) (v':=.int _ _) (v'':=.bool _) rfl rfl rfl rfl ⟨rfl,?_⟩
   rw [shapeV_f (fun e=>by have:=okM_iff.1 e; omega)]
 refine gg ?_
 refine W_seq ?_
 refine gg ?_
 refine W_loop (fun m f w'=>w = w'∧∃ i,m = r - i∧i≤r∧f 0 = .slice (some ad) r cap∧f 5 = .int .i64 ((len 0:Nat):Int)∧f 26 = .slice (some ad) r cap∧f 27 = .int .i64 ((r:Nat):Int)∧f 28 = .int .i64 ((i:Nat):Int)∧∀ k,k < i→len k = len 0)
  r ⟨rfl,0,rfl,Nat.zero_le _,rfl,rfl,rfl,rfl,rfl,fun k hk=>absurd hk (by omega)⟩ ?_
 rintro m f w' ⟨rfl,i,rfl,hi,hf0,hf5,hf26,hf27,hf28,hk⟩
 rw [ui hf0,ui hf5,ui hf26,ui hf27,ui hf28]
 clear hf0 hf5 hf26 hf27 hf28
 by_cases hlt:i < r
 · obtain ⟨ad',u,e,hx,Ai,capi,rfl,hri⟩:=hrow i hlt
   obtain rfl:ad = ad':=Option.some.inj e
   by_cases hne:len i = len 0
   · refine gg ?_
     refine ⟨_,?_,rfl,i + 1,rfl,by omega,rfl,rfl,rfl,rfl,rfl,fun k hk'=>?_⟩
     · omega
     · rcases Nat.lt_succ_iff_lt_or_eq.1 hk' with h | h
       · exact hk k h
       · rw [h]; exact hne
   · refine gg ?_
     refine ret3 (v:=.int _ _) (v':=.int _ _) (v'':=.bool _) rfl rfl rfl rfl ⟨rfl,?_⟩
     rw [shapeV_f (fun e=>hne ((okM_iff.1 e).2 i hlt))]
 · refine gg ?_
   refine ret3 (v:=.int _ _) (v':=.int _ _) (v'':=.bool _) rfl rfl rfl rfl ⟨rfl,?_⟩
   rw [shapeV_t (okM_iff.2 ⟨⟨by omega,by omega,by omega,by omega⟩,fun k hk'=>hk k (by omega)⟩)]
set_option maxHeartbeats 8000000 in
theorem rshape_ok (E:World→Value→Value→Int→Prop) (v:Value) (r:Nat) (len:Nat→Nat) (M:Nat→Nat→Int) (w:World) (h:MatE E w v r len M) :
 Meets Tryz.prog 111 #[v] w fun v' w'=>Ext w w'∧v' = shapeV r len:=by
 obtain ⟨A,cap,rfl,hrc,hcap,hrow⟩:=h
 refine fn_W (n:=45) Tryz.func111 rfl rfl (by kernel_rfl) (by simp) ?_
 refine gg ?_
 refine W_seq ?_
 by_cases h1:r < 1
 · refine gg ?_
   refine ret3 (v:=.int _ _) (v':=.int _ _) (v'':=.bool _) rfl rfl rfl rfl ⟨Ext.refl _,?_⟩
   rw [shapeV_f (fun e=>by have:=okM_iff.1 e; omega)]
 by_cases h2:16 < r
 · refine gg ?_
   refine ret3 (v:=.int _ _) (v':=.int _ _) (v'':=.bool _) rfl rfl rfl rfl ⟨Ext.refl _,?_⟩
   rw [shapeV_f (fun e=>by have:=okM_iff.1 e; omega)]
 obtain ⟨ad,u,rfl,hu,A0,cap0,rfl,hr0⟩:=hrow 0 (by omega)
 have hx0:w.cell? (ad.add (((0:Nat):Nat) * 1)) = some (.slice A0 (len 0) cap0):=hu
 refine gg ?_
 refine W_seq ?_
 refine gg ?_
 refine W_loop (fun m f w'=>w = w'∧∃ i,m = r - i∧i≤r∧f 0 = .slice (some ad) r cap∧f 15 = .slice (some ad) r cap∧f 16 = .int .i64 ((r:Nat):Int)∧f 17 = .int .i64 ((i:Nat):Int)∧∀ k,k < i→len k = len 0∧1≤len 0∧len 0≤16)
  r ⟨rfl,0,rfl,Nat.zero_le _,rfl,rfl,rfl,rfl,fun k hk=>absurd hk (by omega)⟩ ?_
 rintro m f w' ⟨rfl,i,rfl,hi,hf0,hf15,hf16,hf17,hk⟩
 rw [ui hf0,ui hf15,ui hf16,ui hf17]
 clear hf0 hf15 hf16 hf17
 by_cases hlt:i < r
 · obtain ⟨ad',u,e,hx,Ai,capi,rfl,hri⟩:=hrow i hlt
   obtain rfl:ad = ad':=Option.some.inj e
   by_cases ha:len i < 1
   · refine gg ?_
     refine ret3 (v:=.int _ _) (v':=.int _ _) (v'':=.bool _) rfl rfl rfl rfl ⟨Ext.refl _,?_⟩
     rw [shapeV_f (fun e=>by have a:=okM_iff.1 e; have b:=a.2 i hlt; omega)]
   by_cases hb:16 < len i
   · refine gg ?_
     refine ret3 (v:=.int _ _) (v':=.int _ _) (v'':=.bool _) rfl rfl rfl rfl ⟨Ext.refl _,?_⟩
     rw [shapeV_f (fun e=>by have a:=okM_iff.1 e; have b:=a.2 i hlt; omega)]
   by_cases hne:len i = len 0
   · refine gg ?_
     refine ⟨_,?_,rfl,i + 1,rfl,by omega,rfl,rfl,rfl,rfl,fun k hk'=>?_⟩
     · omega
     · rcases Nat.lt_succ_iff_lt_or_eq.1 hk' with h | h
       · exact hk k h
       · rw [h]; omega
   · refine gg ?_
     refine ret3 (v:=.int _ _) (v':=.int _ _) (v'':=.bool _) rfl rfl rfl rfl ⟨Ext.refl _,?_⟩
     rw [shapeV_f (fun e=>hne ((okM_iff.1 e).2 i hlt))]
 · refine gg ?_
   refine W_seqD [(0,3),(1,3),(2,3),(3,3),(4,0),(5,3),(6,3),(7,3),(8,3)] mixed (by kernel_rfl) (fun w4 hE4 _=>?_)
   have hx4:=cell_ext hE4 hx0
   refine gg ?_
   refine ret3 (v:=.int _ _) (v':=.int _ _) (v'':=.bool _) rfl rfl rfl rfl ⟨hE4,?_⟩
   have:=hk 0 (by omega)
   rw [shapeV_t (okM_iff.2 ⟨⟨by omega,by omega,by omega,by omega⟩,fun k hk'=>(hk k (by omega)).1⟩)]
end Go.Proofs.YtncbjgblcofddaaGreatDoor
namespace Go.Proofs.YtncbjgblcofddaaGreatDoor
open Go Go.Eng Go.Num Go.Proofs
def sumTo:Nat→(Nat→Int)→Int
 | 0,_=>0
 | k + 1,f=>sumTo k f + f k
def Bd (N:Nat) (z:Int):Prop:=z.natAbs < B ^ N
theorem B_pos (N:Nat):0 < B ^ N:=Nat.pow_pos (by decide)
theorem Bd.mono {N N':Nat} {z:Int} (h:Bd N z) (hN:N≤N'):Bd N' z:=Nat.lt_of_lt_of_le h (Nat.pow_le_pow_right (by decide) hN)
theorem Bd.mul {N N':Nat} {a b:Int} (ha:Bd N a) (hb:Bd N' b):Bd (N + N') (a * b):=by
 unfold Bd at *
 rw [Int.natAbs_mul,Nat.pow_add]
 exact Nat.mul_lt_mul'' ha hb
theorem Bd.neg {N:Nat} {a:Int} (ha:Bd N a):Bd N (-a):=by unfold Bd at *; rw [Int.natAbs_neg]; exact ha
theorem two_B (N:Nat):B ^ N + B ^ N≤B ^ (N + 1):=by
 have:=Nat.mul_le_mul (Nat.le_refl (B ^ N)) (show 2≤B by decide)
 rw [Nat.pow_succ]; omega
theorem Bd.add {N:Nat} {a b:Int} (ha:Bd N a) (hb:Bd N b):Bd (N + 1) (a + b):=by
 unfold Bd at *
 have:=Int.natAbs_add_le a b
 have:=two_B N
 omega
theorem Bd.sub {N:Nat} {a b:Int} (ha:Bd N a) (hb:Bd N b):Bd (N + 1) (a - b):=by
 rw [Int.sub_eq_add_neg]; exact ha.add hb.neg
theorem Bd.ediv {N:Nat} {a b:Int} (ha:Bd N a):Bd N (a / b):=by
 unfold Bd at *
 exact Nat.lt_of_le_of_lt (Int.natAbs_ediv_le_natAbs _ _) ha
theorem Bd.zero (N:Nat):Bd N 0:=B_pos N
theorem sumTo_le (n N:Nat) (f:Nat→Int) (h:∀ k,k < n→Bd N (f k)):(sumTo n f).natAbs≤n * B ^ N:=by
 induction n with
 | zero=>simp [sumTo]
 | succ n ih =>
  have h1:=ih fun k hk=>h k (by omega)
  have h2:(f n).natAbs < B ^ N:=h n (by omega)
  have:=Int.natAbs_add_le (sumTo n f) (f n)
  rw [Nat.succ_mul]
  show (sumTo n f + f n).natAbs≤_
  omega
theorem sumTo_bd {n N:Nat} {f:Nat→Int} (hn:n < 4294967296) (h:∀ k,k < n→Bd N (f k)):Bd (N + 1) (sumTo n f):=by
 have h1:=sumTo_le n N f h
 have h2:n * B ^ N < B * B ^ N:=Nat.mul_lt_mul_of_pos_right hn (B_pos N)
 unfold Bd
 rw [Nat.pow_succ,Nat.mul_comm (B ^ N)]
 omega
theorem IV.mono {w:World} {N N':Nat} {x y:Value} {z:Int} (h:IV w N x y z) (hN:N≤N'):IV w N' x y z:=by
 obtain ⟨neg,A,l,c,h1,h2,h3,h4,h5,h6,h7⟩:=h
 exact ⟨neg,A,l,c,h1,h2,h3,h4,h5,by omega,h7⟩
theorem RowE.mono {w:World} {N N' c:Nat} {v:Value} {g:Nat→Int} (h:RowE (EI N) w v c g) (hN:N≤N'):RowE (EI N') w v c g:=by
 obtain ⟨A,cap,rfl,h1,h2,h3⟩:=h
 refine ⟨A,cap,rfl,h1,h2,fun j hj=>?_⟩
 obtain ⟨ad,x,y,e,hx,hy,hi⟩:=h3 j hj
 exact ⟨ad,x,y,e,hx,hy,IV.mono hi hN⟩
theorem MatE.mono {w:World} {N N' r:Nat} {len:Nat→Nat} {v:Value} {M:Nat→Nat→Int} (h:MatE (EI N) w v r len M) (hN:N≤N'):MatE (EI N') w v r len M:=by
 obtain ⟨A,cap,rfl,h1,h2,h3⟩:=h
 refine ⟨A,cap,rfl,h1,h2,fun j hj=>?_⟩
 obtain ⟨ad,u,e,hu,hr⟩:=h3 j hj
 exact ⟨ad,u,e,hu,hr.mono hN⟩
theorem blkP {w:World} {g T:Nat} {x y:Value} (h:Blk w g T #[x,y]):w.cell? ⟨g,0,none⟩ = some x∧w.cell? ((⟨g,0,none⟩ : Addr).add 1) = some y:=by
 refine ⟨by rw [h.cell]; rfl,by rw [add_lit,h.cell]; rfl⟩
theorem blkS {w:World} {g T:Nat} {x:Value} (h:Blk w g T #[x]):w.cell? ⟨g,0,none⟩ = some x:=by rw [h.cell]; rfl
def scal (a:Int):Nat→Nat→Int:=fun i j=>if i = j then a else 0
def mulM (n:Nat) (X Y:Nat→Nat→Int):Nat→Nat→Int:=fun i j=>sumTo n fun k=>X i k * Y k j
set_option maxHeartbeats 8000000 in
theorem scalar1_ok (i j g N:Nat) (x y:Value) (z:Int) (w:World) (hb:Blk w g 41 #[x,y]) (h:IV w N x y z) (hN:N < 1099511627776) :
 Meets Tryz.prog 199 #[.int .i64 ((i:Nat):Int),.int .i64 ((j:Nat):Int),.pointer (some ⟨g,0,none⟩)] w (RI w (scal z i j)):=by
 refine fn_W (n:=12) Tryz.func199 rfl rfl (by kernel_rfl) (by simp) ?_
 refine gg ?_
 refine R1_alloc (.inl rfl) z_Int ?_
 intro w1 hB hE hs
 obtain ⟨f0,f1⟩:=blkP (hb.ext hE)
 refine gg ?_
 refine W_seq ?_
 by_cases hij:i = j
 · refine gg ?_
   refine R1_call2 (normalize_ok _ _ _ N w1 (h.ext hE) hN) ?_
   rintro _ w5 ⟨hE5,x',y',rfl,hcv⟩
   refine gg ?_
   refine R1_store2 agg_Int (.inl rfl) rfl rfl hcv.one0 hcv.one1 (hB.ext hE5) (by decide) ?_
   intro w6 hB6 hC6 hs6
   refine gg ?_
   have hE6:Ext w w6:=hC6.ext_of (hE.trans hE5) (fun b hb=>by omega)
   refine retC rfl agg_Int rfl hB6 ⟨hE6,_,_,rfl,?_⟩
   rw [scal,if_pos hij]
   exact hcv.keep (hB.ext hE5) noInt2 hC6
 · refine gg ?_
   refine R1_bld0 b0_Int ?_
   refine gg ?_
   refine R1_store2 agg_Int (.inl rfl) rfl rfl rfl rfl hB (by decide) ?_
   intro w6 hB6 hC6 hs6
   refine gg ?_
   have hE6:Ext w w6:=hC6.ext_of hE (fun b hb=>by omega)
   refine retC rfl agg_Int rfl hB6 ⟨hE6,_,_,rfl,?_⟩
   rw [scal,if_neg hij]
   exact CV.zero _
set_option maxHeartbeats 8000000 in
theorem scalar_ok (n N:Nat) (x y:Value) (z:Int) (w:World) (h:IV w N x y z) (hN:N < 1099511627776) (hn:n < 1073741824) (_ho0:x.oneCell' = true) :
 Meets Tryz.prog 180 #[.int .i64 ((n:Nat):Int),.agg #[x,y]] w (RM w n n (scal z)):=by
 refine fn_W (n:=9) Tryz.func180 rfl rfl (by kernel_rfl) (by simp) ?_
 refine gg ?_
 refine R1_box (v:=.agg _) (.inl rfl) rfl ?_
 intro w1 hB hE hs
 refine gg ?_
 refine R1_func0 ?_
 refine gg ?_
 refine R1_call2 (mbuild_ok n n _ _ (scal z) w1 hn hn (fun i j _ _ w' hE'=>scalar1_ok i j _ N x y z w' (hB.ext hE') (h.ext (hE.trans hE')) hN)) ?_
 rintro v w2 ⟨hE2,gO,gs,rfl,hg,hgs,hO⟩
 refine gg ?_
 have:=hE.size
 exact ret1 (v:=.slice _ _ _) rfl rfl ⟨hE.trans hE2,gO,gs,rfl,by omega,fun i hi=>by have:=hgs i hi; omega,hO⟩
end Go.Proofs.YtncbjgblcofddaaGreatDoor
namespace Go.Eng
open Go
structure Flt where
 i:Nat
 d:Nat
 T:Nat
 cs:Array Value
 vl:Nat→Value
def Ag (D:List Nat) (f f1:Fr):Prop:=∀ i,D.contains i = false→f i = f1 i
def far (ops:Array Oper) (D:List Nat) (o:Oper):Bool:=D.all fun d=>!(o.looksAt ops).contains d && o.dst != some d
def dstIn (E:List Nat) (o:Oper):Bool:=match o.dst with | none=>true | some d=>E.contains d
def farAt (ops:Array Oper) (D E:List Nat) (i:Nat):Bool:=match ops[i]? with | none=>false | some o=>far ops D o && dstIn E o
def AgN (n:Nat) (E:List Nat) (f f1:Fr):Prop:=∀ i,i < n→E.contains i = false→f i = f1 i
section
variable {P:Program} {n:Nat} {ops:Array Oper} {D E:List Nat} {f f1:Fr} {w w':World} {o:Oper} {K:Fr→World→Prop}
theorem Ag.refl (D:List Nat) (f:Fr):Ag D f f:=fun _ _=>rfl
theorem far_look (hf:far ops D o = true) {t:Nat} (ht:t ∈ o.looksAt ops):D.contains t = false:=by
 cases hc:D.contains t with
 | false=>rfl
 | true =>
  exfalso
  simp only [far,List.all_eq_true,Bool.and_eq_true,Bool.not_eq_true'] at hf
  have h1:=(hf t (by simpa using hc)).1
  have h2:(o.looksAt ops).contains t = true:=by simpa using ht
  rw [h2] at h1; cases h1
theorem far_dst (hf:far ops D o = true) {t:Nat} (ht:o.dst = some t):D.contains t = false:=by
 cases hc:D.contains t with
 | false=>rfl
 | true =>
  exfalso
  simp only [far,List.all_eq_true,Bool.and_eq_true,Bool.not_eq_true'] at hf
  have h1:=(hf t (by simpa using hc)).2
  rw [ht] at h1; simp at h1
theorem far_eval (hs:∀ cs b,o.op ≠ .select cs b) (hf:far ops D o = true) (hA:Ag D f f1):execOp (ev n f) o = execOp (ev n f1) o:=by
 refine execOp_congr o hs fun x hx=>?_
 cases x with
 | tmp t =>
  have:D.contains t = false:=far_look hf (List.mem_append_left _ (List.mem_filterMap.2 ⟨.tmp t,by simpa using hx,rfl⟩))
  simp only [ev]; rw [hA t this]
 | const v=>rfl
 | global g=>rfl
 | func g=>rfl
theorem far_want (hf:far ops D o = true) (hA:Ag D f f1):want n ops f o = want n ops f1 o:=by
 unfold want Region.wanted
 cases hg:o.guard with
 | none=>rfl
 | some gw =>
  obtain ⟨g,wt⟩:=gw
  have hy:yielded ops (act n f).tmps g = yielded ops (act n f1).tmps g:=by
   unfold yielded
   cases ht:(ops[g]?).bind (·.dst) with
   | none=>rfl
   | some t =>
    have:D.contains t = false:=far_look hf (by simp [Oper.looksAt,hg,ht])
    by_cases hn:t < n
    · simp [act,hn,hA t this]
    · simp [act,hn]
  simp only [hy]
theorem Ag.upd (hA:Ag D f f1) (d:Option Nat) (v:Value):Ag D (updO f d v) (updO f1 d v):=by
 intro i hi
 cases d with
 | none=>exact hA i hi
 | some d =>
  simp only [updO]
  by_cases h:i = d
  · subst h; rw [upd_same,upd_same]
  · rw [upd_ne f v h,upd_ne f1 v h]; exact hA i hi
theorem far_keep (hf:far ops D o = true) (v:Value) {d:Nat} (hd:D.contains d = true):updO f o.dst v d = f d:=by
 cases h:o.dst with
 | none=>rfl
 | some t =>
  have:=far_dst hf h
  refine upd_ne f v ?_
  rintro rfl
  rw [hd] at this; cases this
theorem AgN.refl (n:Nat) (E:List Nat) (f:Fr):AgN n E f f:=fun _ _ _=>rfl
theorem AgN.trans {f2:Fr} (h:AgN n E f f1) (k:AgN n E f1 f2):AgN n E f f2:=fun i hi hE=>(h i hi hE).trans (k i hi hE)
theorem dst_keep (hf:dstIn E o = true) (v:Value) {i:Nat} (hi:E.contains i = false):updO f o.dst v i = f i:=by
 cases h:o.dst with
 | none=>rfl
 | some t =>
  refine upd_ne f v ?_
  rintro rfl
  simp only [dstIn,h] at hf
  rw [hi] at hf; cases hf
def Aft (n:Nat) (D E:List Nat) (f:Fr) (w:World) (K:Fr→World→Prop) (f':Fr) (w':World):Prop :=
 Ext w w'∧(∀ d,D.contains d = true→f' d = f d)∧AgN n E f' f∧∃ f1',Ag D f' f1'∧K f1' w'
theorem R1_ag {k:Nat} (hk:k ≠ 2) (hs:∀ cs b,o.op ≠ .select cs b) (hf:far ops D o = true) (hE:dstIn E o = true) (hA:Ag D f f1) (h:R1 P n Ext k o K f1 w):R1 P n Ext k o (Aft n D E f w K) f w:=by
 have he:=far_eval (n:=n) hs hf hA
 unfold R1 at h ⊢
 by_cases h0:k = 0
 · rw [if_pos h0] at h ⊢
   obtain ⟨v,hv,hK⟩:=h
   exact ⟨v,fun w' hw'=>by rw [he]; exact hv w' hw',Ext.refl _,fun d hd=>far_keep hf v hd,fun i _ hi=>dst_keep hE v hi,_,hA.upd o.dst v,hK⟩
 by_cases h3:k = 3
 · rw [if_neg h0,if_pos h3] at h ⊢
   obtain ⟨v,hv,hK⟩:=h
   exact ⟨v,fun w'=>by rw [he]; exact hv w',Ext.refl _,fun d hd=>far_keep hf v hd,fun i _ hi=>dst_keep hE v hi,_,hA.upd o.dst v,hK⟩
 · rw [if_neg h0,if_neg h3] at h ⊢
   unfold Oper.wp at h ⊢
   rw [act_eval] at h ⊢
   rw [he]
   have fin:∀ v w',(∃ f',act n (updO f1 o.dst v) = act n f'∧(k = 2 ∨ w' = w ∨ Ext w w')∧K f' w')→∃ f',act n (updO f o.dst v) = act n f'∧(k = 2 ∨ w' = w ∨ Ext w w')∧Aft n D E f w K f' w':=by
    rintro v w' ⟨f',e,hw,hK⟩
    have gt:∀ i,D.contains i = true→(bif D.contains i then f i else f' i) = f i:=fun i hi=>by rw [hi]; rfl
    have gf:∀ i,D.contains i = false→(bif D.contains i then f i else f' i) = f' i:=fun i hi=>by rw [hi]; rfl
    have e3:∀ i,i < n→updO f o.dst v i = bif D.contains i then f i else f' i:=fun i hi=>by
     have e2:updO f1 o.dst v i = f' i:=by
      have:=congrArg (fun a=>a.tmps[i]?) e
      simpa [act,hi] using this
     cases hd:D.contains i with
     | true=>exact far_keep hf v hd
     | false=>exact ((hA.upd o.dst v) i hd).trans e2
    refine ⟨fun i=>bif D.contains i then f i else f' i,?_,hw,?_,gt,fun i hi hEi=>(e3 i hi).symm.trans (dst_keep hE v hEi),f',gf,hK⟩
    · unfold act
      congr 1
      apply Array.ext_getElem?
      intro i
      by_cases hi:i < n
      · rw [Array.getElem?_ofFn,Array.getElem?_ofFn,dif_pos hi,dif_pos hi,e3 i hi]
      · rw [Array.getElem?_ofFn,Array.getElem?_ofFn,dif_neg hi,dif_neg hi]
    · rcases hw with hw | rfl | hw
      · omega
      · exact Ext.refl _
      · exact hw
   generalize (execOp (ev n f1) o).run P w = r at *
   cases r with
   | ok nx w' =>
    cases nx <;> simp only [Oper.upon] at h ⊢
    case value v=>rw [act_put] at h ⊢; exact fin v w' h
    case skip=>rw [act_put] at h ⊢; exact fin _ w' h
    case defer d =>
     exfalso
     obtain ⟨f',e,_⟩:=h
     have:=congrArg (fun a=>a.defers) e
     cases hd:o.dst <;> simp [act,hd,Act.put] at this
    case enter g args =>
     refine Calls.mono h fun e w'' hh=>?_
     cases e with
     | returned u=>simp only [] at hh ⊢; rw [act_put] at hh ⊢; exact fin u w'' hh
     | panicked c=>exact hh
     | outgrown=>obtain ⟨a,w,hq⟩:=hh; exact hq.elim
    case row row args=>exact Rows.mono h fun u w'' hh=>by rw [act_put] at hh ⊢; exact fin u w'' hh
   | halt x w' =>
    cases x <;> simp only [Oper.upon] at h ⊢
    case panic=>exact h
theorem R1_mono {k:Nat} {K':Fr→World→Prop} (hK:∀ f w,K f w→K' f w) (h:R1 P n Ext k o K f w):R1 P n Ext k o K' f w:=by
 unfold R1 at h ⊢
 split
 · rename_i h0
   rw [if_pos h0] at h
   obtain ⟨v,hv,hk⟩:=h
   exact ⟨v,hv,hK _ _ hk⟩
 rename_i h0
 rw [if_neg h0] at h
 split
 · rename_i h3
   rw [if_pos h3] at h
   obtain ⟨v,hv,hk⟩:=h
   exact ⟨v,hv,hK _ _ hk⟩
 · rename_i h3
   rw [if_neg h3] at h
   exact Oper.wp_mono (fun a' w' ⟨f',e,hw,hk⟩=>⟨f',e,hw,hK _ _ hk⟩) h
theorem Ro_mono {K':Fr→World→Prop} (hK:∀ f w,K f w→K' f w):∀ (ord:List (Nat × Nat)) (f:Fr) (w:World),Ro P n ops Ext K ord f w→Ro P n ops Ext K' ord f w:=by
 intro ord
 induction ord with
 | nil=>intro f w h; unfold Ro at h ⊢; exact hK f w h
 | cons ik rest ih =>
  obtain ⟨i,k⟩:=ik
  intro f w h
  unfold Ro at h ⊢
  obtain ⟨o,ho,h⟩:=h
  refine ⟨o,ho,?_⟩
  split
  · rename_i hw; rw [if_pos hw] at h; exact R1_mono ih h
  · rename_i hw; rw [if_neg hw] at h; exact ih _ _ h
theorem Ro_ag (hsel:Region.noSelect ops = true):∀ (ord:List (Nat × Nat)) (f f1:Fr) (w:World),(ord.all fun q=>farAt ops D E q.1 && q.2 != 2) = true→Ag D f f1→Ro P n ops Ext K ord f1 w→Ro P n ops Ext (Aft n D E f w K) ord f w:=by
 intro ord
 induction ord with
 | nil =>
  intro f f1 w _ hA h
  unfold Ro at h ⊢
  exact ⟨Ext.refl _,fun _ _=>rfl,AgN.refl _ _ _,f1,hA,h⟩
 | cons ik rest ih =>
  obtain ⟨i,k⟩:=ik
  intro f f1 w hfar hA h
  simp only [List.all_cons,Bool.and_eq_true] at hfar
  obtain ⟨⟨hfi,hk⟩,hrest⟩:=hfar
  unfold Ro at h ⊢
  obtain ⟨o,ho,h⟩:=h
  have hfo:far ops D o = true∧dstIn E o = true:=by simpa [farAt,ho] using hfi
  obtain ⟨hfo,hEo⟩:=hfo
  have hk:k ≠ 2:=by simpa using hk
  have hs:∀ cs b,o.op ≠ .select cs b:=fun cs b=>Region.noSelect_spec hsel i o cs b ho
  refine ⟨o,ho,?_⟩
  rw [far_want hfo hA]
  split
  · rename_i hw
    rw [if_pos hw] at h
    refine R1_mono ?_ (R1_ag hk hs hfo hEo hA h)
    rintro f' w' ⟨hE,hd,hN,f1',hA',hK⟩
    refine Ro_mono ?_ rest f' w' (ih f' f1' w' (by simpa using hrest) hA' hK)
    rintro f'' w'' ⟨hE',hd',hN',f1'',hA'',hK'⟩
    exact ⟨hE.trans hE',fun d hdd=>(hd' d hdd).trans (hd d hdd),hN'.trans hN,f1'',hA'',hK'⟩
  · rename_i hw
    rw [if_neg hw] at h
    refine Ro_mono ?_ rest _ w (ih _ _ w (by simpa using hrest) (hA.upd o.dst undef) h)
    rintro f'' w'' ⟨hE',hd',hN',f1'',hA'',hK'⟩
    exact ⟨hE',fun d hdd=>(hd' d hdd).trans (far_keep hfo _ hdd),fun i hi hh=>(hN' i hi hh).trans (dst_keep hEo _ hh),f1'',hA'',hK'⟩
def Rc (P:Program) (n:Nat) (ops:Array Oper) (K:Fr→World→Prop):List (Nat × List (Nat × Nat))→Fr→World→Prop
 | [],f,w=>∀ w',Ext w w'→K f w'
 | (i,qs) :: C,f,w=>∀ w',Ext w w'→Ro P n ops Ext (Rc P n ops K C) ((i,1) :: qs) f w'
theorem Rc.ext {C:List (Nat × List (Nat × Nat))} (h:Rc P n ops K C f w) (hE:Ext w w'):Rc P n ops K C f w':=by
 match C,h with
 | [],h=>exact fun w'' hE'=>h w'' (hE.trans hE')
 | (i,qs) :: C,h=>exact fun w'' hE'=>h w'' (hE.trans hE')
theorem Rc_nil (h:∀ w',Ext w w'→K f w'):Rc P n ops K [] f w:=h
theorem Rc_cons {i:Nat} {qs:List (Nat × Nat)} {C:List (Nat × List (Nat × Nat))} (h:∀ w',Ext w w'→Ro P n ops Ext (Rc P n ops K C) ((i,1) :: qs) f w'):Rc P n ops K ((i,qs) :: C) f w:=h
def upF (gs:Nat→Nat):List Flt→Fr→Fr
 | [],f=>f
 | a :: F,f=>upd (upF gs F f) a.d (a.vl (gs a.d))
def upd' (g:Nat→Nat) (d v:Nat):Nat→Nat:=fun i=>if i = d then v else g i
theorem upd'_same (g:Nat→Nat) (d v:Nat):upd' g d v d = v:=if_pos rfl
theorem upd'_ne (g:Nat→Nat) {d i:Nat} (v:Nat) (h:i ≠ d):upd' g d v i = g i:=if_neg h
def linkOk:Option Nat→List (Nat × List (Nat × Nat))→Mem'→Bool
 | _,[],_=>false
 | pv,(i,qs) :: C,g=>if i == g.1 then qs == g.2.1 && (match pv with | none=>true | some p=>g.2.2.contains p) else linkOk (some i) C g
def fltOk (ops:Array Oper) (G:List Mem') (C:List (Nat × List (Nat × Nat))) (F:List (Nat × Nat)) (E:List Nat):Bool :=
 Region.noSelect ops &&
 (C.all fun c=>farAt ops (F.map (·.2)) E c.1 && c.2.all fun q=>farAt ops (F.map (·.2)) E q.1 && q.2 != 2) &&
 (G.all fun g=>((F.map (·.1)).contains g.1 && g.2.1 == []) || linkOk none C g) &&
 (C.all fun c=>(G.map (·.1)).contains c.1 && !(F.map (·.1)).contains c.1) &&
 (F.all fun a=>(G.map (·.1)).contains a.1 && E.contains a.2) &&
 decide (C.map (·.1)).Nodup && decide (F.map (·.1)).Nodup && decide (F.map (·.2)).Nodup
theorem linkOk_spec {pv:Option Nat} {C:List (Nat × List (Nat × Nat))} {g:Mem'} (h:linkOk pv C g = true) :
 (∃ Y,C = (g.1,g.2.1) :: Y∧∀ p,pv = some p→g.2.2.contains p = true) ∨ ∃ X p pq Y,C = X ++ (p,pq) :: (g.1,g.2.1) :: Y∧g.2.2.contains p = true:=by
 induction C generalizing pv with
 | nil=>simp [linkOk] at h
 | cons c C ih =>
  obtain ⟨i,qs⟩:=c
  unfold linkOk at h
  split at h
  · rename_i e
    have e:i = g.1:=by simpa using e
    simp only [Bool.and_eq_true,beq_iff_eq] at h
    refine .inl ⟨C,by rw [e,h.1],fun p hp=>?_⟩
    subst hp
    exact h.2
  · rcases ih h with ⟨Y,rfl,hp⟩ | ⟨X,p,pq,Y,rfl,hp⟩
    · exact .inr ⟨[],i,qs,Y,rfl,hp i rfl⟩
    · exact .inr ⟨(i,qs) :: X,p,pq,Y,rfl,hp⟩
theorem upF_out (gs:Nat→Nat) (F:List Flt) (f:Fr) {i:Nat} (h:(F.map (·.d)).contains i = false):upF gs F f i = f i:=by
 induction F with
 | nil=>rfl
 | cons a F ih =>
  simp only [List.map_cons,List.contains_cons,Bool.or_eq_false_iff,beq_eq_false_iff_ne] at h
  unfold upF
  rw [upd_ne _ _ h.1]
  exact ih h.2
theorem upF_in (gs:Nat→Nat) (F:List Flt) (f:Fr) (hd:(F.map (·.d)).Nodup) {a:Flt} (ha:a ∈ F):upF gs F f a.d = a.vl (gs a.d):=by
 induction F with
 | nil=>cases ha
 | cons b F ih =>
  simp only [List.map_cons,List.nodup_cons] at hd
  unfold upF
  rcases List.mem_cons.1 ha with rfl | ha
  · rw [upd_same]
  · have:a.d ≠ b.d:=fun e=>hd.1 (by rw [← e]; exact List.mem_map_of_mem (f:=(·.d)) ha)
    rw [upd_ne _ _ this]
    exact ih hd.2 ha
theorem Rg_float {G:List Mem'} {suf:List (Nat × Nat)} (C:List (Nat × List (Nat × Nat))) (F:List Flt) (E:List Nat) (hok:fltOk ops G C (F.map fun a=>(a.i,a.d)) E = true)
 (hF:∀ a,a ∈ F→∀ f' w',AgN n E f' f→Ext w w'→Ro P n ops Ext (fun f'' w''=>f'' = upd f' a.d (a.vl w'.heap.size)∧Blk w'' w'.heap.size a.T a.cs∧Ext w' w'') [(a.i,1)] f' w')
 (hC:Rc P n ops (fun f1 w1=>∀ gs:Nat→Nat,(∀ a,a ∈ F→w.heap.size≤gs a.d∧Blk w1 (gs a.d) a.T a.cs)→(∀ a b,a ∈ F→b ∈ F→a.d ≠ b.d→gs a.d ≠ gs b.d)→Ro P n ops Ext K suf (upF gs F f1) w1) C f w) :
 Rg P n ops Ext G suf K f w:=by
 have e1:(F.map fun a=>(a.i,a.d)).map (·.1) = F.map (·.i):=by simp
 have e2:(F.map fun a=>(a.i,a.d)).map (·.2) = F.map (·.d):=by simp
 simp only [fltOk,Bool.and_eq_true,e1,e2,decide_eq_true_eq] at hok
 obtain ⟨⟨⟨⟨⟨⟨⟨hsel,hfar⟩,hG⟩,hCG⟩,hFG⟩,hnC⟩,hnI⟩,hnD⟩:=hok
 generalize hK0:(fun f1 w1=>∀ gs:Nat→Nat,(∀ a,a ∈ F→w.heap.size≤gs a.d∧Blk w1 (gs a.d) a.T a.cs)→(∀ a b,a ∈ F→b ∈ F→a.d ≠ b.d→gs a.d ≠ gs b.d)→Ro P n ops Ext K suf (upF gs F f1) w1) = K0 at hC
 have hFI:∀ a b,a ∈ F→b ∈ F→a.i = b.i→a = b:=by
  intro a b ha hb he
  obtain ⟨i,hi,rfl⟩:=List.getElem_of_mem ha
  obtain ⟨j,hj,rfl⟩:=List.getElem_of_mem hb
  have:i = j:=(List.getElem_inj (h₀:=by simpa using hi) (h₁:=by simpa using hj) hnI).1 (by simpa using he)
  subst this; rfl
 have hFD:∀ a b,a ∈ F→b ∈ F→a.d = b.d→a = b:=by
  intro a b ha hb he
  obtain ⟨i,hi,rfl⟩:=List.getElem_of_mem ha
  obtain ⟨j,hj,rfl⟩:=List.getElem_of_mem hb
  have:i = j:=(List.getElem_inj (h₀:=by simpa using hi) (h₁:=by simpa using hj) hnD).1 (by simpa using he)
  subst this; rfl
 have hFE:∀ a,a ∈ F→E.contains a.d = true:=fun a ha=>by
  have:=List.all_eq_true.1 hFG (a.i,a.d) (List.mem_map.2 ⟨a,ha,rfl⟩)
  simp only [Bool.and_eq_true] at this
  exact this.2
 refine Rg_intro (fun L f' w'=>Ext w w'∧AgN n E f' f∧∃ C1 C2 f1,C = C1 ++ C2∧(∀ c,c ∈ C1→L.contains c.1 = true)∧(∀ c,c ∈ C2→L.contains c.1 = false)∧Ag (F.map (·.d)) f' f1 ∧
  Rc P n ops K0 C2 f1 w' ∧
  ∃ gs:Nat→Nat,(∀ a,a ∈ F→L.contains a.i = true→f' a.d = a.vl (gs a.d)∧w.heap.size≤gs a.d∧Blk w' (gs a.d) a.T a.cs) ∧
   (∀ a b,a ∈ F→b ∈ F→L.contains a.i = true→L.contains b.i = true→a.d ≠ b.d→gs a.d ≠ gs b.d)) ?_ ?_ ?_
 · exact ⟨Ext.refl _,AgN.refl _ _ _,[],C,f,rfl,(fun c hc=>by cases hc),(fun c _=>rfl),Ag.refl _ _,hC,fun _=>0,(fun a _ h=>by cases h),fun a b _ _ h=>by cases h⟩
 · intro i qs nd hmem L f' w' hnd hni ⟨hE,hN,C1,C2,f1,hCC,hC1,hC2,hA,hRc,gs,hgs,hdis⟩
   have hg:=List.all_eq_true.1 hG _ hmem
   simp only [Bool.or_eq_true,Bool.and_eq_true,beq_iff_eq] at hg
   rcases hg with ⟨hfl,hqs⟩ | hlink
   · -- a float
     subst hqs
     have hfl:i ∈ F.map (·.i):=by simpa using hfl
     obtain ⟨a,ha,rfl⟩:=List.mem_map.1 hfl
     refine Ro_mono ?_ _ _ _ (hF a ha f' w' hN hE)
     rintro f'' w'' ⟨rfl,hB,hE2⟩
     have hlt:∀ b,b ∈ F→L.contains b.i = true→gs b.d < w'.heap.size:=fun b hb hL=>(hgs b hb hL).2.2.lt
     have hne:∀ b,b ∈ F→L.contains b.i = true→b.d ≠ a.d:=fun b hb hL e=>by
      have:=hFD b a hb ha e
      subst this
      rw [hL] at hni; cases hni
     refine ⟨hE.trans hE2,fun j hj hEj=>?_,C1,C2,f1,hCC,fun c hc=>?_,fun c hc=>?_,fun j hj=>?_,hRc.ext hE2,upd' gs a.d w'.heap.size,fun b hb hL=>?_,fun b c hb hc hbL hcL hbc=>?_⟩
     · rw [upd_ne _ _ (by rintro rfl; rw [hFE a ha] at hEj; cases hEj)]; exact hN j hj hEj
     · have:=hC1 c hc
       simp only [List.contains_cons,Bool.or_eq_true]; exact .inr this
     · have h1:=hC2 c hc
       have h2:c ∈ C:=by rw [hCC]; exact List.mem_append_right _ hc
       have h3:=List.all_eq_true.1 hCG c h2
       simp only [Bool.and_eq_true,Bool.not_eq_true'] at h3
       simp only [List.contains_cons,Bool.or_eq_false_iff,beq_eq_false_iff_ne]
       refine ⟨fun e=>?_,h1⟩
       have:(F.map (·.i)).contains c.1 = true:=by rw [e]; simpa using ⟨a,ha,rfl⟩
       rw [this] at h3; cases h3.2
     · rw [upd_ne _ _ (by
        rintro rfl
        have:(F.map (·.d)).contains a.d = true:=by simpa using ⟨a,ha,rfl⟩
        rw [this] at hj; cases hj)]
       exact hA j hj
     · simp only [List.contains_cons,Bool.or_eq_true,beq_iff_eq] at hL
       by_cases hba:b.d = a.d
       · have:=hFD b a hb ha hba
         subst this
         rw [upd_same,upd'_same]
         exact ⟨rfl,hE.size,hB⟩
       · have hbL:L.contains b.i = true:=by
          rcases hL with h | h
          · exact absurd (congrArg Flt.d (hFI b a hb ha h)) hba
          · exact h
         obtain ⟨h1,h2,h3⟩:=hgs b hb hbL
         rw [upd_ne _ _ hba,upd'_ne _ _ hba]
         exact ⟨h1,h2,h3.ext hE2⟩
     · simp only [List.contains_cons,Bool.or_eq_true,beq_iff_eq] at hbL hcL
       have key:∀ x,x ∈ F→(x.i = a.i ∨ L.contains x.i = true)→x.d ≠ a.d→L.contains x.i = true:=fun x hx h hne=>by
        rcases h with h | h
        · exact absurd (congrArg Flt.d (hFI x a hx ha h)) hne
        · exact h
       by_cases hba:b.d = a.d
       · have hca:c.d ≠ a.d:=fun e=>hbc (hba.trans e.symm)
         have:=hlt c hc (key c hc hcL hca)
         rw [hba,upd'_same,upd'_ne _ _ hca]; omega
       · by_cases hca:c.d = a.d
         · have:=hlt b hb (key b hb hbL hba)
           rw [hca,upd'_same,upd'_ne _ _ hba]; omega
         · rw [upd'_ne _ _ hba,upd'_ne _ _ hca]
           exact hdis b c hb hc (key b hb hbL hba) (key c hc hcL hca) hbc
   · -- a link of the chain
     have hhead:∃ C3,C2 = (i,qs) :: C3:=by
      have notin:(i,qs) ∉ C1:=fun h=>by rw [hC1 _ h] at hni; cases hni
      rcases linkOk_spec hlink with ⟨Y,hY,_⟩ | ⟨X,p,pq,Y,hY,hp⟩
      · rcases C1 with _ | ⟨c1,C1⟩
        · exact ⟨Y,by rw [hCC] at hY; exact hY⟩
        · exfalso
          rw [hCC] at hY
          injection hY with h1 _
          exact notin (by rw [h1]; exact List.mem_cons_self)
      · have hpL:L.contains p = true:=List.all_eq_true.1 hnd p (by simpa using hp)
        have notp:∀ pq,(p,pq) ∉ C2:=fun pq h=>by have:=hC2 _ h; rw [hpL] at this; cases this
        rw [hCC] at hY
        rcases List.append_eq_append_iff.1 hY with ⟨Z,hZ1,hZ2⟩ | ⟨Z,hZ1,hZ2⟩
        · exfalso; exact notp pq (by rw [hZ2]; exact List.mem_append_right _ List.mem_cons_self)
        · rcases Z with _ | ⟨z,Z⟩
          · exfalso; exact notp pq (by rw [List.nil_append] at hZ2; rw [← hZ2]; exact List.mem_cons_self)
          · injection hZ2 with hz1 hz2
            rcases Z with _ | ⟨z',Z⟩
            · exact ⟨Y,hz2.symm⟩
            · exfalso
              injection hz2 with hz3 _
              exact notin (by rw [hZ1,← hz3]; exact List.mem_append_right _ (List.mem_cons_of_mem _ List.mem_cons_self))
     obtain ⟨C3,rfl⟩:=hhead
     have hcf:=List.all_eq_true.1 hfar (i,qs) (by rw [hCC]; exact List.mem_append_right _ List.mem_cons_self)
     have hcf:(((i,1) :: qs).all fun q=>farAt ops (F.map (·.d)) E q.1 && q.2 != 2) = true:=by
      simp only [Bool.and_eq_true] at hcf
      simp only [List.all_cons,Bool.and_eq_true]
      exact ⟨⟨hcf.1,rfl⟩,hcf.2⟩
     refine Ro_mono ?_ _ _ _ (Ro_ag hsel _ f' f1 w' hcf hA (hRc w' (Ext.refl _)))
     rintro f'' w'' ⟨hE2,hd,hN2,f1',hA',hRc'⟩
     have hnc:∀ c,c ∈ C3→c.1 ≠ i:=fun c hc e=>by
      rw [hCC,List.map_append,List.map_cons] at hnC
      have:=(List.nodup_append.1 hnC).2.1
      rw [List.nodup_cons] at this
      exact this.1 (by rw [← e]; exact List.mem_map_of_mem (f:=(·.1)) hc)
     have hia:∀ a,a ∈ F→a.i ≠ i:=fun a ha e=>by
      have h3:=List.all_eq_true.1 hCG (i,qs) (by rw [hCC]; exact List.mem_append_right _ List.mem_cons_self)
      simp only [Bool.and_eq_true,Bool.not_eq_true'] at h3
      have:(F.map (·.i)).contains i = true:=by rw [← e]; simpa using ⟨a,ha,rfl⟩
      rw [this] at h3; cases h3.2
     have hLa:∀ a,a ∈ F→(i :: L).contains a.i = true→L.contains a.i = true:=fun a ha h=>by
      simp only [List.contains_cons,Bool.or_eq_true,beq_iff_eq] at h
      rcases h with h | h
      · exact absurd h (hia a ha)
      · exact h
     refine ⟨hE.trans hE2,hN2.trans hN,C1 ++ [(i,qs)],C3,f1',by rw [hCC,List.append_assoc]; rfl,fun c hc=>?_,fun c hc=>?_,hA',hRc',gs,fun a ha hL=>?_,fun a b ha hb h1 h2=>hdis a b ha hb (hLa a ha h1) (hLa b hb h2)⟩
     · simp only [List.contains_cons,Bool.or_eq_true,beq_iff_eq]
       rcases List.mem_append.1 hc with h | h
       · exact .inr (hC1 c h)
       · left; simp at h; rw [h]
     · simp only [List.contains_cons,Bool.or_eq_false_iff,beq_eq_false_iff_ne]
       exact ⟨hnc c hc,hC2 c (List.mem_cons_of_mem _ hc)⟩
     · obtain ⟨h1,h2,h3⟩:=hgs a ha (hLa a ha hL)
       exact ⟨(hd a.d (by simpa using ⟨a,ha,rfl⟩)).trans h1,h2,h3.ext hE2⟩
 · intro L f' w' hall ⟨hE,hN,C1,C2,f1,hCC,hC1,hC2,hA,hRc,gs,hgs,hdis⟩
   have hin:∀ i,(G.map (·.1)).contains i = true→L.contains i = true:=fun i hi=>by
    have hi:i ∈ G.map (·.1):=by simpa using hi
    obtain ⟨g,hg,rfl⟩:=List.mem_map.1 hi
    exact List.all_eq_true.1 hall g hg
   rcases C2 with _ | ⟨c,C2⟩
   · have hFL:∀ a,a ∈ F→L.contains a.i = true:=fun a ha=>hin _ (by
      have:=List.all_eq_true.1 hFG (a.i,a.d) (List.mem_map.2 ⟨a,ha,rfl⟩)
      simp only [Bool.and_eq_true] at this
      exact this.1)
     have hfin:=hRc w' (Ext.refl _)
     rw [← hK0] at hfin
     have:=hfin gs (fun a ha=>(hgs a ha (hFL a ha)).2) (fun a b ha hb=>hdis a b ha hb (hFL a ha) (hFL b hb))
     have e:upF gs F f1 = f':=by
      funext j
      cases hj:(F.map (·.d)).contains j with
      | false=>rw [upF_out gs F f1 hj]; exact (hA j hj).symm
      | true =>
       have hj:j ∈ F.map (·.d):=by simpa using hj
       obtain ⟨a,ha,rfl⟩:=List.mem_map.1 hj
       rw [upF_in gs F f1 hnD ha]
       exact (hgs a ha (hFL a ha)).1.symm
     rw [e] at this
     exact this
   · exfalso
     have h1:=hC2 c List.mem_cons_self
     have h2:=List.all_eq_true.1 hCG c (by rw [hCC]; exact List.mem_append_right _ List.mem_cons_self)
     simp only [Bool.and_eq_true] at h2
     rw [hin _ h2.1] at h1; cases h1
def fA (i d t:Nat) (z:Value):Flt:=⟨i,d,t,z.cells,fun g=>.pointer (some ⟨g,0,none⟩)⟩
theorem flt_alloc {i d t ty:Nat} {z:Value} {pos:String} {aft:Array Edge} (hz:ZeroTy P t z) (ho:ops[i]? = some ⟨some d,.alloc t,ty,pos,aft,none⟩) (f':Fr) (w':World) :
 Ro P n ops Ext (fun f'' w''=>f'' = upd f' d ((fA i d t z).vl w'.heap.size)∧Blk w'' w'.heap.size t z.cells∧Ext w' w'') [(i,1)] f' w':=by
 refine Ro_head ho rfl ?_
 refine R1_alloc (.inr ⟨rfl,fun _ h=>h⟩) hz ?_
 intro w'' hB hE _
 exact Ro_nil ⟨rfl,hB,hE⟩
end
end Go.Eng
namespace Go.Proofs.YtncbjgblcofddaaGreatDoor
open Go Go.Eng Go.Num Go.Proofs
def Kp (w w':World):Prop:=∀ p z,w.cell? p = some (.int .u32 z)→w'.cell? p = some (.int .u32 z)
theorem Kp.trans {w w' w'':World} (h:Kp w w') (k:Kp w' w''):Kp w w'':=fun p z hp=>k p z (h p z hp)
theorem kp_ext {w w':World} (h:Ext w w'):Kp w w':=fun _ _ hp=>cell_ext h hp
def NoU (cs:Array Value):Prop:=∀ (i:Nat) (z:Int),cs[i]? ≠ some (.int .u32 z)
theorem NoInt.noU {cs:Array Value} (h:NoInt cs):NoU cs:=fun i z=>h i .u32 z
theorem kp_ch {w w':World} {g T:Nat} {cs:Array Value} (hb:Blk w g T cs) (hn:NoU cs) (hC:Ch (fun b=>b = g) w w'):Kp w w':=fun p z hp=>by
 rw [← hp]
 refine cell_ch hC (World.block_lt_of_cell? w _ hp) (fun hg=>?_)
 obtain ⟨i,hi⟩:=cell_blk hb hg hp
 exact hn _ _ hi
theorem Mag.kp {w w':World} {A:Option Addr} {l:List Nat} (h:Mag w A l) (hk:Kp w w'):Mag w' A l :=
 ⟨h.lim,fun j hj=>by obtain ⟨ad,e,hc⟩:=h.cell j hj; exact ⟨ad,e,hk _ _ hc⟩⟩
theorem IV.kp {w w':World} {N:Nat} {x y:Value} {z:Int} (h:IV w N x y z) (hk:Kp w w'):IV w' N x y z:=by
 obtain ⟨neg,A,l,c,h1,h2,h3,h4,h5,h6,h7⟩:=h
 exact ⟨neg,A,l,c,h1,h2,h3,h4,h5.kp hk,h6,h7⟩
theorem CV.kp {w w':World} {x y:Value} {z:Int} (h:CV w x y z) (hk:Kp w w'):CV w' x y z:=by
 obtain ⟨neg,A,l,c,h1,h2,h3,h4,h5,h6,h7⟩:=h
 exact ⟨neg,A,l,c,h1,h2,h3,h4,h5.kp hk,h6,h7⟩
def EV (w:World) (N:Nat) (cn:Bool) (x y:Value) (z:Int):Prop:=IV w N x y z∧(cn = true→CV w x y z)
theorem EV.kp {w w':World} {N:Nat} {cn:Bool} {x y:Value} {z:Int} (h:EV w N cn x y z) (hk:Kp w w'):EV w' N cn x y z:=⟨h.1.kp hk,fun e=>(h.2 e).kp hk⟩
theorem EV.ext {w w':World} {N:Nat} {cn:Bool} {x y:Value} {z:Int} (h:EV w N cn x y z) (hE:Ext w w'):EV w' N cn x y z:=h.kp (kp_ext hE)
theorem EV.mono {w:World} {N N':Nat} {cn:Bool} {x y:Value} {z:Int} (h:EV w N cn x y z) (hN:N≤N'):EV w N' cn x y z:=⟨h.1.mono hN,h.2⟩
theorem CV.ev {w:World} {N:Nat} {x y:Value} {z:Int} (cn:Bool) (h:CV w x y z) (hz:Bd N z):EV w N cn x y z:=⟨h.iv hz,fun _=>h⟩
theorem IV.one0 {w:World} {N:Nat} {x y:Value} {z:Int} (h:IV w N x y z):x.oneCell' = true:=by obtain ⟨neg,A,l,c,rfl,_⟩:=h; rfl
theorem IV.one1 {w:World} {N:Nat} {x y:Value} {z:Int} (h:IV w N x y z):y.oneCell' = true:=by obtain ⟨neg,A,l,c,_,rfl,_⟩:=h; rfl
theorem IV.noU {w:World} {N:Nat} {x y:Value} {z:Int} (h:IV w N x y z):NoU #[x,y]:=by
 obtain ⟨neg,A,l,c,rfl,rfl,_⟩:=h; exact noInt2.noU
theorem IV.bd {w:World} {N:Nat} {x y:Value} {z:Int} (h:IV w N x y z):Bd N z:=h.abs
theorem EV.bd {w:World} {N:Nat} {cn:Bool} {x y:Value} {z:Int} (h:EV w N cn x y z):Bd N z:=h.1.abs
def Bx (w:World) (g N:Nat) (cn:Bool) (z:Int):Prop:=∃ x y,Blk w g 41 #[x,y]∧EV w N cn x y z
theorem Bx.kp {w w':World} {g N:Nat} {cn:Bool} {z:Int} {M:Nat→Prop} (h:Bx w g N cn z) (hk:Kp w w') (hC:Ch M w w') (hn:¬ M g):Bx w' g N cn z:=by
 obtain ⟨x,y,hb,hv⟩:=h
 exact ⟨x,y,hb.ch hC hn,hv.kp hk⟩
theorem Bx.ext {w w':World} {g N:Nat} {cn:Bool} {z:Int} (h:Bx w g N cn z) (hE:Ext w w'):Bx w' g N cn z:=h.kp (kp_ext hE) hE id
theorem Bx.lt {w:World} {g N:Nat} {cn:Bool} {z:Int} (h:Bx w g N cn z):g < w.heap.size:=by obtain ⟨x,y,hb,_⟩:=h; exact hb.lt
theorem Bx.zero {w:World} {g N:Nat} (cn:Bool) (h:Blk w g 41 (Value.agg #[.bool false,.slice none 0 0]).cells):Bx w g N cn 0 :=
 ⟨_,_,h,(CV.zero w).ev cn (Bd.zero N)⟩
section
variable {n:Nat} {S:World→World→Prop} {k:Nat} {K:Fr→World→Prop} {f:Fr} {w:World}
 {d ty t t2:Nat} {x y:Operand} {pos:String} {aft:Array Edge} {gd:Option (Nat × Bool)}
theorem R1_storeBx {g N N':Nat} {cn:Bool} {z z':Int} {a b:Value} (h0:k = 2 ∨ k = 1∧∀ w',Ch (fun b=>b = g) w w'→S w w') (hx:ev n f x = .pointer (some ⟨g,0,none⟩)) (hy:ev n f y = .agg #[a,b]) (hb:Bx w g N cn z) (hv:EV w N' cn a b z')
 (h:∀ w',Bx w' g N' cn z'→Ch (fun b=>b = g) w w'→Kp w w'→w'.heap.size = w.heap.size→K f w') :
 R1 Tryz.prog n S k ⟨none,.store 41 x y,ty,pos,aft,gd⟩ K f w:=by
 obtain ⟨u,v,hB,hu⟩:=hb
 refine R1_store2 agg_Int h0 hx hy hv.1.one0 hv.1.one1 hB (by simp) ?_
 intro w' hB' hC hs
 have hk:=kp_ch hB hu.1.noU hC
 exact h w' ⟨a,b,hB',hv.kp hk⟩ hC hk hs
end
def setN (b:Nat→Nat) (j N:Nat):Nat→Nat:=fun k=>if k = j then N else b k
def RowB (w:World) (g c:Nat) (cn:Bool) (bn:Nat→Nat) (M:Nat→Int):Prop :=
 ∃ h,Blk w g 41 (arr (c * 2) h)∧∀ j,j < c→EV w (bn j) cn (h (j * 2)) (h (j * 2 + 1)) (M j)
theorem RowB.lt {w:World} {g c:Nat} {cn:Bool} {bn:Nat→Nat} {M:Nat→Int} (h:RowB w g c cn bn M):g < w.heap.size:=by obtain ⟨_,hb,_⟩:=h; exact hb.lt
theorem RowB.kp {w w':World} {g c:Nat} {cn:Bool} {bn:Nat→Nat} {M:Nat→Int} {MM:Nat→Prop} (h:RowB w g c cn bn M) (hk:Kp w w') (hC:Ch MM w w') (hn:¬ MM g):RowB w' g c cn bn M:=by
 obtain ⟨h,hb,hc⟩:=h
 exact ⟨h,hb.ch hC hn,fun j hj=>(hc j hj).kp hk⟩
theorem RowB.ext {w w':World} {g c:Nat} {cn:Bool} {bn:Nat→Nat} {M:Nat→Int} (h:RowB w g c cn bn M) (hE:Ext w w'):RowB w' g c cn bn M:=h.kp (kp_ext hE) hE id
theorem RowB.congr {w:World} {g c:Nat} {cn:Bool} {bn bn':Nat→Nat} {M M':Nat→Int} (h:RowB w g c cn bn M) (e:∀ j,j < c→bn j≤bn' j∧M j = M' j):RowB w g c cn bn' M':=by
 obtain ⟨h,hb,hc⟩:=h
 exact ⟨h,hb,fun j hj=>by rw [← (e j hj).2]; exact (hc j hj).mono (e j hj).1⟩
theorem rowB_noInt {w:World} {c:Nat} {cn:Bool} {h:Nat→Value} {bn:Nat→Nat} {M:Nat→Int} (hc:∀ j,j < c→EV w (bn j) cn (h (j * 2)) (h (j * 2 + 1)) (M j)):NoInt (arr (c * 2) h):=by
 intro i k z hz
 by_cases hi:i < c * 2
 · rw [arr_at hi] at hz
   have hz:=Option.some.inj hz
   obtain ⟨neg,A,l,cc,e0,e1,_⟩:=(hc (i / 2) (by omega)).1
   rcases Nat.mod_two_eq_zero_or_one i with hm | hm
   · rw [show i / 2 * 2 = i by omega] at e0; rw [e0] at hz; cases hz
   · rw [show i / 2 * 2 + 1 = i by omega] at e1; rw [e1] at hz; cases hz
 · simp [arr,hi] at hz
theorem RowB.at {w:World} {g c j:Nat} {cn:Bool} {bn:Nat→Nat} {M:Nat→Int} (h:RowB w g c cn bn M) (hj:j < c) :
 ∃ x y,w.cell? ⟨g,0 + j * 2,none⟩ = some x∧w.cell? ((⟨g,0 + j * 2,none⟩ : Addr).add 1) = some y∧EV w (bn j) cn x y (M j):=by
 obtain ⟨h,hb,hc⟩:=h
 refine ⟨_,_,?_,?_,hc j hj⟩
 · rw [hb.cell,arr_at (by omega),Nat.zero_add]
 · rw [add_lit,hb.cell,arr_at (by omega),Nat.zero_add]
theorem rowB_made {w:World} {g c:Nat} (cn:Bool) (N:Nat) (h:Blk w g 41 (madeCells (Value.agg #[.bool false,.slice none 0 0]).cells (c * 2))):RowB w g c cn (fun _=>N) (fun _=>0):=by
 obtain ⟨h,hb,hc⟩:=orow_made h
 exact ⟨h,hb,fun j hj=>(hc j hj).ev cn (Bd.zero N)⟩
section
variable {n:Nat} {S:World→World→Prop} {k:Nat} {K:Fr→World→Prop} {f:Fr} {w:World}
 {d ty t t2:Nat} {x y:Operand} {pos:String} {aft:Array Edge} {gd:Option (Nat × Bool)}
theorem R1_storeE {g c j N:Nat} {cn:Bool} {bn:Nat→Nat} {M:Nat→Int} {z:Int} {a b:Value} (h0:k = 2 ∨ k = 1∧∀ w',Ch (fun b=>b = g) w w'→S w w') (hx:ev n f x = .pointer (some ⟨g,0 + j * 2,none⟩)) (hy:ev n f y = .agg #[a,b]) (hr:RowB w g c cn bn M) (hj:j < c) (hv:EV w N cn a b z)
 (h:∀ w',RowB w' g c cn (setN bn j N) (setZ M j z)→Ch (fun b=>b = g) w w'→Kp w w'→w'.heap.size = w.heap.size→K f w') :
 R1 Tryz.prog n S k ⟨none,.store 41 x y,ty,pos,aft,gd⟩ K f w:=by
 obtain ⟨hh,hB,hc⟩:=hr
 refine R1_store2 agg_Int h0 hx hy hv.1.one0 hv.1.one1 hB (by rw [arr_size]; omega) ?_
 intro w' hB' hC hs
 have hk:=kp_ch hB (rowB_noInt hc).noU hC
 refine h w' ⟨_,by rw [arr_set,arr_set] at hB'; exact hB',fun q hq=>?_⟩ hC hk hs
 by_cases hqj:q = j
 · subst hqj
   rw [Nat.zero_add,upd_ne _ _ (show q * 2 ≠ q * 2 + 1 by omega),upd_self,upd_self]
   simp only [setZ,setN,if_true]
   exact hv.kp hk
 · rw [Nat.zero_add,upd_ne _ _ (by omega),upd_ne _ _ (by omega),upd_ne _ _ (by omega),upd_ne _ _ (by omega)]
   simp only [setZ,setN,if_neg hqj]
   exact (hc q hq).kp hk
end
def set2 {α:Type} (M:Nat→Nat→α) (i j:Nat) (z:α):Nat→Nat→α:=fun a b=>if a = i∧b = j then z else M a b
theorem set2_row {α:Type} (M:Nat→Nat→α) (i j:Nat) (z:α):set2 M i j z i = fun b=>if b = j then z else M i b:=by funext b; simp [set2]
theorem set2_ne {α:Type} (M:Nat→Nat→α) {i a:Nat} (j:Nat) (z:α) (h:a ≠ i):set2 M i j z a = M a:=by funext b; simp [set2,h]
structure WMat (w:World) (gO:Nat) (gs:Nat→Nat) (r c:Nat) (cn:Bool) (bn:Nat→Nat→Nat) (M:Nat→Nat→Int):Prop where
 outer:Blk w gO 46 (arr r fun i=>.slice (some ⟨gs i,0,none⟩) c c)
 row:∀ i,i < r→RowB w (gs i) c cn (bn i) (M i)
 ne:∀ i,i < r→gs i ≠ gO
 inj:∀ i j,i < r→j < r→gs i = gs j→i = j
section
variable {w w':World} {gO r c:Nat} {gs:Nat→Nat} {cn:Bool} {bn bn':Nat→Nat→Nat} {M M':Nat→Nat→Int}
theorem WMat.kp {MM:Nat→Prop} (h:WMat w gO gs r c cn bn M) (hk:Kp w w') (hC:Ch MM w w') (hn:¬ MM gO) (hr:∀ i,i < r→¬ MM (gs i)):WMat w' gO gs r c cn bn M :=
 ⟨h.outer.ch hC hn,fun i hi=>(h.row i hi).kp hk hC (hr i hi),h.ne,h.inj⟩
theorem WMat.ext (h:WMat w gO gs r c cn bn M) (hE:Ext w w'):WMat w' gO gs r c cn bn M:=h.kp (kp_ext hE) hE id (fun _ _=>id)
theorem WMat.congr (h:WMat w gO gs r c cn bn M) (e:∀ i j,i < r→j < c→bn i j≤bn' i j∧M i j = M' i j):WMat w gO gs r c cn bn' M' :=
 ⟨h.outer,fun i hi=>(h.row i hi).congr (fun j hj=>e i j hi hj),h.ne,h.inj⟩
theorem WMat.at (h:WMat w gO gs r c cn bn M) {i:Nat} (hi:i < r):w.cell? ⟨gO,0 + i * 1,none⟩ = some (.slice (some ⟨gs i,0,none⟩) c c):=by
 rw [h.outer.cell,arr_at (by omega),Nat.zero_add,Nat.mul_one]
theorem WMat.lt (h:WMat w gO gs r c cn bn M):gO < w.heap.size:=h.outer.lt
theorem WMat.put {i j N:Nat} {z:Int} (h:WMat w gO gs r c cn bn M) (hi:i < r) (hr:RowB w' (gs i) c cn (setN (bn i) j N) (setZ (M i) j z)) (hC:Ch (fun b=>b = gs i) w w') (hk:Kp w w') :
 WMat w' gO gs r c cn (set2 bn i j N) (set2 M i j z):=by
 refine ⟨h.outer.ch hC (Ne.symm (h.ne i hi)),fun a ha=>?_,h.ne,h.inj⟩
 by_cases e:a = i
 · subst e
   rw [set2_row,set2_row]
   exact hr
 · rw [set2_ne _ _ _ e,set2_ne _ _ _ e]
   exact (h.row a ha).kp hk hC (fun e'=>e (h.inj a i ha hi e'))
theorem OMat.wm (h:OMat w gO gs r c M) (cn:Bool) {N:Nat} (hN:∀ i j,i < r→j < c→Bd N (M i j)):WMat w gO gs r c cn (fun _ _=>N) M :=
 ⟨h.outer,fun i hi=>by obtain ⟨hh,hb,hc⟩:=h.row i hi; exact ⟨hh,hb,fun j hj=>(hc j hj).ev cn (hN i j hi hj)⟩,h.ne,h.inj⟩
theorem WMat.o (h:WMat w gO gs r c true bn M):OMat w gO gs r c M :=
 ⟨h.outer,fun i hi=>by obtain ⟨hh,hb,hc⟩:=h.row i hi; exact ⟨hh,hb,fun j hj=>(hc j hj).2 rfl⟩,h.ne,h.inj⟩
end
def EC (N:Nat):World→Value→Value→Int→Prop:=fun w x y z=>CV w x y z∧Bd N z
theorem RowE.imp {E E':World→Value→Value→Int→Prop} {w w':World} {c:Nat} {v:Value} {g:Nat→Int} (h:RowE E w v c g) (hc:∀ p u,w.cell? p = some u→w'.cell? p = some u) (hE:∀ x y z,E w x y z→E' w' x y z):RowE E' w' v c g:=by
 obtain ⟨A,cap,rfl,h1,h2,h3⟩:=h
 refine ⟨A,cap,rfl,h1,h2,fun j hj=>?_⟩
 obtain ⟨ad,x,y,e,hx,hy,hi⟩:=h3 j hj
 exact ⟨ad,x,y,e,hc _ _ hx,hc _ _ hy,hE _ _ _ hi⟩
theorem MatE.imp {E E':World→Value→Value→Int→Prop} {w w':World} {r:Nat} {len:Nat→Nat} {v:Value} {M:Nat→Nat→Int} (h:MatE E w v r len M) (hc:∀ p u,w.cell? p = some u→w'.cell? p = some u) (hE:∀ x y z,E w x y z→E' w' x y z):MatE E' w' v r len M:=by
 obtain ⟨A,cap,rfl,h1,h2,h3⟩:=h
 refine ⟨A,cap,rfl,h1,h2,fun j hj=>?_⟩
 obtain ⟨ad,u,e,hu,hr⟩:=h3 j hj
 exact ⟨ad,u,e,hc _ _ hu,hr.imp hc hE⟩
theorem RowE.extC {w w':World} {N c:Nat} {v:Value} {g:Nat→Int} (h:RowE (EC N) w v c g) (hE:Ext w w'):RowE (EC N) w' v c g :=
 h.imp (fun _ _ hp=>cell_ext hE hp) fun _ _ _ hc=>⟨hc.1.ext hE,hc.2⟩
theorem MatE.extC {w w':World} {N r:Nat} {len:Nat→Nat} {v:Value} {M:Nat→Nat→Int} (h:MatE (EC N) w v r len M) (hE:Ext w w'):MatE (EC N) w' v r len M :=
 h.imp (fun _ _ hp=>cell_ext hE hp) fun _ _ _ hc=>⟨hc.1.ext hE,hc.2⟩
theorem RowE.ei {w:World} {N c:Nat} {v:Value} {g:Nat→Int} (h:RowE (EC N) w v c g):RowE (EI N) w v c g :=
 h.imp (fun _ _ hp=>hp) fun _ _ _ hc=>hc.1.iv hc.2
theorem ORow.readC {w:World} {g c N:Nat} {M:Nat→Int} (h:ORow w g c M) (hN:∀ j,j < c→Bd N (M j)) (hc:c < 9223372036854775808):RowE (EC N) w (.slice (some ⟨g,0,none⟩) c c) c M:=by
 obtain ⟨h,hb,hv⟩:=h
 refine ⟨_,_,rfl,Nat.le_refl _,hc,fun j hj=>⟨_,h (j * 2),h (j * 2 + 1),rfl,?_,?_,hv j hj,hN j hj⟩⟩
 · rw [add_lit,hb.cell,arr_at (by omega),Nat.zero_add]
 · rw [add_lit,add_lit,hb.cell,arr_at (by omega),Nat.zero_add]
theorem OMat.readC {w:World} {gO:Nat} {gs:Nat→Nat} {r c N:Nat} {M:Nat→Nat→Int} (h:OMat w gO gs r c M) (hN:∀ i j,i < r→j < c→Bd N (M i j)) (hr:r < 9223372036854775808) (hc:c < 9223372036854775808) :
 MatE (EC N) w (.slice (some ⟨gO,0,none⟩) r r) r (fun _=>c) M :=
 ⟨_,_,rfl,Nat.le_refl _,hr,fun i hi=>⟨_,_,rfl,by rw [add_lit,h.outer.cell,arr_at (by omega),Nat.zero_add,Nat.mul_one],(h.row i hi).readC (fun j hj=>hN i j hi hj) hc⟩⟩
theorem matC_nil (w:World) (N:Nat) (len:Nat→Nat) (M:Nat→Nat→Int):MatE (EC N) w (.slice none 0 0) 0 len M:=⟨none,0,rfl,Nat.le_refl _,by omega,fun i hi=>absurd hi (by omega)⟩
end Go.Proofs.YtncbjgblcofddaaGreatDoor
