/- Joined: Cmp, Toi. -/
import Derived.Test.YtncbjgblcofddaaGreatDoorQn
import Derived.Test.YtncbjgblcofddaaGreatDoorQo
/- integer.Cmp; matrix.Equal and the reference's Equal. -/
namespace Go.Proofs.YtncbjgblcofddaaGreatDoor
open Go Go.Eng Go.Num Go.Proofs
theorem sign_sg (neg:Bool) (m:Nat):(sg neg m).sign = if m = 0 then 0 else if neg then -1 else 1:=by
 by_cases h:m = 0
 · subst h; rw [if_pos rfl]; cases neg <;> rfl
 · rw [if_neg h]
   cases neg
   · rw [sg_false]; exact Int.sign_eq_one_of_pos (by omega)
   · rw [sg_true]; exact Int.sign_eq_neg_one_of_neg (by omega)
theorem cmpI_nat (a b:Nat):cmpI (a:Int) (b:Int) = cmpZ a b:=by
 unfold cmpI cmpZ
 by_cases h1:a < b
 · rw [if_pos (by omega),if_pos h1]
 · rw [if_neg (by omega),if_neg h1]
   by_cases h2:b < a
   · rw [if_pos (by omega),if_pos h2]
   · rw [if_neg (by omega),if_neg h2]
theorem cmpI_neg (a b:Nat):cmpI (-(a:Int)) (-(b:Int)) = - cmpZ a b:=by
 unfold cmpI cmpZ
 by_cases h1:a < b
 · rw [if_neg (by omega),if_pos (by omega),if_pos h1]; rfl
 · rw [if_neg h1]
   by_cases h2:b < a
   · rw [if_pos (by omega),if_pos h2]
   · rw [if_neg (by omega),if_neg (by omega),if_neg h2]; rfl
theorem cmpI_same {n1 n2:Bool} {a b:Nat} (h:(sg n1 a).sign = (sg n2 b).sign):(sg n1 a).sign * cmpZ a b = cmpI (sg n1 a) (sg n2 b):=by
 rw [sign_sg,sign_sg] at h
 rw [sign_sg]
 by_cases ha:a = 0
 · by_cases hb:b = 0
   · subst ha hb
     cases n1 <;> cases n2 <;> decide
   · rw [if_pos ha,if_neg hb] at h; cases n2 <;> simp at h
 · rw [if_neg ha] at h ⊢
   by_cases hb:b = 0
   · rw [if_pos hb] at h; cases n1 <;> simp at h
   · rw [if_neg hb] at h
     cases n1 <;> cases n2 <;> simp at h
     · rw [sg_false,sg_false,cmpI_nat,if_neg (by decide),Int.one_mul]
     · rw [sg_true,sg_true,cmpI_neg,if_pos rfl,Int.neg_mul,Int.one_mul]
theorem cmpI_lt {a b:Int} (h:a.sign < b.sign):cmpI a b = -1:=by
 unfold cmpI
 rcases Int.lt_trichotomy a 0 with ha | ha | ha <;> rcases Int.lt_trichotomy b 0 with hb | hb | hb
 · rw [Int.sign_eq_neg_one_of_neg ha,Int.sign_eq_neg_one_of_neg hb] at h; omega
 · rw [if_pos (by omega)]
 · rw [if_pos (by omega)]
 · subst ha; rw [Int.sign_eq_neg_one_of_neg hb] at h; simp at h
 · subst ha hb; simp at h
 · rw [if_pos (by omega)]
 · rw [Int.sign_eq_one_of_pos ha,Int.sign_eq_neg_one_of_neg hb] at h; omega
 · subst hb; rw [Int.sign_eq_one_of_pos ha] at h; simp at h
 · rw [Int.sign_eq_one_of_pos ha,Int.sign_eq_one_of_pos hb] at h; omega
theorem cmpI_swap (a b:Int):cmpI a b = - cmpI b a:=by
 unfold cmpI
 by_cases h1:a < b
 · rw [if_pos h1,if_neg (by omega),if_pos h1]
 · rw [if_neg h1]
   by_cases h2:b < a
   · rw [if_pos h2,if_pos h2]; rfl
   · rw [if_neg h2,if_neg h2,if_neg h1]; rfl
theorem cmpI_zero (a b:Int):cmpI a b = 0 ↔ a = b:=by
 unfold cmpI
 split
 · omega
 · split <;> omega
set_option maxHeartbeats 8000000 in
theorem cmp_ok (x1 y1 x2 y2:Value) (z1 z2:Int) (N:Nat) (w:World) (h1:IV w N x1 y1 z1) (h2:IV w N x2 y2 z2) (hN:N < 1099511627776) :
 Meets Tryz.prog 63 #[.agg #[x1,y1],.agg #[x2,y2]] w fun v w'=>Ext w w'∧v = .int .i64 (cmpI z1 z2):=by
 have hh1:=h1
 have hh2:=h2
 obtain ⟨g1,A1,l1,c1,rfl,rfl,hc1,hd1,hM1,hl1,rfl⟩:=h1
 obtain ⟨g2,A2,l2,c2,rfl,rfl,hc2,hd2,hM2,hl2,rfl⟩:=h2
 refine fn_W (n:=28) Tryz.func63 rfl rfl (by kernel_rfl) (by simp) ?_
 refine gg ?_
 refine R1_box (v:=.agg _) (.inl rfl) rfl ?_
 intro w1 hB1 hE1 hs1
 refine gg ?_
 refine R1_box (v:=.agg _) (.inl rfl) rfl ?_
 intro w2 hB2 hE2 hs2
 have hE02:=hE1.trans hE2
 have hB1':Blk w2 w.heap.size 41 #[.bool g1,.slice A1 l1.length c1]:=hB1.ext hE2
 have hB2':Blk w2 w1.heap.size 41 #[.bool g2,.slice A2 l2.length c2]:=hB2
 clear hB1 hB2
 refine gg ?_
 refine W_seqD [(0,0),(2,0),(1,1),(3,1),(4,3),(5,3)] mixed (by kernel_rfl) (fun w3 hE3 _=>?_)
 obtain ⟨p1,p2⟩:=blkP (hB1'.ext hE3)
 obtain ⟨p3,p4⟩:=blkP (hB2'.ext hE3)
 refine gg ?_
 refine R1_call1 (sign_ok _ _ _ N w3 (hh1.ext (hE02.trans hE3)) hN) ?_
 rintro _ w4 ⟨hE4,rfl⟩
 refine ⟨hE4,?_⟩
 refine gg ?_
 refine R1_call1 (sign_ok _ _ _ N w4 (hh2.ext (hE02.trans (hE3.trans hE4))) hN) ?_
 rintro _ w5 ⟨hE5,rfl⟩
 refine ⟨hE5,?_⟩
 have hE25:=hE3.trans (hE4.trans hE5)
 have hE05:=hE02.trans hE25
 clear p1 p2 p3 p4
 by_cases hlt:(sg g1 (val l1)).sign < (sg g2 (val l2)).sign
 · refine gg ?_
   exact ret1 rfl rfl ⟨hE05,by rw [cmpI_lt hlt]; rfl⟩
 by_cases hgt:(sg g2 (val l2)).sign < (sg g1 (val l1)).sign
 · refine gg ?_
   exact ret1 rfl rfl ⟨hE05,by rw [cmpI_swap,cmpI_lt hgt]; rfl⟩
 have heq:(sg g1 (val l1)).sign = (sg g2 (val l2)).sign:=by omega
 refine gg ?_
 refine W_seqD [(0,3),(1,3),(2,0),(4,3),(5,0),(3,1),(6,1),(7,1),(8,3),(9,3)] mixed (by kernel_rfl) (fun w6 hE6 _=>?_)
 have f0:=blk1 (hB1'.ext (hE25.trans hE6))
 have f1:=blk1 (hB2'.ext (hE25.trans hE6))
 have hE06:=hE05.trans hE6
 refine gg ?_
 refine R1_call1 (trim_ok _ _ _ _ w6 (hM1.ext hE06) rfl hc1 hd1) ?_
 rintro _ _ ⟨rfl,m1,hm1,rfl,ht1,hv1⟩
 refine ⟨Ext.refl _,?_⟩
 refine gg ?_
 refine R1_call1 (trim_ok _ _ _ _ w6 (hM2.ext hE06) rfl hc2 hd2) ?_
 rintro _ _ ⟨rfl,m2,hm2,rfl,ht2,hv2⟩
 refine ⟨Ext.refl _,?_⟩
 refine gg ?_
 refine R1_call1 (compareNat_ok _ _ _ _ _ _ (l1.take m1) (l2.take m2) w6 ((hM1.ext hE06).take m1) ((hM2.ext hE06).take m2) (List.length_take_of_le hm1) (List.length_take_of_le hm2) (by omega) (by omega) ht1 ht2) ?_
 rintro _ w7 ⟨hE7,rfl⟩
 refine ⟨hE7,?_⟩
 rw [hv1,hv2]
 have hb:(sg g1 (val l1)).sign * cmpZ (val l1) (val l2) = cmpI (sg g1 (val l1)) (sg g2 (val l2)):=cmpI_same heq
 have hbr:-1≤cmpI (sg g1 (val l1)) (sg g2 (val l2))∧cmpI (sg g1 (val l1)) (sg g2 (val l2))≤1:=by
  unfold cmpI
  split
  · omega
  · split <;> omega
 refine gg ?_
 refine R1_mul_z rfl rfl (by rw [hb]; omega) (by rw [hb]; omega) ?_
 refine gg ?_
 exact ret1 (v:=.int .i64 _) rfl rfl ⟨hE06.trans hE7,by rw [hb]⟩
def REq (w:World) (p:Prop) (v:Value) (w':World):Prop:=Ext w w'∧∃ b:Bool,v = .bool b∧(b = true ↔ p)
end Go.Proofs.YtncbjgblcofddaaGreatDoor
